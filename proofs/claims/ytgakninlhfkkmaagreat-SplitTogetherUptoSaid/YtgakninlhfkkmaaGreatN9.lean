/- A part of the proof (part 9 of 18). -/
import Derived.Test.YtgakninlhfkkmaaGreatN8
namespace Go.Proofs.YtgakninlhfkkmaaGreat.Sh
open Tryz
abbrev vZ:=@AB.sizedL_text
open Proofs
set_option maxRecDepth 10000
set_option maxHeartbeats 4000000
mutual
theorem EP{n m:Nat}(h:n<=m):∀v:SV,cc n v=true->cc m v=true
 | .agg cs,e=>by rw[cc]at *;exact C0 h cs e
 | .tup cs,e=>by rw[cc]at *;exact C0 h cs e
 | .fn _ a b,e=>by rw[cc,qo]at *;exact⟨C0 h a e.1,C0 h b e.2⟩
 | .ptr o _,e=>by simp only[cc,decide_eq_true_eq]at *;omega
 | .q cs,e=>by rw[cc]at *;exact C0 h cs e
 | .sl o _ _ _ _,e=>by simp only[cc,decide_eq_true_eq]at *;omega
 | .slc o _ _ _ _,e=>by simp only[cc,decide_eq_true_eq]at *;omega
 | .i _ es _,e=>by rw[cc]at *;exact C0 h es e
 | .map o,e=>by simp only[cc,decide_eq_true_eq]at *;omega
 | .int _ _,_|.bool _,_|.str _,_|.junk,_|.nilp,_|.nilf,_|.nilm,_=>by simp[cc]
theorem C0{n m:Nat}(h:n<=m):∀l:List SV,ca n l=true->ca m l=true
 | [],_=>by rw[ca]
 | s::l,e=>by rw[ca,qo]at *;exact⟨EP h s e.1,C0 h l e.2⟩
end
theorem H8{n m:Nat}(h:n<=m){y:Bb}(hc:BW n y=true):BW m y=true:=by
 cases y with
 | cells cs ty=>exact C0 h _ hc
 | map es=>
  simp only[BW,YO,qo]at hc ⊢;exact λp hp=>⟨EP h _ (hc p hp).1,EP h _ (hc p hp).2⟩
 | loop l=>rfl
 | list z es=>exact C0 h _ hc
 | iter l r=>
  simp only[BW,YO,qo,Option.all_eq_true]at hc ⊢;exact⟨λp hp=>⟨EP h _ (hc.1 p hp).1,EP h _ (hc.1 p hp).2⟩,λp hp=>⟨EP h _ (hc.2 p hp).1,EP h _ (hc.2 p hp).2⟩⟩
section
variable{σ:Type}
def BD(st:σ->Nat->Option Bb)(s:σ)(H:Hp):Hp:=λo=>match st s o with|some y=>some y|none=>H o
structure Pn(st:σ->Nat->Option Bb)(n0:Nat)(g:FuncId)(a b:List SV)(f:σ->CI->AF×Bool×σ)(ok:AF->Prop)(rk:σ->Nat:=λ_=>0)(top:Nat:=0):Prop where
 up:∀s p,rk s<=rk (f s p).2.2:=by exact λ_ _=>qa _
 lt:∀s o,n0<=o->st s o=none
 dom:∀s s' o,st s o=none->st s' o=none
 cl:∀s o y,st s o=some y->BW n0 y=true
 call:∀s p H n,ok p.H->rk (f s p).2.2<=top->n0<=n->(∀o y,st s o=some y->H o=some y)->BL prog g (a++[p.e]++b) H n (λv h' n'=>v=.tup [(f s p).1.e,.bool (f s p).2.1]/\h'=BD st (f s p).2.2 H/\n'=n)
variable{st:σ->Nat->Option Bb}{n0:Nat}{g:FuncId}{a b:List SV}{f:σ->CI->AF×Bool×σ}{ok:AF->Prop}{rk:σ->Nat}{top:Nat}
theorem Pn.up2(C:Pn st n0 g a b f ok rk top)(s c:σ)(H:Hp):BD st c (BD st s H)=BD st c H:=by
 funext o;simp only[BD];cases h:st c o with
 | some y=>rfl
 | none=>simp[C.dom c s o h]
theorem Pn.h_(C:Pn st n0 g a b f ok rk top)(s:σ)(H:Hp){o:Nat}(h:n0<=o)(y:Option Bb):h_ (BD st s H) o y=BD st s (h_ H o y):=by
 funext j;simp only[BD,Sh.h_];split;subst_vars;rw[C.lt s _ h];rfl
theorem Fq(s:σ)(H:Hp)(h:∀o y,st s o=some y->H o=some y):BD st s H=H:=by
 funext o;simp only[BD];cases e:st s o with
 | some y=>rw[h o y e]
 | none=>rfl
theorem Pn.old(C:Pn st n0 g a b f ok rk top)(s:σ){H:Hp}{n:Nat}(hn:n0<=n)(d:Gm H n):Gm (BD st s H) n:=λo y e=>by
 simp only[BD]at e;cases c:st s o with
 | some z=>
  rw[c]at e;cases e;refine⟨?_,H8 hn (C.cl s o y c)⟩;by_cases h:n0<=o;rw[C.lt s o h]at c;cases c;omega
 | none=>rw[c]at e;exact d o y e
theorem Pn.acc(C:Pn st n0 g a b f ok rk top){n m z:Nat}{o:Option Nat}{es:List SV}(hn:n0<=n)(d:BR n m z o es)(c:σ)(H:Hp):BD st c (AV o es H)=AV o es (BD st c H):=by
 cases o with
 | none=>rfl
 | some j=>have:=(d.lt j rfl).1;simp only[AV];rw[C.h_ c H (by omega)]
theorem Pn.has(C:Pn st n0 g a b f ok rk top){n m z:Nat}{o:Option Nat}{es:List SV}(hn:n0<=n)(c:BR n m z o es){s:σ}{H:Hp}(h:∀k y,st s k=some y->H k=some y):∀k y,st s k=some y->AV o es H k=some y:=λk y e=>by
 cases o with
 | none=>exact h k y e
 | some j=>
  have:=(c.lt j rfl).1;simp only[AV];rw[AE _ _ ?_];exact h k y e;rintro rfl;rw[C.lt s k (by omega)]at e;cases e
theorem Cl{s:σ}{H:Hp}:∀k y,st s k=some y->BD st s H k=some y:=λk y e=>by simp[BD,e]
theorem G0{n m z:Nat}{o:Option Nat}{es:List SV}{h:Hp}(hb:∀j y,h j=some y->j<n)(hnm:n<=m)(a:BR n m z o es):∀j y,AV o es h j=some y->j<m:=λj y e=>by
 cases o with
 | none=>have:=hb j y e;omega
 | some k=>
  have:=(a.lt k rfl).2;simp only[AV,h_]at e;split at e;omega;have:=hb j y e;omega
theorem AS{h:Hp}{m:Nat}(hb:∀j y,h j=some y->j<m){k:Nat}(hk:m<=k):h k=none:=by
 cases e:h k with
 | none=>rfl
 | some y=>have:=hb k y e;omega
theorem AW.fz'{h:Hp}{n m z k:Nat}{o:Option Nat}{es:List SV}(hn:∀j,n<=j->h j=none)(H:BR n m z o es){h':Hp}(b:∀j y,AV o es h j=some y->h' j=some y):Fz h' h (k+1) (AW z o es) (.i z es false):=by
 cases o with
 | none=>rw[H.none rfl];exact .inr ⟨by simp,.inl rfl,trivial,by simp⟩
 | some j =>
  have c:=b j (.cells (es.flatMap SV.cells)) (by simp[AV,h_]);refine .inr ⟨hn j (H.lt j rfl).1,by simp,rfl,rfl,_,_,c,by simp[Bz,BO H.size];rfl,H.size,?_⟩;have:∀l:List SV,Ag (Fz h' h k) l l:=by
   intro l;induction l with
   | nil=>trivial
   | cons a l ih=>exact⟨IO,ih⟩
  simp only[<-BO H.size,qm];exact this _
theorem Eb{h:Hp}{n m z:Nat}{o:Option Nat}{es:List SV}(hb:∀j y,h j=some y->j<n)(H:BR n m z o es):∀j x,h j=some x->AV o es h j=some x:=λj x e=>by
 cases o with
 | none=>exact e
 | some k=>
  have h1:=(H.lt k rfl).1;have h2:=hb j x e;simp only[AV];rw[AE _ _ (by omega)];exact e
theorem D7{h H:Hp}{n m p z:Nat}{es:List SV}{e:SV}{o:Option Nat}{v:SV}(hb:∀j y,h j=some y->j<n)(hn:n<=p)(c:BR n m z o es)(d:∀j y,h j=some y->H j=some y):
 ∀j y,AV (some p) (es++[e]) h j=some y->(C5.app H p { val:=v,upd:=o.map λj=>(j,none),new:=some (.cells (es.flatMap SV.cells++e.cells)) }) j=some y:=by
 intro j y a;simp only[AV]at a;by_cases b:j=p;subst b;rw[AD]at a;simp only[C5.app,AD];rw[<-a];simp;rw[AE _ _ b]at a;have hlt:=hb j y a;have:=d j y a;cases o with
 | none=>simp[C5.app,AE _ _ b,this]
 | some k=>
  have f:j≠k:=by have:=(c.lt k rfl).1;omega
  simp[C5.app,AE _ _ b,AE _ _ f,this]
theorem I1{h:Hp}{n n' m z:Nat}{o:Option Nat}{es:List SV}(a:Gm h n)(H:BR n m z o es)(hc:∀e∈es,cc n e=true):CO n (AV o es h) n' (AW z o es) (λv h' n'=>v=.i z es false/\h'=h/\n'=n):=
 .inr ⟨1,.i z es false,h,AW.fz a H AC,by rw[cc];exact EO.2 hc,λj x e=>⟨AV.old a H j x e,a j x e⟩,rfl,rfl,rfl⟩
theorem AL{h h':Hp}{m:Nat}{y:Option Bb}(hb:∀j z,h j=some z->j<m)(a:∀j z,h j=some z->h' j=some z):∀j z,h j=some z->h_ h' m y j=some z:=λj z e=>by
 rw[AE _ _ (by have:=hb j z e;omega)];exact a j z e
def trR:Tr:=.pure 0<|.pure 1<|.pure 2<|.pure 3<|.pure 4<|.pure 5<|.pure 6<|.pure 7<|.pure 8<|.pure 9<|.pure 10<|.one 11<|.one 12<|.one 13<|.one 14<|.one 15 .nil
variable{it:Int->List AB->Bool->σ->List AB×σ}{mid:Bool}{P:List AB->Prop}{sc:BH}
def eK(st:σ->Nat->Option Bb)(n0:Nat)(g:FuncId)(a b:List SV)(it:Int->List AB->Bool->σ->List AB×σ)(sc:BH)(P:List AB->Prop)(rk:σ->Nat:=λ_=>0)(top:Nat:=0):Prop:=
 ∀id l mid s H n,P l->rk (it id l mid s).2<=top->n0<=n->(∀o y,st s o=some y->H o=some y)->BL prog 121 [.fn (.func g) a b,AA id,AK l,sc.e,.bool mid] H n (λv h' n'=>v=AK (it id l mid s).1/\h'=BD st (it id l mid s).2 H/\n'=n)
theorem LI{α β:Type}{G:β×σ->α->β×σ}(h:∀q x,rk q.2<=rk (G q x).2):∀(l:List α)(q:β×σ),rk q.2<=rk (l.foldl G q).2
 | [],_=>qa _
 | x::l,q=>qI (h q x) (LI h l _)
theorem QK{α β:Type}{G:β×σ->α->β×σ}(h:∀q x,rk q.2<=rk (G q x).2)(l:List α)(q:β×σ)(i:Nat):rk ((l.take i).foldl G q).2<=rk (l.foldl G q).2:=by
 conv=>rhs;rw[<-qM i l]
 rw[UU];exact LI h _ _
theorem Qz(a:∀id l mid s,rk s<=rk (it id l mid s).2)(mid:Bool)(q:List cr×σ)(c:cr):rk (f q.2 ⟨c.H,mid,1⟩).2.2<=rk (DH f it mid q c).2:=by
 unfold DH;split;exact a _ _ _ _;exact qa _
theorem T5(b:∀s p,rk s<=rk (f s p).2.2)(a:∀id l mid s,rk s<=rk (it id l mid s).2)(mid:Bool)(q:List cr×σ)(c:cr):rk q.2<=rk (DH f it mid q c).2:=qI (b _ _) (Qz a mid q c)
theorem V8(b:∀s p,rk s<=rk (f s p).2.2)(a:∀id l mid s,rk s<=rk (it id l mid s).2)(mid:Bool)(l:List cr)(s:σ):rk s<=rk (Er f it mid l s).2:=LI (G:=DH f it mid) (T5 b a mid) l ([],s)
theorem Uc(b:∀s p,rk s<=rk (f s p).2.2)(a:∀id l mid s,rk s<=rk (it id l mid s).2)(mid:Bool)(q:List AP×σ)(r:AP):rk (f q.2 ⟨r.H,mid,1⟩).2.2<=rk (EG f it mid q r).2:=by
 unfold EG;split;exact V8 b a mid _ _;exact qa _
theorem XM(b:∀s p,rk s<=rk (f s p).2.2)(a:∀id l mid s,rk s<=rk (it id l mid s).2)(mid:Bool)(q:List AP×σ)(r:AP):rk q.2<=rk (EG f it mid q r).2:=qI (b _ _) (Uc b a mid q r)
theorem Yt(b:∀s p,rk s<=rk (f s p).2.2)(a:∀id l mid s,rk s<=rk (it id l mid s).2)(mid:Bool)(l:List AP)(s:σ):rk s<=rk (HY f it mid l s).2:=LI (G:=EG f it mid) (XM b a mid) l ([],s)
theorem Wq(b:∀s p,rk s<=rk (f s p).2.2)(a:∀id l mid s,rk s<=rk (it id l mid s).2)(mid:Bool)(x:AB)(s:σ):rk s<=rk (Cm f it mid x s).2:=by
 unfold Cm;split;exact a _ _ _ _;split;exact Yt b a mid _ _;exact qa _
theorem Ri(b:∀s p,rk s<=rk (f s p).2.2)(a:∀id l mid s,rk s<=rk (it id l mid s).2)(mid:Bool)(q:List AB×σ)(x:AB):rk (f q.2 ⟨x.H,mid,(BF [x]).1⟩).2.2<=rk (CL f it mid q x).2:=by
 unfold CL;dsimp only;split;exact Wq b a mid _ _;exact qa _
theorem UY(b:∀s p,rk s<=rk (f s p).2.2)(a:∀id l mid s,rk s<=rk (it id l mid s).2)(mid:Bool)(q:List AB×σ)(x:AB):rk q.2<=rk (CL f it mid q x).2:=qI (b _ _) (Ri b a mid q x)
theorem Iw(b:∀s p,rk s<=rk (f s p).2.2)(a:∀id l mid s,rk s<=rk (it id l mid s).2)(mid:Bool)(l:List AB)(s:σ):rk s<=rk (A8 f it mid l s).2:=LI (G:=CL f it mid) (UY b a mid) l ([],s)
theorem RT(a:∀s p,rk s<=rk (f s p).2.2)(sc:BH):∀(N:Nat)(id:Int)(l:List AB)(mid:Bool)(s:σ),rk s<=rk (AT f sc N id l mid s).2
 | 0,_,_,_,_=>qa _
 | N+1,id,l,mid,s=>by
  have hi:=RT a sc N;rw[AT];split;exact qI (qI (Iw a hi _ _ _) (Iw a hi _ _ _)) (Iw a hi _ _ _);exact Iw a hi _ _ _
theorem iZ(C:Pn st n0 g a b f ok rk top)(hit:eK st n0 g a b it sc P rk top)(hiu:∀id l mid s,rk s<=rk (it id l mid s).2)(l:List AP)(hl:l.length<=1048576)(hr:∀r∈l,ok r.H/\r.cells.length<=1048576/\∀c∈r.cells,ok c.H/\P c.W)(s:σ)(ht:rk (HY f it mid l s).2<=top){H:Hp}{n:Nat}(hn:n0<=n)(hs:∀o y,st s o=some y->H o=some y):
 BL prog 257 [.fn (.func g) a b,Aw l,sc.e,.bool mid] H n (λv h' n'=>v=Aw (HY f it mid l s).1/\h'=BD st (HY f it mid l s).2 H/\n'=n):=by
 refine DO func257 rfl λho=>?_;obtain⟨R,hR⟩:∃R:Nat->List AP×σ,∀i,R i=(l.take i).foldl (EG f it mid) ([],s):=⟨_,λ_=>rfl⟩
 have hR0:R 0=([],s):=by rw[hR];rfl
 have hRs:∀i x,(h:i<l.length)->l[i]=x->R (i+1)=EG f it mid (R i) x:=λi x h hx=>by rw[hR,hR,KH _ _ _ _ _ h hx]
 have hRl:R l.length=HY f it mid l s:=by rw[hR,qm];rfl
 have hRn:∀i,(R i).1.length<=i:=λi=>by rw[hR];have:=PZ (f:=f) (it:=it) (mid:=mid) (l.take i) ([],s);simp at this;omega
 have hRt:∀i,rk (R i).2<=top:=λi=>by rw[hR];exact qI (QK (XM C.up hiu mid) _ _ i) ht
 clear hR;have hU:∀s',Gm (BD st s' H) n:=λs'=>C.old s' hn ho;have hUb:∀s' j y,BD st s' H j=some y->j<n:=λs' j y e=>(hU s' j y e).1;refine Aa 1 [(0,.fn (.func g) a b),(1,Aw l),(3,.bool mid),(6,.q [AA sc.id,AA sc.a,AA sc.b])] (BD st s H) n ?_ (λm hm=>?_);simp[go_sem,BH.e,IO,Fq s H hs];refine⟨AZ (ho.none (qa n)) (by simp[h_]),λj y e=>by rw[AE _ _ (by have:=(ho j y e).1;omega)];exact e⟩;refine Aa 0 [(0,.fn (.func g) a b),(1,Aw l),(3,.bool mid),(6,.q [AA sc.id,AA sc.a,AA sc.b]),(9,.i 0 [] true)] (BD st s H) n ?_ (λm hm=>?_);simp[go_sem,IO,hm];refine AX 0 (α:=Option Nat) (λo=>[(9,AW 6 o ((R l.length).1.map AP.e))]) (λo=>AV o ((R l.length).1.map AP.e) (BD st (R l.length).2 H)) (λo m=>n<=m/\BR n m 6 o ((R l.length).1.map AP.e)) ?_ (λo m hm=>?_)
 . refine Aa 0 [(0,.fn (.func g) a b),(3,.bool mid),(6,.q [AA sc.id,AA sc.a,AA sc.b]),(9,.i 0 [] true),(19,Aw l),(20,AA l.length),(21,AA 0)] (BD st s H) n ?_ (λm hm=>?_);simp[go_sem,IO,hm];refine AY (BT 0 (α:=Nat×Option Nat) (λq=>[(0,.fn (.func g) a b),(3,.bool mid),(6,.q [AA sc.id,AA sc.a,AA sc.b]),(9,AW 6 q.2 ((R q.1).1.map AP.e)),(19,Aw l),(20,AA l.length),(21,AA q.1)])
    (λq=>AV q.2 ((R q.1).1.map AP.e) (BD st (R q.1).2 H)) (λq m=>q.1<=l.length/\n<=m/\BR n m 6 q.2 ((R q.1).1.map AP.e)) (λq=>l.length-q.1) (0,none) ⟨qg _,hm,by simp only[hR0];exact vA _ _ _⟩ ?_ ?_ ?_)
   simp[go_sem,Ao,AW,IO];simp only[hR0];exact AC;clear hm m;rintro⟨i,o⟩ m ⟨hi,hnm,hA⟩;dsimp only at hi hA ⊢;have hEn:((R i).1.map AP.e).length<=i:=by rw[qf];exact hRn i
   by_cases hlt:i<l.length
   . obtain⟨x,hx⟩:∃x,l[i]=x:=⟨_,rfl⟩
     have hxm:x∈l:=by rw[<-hx];exact qi hlt
     obtain⟨x1,x2,x3⟩:=hr x hxm;have hgx:(l.map AP.e)[i]? = some x.e:=by simp[hlt,hx]
     have hst:=hRs i x hlt hx;have w1:=wS i (by omega);generalize hSi:(R i).2=si at hst;generalize hEi:(R i).1.map AP.e=E at hA hEn ⊢;have hXb:∀s' j y,AV o E (BD st s' H) j=some y->j<m:=λs'=>G0 (hUb s') hnm hA;refine B5 0 [(0,.fn (.func g) a b),(3,.bool mid),(6,.q [AA sc.id,AA sc.a,AA sc.b]),(9,AW 6 o E),(19,Aw l),(20,AA l.length),(21,AA i),(22,.bool true)] (AV o E (BD st si H)) m ?_ (λm' hm'=>?_);simp[go_sem,IO,hlt];subst hm';refine B5 0 [(0,.fn (.func g) a b),(3,.bool mid),(6,.q [AA sc.id,AA sc.a,AA sc.b]),(9,AW 6 o E),(19,Aw l),(20,AA l.length),(21,AA i)] (AV o E (BD st si H)) m ?_ (λm2 hm2=>?_);simp[go_sem,IO];subst hm2;refine AX 0 (α:=Option Nat) (λo=>[(0,.fn (.func g) a b),(3,.bool mid),(6,.q [AA sc.id,AA sc.a,AA sc.b]),(9,AW 6 o ((R (i+1)).1.map AP.e)),(19,Aw l),(20,AA l.length),(21,AA i)]) (λo=>AV o ((R (i+1)).1.map AP.e) (BD st (R (i+1)).2 H)) (λo m=>n<=m/\BR n m 6 o ((R (i+1)).1.map AP.e)) ?_ (λo m hm=>?_)
     . refine AY ?_;refine Aa 1 [(0,.fn (.func g) a b),(3,.bool mid),(6,.q [AA sc.id,AA sc.a,AA sc.b]),(9,AW 6 o E),(19,Aw l),(20,AA l.length),(21,AA i),(11,.q (x.H.g++[BZ x.cells]))] (AV o E (BD st si H)) m ?_ (λm2 hm2=>?_);simp[go_sem,IO,hlt,hx,Yw,AF.g,AD];refine⟨AZ (AS (hXb _) (qa m)) (AD _ _ _),AL (hXb _) (AL (hXb _) AC)⟩;have hXb2:∀s' j y,AV o E (BD st s' H) j=some y->j<m2:=λs' j y e=>by have:=hXb s' j y e;omega
       obtain⟨p,hp⟩:∃p:CI,p=⟨x.H,mid,1⟩:=⟨_,rfl⟩
       have hrt:rk (f si p).2.2<=top:=by
        have h1:=hRt (i+1);rw[hst]at h1;have h2:=Uc C.up hiu mid (R i) x;rw[hSi]at h2;rw[hp];exact qI h2 h1
       have hcall:=C.call si p (AV o E (BD st si H)) m2 (by rw[hp];exact x1) hrt (by omega) (C.has hn hA Cl);have hst':R (i+1)=if(f si p).2.1 then((R i).1++[.mk (f si p).1 (Er f it mid x.cells (f si p).2.2).1],(Er f it mid x.cells (f si p).2.2).2)else((R i).1,(f si p).2.2):=by rw[hst,hp,EG,hSi]
       rw[C.acc hn hA,C.up2]at hcall;have hpe:p.e=.agg (x.H.g++[.bool mid,AA 1]):=by rw[hp];rfl
       clear hst hSi;rcases hf:f si p with⟨h',k,s1⟩
       rw[hf]at hcall hst';dsimp only at hcall hst';refine Aa 1 [(0,.fn (.func g) a b),(3,.bool mid),(6,.q [AA sc.id,AA sc.a,AA sc.b]),(9,AW 6 o E),(19,Aw l),(20,AA l.length),(21,AA i),(11,.q (x.H.g++[BZ x.cells])),(12,.q h'.g),(13,.bool k)] (AV o E (BD st s1 H)) m2 ?_ (λm3 hm3=>?_);rw[hpe]at hcall;simp only[AF.g,qx,qE,qj]at hcall;simp[go_sem,AF.g];refine qP hcall ?_;rintro v H' n' ⟨rfl,rfl,rfl⟩;simp[go_sem,IO,AF.e,AF.g,AD];exact⟨AZ (AS (hXb2 _) (qa _)) (AD _ _ _),AL (hXb2 _) (AL (hXb2 _) AC)⟩;cases k with
       | false=>
        have hst2:R (i+1)=((R i).1,s1):=by simpa using hst'
        simp only[hst2,hEi];refine AJ ?_;simp[go_sem,IO];exact⟨o,⟨by omega,hA.mono (by omega)⟩,rfl,AC⟩
       | true=>
        have hst2:R (i+1)=((R i).1++[.mk h' (Er f it mid x.cells s1).1],(Er f it mid x.cells s1).2):=by simpa using hst'
        have hct:rk (Er f it mid x.cells s1).2<=top:=by have:=hRt (i+1);rw[hst2]at this;exact this
        simp only[hst2,qc,hEi,qr,Yo];clear hst' hst2 hcall hpe hf;refine B5 0 [(0,.fn (.func g) a b),(3,.bool mid),(6,.q [AA sc.id,AA sc.a,AA sc.b]),(9,AW 6 o E),(19,Aw l),(20,AA l.length),(21,AA i),(11,.q (x.H.g++[BZ x.cells])),(12,.q h'.g)] (AV o E (BD st s1 H)) m3 ?_ (λm4 hm4=>?_);simp[go_sem,IO];subst hm4;refine B5 0 [(0,.fn (.func g) a b),(3,.bool mid),(6,.q [AA sc.id,AA sc.a,AA sc.b]),(9,AW 6 o E),(19,Aw l),(20,AA l.length),(21,AA i),(11,.q (x.H.g++[BZ x.cells])),(12,.q h'.g),(14,.i 0 [] true)] (AV o E (BD st s1 H)) m3 ?_ (λm4 hm4=>?_);simp[go_sem,IO];subst hm4;refine CW 1 [(0,.fn (.func g) a b),(3,.bool mid),(6,.q [AA sc.id,AA sc.a,AA sc.b]),(9,AW 6 o E),(19,Aw l),(20,AA l.length),(21,AA i),(12,.q h'.g),(14,BZ (Er f it mid x.cells s1).1)] (AV o E (BD st (Er f it mid x.cells s1).2 H)) m3 ?_ (λm4 hm4=>?_)
        . refine B5 0 [(0,.fn (.func g) a b),(3,.bool mid),(6,.q [AA sc.id,AA sc.a,AA sc.b]),(9,AW 6 o E),(19,Aw l),(20,AA l.length),(21,AA i),(12,.q h'.g),(14,.i 0 [] true),(37,BZ x.cells),(38,AA x.cells.length),(39,AA 0)] (AV o E (BD st s1 H)) m3 ?_ (λm4 hm4=>?_);simp[go_sem,IO,AF.g];subst hm4;obtain⟨Q,hQ⟩:∃Q:Nat->List cr×σ,∀i,Q i=(x.cells.take i).foldl (DH f it mid) ([],s1):=⟨_,λ_=>rfl⟩
          have hQ0:Q 0=([],s1):=by rw[hQ];rfl
          have hQs:∀i y,(h:i<x.cells.length)->x.cells[i]=y->Q (i+1)=DH f it mid (Q i) y:=λi y h hy=>by rw[hQ,hQ,KH _ _ _ _ _ h hy]
          have hQl:Q x.cells.length=Er f it mid x.cells s1:=by rw[hQ,qm];rfl
          have hQn:∀i,(Q i).1.length<=i:=λi=>by rw[hQ];have:=NQ (f:=f) (it:=it) (mid:=mid) (x.cells.take i) ([],s1);simp at this;omega
          have hQt:∀i,rk (Q i).2<=top:=λi=>by rw[hQ];exact qI (QK (T5 C.up hiu mid) _ _ i) hct
          clear hQ;have hBb:∀s' j y,AV o E (BD st s' H) j=some y->j<m3:=λs' j y e=>by have:=hXb s' j y e;omega
          refine AY (BT 0 (α:=Nat×Option Nat) (λq=>[(0,.fn (.func g) a b),(3,.bool mid),(6,.q [AA sc.id,AA sc.a,AA sc.b]),(9,AW 6 o E),(19,Aw l),(20,AA l.length),(21,AA i),(12,.q h'.g),(14,AW 7 q.2 ((Q q.1).1.map cr.e)),(37,BZ x.cells),(38,AA x.cells.length),(39,AA q.1)])
           (λq=>AV q.2 ((Q q.1).1.map cr.e) (AV o E (BD st (Q q.1).2 H))) (λq m=>q.1<=x.cells.length/\m3<=m/\BR m3 m 7 q.2 ((Q q.1).1.map cr.e)) (λq=>x.cells.length-q.1) (0,none) ⟨qg _,qa _,by simp only[hQ0];exact vA _ _ _⟩ ?_ ?_ ?_)
          simp[go_sem,Ao,AW,IO];simp only[hQ0];exact AC;rintro⟨j,o2⟩ m4 ⟨hj,hm4,hA2⟩;dsimp only at hj hA2 ⊢;have hCn:((Q j).1.map cr.e).length<=j:=by rw[qf];exact hQn j
          by_cases hjt:j<x.cells.length
          . obtain⟨y,hy⟩:∃y,x.cells[j]=y:=⟨_,rfl⟩
            have hym:y∈x.cells:=by rw[<-hy];exact qi hjt
            obtain⟨y1,y2⟩:=x3 y hym;have hgy:(x.cells.map cr.e)[j]? = some y.e:=by simp[hjt,hy]
            have hqt:=hQs j y hjt hy;have w2:=wS j (by omega);generalize hSj:(Q j).2=sj at hqt;generalize hGj:(Q j).1.map cr.e=G at hA2 hCn ⊢;have hYb:∀s' j y,AV o2 G (AV o E (BD st s' H)) j=some y->j<m4:=λs'=>G0 (hBb s') hm4 hA2;refine B5 0 [(0,.fn (.func g) a b),(3,.bool mid),(6,.q [AA sc.id,AA sc.a,AA sc.b]),(9,AW 6 o E),(19,Aw l),(20,AA l.length),(21,AA i),(12,.q h'.g),(14,AW 7 o2 G),(37,BZ x.cells),(38,AA x.cells.length),(39,AA j),(40,.bool true)] (AV o2 G (AV o E (BD st sj H))) m4 ?_ (λm' hm'=>?_);simp[go_sem,IO,hjt];subst hm';refine B5 0 [(0,.fn (.func g) a b),(3,.bool mid),(6,.q [AA sc.id,AA sc.a,AA sc.b]),(9,AW 6 o E),(19,Aw l),(20,AA l.length),(21,AA i),(12,.q h'.g),(14,AW 7 o2 G),(37,BZ x.cells),(38,AA x.cells.length),(39,AA j)] (AV o2 G (AV o E (BD st sj H))) m4 ?_ (λm' hm'=>?_);simp[go_sem,IO];subst hm';refine AX 0 (α:=Option Nat) (λo2=>[(0,.fn (.func g) a b),(3,.bool mid),(6,.q [AA sc.id,AA sc.a,AA sc.b]),(9,AW 6 o E),(19,Aw l),(20,AA l.length),(21,AA i),(12,.q h'.g),(14,AW 7 o2 ((Q (j+1)).1.map cr.e)),(37,BZ x.cells),(38,AA x.cells.length),(39,AA j)]) (λo2=>AV o2 ((Q (j+1)).1.map cr.e) (AV o E (BD st (Q (j+1)).2 H))) (λo2 m=>m3<=m/\BR m3 m 7 o2 ((Q (j+1)).1.map cr.e)) ?_ (λo2 m hm=>?_)
            . refine AY ?_;refine Aa 1 [(0,.fn (.func g) a b),(3,.bool mid),(6,.q [AA sc.id,AA sc.a,AA sc.b]),(9,AW 6 o E),(19,Aw l),(20,AA l.length),(21,AA i),(12,.q h'.g),(14,AW 7 o2 G),(37,BZ x.cells),(38,AA x.cells.length),(39,AA j),(16,.q ([AA y.id]++y.H.g++[AK y.W]))] (AV o2 G (AV o E (BD st sj H))) m4 ?_ (λm5 hm5=>?_);simp[go_sem,IO,hjt,hy,Us,AF.g,AD];refine⟨AZ (AS (hYb _) (qa m4)) (AD _ _ _),AL (hYb _) (AL (hYb _) AC)⟩;have hYb2:∀s' j y,AV o2 G (AV o E (BD st s' H)) j=some y->j<m5:=λs' j y e=>by have:=hYb s' j y e;omega
              obtain⟨p2,hp2⟩:∃p:CI,p=⟨y.H,mid,1⟩:=⟨_,rfl⟩
              have hrt2:rk (f sj p2).2.2<=top:=by
               have h1:=hQt (j+1);rw[hqt]at h1;have h2:=Qz (f:=f) hiu mid (Q j) y;rw[hSj]at h2;rw[hp2];exact qI h2 h1
              have hcall2:=C.call sj p2 (AV o2 G (AV o E (BD st sj H))) m5 (by rw[hp2];exact y1) hrt2 (by omega) (C.has (by omega) hA2 (C.has hn hA Cl));have hqt':Q (j+1)=if(f sj p2).2.1 then((Q j).1++[.mk y.id (f sj p2).1 (it y.id y.W mid (f sj p2).2.2).1],(it y.id y.W mid (f sj p2).2.2).2)else((Q j).1,(f sj p2).2.2):=by rw[hqt,hp2,DH,hSj]
              rw[C.acc (by omega) hA2,C.acc hn hA,C.up2]at hcall2;have hpe2:p2.e=.agg (y.H.g++[.bool mid,AA 1]):=by rw[hp2];rfl
              clear hqt hSj;rcases hf2:f sj p2 with⟨h2,k2,s2⟩
              rw[hf2]at hcall2 hqt';dsimp only at hcall2 hqt';refine Aa 1 [(0,.fn (.func g) a b),(3,.bool mid),(6,.q [AA sc.id,AA sc.a,AA sc.b]),(9,AW 6 o E),(19,Aw l),(20,AA l.length),(21,AA i),(12,.q h'.g),(14,AW 7 o2 G),(37,BZ x.cells),(38,AA x.cells.length),(39,AA j),(16,.q ([AA y.id]++y.H.g++[AK y.W])),(17,.q h2.g),(18,.bool k2)] (AV o2 G (AV o E (BD st s2 H))) m5 ?_ (λm6 hm6=>?_);rw[hpe2]at hcall2;simp only[AF.g,qx,qE,qj]at hcall2;simp[go_sem,AF.g];refine qP hcall2 ?_;rintro v H' n' ⟨rfl,rfl,rfl⟩;simp[go_sem,IO,AF.e,AF.g,AD];exact⟨AZ (AS (hYb2 _) (qa _)) (AD _ _ _),AL (hYb2 _) (AL (hYb2 _) AC)⟩;cases k2 with
              | false=>
               have hst3:Q (j+1)=((Q j).1,s2):=by simpa using hqt'
               simp only[hst3,hGj];refine AJ ?_;simp[go_sem,IO];exact⟨o2,⟨by omega,hA2.mono (by omega)⟩,rfl,AC⟩
              | true =>
               have hst3:Q (j+1)=((Q j).1++[.mk y.id h2 (it y.id y.W mid s2).1],(it y.id y.W mid s2).2):=by simpa using hqt'
               have hit2:rk (it y.id y.W mid s2).2<=top:=by have:=hQt (j+1);rw[hst3]at this;exact this
               simp only[hst3,qc,hGj,qr,Yo];clear hqt' hst3 hcall2 hpe2 hf2;refine B5 0 [(0,.fn (.func g) a b),(3,.bool mid),(6,.q [AA sc.id,AA sc.a,AA sc.b]),(9,AW 6 o E),(19,Aw l),(20,AA l.length),(21,AA i),(12,.q h'.g),(14,AW 7 o2 G),(37,BZ x.cells),(38,AA x.cells.length),(39,AA j),(16,.q ([AA y.id]++y.H.g++[AK y.W])),(17,.q h2.g),(52,.bool true)] (AV o2 G (AV o E (BD st s2 H))) m6 ?_ (λm7 hm7=>?_);simp[go_sem,IO];subst hm7;refine Au (b:=true) (by simp[go_sem]) ?_;rw[if_pos rfl];have hc3:=hit y.id y.W mid s2 (AV o2 G (AV o E (BD st s2 H))) m6 y2 hit2 (by omega) (C.has (by omega) hA2 (C.has hn hA Cl));rw[C.acc (by omega) hA2,C.acc hn hA,C.up2]at hc3;clear hit2;generalize it y.id y.W mid s2=r3 at hc3 ⊢;obtain⟨q3,s3⟩:=r3;dsimp only at hc3 ⊢;refine CK trR rfl (by kernel_rfl) (by kernel_rfl) ?_;simp[go_sem,trR,AF.g];refine qP (by simpa[BH.e]using hc3) ?_;rintro v H' n' ⟨rfl,rfl,rfl⟩;simp[go_sem];have hpush:=hA2.push (j:=n'+1) (m':=n'+1+1) (e:=(cr.mk y.id h2 q3).e) (cr.E.st _) (cr.E.len _) (by omega) (by omega);rw[Fa (es:=G) (e:=(cr.mk y.id h2 q3).e) (o:=o2) (t:=167) (t2:=167) (el:=171) (z:=7) (by simp[go_sem]) (by simp[go_sem]) (by simp[go_sem]) (by simp) (by simp[go_sem]) (by simp[go_sem]) (by simp[go_sem]) (by omega) hA2 (cr.E.len _) ?a1 ?a2]
               case a1=>simp[AD,Us,SV.cells,cr.id,cr.H,cr.W]
               case a2=>
                intro j e;have:=(hA2.lt j e).2;rw[AE _ _ (by omega)];exact FX j e
               have hlive:=D7 (p:=n'+1) (v:=.sl (n'+1) 0 7 (G.length+1) false) (e:=(cr.mk y.id h2 q3).e) (hBb s3) (by omega) hA2 (H:=h_ (AV o2 G (AV o E (BD st s3 H))) n' (some (.cells [AA y.id,AU h2.Q,AA h2.I,AA h2.move,Ax h2.Y,Ai h2.Z,AK q3]))) (AL (λj z e=>by have:=hBb s3 j z e;omega) (Eb (hBb s3) hA2));have hvv:AW 7 (some (n'+1)) (G++[(cr.mk y.id h2 q3).e])=.sl (n'+1) 0 7 (G.length+1) false:=by simp[AW]
               simp[go_sem];exact⟨some (n'+1),⟨by omega,hpush⟩,hvv.symm,by simpa[C5.app,SV.cells]using hlive⟩
            refine AJ ?_;simp[go_sem,w2,IO,-Int.natCast_add];exact⟨j+1,by omega,o2,⟨by omega,hm.1,hm.2⟩,⟨rfl,rfl⟩,AC⟩
          have:j=x.cells.length:=by omega
          subst this;rw[hQl]at hA2 ⊢;refine AJ ?_;simp[go_sem,IO];exact⟨by omega,AW.fz' (λj hj=>AS (hBb _) hj) hA2 AC,Eb (hBb _) hA2⟩
        . generalize Er f it mid x.cells s1=r2;obtain⟨q2,s2⟩:=r2;dsimp only;refine AJ ?_;simp[go_sem,AF.g];have hpush:=hA.push (j:=m4+1) (m':=m4+1+1) (e:=(AP.mk h' q2).e) (AP.E.st _) (AP.E.len _) (by omega) (by omega);rw[Fa (es:=E) (e:=(AP.mk h' q2).e) (o:=o) (t:=68) (t2:=68) (el:=169) (z:=6) (by simp[go_sem]) (by simp[go_sem]) (by simp[go_sem]) (by simp) (by simp[go_sem]) (by simp[go_sem]) (by simp[go_sem]) (by omega) hA (AP.E.len _) ?a1 ?a2]
          case a1=>simp[AD,Yw,SV.cells,AP.H,AP.cells]
          case a2=>
           intro j e;have:=(hA.lt j e).2;rw[AE _ _ (by omega)];exact FX j e
          have hlive:=D7 (p:=m4+1) (v:=.sl (m4+1) 0 6 (E.length+1) false) (e:=(AP.mk h' q2).e) (hUb s2) (by omega) hA (H:=h_ (AV o E (BD st s2 H)) m4 (some (.cells [AU h'.Q,AA h'.I,AA h'.move,Ax h'.Y,Ai h'.Z,BZ q2]))) (AL (λj z e=>by have:=hUb s2 j z e;omega) (Eb (hUb s2) hA));have hvv:AW 6 (some (m4+1)) (E++[(AP.mk h' q2).e])=.sl (m4+1) 0 6 (E.length+1) false:=by simp[AW]
          simp[go_sem];exact⟨some (m4+1),⟨by omega,hpush⟩,hvv.symm,by simpa[C5.app,SV.cells]using hlive⟩
     refine AJ ?_;simp[go_sem,w1,IO,-Int.natCast_add];exact⟨i+1,by omega,o,⟨by omega,hm.1,hm.2⟩,⟨rfl,rfl⟩,AC⟩
   have:i=l.length:=by omega
   subst this;refine AJ ?_;simp[go_sem];exact⟨o,⟨hnm,hA⟩,rfl,AC⟩
 refine AJ ?_;simp[go_sem];rw[hRl]at hm ⊢;exact I1 (hU _) hm.2 (λe he=>by obtain⟨x,_,rfl⟩:=ql.1 he;exact AP.cl n x)
end
section
variable{σ:Type}{st:σ->Nat->Option Bb}{n0:Nat}{g:FuncId}{a b:List SV}{f:σ->CI->AF×Bool×σ}{ok:AF->Prop}{rk:σ->Nat}{top:Nat}{it:Int->List AB->Bool->σ->List AB×σ}{mid:Bool}{P:List AB->Prop}{sc:BH}
def okI(ok:AF->Prop)(P:List AB->Prop)(x:AB):Prop:=ok x.H/\x.x.size<=1048576/\P x.W/\x.R.length<=1048576/\∀r∈x.R,ok r.H/\r.cells.length<=1048576/\∀c∈r.cells,ok c.H/\P c.W
theorem YL(C:Pn st n0 g a b f ok rk top)(hit:eK st n0 g a b it sc P rk top)(hiu:∀id l mid s,rk s<=rk (it id l mid s).2)(l:List AB)(hl:l.length<=1048576)(hr:∀x∈l,okI ok P x)(s:σ)(ht:rk (A8 f it mid l s).2<=top){H:Hp}{n:Nat}(hn:n0<=n)(hs:∀o y,st s o=some y->H o=some y):
 BL prog 190 [.fn (.func g) a b,AK l,sc.e,.bool mid] H n (λv h' n'=>v=AK (A8 f it mid l s).1/\h'=BD st (A8 f it mid l s).2 H/\n'=n):=by
 refine DO func190 rfl λho=>?_;obtain⟨R,hR⟩:∃R:Nat->List AB×σ,∀i,R i=(l.take i).foldl (CL f it mid) ([],s):=⟨_,λ_=>rfl⟩
 have hR0:R 0=([],s):=by rw[hR];rfl
 have hRs:∀i x,(h:i<l.length)->l[i]=x->R (i+1)=CL f it mid (R i) x:=λi x h hx=>by rw[hR,hR,KH _ _ _ _ _ h hx]
 have hRl:R l.length=A8 f it mid l s:=by rw[hR,qm];rfl
 have hRn:∀i,(R i).1.length<=i:=λi=>by rw[hR];have:=HF (f:=f) (it:=it) (mid:=mid) (l.take i) ([],s);simp at this;omega
 have hRt:∀i,rk (R i).2<=top:=λi=>by rw[hR];exact qI (QK (UY C.up hiu mid) _ _ i) ht
 clear hR;have hU:∀s',Gm (BD st s' H) n:=λs'=>C.old s' hn ho;have hUb:∀s' j y,BD st s' H j=some y->j<n:=λs' j y e=>(hU s' j y e).1;refine Aa 1 [(0,.fn (.func g) a b),(1,AK l),(3,.bool mid),(6,.q [AA sc.id,AA sc.a,AA sc.b])] (BD st s H) n ?_ (λm hm=>?_);simp[go_sem,BH.e,IO,Fq s H hs];refine⟨AZ (ho.none (qa n)) (by simp[h_]),λj y e=>by rw[AE _ _ (by have:=(ho j y e).1;omega)];exact e⟩;refine Aa 0 [(0,.fn (.func g) a b),(1,AK l),(3,.bool mid),(6,.q [AA sc.id,AA sc.a,AA sc.b]),(9,.i 0 [] true)] (BD st s H) n ?_ (λm hm=>?_);simp[go_sem,IO,hm];refine AX 0 (α:=Option Nat) (λo=>[(9,AW 11 o ((R l.length).1.map AB.e))]) (λo=>AV o ((R l.length).1.map AB.e) (BD st (R l.length).2 H)) (λo m=>n<=m/\BR n m 11 o ((R l.length).1.map AB.e)) ?_ (λo m hm=>?_)
 . refine Aa 0 [(0,.fn (.func g) a b),(1,AK l),(3,.bool mid),(6,.q [AA sc.id,AA sc.a,AA sc.b]),(9,.i 0 [] true),(16,AK l),(17,AA l.length),(18,AA 0)] (BD st s H) n ?_ (λm hm=>?_);simp[go_sem,IO,hm];refine AY (BT 0 (α:=Nat×Option Nat) (λq=>[(0,.fn (.func g) a b),(1,AK l),(3,.bool mid),(6,.q [AA sc.id,AA sc.a,AA sc.b]),(9,AW 11 q.2 ((R q.1).1.map AB.e)),(16,AK l),(17,AA l.length),(18,AA q.1)])
    (λq=>AV q.2 ((R q.1).1.map AB.e) (BD st (R q.1).2 H)) (λq m=>q.1<=l.length/\n<=m/\BR n m 11 q.2 ((R q.1).1.map AB.e)) (λq=>l.length-q.1) (0,none) ⟨qg _,hm,by simp only[hR0];exact vA _ _ _⟩ ?_ ?_ ?_)
   simp[go_sem,Ao,AW,IO];simp only[hR0];exact AC;clear hm m;rintro⟨i,o⟩ m ⟨hi,hnm,hA⟩;dsimp only at hi hA ⊢;have hEn:((R i).1.map AB.e).length<=i:=by rw[qf];exact hRn i
   by_cases hlt:i<l.length
   . obtain⟨x,hx⟩:∃x,l[i]=x:=⟨_,rfl⟩
     have hxm:x∈l:=by rw[<-hx];exact qi hlt
     obtain⟨x1,x2,x3,x4,x5⟩:=hr x hxm;have hgx:(l.map AB.e)[i]? = some x.e:=by simp[hlt,hx]
     have hst:=hRs i x hlt hx;have w1:=wS i (by omega);generalize hSi:(R i).2=si at hst;generalize hEi:(R i).1.map AB.e=E at hA hEn ⊢;have hXb:∀s' j y,AV o E (BD st s' H) j=some y->j<m:=λs'=>G0 (hUb s') hnm hA;refine B5 0 [(0,.fn (.func g) a b),(1,AK l),(3,.bool mid),(6,.q [AA sc.id,AA sc.a,AA sc.b]),(9,AW 11 o E),(16,AK l),(17,AA l.length),(18,AA i),(19,.bool true)] (AV o E (BD st si H)) m ?_ (λm' hm'=>?_);simp[go_sem,IO,hlt];subst hm';refine B5 0 [(0,.fn (.func g) a b),(1,AK l),(3,.bool mid),(6,.q [AA sc.id,AA sc.a,AA sc.b]),(9,AW 11 o E),(16,AK l),(17,AA l.length),(18,AA i)] (AV o E (BD st si H)) m ?_ (λm2 hm2=>?_);simp[go_sem,IO];subst hm2;refine AX 0 (α:=Option Nat) (λo=>[(0,.fn (.func g) a b),(1,AK l),(3,.bool mid),(6,.q [AA sc.id,AA sc.a,AA sc.b]),(9,AW 11 o ((R (i+1)).1.map AB.e)),(16,AK l),(17,AA l.length),(18,AA i)]) (λo=>AV o ((R (i+1)).1.map AB.e) (BD st (R (i+1)).2 H)) (λo m=>n<=m/\BR n m 11 o ((R (i+1)).1.map AB.e)) ?_ (λo m hm=>?_)
     . refine AY ?_;refine B8 0 (α:=Nat) (λp=>[(0,.fn (.func g) a b),(1,AK l),(3,.bool mid),(6,.q [AA sc.id,AA sc.a,AA sc.b]),(9,AW 11 o E),(16,AK l),(17,AA l.length),(18,AA i),(10,AA i),(11,.ptr p 0)]) (λp=>h_ (AV o E (BD st si H)) p (some (.cells [AA x.k,AA x.code,AA x.id,.str x.x,AU x.H.Q,AA x.H.I,AA x.H.move,Ax x.H.Y,Ai x.H.Z,AK x.W,Aw x.R]))) (λp m2=>m<=p/\p<m2) ?_ (λp m2 hm2=>?_);simp[go_sem,IO,hlt,hx,qw,AD,Ah];exact⟨m,by omega,rfl,AC⟩;have hXb2:∀s' j y,AV o E (BD st s' H) j=some y->j<p:=λs' j y e=>by have:=hXb s' j y e;omega
       refine Aa 0 [(0,.fn (.func g) a b),(1,AK l),(3,.bool mid),(6,.q [AA sc.id,AA sc.a,AA sc.b]),(9,AW 11 o E),(16,AK l),(17,AA l.length),(18,AA i),(10,AA i),(11,.ptr p 0),(12,AA (BF [x]).1)] (h_ (AV o E (BD st si H)) p (some (.cells [AA x.k,AA x.code,AA x.id,.str x.x,AU x.H.Q,AA x.H.I,AA x.H.move,Ax x.H.Y,Ai x.H.Z,AK x.W,Aw x.R]))) m2 ?_ (λm3 hm3=>?_);have hle:i+1<=l.length:=hlt;have hsl:List.drop i (List.take (i+1) (l.map AB.e))=[x.e]:=by rw[List.drop_take,Nat.add_sub_cancel_left,qQ (by simpa using hlt)];simp[hx]
       simp[go_sem,w1,hle,hsl,-Int.natCast_add,-List.map_take,-List.map_drop];refine qz (ay [x] (by simp) (by simpa using x2)) ?_;simp[go_sem,IO];obtain⟨pt,hp⟩:∃q:CI,q=⟨x.H,mid,(BF [x]).1⟩:=⟨_,rfl⟩
       have hrt:rk (f si pt).2.2<=top:=by
        have h1:=hRt (i+1);rw[hst]at h1;have h2:=Ri C.up hiu mid (R i) x;rw[hSi]at h2;rw[hp];exact qI h2 h1
       have hcall:=λy=>C.call si pt (h_ (AV o E (BD st si H)) p y) m3 (by rw[hp];exact x1) hrt (by omega) (λk z e=>by rw[AE _ _ (by rintro rfl;rw[C.lt si k (by omega)]at e;cases e)];exact C.has hn hA Cl k z e);have hst':R (i+1)=if(f si pt).2.1 then((R i).1++[x.put (f si pt).1 (Cm f it mid x (f si pt).2.2).1.1 (Cm f it mid x (f si pt).2.2).1.2],(Cm f it mid x (f si pt).2.2).2)else((R i).1,(f si pt).2.2):=by rw[hst,hp,CL,hSi]
       have hup:∀s' y,BD st s' (h_ (AV o E (BD st si H)) p y)=h_ (AV o E (BD st s' H)) p y:=λs' y=>by rw[<-C.h_ _ _ (by omega),C.acc hn hA,C.up2]
       simp only[hup]at hcall;have hpe:pt.e=.agg (x.H.g++[.bool mid,AA (BF [x]).1]):=by rw[hp];rfl
       clear hst hSi hup;rcases hf:f si pt with⟨h',k,s1⟩
       rw[hf]at hcall hst';dsimp only at hcall hst';have hYb:∀s' y j z,h_ (AV o E (BD st s' H)) p y j=some z->j<m3:=λs' y j z e=>by
        by_cases h:j=p;omega;rw[AE _ _ h]at e;have:=hXb2 s' j z e;omega
       refine Aa 1 [(0,.fn (.func g) a b),(1,AK l),(3,.bool mid),(6,.q [AA sc.id,AA sc.a,AA sc.b]),(9,AW 11 o E),(16,AK l),(17,AA l.length),(18,AA i),(11,.ptr p 0),(14,.q h'.g),(15,.bool k)] (h_ (AV o E (BD st s1 H)) p (some (.cells [AA x.k,AA x.code,AA x.id,.str x.x,AU x.H.Q,AA x.H.I,AA x.H.move,Ax x.H.Y,Ai x.H.Z,AK x.W,Aw x.R]))) m3 ?_ (λm4 hm4=>?_);rw[hpe]at hcall;simp only[AF.g,qx,qE,qj]at hcall;simp[go_sem,AF.g,AD];refine qP (hcall _) ?_;rintro v H' n' ⟨rfl,rfl,rfl⟩;simp[go_sem,IO,AF.e,AF.g,AD];exact⟨AZ (AS (hYb _ _) (qa _)) (AD _ _ _),AL (hYb _ _) (AL (hYb _ _) AC)⟩;cases k with
       | false=>
        have hst2:R (i+1)=((R i).1,s1):=by simpa using hst'
        simp only[hst2,hEi];refine AJ ?_;simp[go_sem,IO,AF.g,AD,Ah];exact⟨o,⟨by omega,hA.mono (by omega)⟩,rfl,AL (hXb2 _) AC⟩
       | true=>
        have hst2:R (i+1)=((R i).1++[x.put h' (Cm f it mid x s1).1.1 (Cm f it mid x s1).1.2],(Cm f it mid x s1).2):=by simpa using hst'
        have hct:rk (Cm f it mid x s1).2<=top:=by have:=hRt (i+1);rw[hst2]at this;exact this
        simp only[hst2,qc,hEi,qr,Yo];clear hst' hst2 hcall hpe hf;refine B5 0 [(0,.fn (.func g) a b),(1,AK l),(3,.bool mid),(6,.q [AA sc.id,AA sc.a,AA sc.b]),(9,AW 11 o E),(16,AK l),(17,AA l.length),(18,AA i),(11,.ptr p 0)] (h_ (AV o E (BD st s1 H)) p (some (.cells [AA x.k,AA x.code,AA x.id,.str x.x,AU h'.Q,AA h'.I,AA h'.move,Ax h'.Y,Ai h'.Z,AK x.W,Aw x.R]))) m4 ?_ (λm5 hm5=>?_);simp[go_sem,IO,AF.g,AD,Ah];subst hm5;have hupP:∀s' y,BD st s' (h_ (AV o E (BD st s1 H)) p y)=h_ (AV o E (BD st s' H)) p y:=λs' y=>by rw[<-C.h_ _ _ (by omega),C.acc hn hA,C.up2]
        have hasP:∀y k z,st s1 k=some z->h_ (AV o E (BD st s1 H)) p y k=some z:=λy k z e=>by rw[AE _ _ (by rintro rfl;rw[C.lt s1 k (by omega)]at e;cases e)];exact C.has hn hA Cl k z e
        refine Aa 1 [(0,.fn (.func g) a b),(1,AK l),(3,.bool mid),(6,.q [AA sc.id,AA sc.a,AA sc.b]),(9,AW 11 o E),(16,AK l),(17,AA l.length),(18,AA i),(11,.q [AA x.k,AA x.code,AA x.id,.str x.x,AU h'.Q,AA h'.I,AA h'.move,Ax h'.Y,Ai h'.Z,AK (Cm f it mid x s1).1.1,Aw (Cm f it mid x s1).1.2])] (AV o E (BD st (Cm f it mid x s1).2 H)) m4 ?_ (λm5 hm5=>?_);by_cases k6:x.k=6;have hc3:=λy=>hit x.id x.W mid s1 (h_ (AV o E (BD st s1 H)) p y) m4 x3 (by rw[Cm,if_pos k6]at hct;exact hct) (by omega) (hasP y);simp only[hupP]at hc3;have hin:Cm f it mid x s1=(((it x.id x.W mid s1).1,x.R),(it x.id x.W mid s1).2):=by rw[Cm,if_pos k6]
        rw[hin];generalize it x.id x.W mid s1=r3 at hc3 ⊢;obtain⟨q3,s3⟩:=r3;dsimp only at hc3 ⊢;simp[go_sem,AD,k6];refine qP (by simpa[BH.e]using hc3 _) ?_;rintro v H' n' ⟨rfl,rfl,rfl⟩;simp[go_sem,IO,AD,Ah];exact⟨AZ (AS (hXb2 _) (qa _)) (AD _ _ _),AL (hXb2 _) AC⟩;by_cases k7:x.k=7;have hc3:=λy=>iZ (mid:=mid) C hit hiu x.R x4 x5 s1 (by rw[Cm,if_neg k6,if_pos k7]at hct;exact hct) (n:=m4) (by omega) (hasP y);simp only[hupP]at hc3;have hin:Cm f it mid x s1=((x.W,(HY f it mid x.R s1).1),(HY f it mid x.R s1).2):=by rw[Cm,if_neg k6,if_pos k7]
        rw[hin];generalize HY f it mid x.R s1=r3 at hc3 ⊢;obtain⟨q3,s3⟩:=r3;dsimp only at hc3 ⊢;simp[go_sem,AD,k7];refine qP (by simpa[BH.e]using hc3 _) ?_;rintro v H' n' ⟨rfl,rfl,rfl⟩;simp[go_sem,IO,AD,Ah];exact⟨AZ (AS (hXb2 _) (qa _)) (AD _ _ _),AL (hXb2 _) AC⟩;have hin:Cm f it mid x s1=((x.W,x.R),s1):=by rw[Cm,if_neg k6,if_neg k7]
        rw[hin];dsimp only;simp[go_sem,IO,AD,k6,k7];exact⟨AZ (AS (hXb2 _) (qa _)) (AD _ _ _),AL (hXb2 _) AC⟩
        . generalize Cm f it mid x s1=r2;obtain⟨⟨q2,q3⟩,s2⟩:=r2;dsimp only;refine AJ ?_;simp[go_sem];have hpush:=hA.push (j:=m5+1) (m':=m5+1+1) (e:=(x.put h' q2 q3).e) (AB.E.st _) (AB.E.len _) (by omega) (by omega);rw[Fa (es:=E) (e:=(x.put h' q2 q3).e) (o:=o) (t:=22) (t2:=22) (el:=70) (z:=11) (by simp[go_sem]) (by simp[go_sem]) (by simp[go_sem]) (by simp) (by simp[go_sem]) (by simp[go_sem]) (by simp[go_sem]) (by omega) hA (AB.E.len _) ?a1 ?a2]
          case a1=>simp[AD,qw,SV.cells,AB.put,AB.k,AB.code,AB.id,AB.x,AB.H,AB.W,AB.R]
          case a2=>
           intro j e;have:=(hA.lt j e).2;rw[AE _ _ (by omega)];exact FX j e
          have hlive:=D7 (p:=m5+1) (v:=.sl (m5+1) 0 11 (E.length+1) false) (e:=(x.put h' q2 q3).e) (hUb s2) (by omega) hA (H:=h_ (AV o E (BD st s2 H)) m5 (some (.cells [AA x.k,AA x.code,AA x.id,.str x.x,AU h'.Q,AA h'.I,AA h'.move,Ax h'.Y,Ai h'.Z,AK q2,Aw q3]))) (AL (λj z e=>by have:=hUb s2 j z e;omega) (Eb (hUb s2) hA));have hvv:AW 11 (some (m5+1)) (E++[(x.put h' q2 q3).e])=.sl (m5+1) 0 11 (E.length+1) false:=by simp[AW]
          simp[go_sem];exact⟨some (m5+1),⟨by omega,hpush⟩,hvv.symm,by simpa[C5.app,SV.cells]using hlive⟩
     refine AJ ?_;simp[go_sem,w1,IO,-Int.natCast_add];exact⟨i+1,by omega,o,⟨by omega,hm.1,hm.2⟩,⟨rfl,rfl⟩,AC⟩
   have:i=l.length:=by omega
   subst this;refine AJ ?_;simp[go_sem];exact⟨o,⟨hnm,hA⟩,rfl,AC⟩
 refine AJ ?_;simp[go_sem];rw[hRl]at hm ⊢;exact I1 (hU _) hm.2 (λe he=>by obtain⟨x,_,rfl⟩:=ql.1 he;exact AB.cl n x)
end
def trI:Tr:=.pure 0<|.pure 1<|.pure 2<|.pure 4<|.pure 5<|.pure 6<|.pure 8<|.pure 9<|.pure 10<|.one 3<|.one 7<|.one 11<|.one 12<|.one 13<|.one 14 .nil
section
variable{σ:Type}{st:σ->Nat->Option Bb}{n0:Nat}{g:FuncId}{a b:List SV}{f:σ->CI->AF×Bool×σ}{ok:AF->Prop}{rk:σ->Nat}{top:Nat}{sc:BH}
theorem DK{h h2:Hp}{n n':Nat}{v:SV}(b:Gm h n)(hc:cc n v=true)(a:∀j y,h j=some y->h2 j=some y):CO n h2 n' v (λw h' n'=>w=v/\h'=h/\n'=n):=
 .inr ⟨0,v,h,IO,hc,λj x e=>⟨a j x e,b j x e⟩,rfl,rfl,rfl⟩
theorem cC(C:Pn st n0 g a b f ok rk top)(hp:AF->Prop)(K:Nat)(hK:K<=349525)(p:∀h:AF,hp h->ok h/\h.D):∀N,eK st n0 g a b (AT f sc N) sc (Dq hp K N) rk top
 | 0=>λid l mid s H n h=>h.elim
 | N + 1 => fun id l mid s H n hl ht hn hs => by
  have S:=cC C hp K hK p N;have o:=RT C.up sc N;have pu:=λmid l s=>Iw C.up o mid l s;have i:=hl.D (λh e=>(p h e).2) (by omega);have L:∀x∈l,x.x.size<=1048576:=vZ i.2;have d:∀l,Dq hp K (N+1) l->∀x∈l,okI ok (Dq hp K N) x:=λl hl x hx=>by
   obtain⟨h1,h2,h3⟩:=Ci.1 hl;obtain⟨h4,h5,h6,Q⟩:=h3 x hx;exact⟨(p _ h4).1,by have:=OU hx;omega,h5,by omega,λr R=>⟨(p _ (Q r R).1).1,by have:=(Q r R).2.1;omega,λc hc=>⟨(p _ ((Q r R).2.2 c hc).1).1,((Q r R).2.2 c hc).2⟩⟩⟩
  refine DO func121 rfl λho=>?_;have W:∀D,Gm (BD st D H) n:=λD=>C.old D hn ho;have F:∀D j y,BD st D H j=some y->j<n:=λD j y e=>(W D j y e).1;refine Aa 1 [(0,.fn (.func g) a b),(1,AA id),(2,AK l),(4,.bool mid),(8,.q [AA sc.id,AA sc.a,AA sc.b])] (BD st s H) n ?_ (λm Z=>?_);simp[go_sem,BH.e,IO,Fq s H hs];refine⟨AZ (ho.none (qa n)) (by simp[h_]),λj y e=>by rw[AE _ _ (by have:=(ho j y e).1;omega)];exact e⟩;by_cases k:F9 sc id l mid=true;have Y:AT f sc (N+1) id l mid s=((A8 f (AT f sc N) false (Ab l 0 sc.a).1 s).1++(A8 f (AT f sc N) true (Ab l sc.a sc.b).1 (A8 f (AT f sc N) false (Ab l 0 sc.a).1 s).2).1++(A8 f (AT f sc N) false (Ab l sc.b (BF l).1).1 (A8 f (AT f sc N) true (Ab l sc.a sc.b).1 (A8 f (AT f sc N) false (Ab l 0 sc.a).1 s).2).2).1,(A8 f (AT f sc N) false (Ab l sc.b (BF l).1).1 (A8 f (AT f sc N) true (Ab l sc.a sc.b).1 (A8 f (AT f sc N) false (Ab l 0 sc.a).1 s).2).2).2):=by rw[AT,if_pos k]
  simp only[F9,qo,decide_eq_true_eq,UW]at k;obtain⟨⟨⟨⟨i1,i2⟩,i3⟩,i4⟩,i5⟩:=k;subst i1 i2;rw[Y]at ht ⊢;have l1:=Gu 0 sc.a hl;have l2:=Gu sc.a sc.b hl;have l3:=Gu sc.b (BF l).1 hl;have n1:=IR l 0 sc.a;have n2:=IR l sc.a sc.b;have n3:=IR l sc.b (BF l).1;have hlK:=hl.1;have c1:=Zr l 0 sc.a i.1 i.2;have c2:=Zr l sc.a sc.b i.1 i.2;have c3:=Zr l sc.b (BF l).1 i.1 i.2;refine Gz ?_;refine B5 0 [(0,.fn (.func g) a b),(2,AK l),(8,.q [AA sc.id,AA sc.a,AA sc.b]),(26,.bool true)] (BD st s H) m ?_ (λm' t=>?_);simp[go_sem,IO];subst t;refine Au (b:=true) (by simp[go_sem]) ?_;rw[if_pos rfl];refine Aa 0 [(0,.fn (.func g) a b),(2,AK l),(8,.q [AA sc.id,AA sc.a,AA sc.b]),(11,AA (BF l).1)] (BD st s H) m ?_ (λm' t=>?_);simp[go_sem];refine qz (ay l i.1 L) ?_;simp[go_sem,IO];refine B5 0 [(0,.fn (.func g) a b),(2,AK l),(8,.q [AA sc.id,AA sc.a,AA sc.b]),(11,AA (BF l).1),(47,.bool true)] (BD st s H) m' ?_ (λm2 G=>?_);simp[go_sem,IO,i3,i4,i5];subst G;refine Au (b:=true) (by simp[go_sem]) ?_;rw[if_pos rfl];refine Aa 0 [(0,.fn (.func g) a b),(2,AK l),(8,.q [AA sc.id,AA sc.a,AA sc.b]),(11,AA (BF l).1),(13,AK (Ab l 0 sc.a).1)] (BD st s H) m' ?_ (λm2 G=>?_);simp[go_sem];refine qz c1 ?_;simp[go_sem,IO];refine Aa 0 [(0,.fn (.func g) a b),(2,AK l),(8,.q [AA sc.id,AA sc.a,AA sc.b]),(11,AA (BF l).1),(13,AK (Ab l 0 sc.a).1),(15,AK (Ab l sc.a sc.b).1)] (BD st s H) m2 ?_ (λm3 hm3=>?_);simp[go_sem];refine qz c2 ?_;simp[go_sem,IO];refine Aa 0 [(0,.fn (.func g) a b),(8,.q [AA sc.id,AA sc.a,AA sc.b]),(13,AK (Ab l 0 sc.a).1),(15,AK (Ab l sc.a sc.b).1),(17,AK (Ab l sc.b (BF l).1).1)] (BD st s H) m3 ?_ (λm4 hm4=>?_);simp[go_sem];refine qz c3 ?_;simp[go_sem,IO];generalize hr1:(Ab l 0 sc.a).1=r1 at l1 n1 ht ⊢;generalize hr2:(Ab l sc.a sc.b).1=r2 at l2 n2 ht ⊢;generalize hr3:(Ab l sc.b (BF l).1).1=r3 at l3 n3 ht ⊢;have I:=qI (qI (pu true r2 (A8 f (AT f sc N) false r1 s).2) (pu false r3 _)) ht;have w1:=λm (Z:n<=m)=>YL (mid:=false) (sc:=sc) C S o r1 (by omega) (d r1 l1) s I (H:=BD st s H) (n:=m) (by omega) Cl;have M:=HF (f:=f) (it:=AT f sc N) (mid:=false) r1 ([],s);have z1:A8 f (AT f sc N) false r1 s=r1.foldl (CL f (AT f sc N) false) ([],s):=rfl;rw[<-z1]at M;clear I;generalize A8 f (AT f sc N) false r1 s=u at w1 M ht ⊢;obtain⟨u,s1⟩:=u;have J:=qI (pu false r3 (A8 f (AT f sc N) true r2 s1).2) ht;have w2:=λm (Z:n<=m)=>YL (mid:=true) (sc:=sc) C S o r2 (by omega) (d r2 l2) s1 J (H:=BD st s1 H) (n:=m) (by omega) Cl;have O:=HF (f:=f) (it:=AT f sc N) (mid:=true) r2 ([],s1);have z2:A8 f (AT f sc N) true r2 s1=r2.foldl (CL f (AT f sc N) true) ([],s1):=rfl;rw[<-z2]at O;dsimp only at w1 M ⊢;clear J;generalize A8 f (AT f sc N) true r2 s1=A at w2 O ht ⊢;obtain⟨A,s2⟩:=A;have w3:=λm (Z:n<=m)=>YL (mid:=false) (sc:=sc) C S o r3 (by omega) (d r3 l3) s2 ht (H:=BD st s2 H) (n:=m) (by omega) Cl;have P:=HF (f:=f) (it:=AT f sc N) (mid:=false) r3 ([],s2);have z3:A8 f (AT f sc N) false r3 s2=r3.foldl (CL f (AT f sc N) false) ([],s2):=rfl;rw[<-z3]at P;dsimp only at w2 O ⊢;clear ht;generalize A8 f (AT f sc N) false r3 s2=B at w3 P ⊢;obtain⟨B,s3⟩:=B;dsimp only at w3 P ⊢;simp only[C.up2,BH.e]at w1 w2 w3;have X:=fT [u,A,B] (by simp) (by simp at M O P ⊢;omega);refine AX 0 (α:=Unit) (λ_=>[(10,AK (u++A++B))]) (λ_=>BD st s3 H) (λ_ m5=>m4<=m5) (CK trI rfl (by kernel_rfl) (by kernel_rfl) ?_) (λ_ m5 hm5=>?_);simp[go_sem,trI];refine qP (w1 m4 (by omega)) ?_;rintro v T n' ⟨rfl,rfl,rfl⟩;simp[go_sem];refine qP (w2 _ (by omega)) ?_;rintro v T n' ⟨rfl,rfl,rfl⟩;simp[go_sem];refine qP (w3 _ (by omega)) ?_;rintro v T n' ⟨rfl,rfl,rfl⟩;simp[go_sem];refine wn (bs:=[.i 1 ([u,A,B].map AK) false]) (h2:=BD st s3 H) 1 (AL (λj z e=>by have:=F s3 j z e;omega) AC) ⟨?_,trivial⟩ ?_;exact Cz (es:=[AK u,AK A,AK B]) (AS (F s3) (by omega)) (by simp) (by rw[AD];simp[SV.cells]) (by simp[SV.B,SV.cells]);refine qz X ?_;simp[go_sem,IO];refine AJ ?_;simp[go_sem];have:=DK (h2:=BD st s3 H) (n':=m5) (v:=AK (u++A++B)) (W s3) (AB.E.i _ _ _ _) AC;simpa using this;have Y:AT f sc (N+1) id l mid s=A8 f (AT f sc N) mid l s:=by rw[AT,if_neg k]
  rw[Y]at ht ⊢;refine Aa 0 [(0,.fn (.func g) a b),(2,AK l),(4,.bool mid),(8,.q [AA sc.id,AA sc.a,AA sc.b])] (BD st s H) m ?_ (λm' t=>?_);by_cases c1:id=sc.id;cases mid with
  | true=>simp[go_sem,IO,c1]
  | false=>
   simp[go_sem,c1];refine qz (ay l i.1 L) ?_;by_cases a0:0<=sc.a;by_cases U:sc.a<=sc.b;have V:¬sc.b<=(BF l).1:=λV=>k (by simp[F9,c1,a0,U,V]);simp[go_sem,IO,a0,U,V];simp[go_sem,IO,a0,U];simp[go_sem,IO,a0]
  simp[go_sem,IO,c1];refine Aa 0 [(10,AK (A8 f (AT f sc N) mid l s).1)] (BD st (A8 f (AT f sc N) mid l s).2 H) n ?_ (λm' t=>?_);have w:=YL (mid:=mid) (sc:=sc) C S o l i.1 (d l hl) s ht (H:=BD st s H) (n:=m') (by omega) Cl;simp only[C.up2,BH.e]at w;clear ht;generalize A8 f (AT f sc N) mid l s=q at w ⊢;obtain⟨q,s1⟩:=q;dsimp only at w ⊢;simp[go_sem];refine qP w ?_;rintro v T n' ⟨rfl,rfl,rfl⟩;simp[go_sem,IO];omega;refine AJ ?_;simp[go_sem];have:=DK (h2:=BD st (A8 f (AT f sc N) mid l s).2 H) (n':=m') (v:=AK (A8 f (AT f sc N) mid l s).1) (W _) (AB.E.i _ _ _ _) AC;simpa using this
end
section
variable{σ:Type}{st:σ->Nat->Option Bb}{n0:Nat}{g:FuncId}{a b:List SV}{f:σ->CI->AF×Bool×σ}{ok:AF->Prop}{rk:σ->Nat}{top:Nat}{sc:BH}
def BM(f:σ->CI->AF×Bool×σ)(sc:BH)(N:Nat)(d:AG)(revs:List BC)(s:σ):AG×σ:=
 (⟨(AT f sc N 0 d.W false s).1,(f (AT f sc N 0 d.W false s).2 ⟨d.T0,false,1⟩).1,revs,d.S⟩,(f (AT f sc N 0 d.W false s).2 ⟨d.T0,false,1⟩).2.2)
theorem K2{n:Nat}(a:∀s o,n<=o->st s o=none){s:σ}{H:Hp}{p:Nat}(hp:n<=p)(y:Option Bb)(h:∀k z,st s k=some z->H k=some z):∀k z,st s k=some z->h_ H p y k=some z:=λk z e=>by
 rw[AE _ _ (by rintro rfl;rw[a s k hp]at e;cases e)];exact h k z e
theorem Hn{n p:Nat}(hp:n≠p)(X:Hp)(a b c:Option Bb):h_ (h_ (h_ X n a) p b) n c=h_ (h_ X n c) p b:=by
 funext j;simp only[h_];grind
def Cq:List SV:=[.i 0 [] true,.i 0 [] true,AA 0,AA 0,.i 0 [] true,.i 0 [] true,.i 0 [] true,.i 0 [] true,.i 0 [] true,.i 0 [] true,.i 0 [] true]
theorem cR(C:Pn st n0 g a b f ok rk top)(hp:AF->Prop)(K:Nat)(T:K<=349525)(G:∀h:AF,hp h->ok h/\h.D)(N:Nat)(d:AG)(revs:List BC)(s:σ)(hl:Dq hp K N d.W)(F:hp d.T0)(ht:rk (BM f sc N d revs s).2<=top)
 (h1:(BM f sc N d revs s).1.D) (h2:(BM f sc N d revs s).1.normal.D) (l:(BU [] (AB.U (AO (BM f sc N d revs s).1.W)++(BM f sc N d revs s).1.T0.all)).length<=1048576) {H:Hp} {n:Nat} (hn:n0<=n) (U:∀o y,st s o=some y->H o=some y):
 BL prog 49 [.fn (.func g) a b,d.e,sc.e,BE revs] H n (λv h' n'=>v=(BM f sc N d revs s).1.normal.e/\h'=BD st (BM f sc N d revs s).2 H/\n'=n):=by
 refine DO func49 rfl λO=>?_;have Q:∀c,Gm (BD st c H) n:=λc=>C.old c hn O;have t:∀c j y,BD st c H j=some y->j<n:=λc j y e=>(Q c j y e).1;have A:n+2≠n:=by omega
 have i:n≠n+2:=by omega
 have u:∀c y z,∀j w,BD st c H j=some w->h_ (h_ (BD st c H) n y) (n+2) z j=some w:=λc y z=>AL (λj z e=>by have:=t c j z e;omega) (AL (t c) AC);have I:∀s1 c y z,BD st c (h_ (h_ (BD st s1 H) n y) (n+2) z)=h_ (h_ (BD st c H) n y) (n+2) z:=λs1 c y z=>by rw[<-C.h_ _ _ (by omega),<-C.h_ _ _ (by omega),C.up2]
 have p:∀c y z,∀k w,st c k=some w->h_ (h_ (BD st c H) n y) (n+2) z k=some w:=λc y z=>K2 C.lt (by omega) z (K2 C.lt hn y Cl);refine By 1 [(0,.fn (.func g) a b),(3,BE revs),(5,.ptr n 0),(6,.q [AA sc.id,AA sc.a,AA sc.b]),(8,.ptr (n+2) 0)] (h_ (h_ (BD st s H) n (some (.cells ([AK d.W]++d.T0.g++[BE d.V]++d.S.g)))) (n+2) (some (.cells Cq))) (λm=>m=n+3) ?_ (λm L=>?_);simp[go_sem,BH.e,IO,Fq s H U,AG.e,AF.g,AI.g,qu,Cq];refine⟨AZ (by rw[AE _ _ (by omega),AE _ _ (by omega)];exact O.none (by omega)) (by simp[h_]),λj y=>?_⟩;have:=O j y;simp only[h_];grind;subst L;have c1:=cC (sc:=sc) C hp K T G N 0 d.W false s;simp only[BM]at h1 h2 l ht ⊢;have x:=qI (C.up _ _) ht;generalize AT f sc N 0 d.W false s=q at c1 h1 h2 l ht x ⊢;obtain⟨q,s1⟩:=q;dsimp only at c1 h1 h2 l ht x ⊢;refine By 0 [(0,.fn (.func g) a b),(3,BE revs),(5,.ptr n 0),(8,.ptr (n+2) 0)] (h_ (h_ (BD st s1 H) n (some (.cells ([AK q]++d.T0.g++[BE d.V]++d.S.g)))) (n+2) (some (.cells Cq))) (λm=>n+3<=m) ?_ (λm L=>?_);have P:=λy z m (L:n<=m)=>c1 (h_ (h_ (BD st s H) n y) (n+2) z) m hl x (by omega) (p s y z);simp only[I,BH.e]at P;simp[go_sem,AF.g,AI.g,AD,AE];refine qP (P _ _ _ (by omega)) ?_;rintro v R n' ⟨rfl,rfl,rfl⟩;simp[go_sem,IO,AD,AE,Hn i];have J:=λy z m (L:n<=m)=>C.call s1 ⟨d.T0,false,1⟩ (h_ (h_ (BD st s1 H) n y) (n+2) z) m (G _ F).1 ht (by omega) (p s1 y z);generalize f s1 ⟨d.T0,false,1⟩=r at J h1 h2 l ht ⊢;obtain⟨h',k,s2⟩:=r;simp only[I,CI.e,AF.g,qx,qE,qj]at J;dsimp only at J h1 h2 l ⊢;refine Aa 0 [(3,BE revs),(5,.ptr n 0),(8,.ptr (n+2) 0)] (h_ (h_ (BD st s2 H) n (some (.cells ([AK q]++h'.g++[BE d.V]++d.S.g)))) (n+2) (some (.cells Cq))) m ?_ (λm2 hm2=>?_);simp[go_sem,AF.g,AI.g,AD,AE];refine qP (J _ _ _ (by omega)) ?_;rintro v R n' ⟨rfl,rfl,rfl⟩;simp[go_sem,IO,AD,AE,Hn i,AF.e,AF.g];refine Aa 0 [(5,.ptr n 0),(8,.ptr (n+2) 0)] (h_ (h_ (BD st s2 H) n (some (.cells ([AK q]++h'.g++[BE revs]++d.S.g)))) (n+2) (some (.cells Cq))) m2 ?_ (λm3 hm3=>?_);simp[go_sem,IO,AF.g,AI.g,AD,AE,Hn i];generalize S:(⟨q,h',revs,d.S⟩:AG)=D at h1 h2 l ⊢;have M:q=D.W/\h'=D.T0/\revs=D.V/\d.S=D.S:=by rw[<-S];exact⟨rfl,rfl,rfl,rfl⟩
 obtain⟨f1,f2,f3,f4⟩:=M;rw[f1,f2]at l;rw[f1,f2,f3,f4];refine AJ ?_;simp[go_sem,AF.g,AI.g,AD,AE];refine qz (by simpa[AG.e,AF.g,AI.g]using c21 D h1 h2 l) ?_;generalize hE:D.normal=E;have B:cc n E.e=true:=by simp[AG.e,AF.g,AI.g,cc,ca,AB.E.ca,Bi.E.ca,Bs.E.ca,AM.E.ca,BC.E.ca,A7.E.ca,GQ.E.ca,A9.E.ca,GY.E.ca]
 simp[go_sem,AG.e,AF.g,AI.g,AD,Cq];simp only[AG.e,AF.g,AI.g,qx,qE]at B;exact DK (Q s2) B (AL (λj z e=>by have:=t s2 j z e;omega) (u s2 _ _))
theorem d49(C:Pn st n0 g a b f ok)(hp:AF->Prop)(K:Nat)(j:K<=349525)(e:∀h:AF,hp h->ok h/\h.D)(N:Nat)(d:AG)(revs:List BC)(s:σ)(hl:Dq hp K N d.W)(c:hp d.T0)
 (h1:(BM f sc N d revs s).1.D) (h2:(BM f sc N d revs s).1.normal.D) (i:(BU [] (AB.U (AO (BM f sc N d revs s).1.W)++(BM f sc N d revs s).1.T0.all)).length<=1048576) {H:Hp} {n:Nat} (hn:n0<=n) (k:∀o y,st s o=some y->H o=some y):
 BL prog 49 [.fn (.func g) a b,d.e,sc.e,BE revs] H n (λv h' n'=>v=(BM f sc N d revs s).1.normal.e/\h'=BD st (BM f sc N d revs s).2 H/\n'=n):=
 cR C hp K j e N d revs s hl c (qa _) h1 h2 i hn k
end
section
variable{σ:Type}{st:σ->Nat->Option Bb}{n0:Nat}{g:FuncId}{a b:List SV}{u:σ->CI->σ}{ok:AF->Prop}{rk:σ->Nat}{top:Nat}{sc:BH}
structure Zj(st:σ->Nat->Option Bb)(n0:Nat)(g:FuncId)(a b:List SV)(u:σ->CI->σ)(ok:AF->Prop)(rk:σ->Nat:=λ_=>0)(top:Nat:=0):Prop where
 up:∀s p,rk s<=rk (u s p):=by exact λ_ _=>qa _
 lt:∀s o,n0<=o->st s o=none
 dom:∀s s' o,st s o=none->st s' o=none
 cl:∀s o y,st s o=some y->BW n0 y=true
 call:∀s p H n,ok p.H->rk (u s p)<=top->n0<=n->(∀o y,st s o=some y->H o=some y)->BL prog g (a++[p.e]++b) H n (λv h' n'=>v=.tup []/\h'=BD st (u s p) H/\n'=n)
def C1(u:σ->CI->σ)(s:σ)(p:CI):AF×Bool×σ:=(p.H,true,u s p)
theorem Zj.clo(C:Zj st n0 g a b u ok rk top):Pn st n0 112 [] [.q [.fn (.func g) a b]] (C1 u) ok rk top where
 up:=C.up
 lt:=C.lt
 dom:=C.dom
 cl:=C.cl
 call s p H n hp ht hn hs:=by
  have Cx:Pn st n0 g a b (C1 u) (λ_=>False):={ lt:=C.lt,dom:=C.dom,cl:=C.cl,call:=λs p H n h=>h.elim }
  refine DO func112 rfl λf=>?_;have k:∀c,Gm (BD st c H) n:=λc=>Cx.old c hn f;have d:∀c j y,BD st c H j=some y->j<n:=λc j y e=>(k c j y e).1;have hc:=C.call s p (h_ H (n+1) (some (.cells [.i 0 [] true,AA 0,AA 0,.i 0 [] true,.i 0 [] true]))) (n+2) hp ht (by omega) (K2 C.lt (by omega) _ hs);have i:∀c y,BD st c (h_ H (n+1) y)=h_ (BD st c H) (n+1) y:=λc y=>by rw[Cx.h_ _ _ (by omega)]
  rw[i]at hc;refine By 1 [(1,.q [.fn (.func g) a b]),(2,.q (p.H.g++[.bool p.mid,AA p.units])),(3,.ptr (n+1) 0)] (h_ H (n+1) (some (.cells [.i 0 [] true,AA 0,AA 0,.i 0 [] true,.i 0 [] true]))) (λm=>m=n+2) ?_ (λm l=>?_);simp[go_sem,CI.e,AF.g,IO];refine⟨AZ (by rw[AE _ _ (by omega)];exact f.none (qa n)) (by simp[h_]),λj y=>?_⟩;have:=f j y;simp only[h_];grind;subst l;refine By 0 [(2,.q (p.H.g++[.bool p.mid,AA p.units])),(3,.ptr (n+1) 0)] (h_ (BD st (u s p) H) (n+1) (some (.cells [.i 0 [] true,AA 0,AA 0,.i 0 [] true,.i 0 [] true]))) (λm=>n+2<=m) ?_ (λm l=>?_);simp[go_sem,AF.g];refine qP (by simpa[CI.e,AF.g]using hc) ?_;rintro v H' n' ⟨rfl,rfl,rfl⟩;simp[go_sem,IO];refine AJ ?_;simp[go_sem,AF.g,AD,Ah];have:=DK (h2:=h_ (BD st (u s p) H) (n+1) (some (.cells [AU p.H.Q,AA p.H.I,AA p.H.move,Ax p.H.Y,Ai p.H.Z]))) (n':=m) (v:=.tup [p.H.e,.bool true]) (k (u s p)) (by simp[cc,ca,AF.e,AF.g,Bi.E.ca,Bs.E.ca,AM.E.ca]) (AL (λj z e=>by have:=d _ j z e;omega) AC);simpa[AF.e,AF.g,C1]using this
theorem ip(C:Zj st n0 g a b u ok rk top)(hp:AF->Prop)(K:Nat)(p:K<=349525)(i:∀h:AF,hp h->ok h/\h.D)(N:Nat)(d:AG)(s:σ)(hl:Dq hp K N d.W)(e:hp d.T0)(ht:rk (BM (C1 u) sc N d d.V s).2<=top)
 (h1:(BM (C1 u) sc N d d.V s).1.D) (h2:(BM (C1 u) sc N d d.V s).1.normal.D) (l:(BU [] (AB.U (AO (BM (C1 u) sc N d d.V s).1.W)++(BM (C1 u) sc N d d.V s).1.T0.all)).length<=1048576) {H:Hp} {n:Nat} (hn:n0<=n) (r:∀o y,st s o=some y->H o=some y):
 BL prog 36 [d.e,sc.e,.fn (.func g) a b] H n (λv h' n'=>v=.tup []/\h'=BD st (BM (C1 u) sc N d d.V s).2 H/\n'=n):=by
 have Cx:=C.clo;refine DO func36 rfl λf=>?_;have q:∀k,Gm (BD st k H) n:=λk=>Cx.old k hn f;refine Aa 1 [(3,.q ([AK d.W]++d.T0.g++[BE d.V]++d.S.g)),(4,.q [AA sc.id,AA sc.a,AA sc.b]),(5,.q [.fn (.func g) a b])] H n ?_ (λm hm=>?_);simp[go_sem,BH.e,AG.e,AF.g,AI.g,qu];refine⟨⟨AZ (f.none (by omega)) (by simp[h_]),AZ (f.none (by omega)) (by simp[h_]),AZ (f.none (by omega)) (by simp[h_])⟩,λj y=>?_⟩;have:=f j y;simp only[h_];grind;have c:=cR (sc:=sc) Cx hp K p i N d d.V s hl e ht h1 h2 l (H:=H) (n:=m) (by omega) r;clear ht;generalize(BM (C1 u) sc N d d.V s).1.normal.e=w at c;generalize(BM (C1 u) sc N d d.V s).2=s2 at c ⊢;refine AJ ?_;simp[go_sem,AF.g,AI.g];refine qP (by simpa[BH.e,AG.e,AF.g,AI.g]using c) ?_;rintro v H' n' ⟨rfl,rfl,rfl⟩;simp[go_sem];exact DK (q s2) (by simp[cc,ca]) AC
theorem io(C:Zj st n0 g a b u ok)(hp:AF->Prop)(K:Nat)(i:K<=349525)(e:∀h:AF,hp h->ok h/\h.D)(N:Nat)(d:AG)(s:σ)(hl:Dq hp K N d.W)(c:hp d.T0)
 (h1:(BM (C1 u) sc N d d.V s).1.D) (h2:(BM (C1 u) sc N d d.V s).1.normal.D) (f:(BU [] (AB.U (AO (BM (C1 u) sc N d d.V s).1.W)++(BM (C1 u) sc N d d.V s).1.T0.all)).length<=1048576) {H:Hp} {n:Nat} (hn:n0<=n) (j:∀o y,st s o=some y->H o=some y):
 BL prog 36 [d.e,sc.e,.fn (.func g) a b] H n (λv h' n'=>v=.tup []/\h'=BD st (BM (C1 u) sc N d d.V s).2 H/\n'=n):=
 ip C hp K i e N d s hl c (qa _) h1 h2 f hn j
end
def H5(p q:Nat)(s:Int×Int)(o:Nat):Option Bb:=if o=p then some (.cells [AA s.1])else if o=q then some (.cells [AA s.2])else none
def Hj(rev:Int)(s:Int×Int)(x:CI):Int×Int:=
 if x.H.uses rev then if x.mid then(IntKind.i64.wrap (s.1+x.units),s.2)else(s.1,IntKind.i64.wrap (s.2+x.units))else s
theorem XU{p q:Nat}(a:p≠q)(s:Int×Int)(H:Hp):BD (H5 p q) s H=h_ (h_ H p (some (.cells [AA s.1]))) q (some (.cells [AA s.2])):=by
 funext o;simp only[BD,H5,h_];by_cases h1:o=p;subst h1;simp[a];by_cases h2:o=q;subst h2;simp[h1];simp[h1,h2]
theorem v37{p q n0:Nat}(d:p≠q)(hp:p<n0)(hq:q<n0)(rev:Int):Zj (H5 p q) n0 37 [] [.q [AA rev],.ptr p 0,.ptr q 0] (Hj rev) (λh=>h.D/\h.V.length<=1048576) where
 lt s o h:=by simp only[H5];rw[if_neg (by omega),if_neg (by omega)]
 dom s s' o h:=by
  simp only[H5]at h ⊢;by_cases f:o=p;rw[if_pos f]at h;cases h;by_cases l:o=q;rw[if_neg f,if_pos l]at h;cases h;rw[if_neg f,if_neg l]
 cl s o y h:=by simp only[H5]at h;split at h<;>first|(cases h;simp[BW,cc,ca])|(split at h<;>first|(cases h;simp[BW,cc,ca])|cases h)
 call s x H n hx _ hn hs:=by
  have a1:H p=some (.cells [AA s.1]):=hs p _ (by simp[H5]);have a2:H q=some (.cells [AA s.2]):=hs q _ (by simp[H5,Ne.symm d]);have b1:p≠n:=by omega
  have b2:q≠n:=by omega
  have r:∀i k,(∀z,i=some z->BW n z=true)->(∀z,k=some z->BW n z=true)->Gm H n->Gm (h_ (h_ H p i) q k) n:=λi k c1 t b j z e=>by
   simp only[h_]at e;split at e;subst_vars;exact⟨by omega,t z rfl⟩;split at e;subst_vars;exact⟨by omega,c1 z rfl⟩;exact b j z e
  refine DO func37 rfl λb=>?_;refine Aa 1 [(1,.q [AA rev]),(2,.ptr p 0),(3,.ptr q 0),(4,.q (x.H.g++[.bool x.mid,AA x.units]))] H n ?_ (λm hm=>?_);simp[go_sem,CI.e,AF.g,IO];refine⟨AZ (b.none (qa n)) (by simp[h_]),AL (λj z e=>(b j z e).1) AC⟩;refine AJ ?_;simp[go_sem,AF.g];refine qz (by simpa[AF.e,AF.g]using c38 x.H hx.1 hx.2 rev) ?_;rw[XU d];cases g:x.H.uses rev with
  | false =>
   simp[go_sem];have c:Hj rev s x=s:=by simp[Hj,g]
   rw[c];have e:h_ (h_ H p (some (.cells [AA s.1]))) q (some (.cells [AA s.2]))=H:=by
    funext j;simp only[h_];split;subst_vars;exact a2.symm;split;subst_vars;exact a1.symm;rfl
   rw[e];exact DK b (by simp[cc,ca]) AC
  | true =>
   cases a:x.mid with
   | true=>
    have c:Hj rev s x=(IntKind.i64.wrap (s.1+x.units),s.2):=by simp[Hj,g,a]
    rw[c];simp[go_sem,a1];refine DK (r _ _ (by rintro z e;cases e;simp[BW,cc,ca]) (by rintro z e;cases e;simp[BW,cc,ca]) b) (by simp[cc,ca]) λj y e=>?_;simp only[h_]at e ⊢;grind
   | false=>
    have c:Hj rev s x=(s.1,IntKind.i64.wrap (s.2+x.units)):=by simp[Hj,g,a]
    rw[c];simp[go_sem,a2];refine DK (r _ _ (by rintro z e;cases e;simp[BW,cc,ca]) (by rintro z e;cases e;simp[BW,cc,ca]) b) (by simp[cc,ca]) λj y e=>?_;simp only[h_]at e ⊢;grind
def HG(sc:BH)(l:List AB):Prop:=sc.a<0\/sc.b<sc.a\/(BF l).1<sc.b
instance(sc:BH)(l:List AB):Decidable (HG sc l):=by unfold HG;infer_instance
def DM(N:Nat)(d:AG)(rev:Int)(sc:BH):Int×Int×Int:=
 if(Eg d sc.id).isSome=false then(0,0,8)
 else if HG sc (((Eg d sc.id).map Fl.items).getD [])then(0,0,2)
 else if(CT d.V rev).2=false then(0,0,22)
 else((BM (C1 (Hj rev)) sc N d d.V (0,0)).2.1,(BM (C1 (Hj rev)) sc N d d.V (0,0)).2.2,0)
def trE:Tr:=.two 0 1 (.two 1 2 (.one 2 (.one 3 (.one 4 .nil))) (.one 1 (.one 3 (.one 4 .nil)))) (.one 0 (.one 2 (.one 3 (.one 4 .nil))))
theorem c13(hp:AF->Prop)(K:Nat)(U:K<=349525)(F:∀h:AF,hp h->(h.D/\h.V.length<=1048576)/\h.D)(N:Nat)(d:AG)(rev:Int)(sc:BH)(hl:Dq hp K N d.W)(E:hp d.T0)(W:d.V.length<=1048576)
 (J:∀fl,Eg d sc.id=some fl->fl.items.length<=1048576/\∀x∈fl.items,x.x.size<=1048576)
 (h1:(BM (C1 (Hj rev)) sc N d d.V (0,0)).1.D) (h2:(BM (C1 (Hj rev)) sc N d d.V (0,0)).1.normal.D) (T:(BU [] (AB.U (AO (BM (C1 (Hj rev)) sc N d d.V (0,0)).1.W)++(BM (C1 (Hj rev)) sc N d d.V (0,0)).1.T0.all)).length<=1048576):
 PC 13 [d.e,AA rev,sc.e] (.tup [AA (DM N d rev sc).1,AA (DM N d rev sc).2.1,AA (DM N d rev sc).2.2]):=by
 intro h n;refine DO func13 rfl λg=>?_;have l:n+3≠n+4:=by omega
 have D:n+4≠n+3:=by omega
 have G:=hl.D (λh e=>(F h e).2) (by omega);refine By 1 [(3,.q ([AK d.W]++d.T0.g++[BE d.V]++d.S.g)),(4,.q [AA rev]),(5,.q [AA sc.id,AA sc.a,AA sc.b]),(6,.ptr (n+3) 0),(7,.ptr (n+4) 0)] (BD (H5 (n+3) (n+4)) (0,0) h) (λm=>n+5=m) ?_ (λm O=>?_);rw[XU l];simp[go_sem,BH.e,AG.e,AF.g,AI.g,IO,qu];refine⟨⟨AZ (by simp[h_];exact g.none (by omega)) (by simp[h_]),AZ (by simp[h_];exact g.none (by omega)) (by simp[h_]),AZ (by simp[h_];exact g.none (by omega)) (by simp[h_])⟩,λj y=>?_⟩;have:=g j y;simp only[h_];grind;subst O;have A:∀(x y z:Int)(H:Hp),H (n+3)=some (.cells [AA x])->H (n+4)=some (.cells [AA y])->(∀j w,j<n->h j=some w->H j=some w)->∀m,CO n H m (.tup [AA x,AA y,AA z]) (Is (.tup [AA x,AA y,AA z]) h n):=λx y z H _ _ V m=>A3 g (λj w e=>V j w (g j w e).1 e) rfl (by simp[cc,ca]);have BV:∀s j w,j<n->h j=some w->BD (H5 (n+3) (n+4)) s h j=some w:=λs j w M e=>by simp only[BD,H5];rw[if_neg (by omega),if_neg (by omega)];exact e
 have g3:∀s,BD (H5 (n+3) (n+4)) s h (n+3)=some (.cells [AA s.1]):=λs=>by simp[BD,H5]
 have u:∀s,BD (H5 (n+3) (n+4)) s h (n+4)=some (.cells [AA s.2]):=λs=>by simp[BD,H5]
 refine By 0 [(3,.q ([AK d.W]++d.T0.g++[BE d.V]++d.S.g)),(4,.q [AA rev]),(5,.q [AA sc.id,AA sc.a,AA sc.b]),(6,.ptr (n+3) 0),(7,.ptr (n+4) 0),(9,AK (((Eg d sc.id).map Fl.items).getD [])),(10,.bool (Eg d sc.id).isSome)] (BD (H5 (n+3) (n+4)) (0,0) h) (λm=>n+5<=m) ?_ (λm O=>?_);simp[go_sem,AF.g,AI.g];refine qz (by simpa[AG.e,AF.g,AI.g]using c34 d sc.id G.1 G.2) ?_;simp[go_sem,IO];cases B:Eg d sc.id with
 | none=>
  have hc:DM N d rev sc=(0,0,8):=by simp[DM,B]
  rw[hc];refine AJ ?_;simp[go_sem,g3,u,AD,AE];refine A 0 0 8 _ ?_ ?_ ?_ _;simp[h_];simp[h_];intro j w M e;rw[AE _ _ (by omega),AE _ _ (by omega)];exact BV _ j w M e
 | some fl=>
 obtain⟨o,p⟩:=J fl B;dsimp only[Option.map_some,Option.getD_some,Option.isSome_some];have f:DM N d rev sc=if HG sc fl.items then(0,0,2)else if(CT d.V rev).2=false then(0,0,22)else((BM (C1 (Hj rev)) sc N d d.V (0,0)).2.1,(BM (C1 (Hj rev)) sc N d d.V (0,0)).2.2,0):=by simp[DM,B]
 refine B5 0 [(3,.q ([AK d.W]++d.T0.g++[BE d.V]++d.S.g)),(4,.q [AA rev]),(5,.q [AA sc.id,AA sc.a,AA sc.b]),(6,.ptr (n+3) 0),(7,.ptr (n+4) 0),(9,AK fl.items)] (BD (H5 (n+3) (n+4)) (0,0) h) m ?_ (λm2 C=>?_);simp[go_sem,IO];subst C;by_cases hb:HG sc fl.items;rw[if_pos hb]at f;rw[f];refine Gz ?_;refine Aa 0 [(3,.q ([AK d.W]++d.T0.g++[BE d.V]++d.S.g)),(4,.q [AA rev]),(5,.q [AA sc.id,AA sc.a,AA sc.b]),(6,.ptr (n+3) 0),(7,.ptr (n+4) 0),(11,AA (BF fl.items).1)] (BD (H5 (n+3) (n+4)) (0,0) h) m ?_ (λm2 C=>?_);simp[go_sem];refine qz (ay fl.items o p) ?_;simp[go_sem,IO];have fin:∀r t m',CO n (h_ (h_ (BD (H5 (n+3) (n+4)) (0,0) h) (n+3) r) (n+4) t) m' (.tup [AA 0,AA 0,AA 2]) (Is (.tup [AA 0,AA 0,AA 2]) h n):=λr t m'=>
  A3 g (λj w e=>by have:=(g j w e).1;rw[AE _ _ (by omega),AE _ _ (by omega)];exact BV _ j w this e) rfl (by simp[cc,ca])
 unfold HG at hb;refine AJ ?_;by_cases a0:sc.a<0;simp[go_sem,g3,u,AD,AE,a0];exact fin _ _ _;by_cases a1:sc.b<sc.a;simp[go_sem,g3,u,AD,AE,a0,a1];exact fin _ _ _;have a2:(BF fl.items).1<sc.b:=by omega
 simp[go_sem,g3,u,AD,AE,a0,a1,a2];exact fin _ _ _;rw[if_neg hb]at f;refine Aa 0 [(3,.q ([AK d.W]++d.T0.g++[BE d.V]++d.S.g)),(4,.q [AA rev]),(5,.q [AA sc.id,AA sc.a,AA sc.b]),(6,.ptr (n+3) 0),(7,.ptr (n+4) 0)] (BD (H5 (n+3) (n+4)) (0,0) h) m ?_ (λm2 C=>?_);unfold HG at hb;have a0:¬sc.a<0:=by omega
 have a1:¬sc.b<sc.a:=by omega
 have a2:¬(BF fl.items).1<sc.b:=by omega
 simp[go_sem];refine qz (ay fl.items o p) ?_;simp[go_sem,IO,a0,a1,a2];have I:=fW d.V W rev;generalize CT d.V rev=R at I f;obtain⟨R,X⟩:=R;cases X with
 | false =>
  have i:DM N d rev sc=(0,0,22):=by simpa using f
  rw[i];have fin:∀r t S m',n+5<=m'->∀q,m'<=q->∀k,CO n (h_ (h_ (h_ (BD (H5 (n+3) (n+4)) (0,0) h) q S) (n+3) r) (n+4) t) k (.tup [AA 0,AA 0,AA 22]) (Is (.tup [AA 0,AA 0,AA 22]) h n):=λr t S m' _ q _ k=>
   A3 g (λj w e=>by have:=(g j w e).1;rw[AE _ _ (by omega),AE _ _ (by omega),AE _ _ (by omega)];exact BV _ j w this e) rfl (by simp[cc,ca])
  refine AJ ?_;have Z:n+3≠m2:=by omega
  have q2:n+4≠m2:=by omega
  simp[go_sem,AF.g,AI.g];refine qz I ?_;simp[go_sem,g3,u,AD,AE,Ah,Z,q2,BC.e];exact fin _ _ _ m2 (by omega) _ (qa _) _
 | true =>
  have i:DM N d rev sc=((BM (C1 (Hj rev)) sc N d d.V (0,0)).2.1,(BM (C1 (Hj rev)) sc N d d.V (0,0)).2.2,0):=by simpa using f
  rw[i];clear f i;refine Aa 0 [(3,.q ([AK d.W]++d.T0.g++[BE d.V]++d.S.g)),(4,.q [AA rev]),(5,.q [AA sc.id,AA sc.a,AA sc.b]),(6,.ptr (n+3) 0),(7,.ptr (n+4) 0)] (BD (H5 (n+3) (n+4)) (0,0) h) m2 ?_ (λP hm3=>?_);simp[go_sem,AF.g,AI.g];refine qz I ?_;simp[go_sem,IO,AD,Ah,BC.e];exact AL (λj z e=>by
   simp only[BD,H5]at e;by_cases x1:j=n+3;omega;by_cases x2:j=n+4;omega;rw[if_neg x1,if_neg x2]at e;have:=(g j z e).1;omega) AC
  have c:=io (sc:=sc) (v37 (n0:=n+5) l (by omega) (by omega) rev) hp K U F N d (0,0) hl E h1 h2 T (H:=BD (H5 (n+3) (n+4)) (0,0) h) (n:=P) (by omega) Cl;generalize(BM (C1 (Hj rev)) sc N d d.V (0,0)).2=s2 at c ⊢;have L:BD (H5 (n+3) (n+4)) s2 (BD (H5 (n+3) (n+4)) (0,0) h)=BD (H5 (n+3) (n+4)) s2 h:=(v37 (n0:=n+5) l (by omega) (by omega) rev).clo.up2 _ _ _;rw[L]at c;refine Aa 0 [(6,.ptr (n+3) 0),(7,.ptr (n+4) 0)] (BD (H5 (n+3) (n+4)) s2 h) P ?_ (λY hm4=>?_);simp[go_sem,AF.g,AI.g];refine wn (bs:=[d.e,sc.e,.fn (.func 37) [] [.q [AA rev],.ptr (n+3) 0,.ptr (n+4) 0]]) 1 AC ?_ ?_;refine⟨?_,?_,?_,trivial⟩;simp[AG.e,AF.g,AI.g,IO];simp[BH.e,IO];exact IO;refine qP c ?_;rintro v H' n' ⟨rfl,rfl,rfl⟩;simp[go_sem,IO];have fin:∀r t k,CO n (h_ (h_ (BD (H5 (n+3) (n+4)) s2 h) (n+3) r) (n+4) t) k (.tup [AA s2.1,AA s2.2,AA 0]) (Is (.tup [AA s2.1,AA s2.2,AA 0]) h n):=λr t k=>
   A3 g (λj w e=>by have:=(g j w e).1;rw[AE _ _ (by omega),AE _ _ (by omega)];exact BV _ j w this e) rfl (by simp[cc,ca])
  refine AX 0 (α:=Unit) (λ_=>[(6,.ptr (n+3) 0),(7,.ptr (n+4) 0),(8,AA 0)]) (λ_=>BD (H5 (n+3) (n+4)) s2 h) (λ_ Q=>Y<=Q) (CK trE rfl (by kernel_rfl) (by kernel_rfl) ?_) (λ_ Q hm5=>?_);have Hn:h_ (h_ (BD (H5 (n+3) (n+4)) s2 h) (n+3) (some (.cells [AA s2.1]))) (n+4) (some (.cells [AA s2.2]))=BD (H5 (n+3) (n+4)) s2 h:=by
   funext j;simp only[h_,BD,H5];grind
  simp[go_sem,trE,IO,g3,u,AE,Hn];refine AJ ?_;simp[go_sem,g3,u];exact A3 g (λj w e=>BV _ j w (g j w e).1 e) rfl (by simp[cc,ca])
section
variable{σ:Type}(f:σ->CI->AF×Bool×σ)(fl:Int->List AB->BH->Bool->σ->List AB×σ)(sc:BH)(mid:Bool)
def kM(q:List cr×σ)(c:cr):List cr×σ:=
 (if(f q.2 ⟨c.H,mid,1⟩).2.1 then q.1++[.mk c.id (f q.2 ⟨c.H,mid,1⟩).1 (fl c.id c.W sc mid (f q.2 ⟨c.H,mid,1⟩).2.2).1]else q.1,(fl c.id c.W sc mid (f q.2 ⟨c.H,mid,1⟩).2.2).2)
def lE(l:List cr)(s:σ):List cr×σ:=l.foldl (kM f fl sc mid) ([],s)
def nG(x:AP)(s:σ):AP×Bool×σ:=
 (.mk (f s ⟨x.H,mid,1⟩).1 (lE f fl sc mid x.cells (f s ⟨x.H,mid,1⟩).2.2).1,(f s ⟨x.H,mid,1⟩).2.1&&decide (0<(lE f fl sc mid x.cells (f s ⟨x.H,mid,1⟩).2.2).1.length),(lE f fl sc mid x.cells (f s ⟨x.H,mid,1⟩).2.2).2)
def kP(q:List AP×σ)(x:AP):List AP×σ:=(if(nG f fl sc mid x q.2).2.1 then q.1++[(nG f fl sc mid x q.2).1]else q.1,(nG f fl sc mid x q.2).2.2)
def lp(l:List AP)(s:σ):List AP×σ:=l.foldl (kP f fl sc mid) ([],s)
def oQ(x:AB)(s:σ):List AB×σ:=if x.k=6 then fl x.id x.W sc mid s else(x.W,s)
def mP(q:List AB×σ)(x:AB):List AB×σ:=
 let r:=f q.2 ⟨x.H,mid,(BF [x]).1⟩
 let w:=oQ fl sc mid x r.2.2
 let v:=lp f fl sc mid x.R w.2
 (if r.2.1 && !(decide (x.k=7)&&decide (v.1.length=0))then q.1++[x.put r.1 w.1 v.1]else q.1,v.2)
def kh(l:List AB)(s:σ):List AB×σ:=l.foldl (mP f fl sc mid) ([],s)
end
def Sd:BH:=⟨-1,0,0⟩
def ch{σ:Type}(f:σ->CI->AF×Bool×σ):Nat->Int->List AB->BH->Bool->σ->List AB×σ
 | 0,_,_,_,_,s=>([],s)
 | N + 1, id, l, sc, mid, s =>
  if id=sc.id/\mid=false then
   let p1:=kh f (ch f N) Sd false (Ab l 0 sc.a).1 s
   let p2:=kh f (ch f N) Sd true (Ab l sc.a sc.b).1 p1.2
   let p3:=kh f (ch f N) Sd false (Ab l sc.b (BF l).1).1 p2.2
   (p1.1++p2.1++p3.1,p3.2)
  else kh f (ch f N) sc mid l s
section
variable{σ:Type}{f:σ->CI->AF×Bool×σ}{fl:Int->List AB->BH->Bool->σ->List AB×σ}{sc:BH}{mid:Bool}
end
section
variable{α σ:Type}{rk:σ->Nat}
variable{f:σ->CI->AF×Bool×σ}{fl:Int->List AB->BH->Bool->σ->List AB×σ}
end
section
variable{σ:Type}
variable{st:σ->Nat->Option Bb}{n0:Nat}{g:FuncId}{a b:List SV}{f:σ->CI->AF×Bool×σ}{ok:AF->Prop}{rk:σ->Nat}{top:Nat}
variable{fl:Int->List AB->BH->Bool->σ->List AB×σ}{mid:Bool}{P:List AB->Prop}{sc:BH}
end
section
variable{σ:Type}{st:σ->Nat->Option Bb}{n0:Nat}{g:FuncId}{a b:List SV}{f:σ->CI->AF×Bool×σ}{ok:AF->Prop}{rk:σ->Nat}{top:Nat}{fl:Int->List AB->BH->Bool->σ->List AB×σ}{mid:Bool}{P:List AB->Prop}{sc:BH}
end
section
variable{σ:Type}{st:σ->Nat->Option Bb}{n0:Nat}{g:FuncId}{a b:List SV}{f:σ->CI->AF×Bool×σ}{ok:AF->Prop}{rk:σ->Nat}{top:Nat}{fl:Int->List AB->BH->Bool->σ->List AB×σ}{P:List AB->Prop}
end
def DN:AF:=⟨[],0,0,[],[]⟩
theorem oa{h h2:Hp}{n n':Nat}{v r:SV}(k:Nat)(c:Gm h n)(a:Fz h2 h k v r)(hc:cc n r=true)(b:∀j y,h j=some y->h2 j=some y):CO n h2 n' v (λw h' n'=>w=r/\h'=h/\n'=n):=
 .inr ⟨k,r,h,a,hc,λj x e=>⟨b j x e,c j x e⟩,rfl,rfl,rfl⟩
section
variable{σ:Type}{st:σ->Nat->Option Bb}{n0:Nat}{g:FuncId}{a b:List SV}{f:σ->CI->AF×Bool×σ}{ok:AF->Prop}{rk:σ->Nat}{top:Nat}{sc:BH}
def pO(f:σ->CI->AF×Bool×σ)(sc:BH)(N:Nat)(d:AG)(revs:List BC)(s:σ):AG×σ:=
 (⟨(ch f N 0 d.W sc false s).1,(f (ch f N 0 d.W sc false s).2 ⟨d.T0,false,1⟩).1,revs,d.S⟩,(f (ch f N 0 d.W sc false s).2 ⟨d.T0,false,1⟩).2.2)
def pN(f:σ->CI->AF×Bool×σ)(sc:BH)(N:Nat)(d:AG)(s:σ):AG×σ:=pO f sc N d [] s
end
def TC(f:FuncId)(args:List SV)(T:SV->Prop):Prop:=∀h n,BL prog f args h n (λv h' n'=>T v/\h'=h/\n'=n)
theorem TC.use{E:CC}{f:FuncId}{args:List SV}{T:SV->Prop}(H:TC f args T){h:Hp}{n:Nat}{K:SV->Hp->Nat->Prop}(d:∀v,T v->K v h n):Ap E prog f args h n K:=
 Ap.lift<|(H h n).mono λv _ _ ⟨a,b,c⟩=>by subst b;subst c;exact d v a
theorem TC.mono{f:FuncId}{args:List SV}{T T':SV->Prop}(H:TC f args T)(ht:∀v,T v->T' v):TC f args T':=λh n=>(H h n).mono λv _ _ ⟨a,b⟩=>⟨ht v a,b⟩
theorem On{h h':Hp}{n n':Nat}{v:SV}{T:SV->Prop}(c:Gm h n)(b:∀o x,h o=some x->h' o=some x)(hc:cc n v=true)(a:T v):CO n h' n' v (λe h2 d=>T e/\h2=h/\d=n):=
 CO.plain hc c b ⟨a,rfl,rfl⟩
theorem ZV{h h':Hp}{n n':Nat}{a v:SV}{T:SV->Prop}(k:Nat)(d:Gm h n)(c:∀o x,h o=some x->h' o=some x)(e:Fz h' h k a v)(hc:cc n v=true)(b:T v):CO n h' n' a (λg h2 f=>T g/\h2=h/\f=n):=
 .inr ⟨k,v,h,e,hc,λo x e=>⟨c o x e,d o x e⟩,b,rfl,rfl⟩
def Zd(T:Prop)(v:SV):Prop:=∃e:Int,v=AA e/\(e=0->T)
def Wb(x:AB):Prop:=(x.k≠6->x.W=[])/\(x.k≠7->x.R=[])/\A5 x.x=true
structure Bx where
 b:Bool
def H4(l:List (Int×Int)):List (SV×SV):=l.map λx=>(AA x.1,AA x.2)
structure Ck where
 p:Nat
 s0:Nat
 s1:Nat
 s2:Nat
 s3:Nat
 s4:Nat
 m0:List (Int×Int)
 m1:List Int
 m2:List Int
structure Ck.ok(K:Ck)(n0:Nat):Prop where
 nd:[K.p,K.s0,K.s1,K.s2,K.s3,K.s4].Nodup
 lt:∀o∈[K.p,K.s0,K.s1,K.s2,K.s3,K.s4],o<n0
abbrev GR:=List Int×Int
def Ck.cells(K:Ck)(c:Int):List SV:=[.map K.s0,.map K.s1,.map K.s2,.map K.s3,.map K.s4,AA c]
def Ck.st(K:Ck)(s:GR)(o:Nat):Option Bb:=
 if o=K.p then some (.cells (K.cells s.2))else if o=K.s3 then some (.map (FC s.1))else if o=K.s0 then some (.map (H4 K.m0))else if o=K.s1 then some (.map (FC K.m1))else if o=K.s2 then some (.map (FC K.m2))else if o=K.s4 then some (.map [])else none
section
variable{K:Ck}{n0:Nat}
theorem Ck.ok.clo(h:K.ok n0):Pn K.st n0 0 [] [] (λs p=>(p.H,true,s)) (λ_=>False) where
 lt s o ho:=by
  have h1:=h.lt;simp only[qt,List.not_mem_nil,or_false,forall_eq_or_imp,forall_eq]at h1;unfold Ck.st;rw[if_neg (by omega),if_neg (by omega),if_neg (by omega),if_neg (by omega),if_neg (by omega),if_neg (by omega)]
 dom s s' o ho:=by
  unfold Ck.st at ho ⊢
  repeat' split at ho
  all_goals first|cases ho|skip
  simp only[*,if_false]
 cl s o y ho:=by
  have h1:=h.lt;simp only[qt,List.not_mem_nil,or_false,forall_eq_or_imp,forall_eq]at h1;unfold Ck.st at ho
  repeat' split at ho
  all_goals first|cases ho|skip
  . simp[BW,Ck.cells,cc,ca];omega
  exact IJ _ _;simp[BW,H4,cc];exact IJ _ _;exact IJ _ _;simp[BW]
 call:=λ_ _ _ _ h=>h.elim
structure Ck.has(K:Ck)(s:GR)(H:Hp):Prop where
 p:H K.p=some (.cells (K.cells s.2))
 s0:H K.s0=some (.map (H4 K.m0))
 s1:H K.s1=some (.map (FC K.m1))
 s2:H K.s2=some (.map (FC K.m2))
 s3:H K.s3=some (.map (FC s.1))
 s4:H K.s4=some (.map [])
theorem Ck.ok.has(h:K.ok n0){s:GR}{H:Hp}(a:∀o y,K.st s o=some y->H o=some y):K.has s H:=by
 have h1:=h.nd;simp only[vd,qt,List.not_mem_nil,or_false,not_or]at h1;obtain⟨⟨a1,a2,a3,a4,a5⟩,⟨b2,b3,b4,b5⟩,⟨c3,c4,c5⟩,⟨d4,d5⟩,e5,_⟩:=h1;constructor<;>refine a _ _ ?_<;>unfold Ck.st<;>simp[*,Ne.symm,eq_comm]
def CQ(K:Ck)(T:Int->GR->Prop)(H:Hp)(n:Nat):SV->Hp->Nat->Prop:=λv h' n'=>∃e s',v=AA e/\T e s'/\h'=BD K.st s' H/\n'=n
theorem Ck.ok.ret(b:K.ok n0){T:Int->GR->Prop}{H h2:Hp}{n m:Nat}(hn:n0<=n)(f:Gm H n)(e:Int)(a:GR)(c:T e a)(d:∀j y,BD K.st a H j=some y->h2 j=some y):CO n h2 m (AA e) (CQ K T H n):=
 .inr ⟨0,AA e,BD K.st a H,IO,by simp[cc],λj x g=>⟨d j x g,b.clo.old a hn f j x g⟩,e,a,rfl,c,rfl,rfl⟩
theorem Ck.ok.no(a:K.ok n0){T:Int->GR->Prop}{H h2:Hp}{n m:Nat}(hn:n0<=n)(d:Gm H n)(s:GR)(f:∀o y,K.st s o=some y->H o=some y)(e:Int)(b:T e s)(c:∀j y,H j=some y->h2 j=some y):CO n h2 m (AA e) (CQ K T H n):=
 a.ret hn d e s b (by rw[Fq s H f];exact c)
theorem Nv(l:List Int)(x:Int):FC l++[(AA x,.bool true)]=FC (l++[x]):=by simp[FC]
theorem Ck.ok.up_ids(d:K.ok n0)(s:GR)(l:List Int){H:Hp}(e:∀o y,K.st s o=some y->H o=some y):BD K.st (l,s.2) H=h_ H K.s3 (some (.map (FC l))):=by
 have h1:=d.nd;simp only[vd,qt,List.not_mem_nil,or_false,not_or]at h1;obtain⟨⟨a1,a2,a3,a4,a5⟩,⟨b2,b3,b4,b5⟩,⟨c3,c4,c5⟩,⟨d4,d5⟩,e5,_⟩:=h1;funext o;have g:=e o;simp only[BD,Ck.st,h_]at g ⊢;by_cases b:o=K.p;subst b;simp only[if_true]at g ⊢;rw[if_neg a4];exact(g _ rfl).symm;by_cases c:o=K.s3;have a:¬K.s3=K.p:=λh=>a4 h.symm;simp[c,a];simp only[b,c,if_false]at g ⊢;split;rename_i y f;exact(g y f).symm;rfl
end
def trL:Tr:=.pure 0<|.pure 1<|.pure 2<|.pure 3<|.pure 5<|.pure 6<|.pure 7<|.pure 8<|.pure 9<|.one 4<|.one 10<|.one 11<|.one 12<|.one 13 .nil
section
variable{K:Ck}{n0:Nat}
end
section
variable{K:Ck}{n0:Nat}
end
structure UN(m2:List Int)(h:AF):Prop where
 I:h.I=0\/h.I∈m2
 dlen:h.Y.length<=16
 Y:∀x∈h.Y,x.rev∈m2
 llen:h.Z.length<=64
 Z:∀x∈h.Z,x.rev∈m2
structure Hd(m2:List Int)(h:AF):Prop extends UN m2 h where
 inc:∀i (hi:i<h.Y.length),0<i->h.Y[i-1].rev<h.Y[i].rev
 mv:0<=h.move
 dmv:∀x∈h.Y,0<=x.move
section
variable{K:Ck}{n0:Nat}
end
def GU:Nat->List AB->List Int
 | 0,_=>[]
 | N+1,l=>l.flatMap λx=>if x.k=6 then x.id::GU N x.W else if x.k=7 then x.id::x.R.flatMap λr=>r.cells.flatMap λc=>c.id::GU N c.W else[]
def Io(N:Nat)(r:AP):List Int:=r.cells.flatMap λc=>c.id::GU N c.W
def GT(N:Nat)(x:AB):List Int:=if x.k=6 then x.id::GU N x.W else if x.k=7 then x.id::x.R.flatMap (Io N)else[]
theorem JW(N:Nat)(l:List AB):GU (N+1) l=l.flatMap (GT N):=rfl
def Xr(m2:List Int):Nat->List AB->Prop
 | 0,_=>True
 | N+1,l=>∀x∈l,Wb x/\Hd m2 x.H/\Xr m2 N x.W/\(x.k=7->x.R≠[])/\∀r∈x.R,(Hd m2 r.H/\r.cells≠[])/\∀c∈r.cells,Hd m2 c.H/\Xr m2 N c.W
theorem Yh(m2:List Int)(N:Nat):Xr m2 N []:=by cases N<;>simp[Xr]
def more(s s':GR)(ids:List Int):Prop:=s'.1=s.1++ids/\(∀i∈ids,1<=i/\i<=1073741824)/\(s.1.Nodup->s'.1.Nodup)
def trP:Tr:=.pure 0<|.pure 1<|.pure 2<|.pure 3<|.pure 4<|.pure 5<|.one 6<|.one 7 .nil
section
variable{K:Ck}{n0:Nat}
theorem Eo{α β:Type}(f:α->List β)(l:List α)(i:Nat)(h:i<l.length):(l.take (i+1)).flatMap f=(l.take i).flatMap f++f l[i]:=by
 rw[qb h,Jk];simp
end
section
variable{K:Ck}{n0:Nat}
theorem Ck.ok.up_cnt(_hK:K.ok n0)(s:GR)(c:Int){H:Hp}(b:∀o y,K.st s o=some y->H o=some y):BD K.st (s.1,c) H=h_ H K.p (some (.cells (K.cells c))):=by
 funext o;have g:=b o;simp only[BD,Ck.st,h_]at g ⊢;by_cases a:o=K.p;simp[a];simp only[a,if_false]at g ⊢;split;rename_i y d;exact(g y d).symm;rfl
def EB(x:AB):List Int:=if x.k=6\/x.k=7 then[x.id]else[]
end
def da:Tr:=.pure 0<|.pure 1<|.pure 2<|.pure 4<|.pure 5<|.pure 6<|.pure 7<|.pure 9<|.pure 10<|.pure 11<|.pure 12<|.one 3<|.one 8<|.one 13<|.one 14<|.one 15<|.one 16 .nil
section
variable{K:Ck}{n0:Nat}
def TE(N:Nat)(c:cr):List Int:=c.id::GU N c.W
theorem YS(N:Nat)(r:AP):Io N r=r.cells.flatMap (TE N):=rfl
theorem Ik{a:Int}{l:List Int}(h:Bc (a::l)=0):a=0:=by
 rw[Bc]at h;by_cases g:a=0;exact g;rw[if_neg g]at h;exact h
end
def hb(h:Hp)(n:Nat)(a0:List (Int×Int))(a1 a2:List Int):Hp:=
 h_ (h_ (h_ (h_ (h_ (h_ h (n+1) (some (.map (H4 a0)))) (n+2) (some (.map (FC a1)))) (n+3) (some (.map (FC a2)))) (n+4) (some (.map []))) (n+5) (some (.map []))) (n+6) (some (.cells [.map (n+1),.map (n+2),.map (n+3),.map (n+4),.map (n+5),AA 0]))
section
variable{h:Hp}{n:Nat}{a0:List (Int×Int)}{a1 a2:List Int}
theorem Qh:hb h n a0 a1 a2 (n+6)=some (.cells [.map (n+1),.map (n+2),.map (n+3),.map (n+4),.map (n+5),AA 0]):=by simp[hb,h_]
theorem Me:hb h n a0 a1 a2 (n+1)=some (.map (H4 a0)):=by simp[hb,h_]
theorem F8:hb h n a0 a1 a2 (n+2)=some (.map (FC a1)):=by simp[hb,h_]
theorem KL:hb h n a0 a1 a2 (n+3)=some (.map (FC a2)):=by simp[hb,h_]
theorem TD:hb h n a0 a1 a2 (n+4)=some (.map []):=by simp[hb,h_]
theorem Xn:hb h n a0 a1 a2 (n+5)=some (.map []):=by simp[hb,h_]
theorem jG(b:List (Int×Int)):h_ (hb h n a0 a1 a2) (n+1) (some (.map (H4 b)))=hb h n b a1 a2:=by funext j;simp only[hb,h_];grind
theorem jH(b:List Int):h_ (hb h n a0 a1 a2) (n+2) (some (.map (FC b)))=hb h n a0 b a2:=by funext j;simp only[hb,h_];grind
theorem jI(b:List Int):h_ (hb h n a0 a1 a2) (n+3) (some (.map (FC b)))=hb h n a0 a1 b:=by funext j;simp only[hb,h_];grind
theorem Wl(a:∀j y,h j=some y->j<n):∀j y,hb h n a0 a1 a2 j=some y->j<n+7:=λj y e=>by
 have:=a j y;simp only[hb,h_]at e;grind
theorem aB(a:∀j y,h j=some y->j<n):∀j y,h j=some y->hb h n a0 a1 a2 j=some y:=λj y e=>by
 have:=a j y;simp only[hb,h_];grind
end
def dQ:Tr:=.pure 0<|.pure 1<|.pure 3<|.pure 4<|.one 2<|.one 5<|.one 6<|.one 7<|.one 8 .nil
def Yz:Tr:=.pure 0<|.pure 1<|.pure 2<|.pure 4<|.pure 5<|.pure 6<|.one 3<|.one 7<|.one 8<|.one 9<|.one 10<|.one 11<|.one 12<|.one 13<|.one 14<|.one 15<|.one 16<|.one 17<|.one 18<|.one 19<|.one 20<|.one 21 .nil
structure Re(N:Nat)(d:AG):Prop where
 W:Xr (BU [] (d.V.map (·.id))) N d.W
 ids:∀i∈GU N d.W,1<=i/\i<=1073741824
 nodup:(GU N d.W).Nodup
 V:El d.V=0
 T0 : Hd (BU [] (d.V.map (·.id))) d.T0
 endI:d.T0.I=0
def Tm:Nat->List AB->Nat
 | 0,_=>0
 | N+1,l=>(l.map λx=>1+Tm N x.W+(x.R.map λr=>(r.cells.map λc=>1+Tm N c.W).sum).sum).sum
def Tn(N:Nat)(l:List cr):Nat:=(l.map λc=>1+Tm N c.W).sum
def QW(N:Nat)(l:List AP):Nat:=(l.map λr=>Tn N r.cells).sum
def OV(N:Nat)(l:List AB):Nat:=(l.map λx=>1+Tm N x.W+QW N x.R).sum
theorem XY(N:Nat)(l:List AB):Tm (N+1) l=OV N l:=rfl
theorem OS{α:Type}{f:α->Nat}{l:List α}{i:Nat}(hi:i<l.length){x:α}(a:l[i]=x):((l.take (i+1)).map f).sum=((l.take i).map f).sum+f x:=by
 rw[qb hi,a];simp
theorem US(N:Nat):∀l:List AB,l.length<=OV N l
 | []=>qa _
 | x::l=>by
  have:=US N l;simp only[OV,qr,XW,qJ]at this ⊢;omega
def Og:Nat->List AB->Prop
 | 0,_=>False
 | N+1,l=>l.length<=150/\∀x∈l,(x.x.size<=1000/\x.R.length<=20)/\Og N x.W/\∀r∈x.R,r.cells.length<=20/\∀c∈r.cells,Og N c.W
def Z9(N:Nat)(x:AB):Prop:=(x.x.size<=1000/\x.R.length<=20)/\Og N x.W/\∀r∈x.R,r.cells.length<=20/\∀c∈r.cells,Og N c.W
def Zy(N:Nat)(l:List AB)(c0:Int)(p:Nat)(H:Hp)(n:Nat):SV->Hp->Nat->Prop:=λv h' n'=>∃b c,v=.bool b/\h'=h_ H p (some (.cells [AA c]))/\n'=n/\(b=true->0<=c0/\c0<=150->0<=c/\c+Tm N l<=c0/\Og N l)
def Xt(N:Nat)(l:List AB):Prop:=∀(dp:Int)(p:Nat)(c0:Int)(H:Hp)(n:Nat),H p=some (.cells [AA c0])->BL prog 33 [AK l,AA dp,.ptr p 0] H n (Zy N l c0 p H n)
theorem OR{α:Type}{p:α->Prop}{l:List α}{i:Nat}(hi:i<l.length){x:α}(b:l[i]=x)(h:∀y∈l.take i,p y)(h2:p x):∀y∈l.take (i+1),p y:=λy a=>by
 rw[qb hi,b]at a;rcases qd.1 a with a|a;exact h y a;rw[qy.1 a];exact h2
theorem d33(N:Nat)(l:List AB)(hl:l.length<=1048576)(hr:∀x∈l,x.H.Q.length<=1048576/\Xt N x.W/\x.R.length<=1048576/\∀r∈x.R,r.cells.length<=1048576/\∀c∈r.cells,Xt N c.W):Xt (N+1) l:=λdp p c0 H n hp=>by
 refine DO func33 rfl λho=>?_;have hpn:p<n:=(ho p _ hp).1;obtain⟨B,hB⟩:∃B:Int->Hp,∀c,B c=h_ H p (some (.cells [AA c])):=⟨_,λ_=>rfl⟩
 have hBp:∀c,B c p=some (.cells [AA c]):=λc=>by rw[hB,AD]
 have hBs:∀c c',h_ (B c) p (some (.cells [AA c']))=B c':=λc c'=>by rw[hB,hB,Ah]
 have hB0 : B c0 = H := by rw [hB]; funext j; simp only [h_]; split; · subst_vars; exact hp.symm
                           rfl
 have As:∀(b:Bool)(c:Int)(m:Nat),(b=true->0<=c0/\c0<=150->0<=c/\c+Tm (N+1) l<=c0/\Og (N+1) l)->CO n (B c) m (.bool b) (Zy (N+1) l c0 p H n):=λb c m hb=>
  .inr ⟨0,.bool b,B c,IO,by simp[cc],λj y e=>⟨e,by
   rw[hB]at e;by_cases h:j=p;subst h;rw[AD]at e;cases e;exact⟨hpn,by simp[BW,cc,ca]⟩;rw[AE _ _ h]at e;exact ho j y e⟩,b,c,rfl,hB c,rfl,hb⟩
 have ret:∀(c:Int)(m:Nat),CO n (B c) m (.bool false) (Zy (N+1) l c0 p H n):=λc m=>As false c m (by simp);refine Aa 0 [(0,AK l),(1,AA dp),(2,.ptr p 0)] (B c0) n ?_ (λm hm=>?_);rw[hB0];simp[go_sem,IO];refine AX 0 (α:=Int) (λ_=>[]) (λc=>B c) (λc m=>n<=m/\(0<=c0/\c0<=150->0<=c/\c+OV N l<=c0/\∀x∈l,Z9 N x)) ?_ (λc m hm=>?_);refine Aa 0 [(0,AK l),(1,AA dp),(2,.ptr p 0),(7,AA 0)] (B c0) n ?_ (λm hm=>?_);simp[go_sem,IO,hm];refine AY (BT 0 (α:=Nat×Int) (λq=>[(0,AK l),(1,AA dp),(2,.ptr p 0),(7,AA q.1)]) (λq=>B q.2) (λq m=>q.1<=l.length/\n<=m/\(0<=c0/\c0<=150->0<=q.2/\q.2+OV N (l.take q.1)<=c0/\∀x∈l.take q.1,Z9 N x)) (λq=>l.length-q.1) (0,c0) ⟨qg _,hm,λg=>⟨g.1,by simp[OV],by simp⟩⟩ ?_ AC ?_);simp[go_sem,Ao,IO];rintro⟨i,c⟩ m ⟨hi,hm,hG⟩;dsimp only at hi hG ⊢;by_cases hlt:i<l.length;obtain⟨x,hx⟩:∃x,l[i]=x:=⟨_,rfl⟩
 have hxm:x∈l:=by rw[<-hx];exact qi hlt
 obtain⟨x1,x2,x3,x4⟩:=hr x hxm;have w1:=wS i (by omega);refine Aa 0 [(0,AK l),(1,AA dp),(2,.ptr p 0),(7,AA i)] (B c) n ?_ (λm hm=>?_);simp[go_sem,IO,hm,hlt];refine AX 0 (α:=Int) (λ_=>[(0,AK l),(1,AA dp),(2,.ptr p 0),(7,AA i)]) (λc=>B c) (λc m=>n<=m/\(0<=c0/\c0<=150->0<=c/\c+OV N (l.take (i+1))<=c0/\Z9 N x)) ?_ (λc m hm=>?_);refine AY ?_;refine B8 0 (α:=Int) (λ_=>[(0,AK l),(1,AA dp),(2,.ptr p 0),(7,AA i)]) (λc=>B c) (λc' m=>n<=m/\(0<=c0/\c0<=150->c'=c-1)) ?_ (λc' m hm=>?_);simp[go_sem,IO,hm,hBp,hBs];exact⟨_,λg1 g2=>by obtain⟨q1,q2,_⟩:=hG ⟨g1,g2⟩;rw[DA]<;>omega,AC⟩;obtain⟨hm,hc'⟩:=hm;refine AX 0 (α:=Int) (λ_=>[(0,AK l),(1,AA dp),(2,.ptr p 0),(7,AA i)]) (λc=>B c) (λc2 m=>n<=m/\(0<=c0/\c0<=150->0<=c2/\c2+Tm N x.W<=c'/\(x.x.size<=1000/\x.R.length<=20)/\Og N x.W)) ?_ (λc m hm=>?_);refine B8 0 (α:=Bx×Int) (λq=>[(0,AK l),(1,AA dp),(2,.ptr p 0),(7,AA i),(68,.bool q.1.b)]) (λq=>B q.2) (λq m=>n<=m/\(q.1.b=false->0<=c0/\c0<=150->0<=q.2/\q.2+Tm N x.W<=c'/\(x.x.size<=1000/\x.R.length<=20)/\Og N x.W)) ?_ (λq m hm=>?_);generalize c'=c at hc' ⊢;by_cases a1:c<0;simp[go_sem,IO,hm,hBp,a1];exact⟨⟨true⟩,c,by simp,rfl,AC⟩;by_cases a2:dp=0;simp[go_sem,IO,hm,hBp,a1,a2];exact⟨⟨true⟩,c,by simp,rfl,AC⟩;by_cases a3:(1000:Int)<x.x.size;simp[go_sem,IO,hm,hBp,a1,a2,hlt,hx,qw,a3];exact⟨⟨true⟩,c,by simp,rfl,AC⟩;by_cases a4:(60:Int)<x.H.Q.length;simp[go_sem,IO,hm,hBp,a1,a2,hlt,hx,qw,a3,a4];exact⟨⟨true⟩,c,by simp,rfl,AC⟩;by_cases a5:(20:Int)<x.R.length;simp[go_sem,IO,hm,hBp,a1,a2,hlt,hx,qw,a3,a4,a5];exact⟨⟨true⟩,c,by simp,rfl,AC⟩;simp[go_sem,hBp,a1,a2,hlt,hx,qw,a3,a4,a5];refine qP (x2 _ p c (B c) m (hBp c)) ?_;rintro v H' n' ⟨b,c2,rfl,rfl,rfl,hb⟩;rw[hBs];simp[go_sem,IO,hm];exact⟨⟨!b⟩,c2,λg ga gb=>by
  have g1:0<=c0/\c0<=150:=⟨ga,gb⟩
  obtain⟨q1,q2,q3⟩:=hG g1;have e1:=hc' g1;obtain⟨r1,r2,r3⟩:=hb (by simpa using g) ⟨by omega,by omega⟩;exact⟨r1,r2,⟨by omega,by omega⟩,r3⟩,rfl,AC⟩
 obtain⟨⟨b⟩,c2⟩:=q;obtain⟨hm,hb⟩:=hm;dsimp only at hb ⊢;cases b with
 | true=>exact AJ (by simp[go_sem];exact ret c2 _)
 | false=>exact AJ (by simp[go_sem,IO,hm];exact⟨_,λg1 g2=>hb rfl ⟨g1,g2⟩,AC⟩)
 obtain⟨hm,hx2⟩:=hm;have hts:=OS (f:=λx=>1+Tm N x.W+QW N x.R) hlt hx;change OV N _=OV N _+_ at hts;obtain⟨S,hS⟩:∃S:Nat,S=OV N (l.take i)+1+Tm N x.W:=⟨_,rfl⟩
 have hSt:OV N (l.take (i+1))=S+QW N x.R:=by omega
 rw[hSt];clear hts;have hG2:0<=c0/\c0<=150->0<=c/\c+S<=c0/\(x.x.size<=1000/\x.R.length<=20)/\Og N x.W:=λg=>by
  obtain⟨q1,q2,_⟩:=hG g;obtain⟨r1,r2,r3,r4⟩:=hx2 g;have:=hc' g;exact⟨r1,by omega,r3,r4⟩
 clear hG hx2 hc';refine Aa 0 [(0,AK l),(1,AA dp),(2,.ptr p 0),(7,AA i),(8,AA 0)] (B c) n ?_ (λm hm=>?_);simp[go_sem,IO,hm];refine AY (BT 0 (α:=Nat×Int) (λq=>[(0,AK l),(1,AA dp),(2,.ptr p 0),(7,AA i),(8,AA q.1)]) (λq=>B q.2) (λq m=>q.1<=x.R.length/\n<=m/\(0<=c0/\c0<=150->0<=q.2/\q.2+(S+QW N (x.R.take q.1):Nat)<=c0/\∀r∈x.R.take q.1,r.cells.length<=20/\∀z∈r.cells,Og N z.W)) (λq=>x.R.length-q.1) (0,c) ⟨qg _,hm,λg=>⟨(hG2 g).1,(hG2 g).2.1,by simp⟩⟩ ?_ AC ?_);simp[go_sem,Ao,IO];have hx3:0<=c0/\c0<=150->(x.x.size<=1000/\x.R.length<=20)/\Og N x.W:=λg=>(hG2 g).2.2;clear hG2;rintro⟨j,c⟩ m ⟨hj,hm,hG⟩;dsimp only at hj hG ⊢;by_cases hjt:j<x.R.length;obtain⟨y,hy⟩:∃y,x.R[j]=y:=⟨_,rfl⟩
 have hym:y∈x.R:=by rw[<-hy];exact qi hjt
 obtain⟨y1,y2⟩:=x4 y hym;have w2:=wS j (by omega);have hts:=OS (f:=λr:AP=>Tn N r.cells) hjt hy;change QW N _=QW N _+_ at hts;obtain⟨U,hU⟩:∃U:Nat,U=S+QW N (x.R.take j):=⟨_,rfl⟩
 have hUt:S+QW N (x.R.take (j+1))=U+Tn N y.cells:=by omega
 rw[<-hU]at hG;clear hts;refine Aa 0 [(0,AK l),(1,AA dp),(2,.ptr p 0),(7,AA i),(8,AA j)] (B c) n ?_ (λm hm=>?_);simp[go_sem,IO,hm,hlt,hx,qw,hjt];refine AX 0 (α:=Int) (λ_=>[(0,AK l),(1,AA dp),(2,.ptr p 0),(7,AA i),(8,AA j)]) (λc=>B c) (λc m=>n<=m/\(0<=c0/\c0<=150->0<=c/\c+(S+QW N (x.R.take (j+1)):Nat)<=c0/\y.cells.length<=20/\∀z∈y.cells,Og N z.W)) ?_ (λc m hm=>?_);refine AY ?_;refine Bg 0 [(0,AK l),(1,AA dp),(2,.ptr p 0),(7,AA i),(8,AA j)] (B c) (λm=>n<=m/\y.cells.length<=20) (AJ ?_) (λm hm=>?_);by_cases a:(20:Int)<y.cells.length;simp[go_sem,hlt,hx,qw,hjt,hy,Yw,a];exact ret c _;simp[go_sem,hlt,hx,qw,hjt,hy,Yw,a,IO,hm];omega;obtain⟨hm,hyc⟩:=hm;refine Aa 0 [(0,AK l),(1,AA dp),(2,.ptr p 0),(7,AA i),(8,AA j),(9,AA 0)] (B c) n ?_ (λm hm=>?_);simp[go_sem,IO,hm];refine AY (BT 0 (α:=Nat×Int) (λq=>[(0,AK l),(1,AA dp),(2,.ptr p 0),(7,AA i),(8,AA j),(9,AA q.1)]) (λq=>B q.2) (λq m=>q.1<=y.cells.length/\n<=m/\(0<=c0/\c0<=150->0<=q.2/\q.2+(U+Tn N (y.cells.take q.1):Nat)<=c0/\∀z∈y.cells.take q.1,Og N z.W)) (λq=>y.cells.length-q.1) (0,c) ⟨qg _,hm,λg=>⟨(hG g).1,(hG g).2.1,by simp⟩⟩ ?_ AC ?_);simp[go_sem,Ao,IO];clear hG;rintro⟨k,c⟩ m ⟨hk,hm,hG⟩;dsimp only at hk hG ⊢;by_cases hkt:k<y.cells.length;obtain⟨z,hz⟩:∃z,y.cells[k]=z:=⟨_,rfl⟩
 have hzm:z∈y.cells:=by rw[<-hz];exact qi hkt
 have z1:=y2 z hzm;have w3:=wS k (by omega);have hts:=OS (f:=λc:cr=>1+Tm N c.W) hkt hz;change Tn N _=Tn N _+_ at hts;refine Aa 0 [(0,AK l),(1,AA dp),(2,.ptr p 0),(7,AA i),(8,AA j),(9,AA k)] (B c) n ?_ (λm hm=>?_);simp[go_sem,IO,hm,hlt,hx,qw,hjt,hy,Yw,hkt];refine AX 0 (α:=Int) (λ_=>[(0,AK l),(1,AA dp),(2,.ptr p 0),(7,AA i),(8,AA j),(9,AA k)]) (λc=>B c) (λc m=>n<=m/\(0<=c0/\c0<=150->0<=c/\c+(U+Tn N (y.cells.take (k+1)):Nat)<=c0/\Og N z.W)) ?_ (λc m hm=>?_);refine AY ?_;refine B8 0 (α:=Int) (λ_=>[(0,AK l),(1,AA dp),(2,.ptr p 0),(7,AA i),(8,AA j),(9,AA k)]) (λc=>B c) (λc' m=>n<=m/\(0<=c0/\c0<=150->c'=c-1)) ?_ (λc' m hm=>?_);simp[go_sem,IO,hm,hBp,hBs];exact⟨_,λg1 g2=>by obtain⟨q1,q2,_⟩:=hG ⟨g1,g2⟩;rw[DA]<;>omega,AC⟩;obtain⟨hm,hc'⟩:=hm;refine B8 0 (α:=Bx×Int) (λq=>[(0,AK l),(1,AA dp),(2,.ptr p 0),(7,AA i),(8,AA j),(9,AA k),(132,.bool q.1.b)]) (λq=>B q.2) (λq m=>n<=m/\(q.1.b=false->0<=c0/\c0<=150->0<=q.2/\q.2+Tm N z.W<=c'/\Og N z.W)) ?_ (λq m hm=>?_);generalize c'=c at hc' ⊢;by_cases a1:c<0;simp[go_sem,IO,hm,hBp,a1];exact⟨⟨true⟩,c,by simp,rfl,AC⟩;simp[go_sem,hBp,a1,hlt,hx,qw,hjt,hy,Yw,hkt,hz,Us];refine qP (z1 _ p c (B c) m (hBp c)) ?_;rintro v H' n' ⟨b,c2,rfl,rfl,rfl,hb⟩;rw[hBs];simp[go_sem,IO,hm];exact⟨⟨!b⟩,c2,λg ga gb=>by
  have g1:0<=c0/\c0<=150:=⟨ga,gb⟩
  obtain⟨q1,q2,q3⟩:=hG g1;have e1:=hc' g1;exact hb (by simpa using g) ⟨by omega,by omega⟩,rfl,AC⟩
 obtain⟨⟨b⟩,c2⟩:=q;obtain⟨hm,hb⟩:=hm;dsimp only at hb ⊢;cases b with
 | true=>exact AJ (by simp[go_sem];exact ret c2 _)
 | false=>exact AJ (by simp[go_sem,IO,hm];exact⟨_,λg1 g2=>by
  obtain⟨q1,q2,_⟩:=hG ⟨g1,g2⟩;obtain⟨r1,r2,r3⟩:=hb rfl ⟨g1,g2⟩;have:=hc' ⟨g1,g2⟩;exact⟨r1,by omega,r3⟩,AC⟩)
 obtain⟨hm,hz2⟩:=hm;refine AJ ?_;simp[go_sem,w3,IO,-Int.natCast_add];exact⟨k+1,by omega,c,⟨by omega,hm,λga gb=>⟨(hz2 ⟨ga,gb⟩).1,(hz2 ⟨ga,gb⟩).2.1,OR hkt hz (hG ⟨ga,gb⟩).2.2 (hz2 ⟨ga,gb⟩).2.2⟩⟩,rfl,AC⟩;refine AJ ?_;have hkk:k=y.cells.length:=by omega
 rw[hkk,qm]at hG;simp[go_sem,hlt,hx,qw,hjt,hy,Yw,hkt,IO,hm];exact⟨c,λg1 g2=>⟨(hG ⟨g1,g2⟩).1,by have:=(hG ⟨g1,g2⟩).2.1;omega,hyc,(hG ⟨g1,g2⟩).2.2⟩,AC⟩;obtain⟨hm,hy2⟩:=hm;refine AJ ?_;simp[go_sem,w2,IO,-Int.natCast_add];exact⟨j+1,by omega,c,⟨by omega,hm,λga gb=>⟨(hy2 ⟨ga,gb⟩).1,(hy2 ⟨ga,gb⟩).2.1,OR hjt hy (hG ⟨ga,gb⟩).2.2 (hy2 ⟨ga,gb⟩).2.2⟩⟩,rfl,AC⟩;refine AJ ?_;have hjj:j=x.R.length:=by omega
 rw[hjj,qm]at hG;simp[go_sem,hlt,hx,qw,hjt,IO,hm];exact⟨c,λg1 g2=>⟨(hG ⟨g1,g2⟩).1,(hG ⟨g1,g2⟩).2.1,(hx3 ⟨g1,g2⟩).1,(hx3 ⟨g1,g2⟩).2,(hG ⟨g1,g2⟩).2.2⟩,AC⟩;obtain⟨hm,hx2⟩:=hm;refine AJ ?_;simp[go_sem,w1,IO,-Int.natCast_add];exact⟨i+1,by omega,c,⟨by omega,hm,λga gb=>⟨(hx2 ⟨ga,gb⟩).1,by have:=(hx2 ⟨ga,gb⟩).2.1;omega,OR hlt hx (hG ⟨ga,gb⟩).2.2 (hx2 ⟨ga,gb⟩).2.2⟩⟩,rfl,AC⟩;refine AJ ?_;have hii:i=l.length:=by omega
 rw[hii,qm]at hG;simp[go_sem,hlt,hm];exact⟨c,λg1 g2=>hG ⟨g1,g2⟩,AC⟩;obtain⟨hm,hl2⟩:=hm;refine AJ ?_;simp[go_sem];refine As true c _ λ_ g=>?_;obtain⟨q1,q2,q3⟩:=hl2 g;have:=US N l;exact⟨q1,by rw[XY];exact q2,by omega,q3⟩
theorem Zw{B:Nat}(a:B<=1048576):∀(N:Nat)(l:List AB),Dq AF.D B N l->Xt N l
 | 0,_,h=>h.elim
 | N+1,l,h=>by
  obtain⟨h1,_,d⟩:=Ci.1 h;refine d33 N l (by omega) λx e=>?_;obtain⟨a1,a2,a3,a4⟩:=d x e;exact⟨a1.Q,Zw a N x.W a2,by omega,λr b=>⟨by have:=(a4 r b).2.1;omega,λc hc=>Zw a N c.W ((a4 r b).2.2 c hc).2⟩⟩
def eQ(v:SV):Prop:=∃e:Int,v=AA e
def trS:Tr:=.pure 0<|.pure 1<|.pure 3<|.pure 4<|.pure 6<|.pure 7<|.pure 9<|.pure 10<|.one 2<|.one 5<|.one 8<|.one 11<|.one 12<|.one 13<|.one 14 .nil
def bE:Tr:=.pure 0<|.pure 1<|.pure 2<|.pure 4<|.pure 5<|.pure 6<|.pure 7<|.one 3<|.one 8<|.one 9<|.one 10<|.one 11 .nil
theorem ff(l:List GQ)(i:Nat)(hi:i<l.length):PC 211 [AA i,.q [Dg l]] (AA (l[i]).id):=by
 intro h n;refine gq func211 rfl λa=>?_;simp[go_sem,hi,GQ.e];exact As a rfl rfl
def trO:Tr:=.pure 0<|.pure 1<|.pure 3<|.pure 4<|.pure 5<|.pure 6<|.pure 7<|.one 2<|.one 8<|.one 9<|.one 10<|.one 11 .nil
theorem fi(l:List A9)(i:Nat)(hi:i<l.length):PC 216 [AA i,.q [Bd l]] (AA (l[i]).id):=by
 intro h n;refine gq func216 rfl λa=>?_;simp[go_sem,hi,A9.e];exact As a rfl rfl
theorem fh(x y:A9):PC 215 [y.e,.q [AA x.id,AA x.parent,.str x.O,AA x.time,.str x.x,.bool x.done]] (.bool (decide (y.id=x.parent))):=by
 intro h n;refine gq func215 rfl λa=>?_;simp[go_sem,A9.e,AD];exact A3 a (AR a (qa _) AC) (by by_cases h:y.id=x.parent<;>simp[h]) rfl
def trT:Tr:=.pure 0<|.pure 1<|.pure 3<|.pure 4<|.pure 6<|.pure 7<|.pure 11<|.pure 12<|.pure 16<|.pure 17<|.one 2<|.one 5<|.one 8<|.one 9<|.one 10<|.one 13<|.one 14<|.one 15<|.one 18<|.one 19<|.one 20<|.one 21 .nil
end Go.Proofs.YtgakninlhfkkmaaGreat.Sh
