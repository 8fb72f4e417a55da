/- A part of the proof (part 9 of 17). -/
import Derived.Test.YtgakninlhfkkmaaGreatN8
namespace Go.Proofs.YtgakninlhfkkmaaGreat.Sh
abbrev kQ:=@AE.sizedL_text
open Proofs
set_option maxRecDepth 10000
mutual
theorem de {n m:Nat} (h:n<=m):∀v:SV,closed n v=true->closed m v=true
 | .agg cs,e=>by rw[closed]at *;exact dQ h cs e
 | .tup cs,e=>by rw[closed]at *;exact dQ h cs e
 | .fn _ a b,e=>by rw[closed,qq]at *;exact⟨dQ h a e.1,dQ h b e.2⟩
 | .ptr o _,e=>by simp only[closed,decide_eq_true_eq]at *;omega
 | .iptr cs,e=>by rw[closed]at *;exact dQ h cs e
 | .sl o _ _ _ _,e=>by simp only[closed,decide_eq_true_eq]at *;omega
 | .slc o _ _ _ _,e=>by simp only[closed,decide_eq_true_eq]at *;omega
 | .imm _ es _,e=>by rw[closed]at *;exact dQ h es e
 | .map o,e=>by simp only[closed,decide_eq_true_eq]at *;omega
 | .int _ _,_|.bool _,_|.str _,_|.junk,_|.nilp,_|.nilf,_|.nilm,_=>by simp[closed]
theorem dQ {n m:Nat} (h:n<=m):∀l:List SV,closedL n l=true->closedL m l=true
 | [],_=>by rw[closedL]
 | s::l,e=>by rw[closedL,qq]at *;exact⟨de h s e.1,dQ h l e.2⟩
end
theorem JL {n m:Nat} (h:n<=m) {y:BT} (hc:BQ n y=true):BQ m y=true:=by
 cases y with
 | cells cs ty=>exact dQ h _ hc
 | map es=>
  simp only[BQ,jj,qq]at hc ⊢;exact λp hp=>⟨de h _ (hc p hp).1,de h _ (hc p hp).2⟩
 | loop l=>rfl
 | list z es=>exact dQ h _ hc
 | iter l r=>
  simp only[BQ,jj,qq,Option.all_eq_true]at hc ⊢;exact⟨λp hp=>⟨de h _ (hc.1 p hp).1,de h _ (hc.1 p hp).2⟩,λp hp=>⟨de h _ (hc.2 p hp).1,de h _ (hc.2 p hp).2⟩⟩
section
variable {σ : Type}
def Aj (st:σ->Nat->Option BT) (s:σ) (H:Hp):Hp:=λo=>match st s o with|some y=>some y|none=>H o
structure ML (st:σ->Nat->Option BT) (n0:Nat) (g:FuncId) (a b:List SV) (f:σ->BW->AF×Bool×σ) (ok:AF->Prop) (rk:σ->Nat:=λ_=>0) (top:Nat:=0):Prop where
 up:∀s p,rk s<=rk (f s p).2.2:=by exact λ_ _=>qa _
 lt:∀s o,n0<=o->st s o=none
 dom:∀s s' o,st s o=none->st s' o=none
 cl:∀s o y,st s o=some y->BQ n0 y=true
 call:∀s p H n,ok p.head->rk (f s p).2.2<=top->n0<=n->(∀o y,st s o=some y->H o=some y)->BA Tryz.prog g (a++[p.enc]++b) H n (λv h' n'=>v=.tup [(f s p).1.enc,.bool (f s p).2.1]/\h'=Aj st (f s p).2.2 H/\n'=n)
variable {st : σ → Nat → Option BT} {n0 : Nat} {g : FuncId} {a b : List SV} {f : σ → BW → AF × Bool × σ} {ok : AF → Prop} {rk : σ → Nat} {top : Nat}
theorem ML.up2 (C:ML st n0 g a b f ok rk top) (s s':σ) (H:Hp):Aj st s' (Aj st s H)=Aj st s' H:=by
 funext o;simp only[Aj];cases h:st s' o with
 | some y=>rfl
 | none=>simp[C.dom s' s o h]
theorem ML.hset (C:ML st n0 g a b f ok rk top) (s:σ) (H:Hp) {o:Nat} (h:n0<=o) (y:Option BT):hset (Aj st s H) o y=Aj st s (hset H o y):=by
 funext j;simp only[Aj,Sh.hset];split;subst_vars;rw[C.lt s _ h];rfl
theorem DY (s:σ) (H:Hp) (h:∀o y,st s o=some y->H o=some y):Aj st s H=H:=by
 funext o;simp only[Aj];cases e:st s o with
 | some y=>rw[h o y e]
 | none=>rfl
theorem ML.old (C:ML st n0 g a b f ok rk top) (s:σ) {H:Hp} {n:Nat} (hn:n0<=n) (d:Es H n):Es (Aj st s H) n:=λo y e=>by
 simp only[Aj]at e;cases c:st s o with
 | some z=>
  rw[c]at e;cases e;refine⟨?_,JL hn (C.cl s o y c)⟩;by_cases h:n0<=o;rw[C.lt s o h]at c;cases c;omega
 | none=>rw[c]at e;exact d o y e
theorem ML.acc (C:ML st n0 g a b f ok rk top) {n m z:Nat} {o:Option Nat} {es:List SV} (hn:n0<=n) (c:Ar n m z o es) (s':σ) (H:Hp):Aj st s' (AN o es H)=AN o es (Aj st s' H):=by
 cases o with
 | none=>rfl
 | some j=>have:=(c.lt j rfl).1;simp only[AN];rw[C.hset s' H (by omega)]
theorem ML.has (C:ML st n0 g a b f ok rk top) {n m z:Nat} {o:Option Nat} {es:List SV} (hn:n0<=n) (c:Ar n m z o es) {s:σ} {H:Hp} (h:∀k y,st s k=some y->H k=some y):∀k y,st s k=some y->AN o es H k=some y:=λk y e=>by
 cases o with
 | none=>exact h k y e
 | some j=>
  have:=(c.lt j rfl).1;simp only[AN];rw[AD _ _ ?_];exact h k y e;rintro rfl;rw[C.lt s k (by omega)]at e;cases e
theorem Bw {s:σ} {H:Hp}:∀k y,st s k=some y->Aj st s H k=some y:=λk y e=>by simp[Aj,e]
theorem Dm {n m z:Nat} {o:Option Nat} {es:List SV} {h:Hp} (hb:∀j y,h j=some y->j<n) (hnm:n<=m) (a:Ar n m z o es):∀j y,AN o es h j=some y->j<m:=λj y e=>by
 cases o with
 | none=>have:=hb j y e;omega
 | some k=>
  have:=(a.lt k rfl).2;simp only[AN,hset]at e;split at e;omega;have:=hb j y e;omega
theorem AW {h:Hp} {m:Nat} (hb:∀j y,h j=some y->j<m) {k:Nat} (hk:m<=k):h k=none:=by
 cases e:h k with
 | none=>rfl
 | some y=>have:=hb k y e;omega
theorem AM.fz' {h:Hp} {n m z k:Nat} {o:Option Nat} {es:List SV} (hn:∀j,n<=j->h j=none) (H:Ar n m z o es) {h':Hp} (b:∀j y,AN o es h j=some y->h' j=some y):Fz h' h (k+1) (AM z o es) (.imm z es false):=by
 cases o with
 | none=>rw[H.none rfl];exact .inr ⟨by simp,.inl rfl,trivial,by simp⟩
 | some j =>
  have c:=b j (.cells (es.flatMap SV.cells)) (by simp[AN,hset]);refine .inr ⟨hn j (H.lt j rfl).1,by simp,rfl,rfl,_,_,c,by simp[Bg,A7 H.size];rfl,H.size,?_⟩;have:∀l:List SV,AZ (Fz h' h k) l l:=by
   intro l;induction l with
   | nil=>trivial
   | cons a l ih=>exact⟨IO,ih⟩
  simp only[<-A7 H.size,qi];exact this _
theorem Be {h:Hp} {n m z:Nat} {o:Option Nat} {es:List SV} (hb:∀j y,h j=some y->j<n) (H:Ar n m z o es):∀j x,h j=some x->AN o es h j=some x:=λj x e=>by
 cases o with
 | none=>exact e
 | some k=>
  have h1:=(H.lt k rfl).1;have h2:=hb j x e;simp only[AN];rw[AD _ _ (by omega)];exact e
theorem CY {h H:Hp} {n m p z:Nat} {es:List SV} {e:SV} {o:Option Nat} {v:SV} (hb:∀j y,h j=some y->j<n) (hn:n<=p) (c:Ar n m z o es) (d:∀j y,h j=some y->H j=some y):
 ∀j y,AN (some p) (es++[e]) h j=some y->(dW.app H p { val:=v,upd:=o.map λj=>(j,none),new:=some (.cells (es.flatMap SV.cells++e.cells)) }) j=some y:=by
 intro j y a;simp only[AN]at a;by_cases b:j=p;subst b;rw[AC]at a;simp only[dW.app,AC];rw[<-a];simp;rw[AD _ _ b]at a;have hlt:=hb j y a;have:=d j y a;cases o with
 | none=>simp[dW.app,AD _ _ b,this]
 | some k=>
  have f:j≠k:=by have:=(c.lt k rfl).1;omega
  simp[dW.app,AD _ _ b,AD _ _ f,this]
theorem GR {h:Hp} {n n' m z:Nat} {o:Option Nat} {es:List SV} (a:Es h n) (H:Ar n m z o es) (hc:∀e∈es,closed n e=true):B8 n (AN o es h) n' (AM z o es) (λv h' n'=>v=.imm z es false/\h'=h/\n'=n):=
 .inr ⟨1,.imm z es false,h,AM.fz a H AB,by rw[closed];exact BU.2 hc,λj x e=>⟨AN.old a H j x e,a j x e⟩,rfl,rfl,rfl⟩
theorem AJ {h h':Hp} {m:Nat} {y:Option BT} (hb:∀j z,h j=some z->j<m) (a:∀j z,h j=some z->h' j=some z):∀j z,h j=some z->hset h' m y j=some z:=λj z e=>by
 rw[AD _ _ (by have:=hb j z e;omega)];exact a j z e
def trR:Tr:=.pure 0<|.pure 1<|.pure 2<|.pure 3<|.pure 4<|.pure 5<|.pure 6<|.pure 7<|.pure 8<|.pure 9<|.pure 10<|.one 11<|.one 12<|.one 13<|.one 14<|.one 15 .nil
variable {it : Int → List AE → Bool → σ → List AE × σ} {mid : Bool} {P : List AE → Prop} {sc : Av}
def Ze (st:σ->Nat->Option BT) (n0:Nat) (g:FuncId) (a b:List SV) (it:Int->List AE->Bool->σ->List AE×σ) (sc:Av) (P:List AE->Prop) (rk:σ->Nat:=λ_=>0) (top:Nat:=0):Prop:=
 ∀id l mid s H n,P l->rk (it id l mid s).2<=top->n0<=n->(∀o y,st s o=some y->H o=some y)->BA Tryz.prog 121 [.fn (.func g) a b,AA id,AG l,sc.enc,.bool mid] H n (λv h' n'=>v=AG (it id l mid s).1/\h'=Aj st (it id l mid s).2 H/\n'=n)
theorem Gi {α β:Type} {G:β×σ->α->β×σ} (h:∀q x,rk q.2<=rk (G q x).2):∀(l:List α) (q:β×σ),rk q.2<=rk (l.foldl G q).2
 | [],_=>qa _
 | x::l,q=>qr (h q x) (Gi h l _)
theorem Ih {α β:Type} {G:β×σ->α->β×σ} (h:∀q x,rk q.2<=rk (G q x).2) (l:List α) (q:β×σ) (i:Nat):rk ((l.take i).foldl G q).2<=rk (l.foldl G q).2:=by
 conv=>rhs;rw[<-ja i l]
 rw[kg];exact Gi h _ _
theorem Of (a:∀id l mid s,rk s<=rk (it id l mid s).2) (mid:Bool) (q:List Wl×σ) (c:Wl):rk (f q.2 ⟨c.head,mid,1⟩).2.2<=rk (Cg f it mid q c).2:=by
 unfold Cg;split;exact a _ _ _ _;exact qa _
theorem Qx (b:∀s p,rk s<=rk (f s p).2.2) (a:∀id l mid s,rk s<=rk (it id l mid s).2) (mid:Bool) (q:List Wl×σ) (c:Wl):rk q.2<=rk (Cg f it mid q c).2:=qr (b _ _) (Of a mid q c)
theorem S5 (b:∀s p,rk s<=rk (f s p).2.2) (a:∀id l mid s,rk s<=rk (it id l mid s).2) (mid:Bool) (l:List Wl) (s:σ):rk s<=rk (DQ f it mid l s).2:=Gi (G:=Cg f it mid) (Qx b a mid) l ([],s)
theorem RR (b:∀s p,rk s<=rk (f s p).2.2) (a:∀id l mid s,rk s<=rk (it id l mid s).2) (mid:Bool) (q:List Aa×σ) (r:Aa):rk (f q.2 ⟨r.head,mid,1⟩).2.2<=rk (DM f it mid q r).2:=by
 unfold DM;split;exact S5 b a mid _ _;exact qa _
theorem T3 (b:∀s p,rk s<=rk (f s p).2.2) (a:∀id l mid s,rk s<=rk (it id l mid s).2) (mid:Bool) (q:List Aa×σ) (r:Aa):rk q.2<=rk (DM f it mid q r).2:=qr (b _ _) (RR b a mid q r)
theorem U9 (b:∀s p,rk s<=rk (f s p).2.2) (a:∀id l mid s,rk s<=rk (it id l mid s).2) (mid:Bool) (l:List Aa) (s:σ):rk s<=rk (GT f it mid l s).2:=Gi (G:=DM f it mid) (T3 b a mid) l ([],s)
theorem TX (b:∀s p,rk s<=rk (f s p).2.2) (a:∀id l mid s,rk s<=rk (it id l mid s).2) (mid:Bool) (x:AE) (s:σ):rk s<=rk (By f it mid x s).2:=by
 unfold By;split;exact a _ _ _ _;split;exact U9 b a mid _ _;exact qa _
theorem PR (b:∀s p,rk s<=rk (f s p).2.2) (a:∀id l mid s,rk s<=rk (it id l mid s).2) (mid:Bool) (q:List AE×σ) (x:AE):rk (f q.2 ⟨x.head,mid,(A8 [x]).1⟩).2.2<=rk (Bt f it mid q x).2:=by
 unfold Bt;dsimp only;split;exact TX b a mid _ _;exact qa _
theorem RM (b:∀s p,rk s<=rk (f s p).2.2) (a:∀id l mid s,rk s<=rk (it id l mid s).2) (mid:Bool) (q:List AE×σ) (x:AE):rk q.2<=rk (Bt f it mid q x).2:=qr (b _ _) (PR b a mid q x)
theorem H8 (b:∀s p,rk s<=rk (f s p).2.2) (a:∀id l mid s,rk s<=rk (it id l mid s).2) (mid:Bool) (l:List AE) (s:σ):rk s<=rk (BL f it mid l s).2:=Gi (G:=Bt f it mid) (RM b a mid) l ([],s)
theorem O8 (a:∀s p,rk s<=rk (f s p).2.2) (sc:Av):∀(N:Nat) (id:Int) (l:List AE) (mid:Bool) (s:σ),rk s<=rk (Al f sc N id l mid s).2
 | 0,_,_,_,_=>qa _
 | N+1,id,l,mid,s=>by
  have hi:=O8 a sc N;rw[Al];split;exact qr (qr (H8 a hi _ _ _) (H8 a hi _ _ _)) (H8 a hi _ _ _);exact H8 a hi _ _ _
set_option maxHeartbeats 2000000 in
theorem bi (C:ML st n0 g a b f ok rk top) (hit:Ze st n0 g a b it sc P rk top) (hiu:∀id l mid s,rk s<=rk (it id l mid s).2) (l:List Aa) (hl:l.length<=1048576) (hr:∀r∈l,ok r.head/\r.cells.length<=1048576/\∀c∈r.cells,ok c.head/\P c.flow) (s:σ) (ht:rk (GT f it mid l s).2<=top) {H:Hp} {n:Nat} (hn:n0<=n) (hs:∀o y,st s o=some y->H o=some y):
 BA Tryz.prog 257 [.fn (.func g) a b,A3 l,sc.enc,.bool mid] H n (λv h' n'=>v=A3 (GT f it mid l s).1/\h'=Aj st (GT f it mid l s).2 H/\n'=n):=by
 refine Db Tryz.func257 rfl λho=>?_;obtain⟨R,hR⟩:∃R:Nat->List Aa×σ,∀i,R i=(l.take i).foldl (DM f it mid) ([],s):=⟨_,λ_=>rfl⟩
 have hR0:R 0=([],s):=by rw[hR];rfl
 have hRs:∀i x,(h:i<l.length)->l[i]=x->R (i+1)=DM f it mid (R i) x:=λi x h hx=>by rw[hR,hR,DE _ _ _ _ _ h hx]
 have hRl:R l.length=GT f it mid l s:=by rw[hR,qi];rfl
 have hRn:∀i,(R i).1.length<=i:=λi=>by rw[hR];have:=NL (f:=f) (it:=it) (mid:=mid) (l.take i) ([],s);simp at this;omega
 have hRt:∀i,rk (R i).2<=top:=λi=>by rw[hR];exact qr (Ih (T3 C.up hiu mid) _ _ i) ht
 clear hR;have hU:∀s',Es (Aj st s' H) n:=λs'=>C.old s' hn ho;have hUb:∀s' j y,Aj st s' H j=some y->j<n:=λs' j y e=>(hU s' j y e).1;refine AY 1 [(0,.fn (.func g) a b),(1,A3 l),(3,.bool mid),(6,.iptr [AA sc.id,AA sc.a,AA sc.b])] (Aj st s H) n ?_ (λm hm=>?_);simp[go_sem,Av.enc,IO,DY s H hs];refine⟨AV (ho.none (qa n)) (by simp[hset]),λj y e=>by rw[AD _ _ (by have:=(ho j y e).1;omega)];exact e⟩;refine AY 0 [(0,.fn (.func g) a b),(1,A3 l),(3,.bool mid),(6,.iptr [AA sc.id,AA sc.a,AA sc.b]),(9,.imm 0 [] true)] (Aj st s H) n ?_ (λm hm=>?_);simp[go_sem,IO,hm];refine AT 0 (α:=Option Nat) (λo=>[(9,AM 6 o ((R l.length).1.map Aa.enc))]) (λo=>AN o ((R l.length).1.map Aa.enc) (Aj st (R l.length).2 H)) (λo m=>n<=m/\Ar n m 6 o ((R l.length).1.map Aa.enc)) ?_ (λo m hm=>?_)
 . refine AY 0 [(0,.fn (.func g) a b),(3,.bool mid),(6,.iptr [AA sc.id,AA sc.a,AA sc.b]),(9,.imm 0 [] true),(19,A3 l),(20,AA l.length),(21,AA 0)] (Aj st s H) n ?_ (λm hm=>?_);simp[go_sem,IO,hm];refine AR (BG 0 (α:=Nat×Option Nat) (λq=>[(0,.fn (.func g) a b),(3,.bool mid),(6,.iptr [AA sc.id,AA sc.a,AA sc.b]),(9,AM 6 q.2 ((R q.1).1.map Aa.enc)),(19,A3 l),(20,AA l.length),(21,AA q.1)])
    (λq=>AN q.2 ((R q.1).1.map Aa.enc) (Aj st (R q.1).2 H)) (λq m=>q.1<=l.length/\n<=m/\Ar n m 6 q.2 ((R q.1).1.map Aa.enc)) (λq=>l.length-q.1) (0,none) ⟨qg _,hm,by simp only[hR0];exact jK _ _ _⟩ ?_ ?_ ?_)
   simp[go_sem,Ai,AM,IO];simp only[hR0];exact AB;clear hm m;rintro⟨i,o⟩ m ⟨hi,hnm,hA⟩;dsimp only at hi hA ⊢;have hEn:((R i).1.map Aa.enc).length<=i:=by rw[qd];exact hRn i
   by_cases hlt:i<l.length
   . obtain⟨x,hx⟩:∃x,l[i]=x:=⟨_,rfl⟩
     have hxm:x∈l:=by rw[<-hx];exact ql hlt
     obtain⟨x1,x2,x3⟩:=hr x hxm;have hgx:(l.map Aa.enc)[i]? = some x.enc:=by simp[hlt,hx]
     have hst:=hRs i x hlt hx;have w1:=wS i (by omega);generalize hSi:(R i).2=si at hst;generalize hEi:(R i).1.map Aa.enc=E at hA hEn ⊢;have hXb:∀s' j y,AN o E (Aj st s' H) j=some y->j<m:=λs'=>Dm (hUb s') hnm hA;refine Bp 0 [(0,.fn (.func g) a b),(3,.bool mid),(6,.iptr [AA sc.id,AA sc.a,AA sc.b]),(9,AM 6 o E),(19,A3 l),(20,AA l.length),(21,AA i),(22,.bool true)] (AN o E (Aj st si H)) m ?_ (λm' hm'=>?_);simp[go_sem,IO,hlt];subst hm';refine Bp 0 [(0,.fn (.func g) a b),(3,.bool mid),(6,.iptr [AA sc.id,AA sc.a,AA sc.b]),(9,AM 6 o E),(19,A3 l),(20,AA l.length),(21,AA i)] (AN o E (Aj st si H)) m ?_ (λm2 hm2=>?_);simp[go_sem,IO];subst hm2;refine AT 0 (α:=Option Nat) (λo=>[(0,.fn (.func g) a b),(3,.bool mid),(6,.iptr [AA sc.id,AA sc.a,AA sc.b]),(9,AM 6 o ((R (i+1)).1.map Aa.enc)),(19,A3 l),(20,AA l.length),(21,AA i)]) (λo=>AN o ((R (i+1)).1.map Aa.enc) (Aj st (R (i+1)).2 H)) (λo m=>n<=m/\Ar n m 6 o ((R (i+1)).1.map Aa.enc)) ?_ (λo m hm=>?_)
     . refine AR ?_;refine AY 1 [(0,.fn (.func g) a b),(3,.bool mid),(6,.iptr [AA sc.id,AA sc.a,AA sc.b]),(9,AM 6 o E),(19,A3 l),(20,AA l.length),(21,AA i),(11,.iptr (x.head.flat++[BS x.cells]))] (AN o E (Aj st si H)) m ?_ (λm2 hm2=>?_);simp[go_sem,IO,hlt,hx,qQ,AF.flat,AC];refine⟨AV (AW (hXb _) (qa m)) (AC _ _ _),AJ (hXb _) (AJ (hXb _) AB)⟩;have hXb2:∀s' j y,AN o E (Aj st s' H) j=some y->j<m2:=λs' j y e=>by have:=hXb s' j y e;omega
       obtain⟨p,hp⟩:∃p:BW,p=⟨x.head,mid,1⟩:=⟨_,rfl⟩
       have hrt:rk (f si p).2.2<=top:=by
        have h1:=hRt (i+1);rw[hst]at h1;have h2:=RR C.up hiu mid (R i) x;rw[hSi]at h2;rw[hp];exact qr h2 h1
       have hcall:=C.call si p (AN o E (Aj st si H)) m2 (by rw[hp];exact x1) hrt (by omega) (C.has hn hA Bw);have hst':R (i+1)=if(f si p).2.1 then((R i).1++[.mk (f si p).1 (DQ f it mid x.cells (f si p).2.2).1],(DQ f it mid x.cells (f si p).2.2).2)else((R i).1,(f si p).2.2):=by rw[hst,hp,DM,hSi]
       rw[C.acc hn hA,C.up2]at hcall;have hpe:p.enc=.agg (x.head.flat++[.bool mid,AA 1]):=by rw[hp];rfl
       clear hst hSi;rcases hf:f si p with⟨h',k,s1⟩
       rw[hf]at hcall hst';dsimp only at hcall hst';refine AY 1 [(0,.fn (.func g) a b),(3,.bool mid),(6,.iptr [AA sc.id,AA sc.a,AA sc.b]),(9,AM 6 o E),(19,A3 l),(20,AA l.length),(21,AA i),(11,.iptr (x.head.flat++[BS x.cells])),(12,.iptr h'.flat),(13,.bool k)] (AN o E (Aj st s1 H)) m2 ?_ (λm3 hm3=>?_);rw[hpe]at hcall;simp only[AF.flat,qz,qE,qn]at hcall;simp[go_sem,AF.flat];refine qC hcall ?_;rintro v H' n' ⟨rfl,rfl,rfl⟩;simp[go_sem,IO,AF.enc,AF.flat,AC];exact⟨AV (AW (hXb2 _) (qa _)) (AC _ _ _),AJ (hXb2 _) (AJ (hXb2 _) AB)⟩;cases k with
       | false=>
        have hst2:R (i+1)=((R i).1,s1):=by simpa using hst'
        simp only[hst2,hEi];refine AH ?_;simp[go_sem,IO];exact⟨o,⟨by omega,hA.mono (by omega)⟩,rfl,AB⟩
       | true=>
        have hst2:R (i+1)=((R i).1++[.mk h' (DQ f it mid x.cells s1).1],(DQ f it mid x.cells s1).2):=by simpa using hst'
        have hct:rk (DQ f it mid x.cells s1).2<=top:=by have:=hRt (i+1);rw[hst2]at this;exact this
        simp only[hst2,qc,hEi,qu,qS];clear hst' hst2 hcall hpe hf;refine Bp 0 [(0,.fn (.func g) a b),(3,.bool mid),(6,.iptr [AA sc.id,AA sc.a,AA sc.b]),(9,AM 6 o E),(19,A3 l),(20,AA l.length),(21,AA i),(11,.iptr (x.head.flat++[BS x.cells])),(12,.iptr h'.flat)] (AN o E (Aj st s1 H)) m3 ?_ (λm4 hm4=>?_);simp[go_sem,IO];subst hm4;refine Bp 0 [(0,.fn (.func g) a b),(3,.bool mid),(6,.iptr [AA sc.id,AA sc.a,AA sc.b]),(9,AM 6 o E),(19,A3 l),(20,AA l.length),(21,AA i),(11,.iptr (x.head.flat++[BS x.cells])),(12,.iptr h'.flat),(14,.imm 0 [] true)] (AN o E (Aj st s1 H)) m3 ?_ (λm4 hm4=>?_);simp[go_sem,IO];subst hm4;refine Bc 1 [(0,.fn (.func g) a b),(3,.bool mid),(6,.iptr [AA sc.id,AA sc.a,AA sc.b]),(9,AM 6 o E),(19,A3 l),(20,AA l.length),(21,AA i),(12,.iptr h'.flat),(14,BS (DQ f it mid x.cells s1).1)] (AN o E (Aj st (DQ f it mid x.cells s1).2 H)) m3 ?_ (λm4 hm4=>?_)
        . refine Bp 0 [(0,.fn (.func g) a b),(3,.bool mid),(6,.iptr [AA sc.id,AA sc.a,AA sc.b]),(9,AM 6 o E),(19,A3 l),(20,AA l.length),(21,AA i),(12,.iptr h'.flat),(14,.imm 0 [] true),(37,BS x.cells),(38,AA x.cells.length),(39,AA 0)] (AN o E (Aj st s1 H)) m3 ?_ (λm4 hm4=>?_);simp[go_sem,IO,AF.flat];subst hm4;obtain⟨Q,hQ⟩:∃Q:Nat->List Wl×σ,∀i,Q i=(x.cells.take i).foldl (Cg f it mid) ([],s1):=⟨_,λ_=>rfl⟩
          have hQ0:Q 0=([],s1):=by rw[hQ];rfl
          have hQs:∀i y,(h:i<x.cells.length)->x.cells[i]=y->Q (i+1)=Cg f it mid (Q i) y:=λi y h hy=>by rw[hQ,hQ,DE _ _ _ _ _ h hy]
          have hQl:Q x.cells.length=DQ f it mid x.cells s1:=by rw[hQ,qi];rfl
          have hQn:∀i,(Q i).1.length<=i:=λi=>by rw[hQ];have:=LG (f:=f) (it:=it) (mid:=mid) (x.cells.take i) ([],s1);simp at this;omega
          have hQt:∀i,rk (Q i).2<=top:=λi=>by rw[hQ];exact qr (Ih (Qx C.up hiu mid) _ _ i) hct
          clear hQ;have hBb:∀s' j y,AN o E (Aj st s' H) j=some y->j<m3:=λs' j y e=>by have:=hXb s' j y e;omega
          refine AR (BG 0 (α:=Nat×Option Nat) (λq=>[(0,.fn (.func g) a b),(3,.bool mid),(6,.iptr [AA sc.id,AA sc.a,AA sc.b]),(9,AM 6 o E),(19,A3 l),(20,AA l.length),(21,AA i),(12,.iptr h'.flat),(14,AM 7 q.2 ((Q q.1).1.map Wl.enc)),(37,BS x.cells),(38,AA x.cells.length),(39,AA q.1)])
           (λq=>AN q.2 ((Q q.1).1.map Wl.enc) (AN o E (Aj st (Q q.1).2 H))) (λq m=>q.1<=x.cells.length/\m3<=m/\Ar m3 m 7 q.2 ((Q q.1).1.map Wl.enc)) (λq=>x.cells.length-q.1) (0,none) ⟨qg _,qa _,by simp only[hQ0];exact jK _ _ _⟩ ?_ ?_ ?_)
          simp[go_sem,Ai,AM,IO];simp only[hQ0];exact AB;rintro⟨j,o2⟩ m4 ⟨hj,hm4,hA2⟩;dsimp only at hj hA2 ⊢;have hCn:((Q j).1.map Wl.enc).length<=j:=by rw[qd];exact hQn j
          by_cases hjt:j<x.cells.length
          . obtain⟨y,hy⟩:∃y,x.cells[j]=y:=⟨_,rfl⟩
            have hym:y∈x.cells:=by rw[<-hy];exact ql hjt
            obtain⟨y1,y2⟩:=x3 y hym;have hgy:(x.cells.map Wl.enc)[j]? = some y.enc:=by simp[hjt,hy]
            have hqt:=hQs j y hjt hy;have w2:=wS j (by omega);generalize hSj:(Q j).2=sj at hqt;generalize hGj:(Q j).1.map Wl.enc=G at hA2 hCn ⊢;have hYb:∀s' j y,AN o2 G (AN o E (Aj st s' H)) j=some y->j<m4:=λs'=>Dm (hBb s') hm4 hA2;refine Bp 0 [(0,.fn (.func g) a b),(3,.bool mid),(6,.iptr [AA sc.id,AA sc.a,AA sc.b]),(9,AM 6 o E),(19,A3 l),(20,AA l.length),(21,AA i),(12,.iptr h'.flat),(14,AM 7 o2 G),(37,BS x.cells),(38,AA x.cells.length),(39,AA j),(40,.bool true)] (AN o2 G (AN o E (Aj st sj H))) m4 ?_ (λm' hm'=>?_);simp[go_sem,IO,hjt];subst hm';refine Bp 0 [(0,.fn (.func g) a b),(3,.bool mid),(6,.iptr [AA sc.id,AA sc.a,AA sc.b]),(9,AM 6 o E),(19,A3 l),(20,AA l.length),(21,AA i),(12,.iptr h'.flat),(14,AM 7 o2 G),(37,BS x.cells),(38,AA x.cells.length),(39,AA j)] (AN o2 G (AN o E (Aj st sj H))) m4 ?_ (λm' hm'=>?_);simp[go_sem,IO];subst hm';refine AT 0 (α:=Option Nat) (λo2=>[(0,.fn (.func g) a b),(3,.bool mid),(6,.iptr [AA sc.id,AA sc.a,AA sc.b]),(9,AM 6 o E),(19,A3 l),(20,AA l.length),(21,AA i),(12,.iptr h'.flat),(14,AM 7 o2 ((Q (j+1)).1.map Wl.enc)),(37,BS x.cells),(38,AA x.cells.length),(39,AA j)]) (λo2=>AN o2 ((Q (j+1)).1.map Wl.enc) (AN o E (Aj st (Q (j+1)).2 H))) (λo2 m=>m3<=m/\Ar m3 m 7 o2 ((Q (j+1)).1.map Wl.enc)) ?_ (λo2 m hm=>?_)
            . refine AR ?_;refine AY 1 [(0,.fn (.func g) a b),(3,.bool mid),(6,.iptr [AA sc.id,AA sc.a,AA sc.b]),(9,AM 6 o E),(19,A3 l),(20,AA l.length),(21,AA i),(12,.iptr h'.flat),(14,AM 7 o2 G),(37,BS x.cells),(38,AA x.cells.length),(39,AA j),(16,.iptr ([AA y.id]++y.head.flat++[AG y.flow]))] (AN o2 G (AN o E (Aj st sj H))) m4 ?_ (λm5 hm5=>?_);simp[go_sem,IO,hjt,hy,QS,AF.flat,AC];refine⟨AV (AW (hYb _) (qa m4)) (AC _ _ _),AJ (hYb _) (AJ (hYb _) AB)⟩;have hYb2:∀s' j y,AN o2 G (AN o E (Aj st s' H)) j=some y->j<m5:=λs' j y e=>by have:=hYb s' j y e;omega
              obtain⟨p2,hp2⟩:∃p:BW,p=⟨y.head,mid,1⟩:=⟨_,rfl⟩
              have hrt2:rk (f sj p2).2.2<=top:=by
               have h1:=hQt (j+1);rw[hqt]at h1;have h2:=Of (f:=f) hiu mid (Q j) y;rw[hSj]at h2;rw[hp2];exact qr h2 h1
              have hcall2:=C.call sj p2 (AN o2 G (AN o E (Aj st sj H))) m5 (by rw[hp2];exact y1) hrt2 (by omega) (C.has (by omega) hA2 (C.has hn hA Bw));have hqt':Q (j+1)=if(f sj p2).2.1 then((Q j).1++[.mk y.id (f sj p2).1 (it y.id y.flow mid (f sj p2).2.2).1],(it y.id y.flow mid (f sj p2).2.2).2)else((Q j).1,(f sj p2).2.2):=by rw[hqt,hp2,Cg,hSj]
              rw[C.acc (by omega) hA2,C.acc hn hA,C.up2]at hcall2;have hpe2:p2.enc=.agg (y.head.flat++[.bool mid,AA 1]):=by rw[hp2];rfl
              clear hqt hSj;rcases hf2:f sj p2 with⟨h2,k2,s2⟩
              rw[hf2]at hcall2 hqt';dsimp only at hcall2 hqt';refine AY 1 [(0,.fn (.func g) a b),(3,.bool mid),(6,.iptr [AA sc.id,AA sc.a,AA sc.b]),(9,AM 6 o E),(19,A3 l),(20,AA l.length),(21,AA i),(12,.iptr h'.flat),(14,AM 7 o2 G),(37,BS x.cells),(38,AA x.cells.length),(39,AA j),(16,.iptr ([AA y.id]++y.head.flat++[AG y.flow])),(17,.iptr h2.flat),(18,.bool k2)] (AN o2 G (AN o E (Aj st s2 H))) m5 ?_ (λm6 hm6=>?_);rw[hpe2]at hcall2;simp only[AF.flat,qz,qE,qn]at hcall2;simp[go_sem,AF.flat];refine qC hcall2 ?_;rintro v H' n' ⟨rfl,rfl,rfl⟩;simp[go_sem,IO,AF.enc,AF.flat,AC];exact⟨AV (AW (hYb2 _) (qa _)) (AC _ _ _),AJ (hYb2 _) (AJ (hYb2 _) AB)⟩;cases k2 with
              | false=>
               have hst3:Q (j+1)=((Q j).1,s2):=by simpa using hqt'
               simp only[hst3,hGj];refine AH ?_;simp[go_sem,IO];exact⟨o2,⟨by omega,hA2.mono (by omega)⟩,rfl,AB⟩
              | true =>
               have hst3:Q (j+1)=((Q j).1++[.mk y.id h2 (it y.id y.flow mid s2).1],(it y.id y.flow mid s2).2):=by simpa using hqt'
               have hit2:rk (it y.id y.flow mid s2).2<=top:=by have:=hQt (j+1);rw[hst3]at this;exact this
               simp only[hst3,qc,hGj,qu,qS];clear hqt' hst3 hcall2 hpe2 hf2;refine Bp 0 [(0,.fn (.func g) a b),(3,.bool mid),(6,.iptr [AA sc.id,AA sc.a,AA sc.b]),(9,AM 6 o E),(19,A3 l),(20,AA l.length),(21,AA i),(12,.iptr h'.flat),(14,AM 7 o2 G),(37,BS x.cells),(38,AA x.cells.length),(39,AA j),(16,.iptr ([AA y.id]++y.head.flat++[AG y.flow])),(17,.iptr h2.flat),(52,.bool true)] (AN o2 G (AN o E (Aj st s2 H))) m6 ?_ (λm7 hm7=>?_);simp[go_sem,IO];subst hm7;refine Ah (b:=true) (by simp[go_sem]) ?_;rw[if_pos rfl];have hc3:=hit y.id y.flow mid s2 (AN o2 G (AN o E (Aj st s2 H))) m6 y2 hit2 (by omega) (C.has (by omega) hA2 (C.has hn hA Bw));rw[C.acc (by omega) hA2,C.acc hn hA,C.up2]at hc3;clear hit2;generalize it y.id y.flow mid s2=r3 at hc3 ⊢;obtain⟨q3,s3⟩:=r3;dsimp only at hc3 ⊢;refine BX trR rfl (by kernel_rfl) (by kernel_rfl) ?_;simp[go_sem,trR,AF.flat];refine qC (by simpa[Av.enc]using hc3) ?_;rintro v H' n' ⟨rfl,rfl,rfl⟩;simp[go_sem];have hpush:=hA2.push (j:=n'+1) (m':=n'+1+1) (e:=(Wl.mk y.id h2 q3).enc) (Wl.E.st _) (Wl.E.len _) (by omega) (by omega);rw[Dp (es:=G) (e:=(Wl.mk y.id h2 q3).enc) (o:=o2) (t:=167) (t2:=167) (el:=171) (z:=7) (by simp[go_sem]) (by simp[go_sem]) (by simp[go_sem]) (by simp) (by simp[go_sem]) (by simp[go_sem]) (by simp[go_sem]) (by omega) hA2 (Wl.E.len _) ?a1 ?a2]
               case a1=>simp[AC,QS,SV.cells,Wl.id,Wl.head,Wl.flow]
               case a2=>
                intro j e;have:=(hA2.lt j e).2;rw[AD _ _ (by omega)];exact Cu j e
               have hlive:=CY (p:=n'+1) (v:=.sl (n'+1) 0 7 (G.length+1) false) (e:=(Wl.mk y.id h2 q3).enc) (hBb s3) (by omega) hA2 (H:=hset (AN o2 G (AN o E (Aj st s3 H))) n' (some (.cells [AA y.id,Af h2.props,AA h2.ins,AA h2.move,AP h2.dels,AL h2.layers,AG q3]))) (AJ (λj z e=>by have:=hBb s3 j z e;omega) (Be (hBb s3) hA2));have hvv:AM 7 (some (n'+1)) (G++[(Wl.mk y.id h2 q3).enc])=.sl (n'+1) 0 7 (G.length+1) false:=by simp[AM]
               simp[go_sem];exact⟨some (n'+1),⟨by omega,hpush⟩,hvv.symm,by simpa[dW.app,SV.cells]using hlive⟩
            refine AH ?_;simp[go_sem,w2,IO,-Int.natCast_add];exact⟨j+1,by omega,o2,⟨by omega,hm.1,hm.2⟩,⟨rfl,rfl⟩,AB⟩
          have:j=x.cells.length:=by omega
          subst this;rw[hQl]at hA2 ⊢;refine AH ?_;simp[go_sem,IO];exact⟨by omega,AM.fz' (λj hj=>AW (hBb _) hj) hA2 AB,Be (hBb _) hA2⟩
        . generalize DQ f it mid x.cells s1=r2;obtain⟨q2,s2⟩:=r2;dsimp only;refine AH ?_;simp[go_sem,AF.flat];have hpush:=hA.push (j:=m4+1) (m':=m4+1+1) (e:=(Aa.mk h' q2).enc) (Aa.E.st _) (Aa.E.len _) (by omega) (by omega);rw[Dp (es:=E) (e:=(Aa.mk h' q2).enc) (o:=o) (t:=68) (t2:=68) (el:=169) (z:=6) (by simp[go_sem]) (by simp[go_sem]) (by simp[go_sem]) (by simp) (by simp[go_sem]) (by simp[go_sem]) (by simp[go_sem]) (by omega) hA (Aa.E.len _) ?a1 ?a2]
          case a1=>simp[AC,qQ,SV.cells,Aa.head,Aa.cells]
          case a2=>
           intro j e;have:=(hA.lt j e).2;rw[AD _ _ (by omega)];exact Cu j e
          have hlive:=CY (p:=m4+1) (v:=.sl (m4+1) 0 6 (E.length+1) false) (e:=(Aa.mk h' q2).enc) (hUb s2) (by omega) hA (H:=hset (AN o E (Aj st s2 H)) m4 (some (.cells [Af h'.props,AA h'.ins,AA h'.move,AP h'.dels,AL h'.layers,BS q2]))) (AJ (λj z e=>by have:=hUb s2 j z e;omega) (Be (hUb s2) hA));have hvv:AM 6 (some (m4+1)) (E++[(Aa.mk h' q2).enc])=.sl (m4+1) 0 6 (E.length+1) false:=by simp[AM]
          simp[go_sem];exact⟨some (m4+1),⟨by omega,hpush⟩,hvv.symm,by simpa[dW.app,SV.cells]using hlive⟩
     refine AH ?_;simp[go_sem,w1,IO,-Int.natCast_add];exact⟨i+1,by omega,o,⟨by omega,hm.1,hm.2⟩,⟨rfl,rfl⟩,AB⟩
   have:i=l.length:=by omega
   subst this;refine AH ?_;simp[go_sem];exact⟨o,⟨hnm,hA⟩,rfl,AB⟩
 refine AH ?_;simp[go_sem];rw[hRl]at hm ⊢;exact GR (hU _) hm.2 (λe he=>by obtain⟨x,_,rfl⟩:=qy.1 he;exact Aa.cl n x)
end
section
variable {σ : Type} {st : σ → Nat → Option BT} {n0 : Nat} {g : FuncId} {a b : List SV} {f : σ → BW → AF × Bool × σ} {ok : AF → Prop} {rk : σ → Nat} {top : Nat} {it : Int → List AE → Bool → σ → List AE × σ} {mid : Bool} {P : List AE → Prop} {sc : Av}
def Ye (ok:AF->Prop) (P:List AE->Prop) (x:AE):Prop:=ok x.head/\x.text.size<=1048576/\P x.flow/\x.rows.length<=1048576/\∀r∈x.rows,ok r.head/\r.cells.length<=1048576/\∀c∈r.cells,ok c.head/\P c.flow
set_option maxHeartbeats 2000000 in
theorem Ui (C:ML st n0 g a b f ok rk top) (hit:Ze st n0 g a b it sc P rk top) (hiu:∀id l mid s,rk s<=rk (it id l mid s).2) (l:List AE) (hl:l.length<=1048576) (hr:∀x∈l,Ye ok P x) (s:σ) (ht:rk (BL f it mid l s).2<=top) {H:Hp} {n:Nat} (hn:n0<=n) (hs:∀o y,st s o=some y->H o=some y):
 BA Tryz.prog 190 [.fn (.func g) a b,AG l,sc.enc,.bool mid] H n (λv h' n'=>v=AG (BL f it mid l s).1/\h'=Aj st (BL f it mid l s).2 H/\n'=n):=by
 refine Db Tryz.func190 rfl λho=>?_;obtain⟨R,hR⟩:∃R:Nat->List AE×σ,∀i,R i=(l.take i).foldl (Bt f it mid) ([],s):=⟨_,λ_=>rfl⟩
 have hR0:R 0=([],s):=by rw[hR];rfl
 have hRs:∀i x,(h:i<l.length)->l[i]=x->R (i+1)=Bt f it mid (R i) x:=λi x h hx=>by rw[hR,hR,DE _ _ _ _ _ h hx]
 have hRl:R l.length=BL f it mid l s:=by rw[hR,qi];rfl
 have hRn:∀i,(R i).1.length<=i:=λi=>by rw[hR];have:=GP (f:=f) (it:=it) (mid:=mid) (l.take i) ([],s);simp at this;omega
 have hRt:∀i,rk (R i).2<=top:=λi=>by rw[hR];exact qr (Ih (RM C.up hiu mid) _ _ i) ht
 clear hR;have hU:∀s',Es (Aj st s' H) n:=λs'=>C.old s' hn ho;have hUb:∀s' j y,Aj st s' H j=some y->j<n:=λs' j y e=>(hU s' j y e).1;refine AY 1 [(0,.fn (.func g) a b),(1,AG l),(3,.bool mid),(6,.iptr [AA sc.id,AA sc.a,AA sc.b])] (Aj st s H) n ?_ (λm hm=>?_);simp[go_sem,Av.enc,IO,DY s H hs];refine⟨AV (ho.none (qa n)) (by simp[hset]),λj y e=>by rw[AD _ _ (by have:=(ho j y e).1;omega)];exact e⟩;refine AY 0 [(0,.fn (.func g) a b),(1,AG l),(3,.bool mid),(6,.iptr [AA sc.id,AA sc.a,AA sc.b]),(9,.imm 0 [] true)] (Aj st s H) n ?_ (λm hm=>?_);simp[go_sem,IO,hm];refine AT 0 (α:=Option Nat) (λo=>[(9,AM 11 o ((R l.length).1.map AE.enc))]) (λo=>AN o ((R l.length).1.map AE.enc) (Aj st (R l.length).2 H)) (λo m=>n<=m/\Ar n m 11 o ((R l.length).1.map AE.enc)) ?_ (λo m hm=>?_)
 . refine AY 0 [(0,.fn (.func g) a b),(1,AG l),(3,.bool mid),(6,.iptr [AA sc.id,AA sc.a,AA sc.b]),(9,.imm 0 [] true),(16,AG l),(17,AA l.length),(18,AA 0)] (Aj st s H) n ?_ (λm hm=>?_);simp[go_sem,IO,hm];refine AR (BG 0 (α:=Nat×Option Nat) (λq=>[(0,.fn (.func g) a b),(1,AG l),(3,.bool mid),(6,.iptr [AA sc.id,AA sc.a,AA sc.b]),(9,AM 11 q.2 ((R q.1).1.map AE.enc)),(16,AG l),(17,AA l.length),(18,AA q.1)])
    (λq=>AN q.2 ((R q.1).1.map AE.enc) (Aj st (R q.1).2 H)) (λq m=>q.1<=l.length/\n<=m/\Ar n m 11 q.2 ((R q.1).1.map AE.enc)) (λq=>l.length-q.1) (0,none) ⟨qg _,hm,by simp only[hR0];exact jK _ _ _⟩ ?_ ?_ ?_)
   simp[go_sem,Ai,AM,IO];simp only[hR0];exact AB;clear hm m;rintro⟨i,o⟩ m ⟨hi,hnm,hA⟩;dsimp only at hi hA ⊢;have hEn:((R i).1.map AE.enc).length<=i:=by rw[qd];exact hRn i
   by_cases hlt:i<l.length
   . obtain⟨x,hx⟩:∃x,l[i]=x:=⟨_,rfl⟩
     have hxm:x∈l:=by rw[<-hx];exact ql hlt
     obtain⟨x1,x2,x3,x4,x5⟩:=hr x hxm;have hgx:(l.map AE.enc)[i]? = some x.enc:=by simp[hlt,hx]
     have hst:=hRs i x hlt hx;have w1:=wS i (by omega);generalize hSi:(R i).2=si at hst;generalize hEi:(R i).1.map AE.enc=E at hA hEn ⊢;have hXb:∀s' j y,AN o E (Aj st s' H) j=some y->j<m:=λs'=>Dm (hUb s') hnm hA;refine Bp 0 [(0,.fn (.func g) a b),(1,AG l),(3,.bool mid),(6,.iptr [AA sc.id,AA sc.a,AA sc.b]),(9,AM 11 o E),(16,AG l),(17,AA l.length),(18,AA i),(19,.bool true)] (AN o E (Aj st si H)) m ?_ (λm' hm'=>?_);simp[go_sem,IO,hlt];subst hm';refine Bp 0 [(0,.fn (.func g) a b),(1,AG l),(3,.bool mid),(6,.iptr [AA sc.id,AA sc.a,AA sc.b]),(9,AM 11 o E),(16,AG l),(17,AA l.length),(18,AA i)] (AN o E (Aj st si H)) m ?_ (λm2 hm2=>?_);simp[go_sem,IO];subst hm2;refine AT 0 (α:=Option Nat) (λo=>[(0,.fn (.func g) a b),(1,AG l),(3,.bool mid),(6,.iptr [AA sc.id,AA sc.a,AA sc.b]),(9,AM 11 o ((R (i+1)).1.map AE.enc)),(16,AG l),(17,AA l.length),(18,AA i)]) (λo=>AN o ((R (i+1)).1.map AE.enc) (Aj st (R (i+1)).2 H)) (λo m=>n<=m/\Ar n m 11 o ((R (i+1)).1.map AE.enc)) ?_ (λo m hm=>?_)
     . refine AR ?_;refine BM 0 (α:=Nat) (λp=>[(0,.fn (.func g) a b),(1,AG l),(3,.bool mid),(6,.iptr [AA sc.id,AA sc.a,AA sc.b]),(9,AM 11 o E),(16,AG l),(17,AA l.length),(18,AA i),(10,AA i),(11,.ptr p 0)]) (λp=>hset (AN o E (Aj st si H)) p (some (.cells [AA x.kind,AA x.code,AA x.id,.str x.text,Af x.head.props,AA x.head.ins,AA x.head.move,AP x.head.dels,AL x.head.layers,AG x.flow,A3 x.rows]))) (λp m2=>m<=p/\p<m2) ?_ (λp m2 hm2=>?_);simp[go_sem,IO,hlt,hx,qx,AC,AS];exact⟨m,by omega,rfl,AB⟩;have hXb2:∀s' j y,AN o E (Aj st s' H) j=some y->j<p:=λs' j y e=>by have:=hXb s' j y e;omega
       refine AY 0 [(0,.fn (.func g) a b),(1,AG l),(3,.bool mid),(6,.iptr [AA sc.id,AA sc.a,AA sc.b]),(9,AM 11 o E),(16,AG l),(17,AA l.length),(18,AA i),(10,AA i),(11,.ptr p 0),(12,AA (A8 [x]).1)] (hset (AN o E (Aj st si H)) p (some (.cells [AA x.kind,AA x.code,AA x.id,.str x.text,Af x.head.props,AA x.head.ins,AA x.head.move,AP x.head.dels,AL x.head.layers,AG x.flow,A3 x.rows]))) m2 ?_ (λm3 hm3=>?_);have hle:i+1<=l.length:=hlt;have hsl:List.drop i (List.take (i+1) (l.map AE.enc))=[x.enc]:=by rw[List.drop_take,Nat.add_sub_cancel_left,qG (by simpa using hlt)];simp[hx]
       simp[go_sem,w1,hle,hsl,-Int.natCast_add,-List.map_take,-List.map_drop];refine qw (VV [x] (by simp) (by simpa using x2)) ?_;simp[go_sem,IO];obtain⟨pt,hp⟩:∃q:BW,q=⟨x.head,mid,(A8 [x]).1⟩:=⟨_,rfl⟩
       have hrt:rk (f si pt).2.2<=top:=by
        have h1:=hRt (i+1);rw[hst]at h1;have h2:=PR C.up hiu mid (R i) x;rw[hSi]at h2;rw[hp];exact qr h2 h1
       have hcall:=λy=>C.call si pt (hset (AN o E (Aj st si H)) p y) m3 (by rw[hp];exact x1) hrt (by omega) (λk z e=>by rw[AD _ _ (by rintro rfl;rw[C.lt si k (by omega)]at e;cases e)];exact C.has hn hA Bw k z e);have hst':R (i+1)=if(f si pt).2.1 then((R i).1++[x.put (f si pt).1 (By f it mid x (f si pt).2.2).1.1 (By f it mid x (f si pt).2.2).1.2],(By f it mid x (f si pt).2.2).2)else((R i).1,(f si pt).2.2):=by rw[hst,hp,Bt,hSi]
       have hup:∀s' y,Aj st s' (hset (AN o E (Aj st si H)) p y)=hset (AN o E (Aj st s' H)) p y:=λs' y=>by rw[<-C.hset _ _ (by omega),C.acc hn hA,C.up2]
       simp only[hup]at hcall;have hpe:pt.enc=.agg (x.head.flat++[.bool mid,AA (A8 [x]).1]):=by rw[hp];rfl
       clear hst hSi hup;rcases hf:f si pt with⟨h',k,s1⟩
       rw[hf]at hcall hst';dsimp only at hcall hst';have hYb:∀s' y j z,hset (AN o E (Aj st s' H)) p y j=some z->j<m3:=λs' y j z e=>by
        by_cases h:j=p;omega;rw[AD _ _ h]at e;have:=hXb2 s' j z e;omega
       refine AY 1 [(0,.fn (.func g) a b),(1,AG l),(3,.bool mid),(6,.iptr [AA sc.id,AA sc.a,AA sc.b]),(9,AM 11 o E),(16,AG l),(17,AA l.length),(18,AA i),(11,.ptr p 0),(14,.iptr h'.flat),(15,.bool k)] (hset (AN o E (Aj st s1 H)) p (some (.cells [AA x.kind,AA x.code,AA x.id,.str x.text,Af x.head.props,AA x.head.ins,AA x.head.move,AP x.head.dels,AL x.head.layers,AG x.flow,A3 x.rows]))) m3 ?_ (λm4 hm4=>?_);rw[hpe]at hcall;simp only[AF.flat,qz,qE,qn]at hcall;simp[go_sem,AF.flat,AC];refine qC (hcall _) ?_;rintro v H' n' ⟨rfl,rfl,rfl⟩;simp[go_sem,IO,AF.enc,AF.flat,AC];exact⟨AV (AW (hYb _ _) (qa _)) (AC _ _ _),AJ (hYb _ _) (AJ (hYb _ _) AB)⟩;cases k with
       | false=>
        have hst2:R (i+1)=((R i).1,s1):=by simpa using hst'
        simp only[hst2,hEi];refine AH ?_;simp[go_sem,IO,AF.flat,AC,AS];exact⟨o,⟨by omega,hA.mono (by omega)⟩,rfl,AJ (hXb2 _) AB⟩
       | true=>
        have hst2:R (i+1)=((R i).1++[x.put h' (By f it mid x s1).1.1 (By f it mid x s1).1.2],(By f it mid x s1).2):=by simpa using hst'
        have hct:rk (By f it mid x s1).2<=top:=by have:=hRt (i+1);rw[hst2]at this;exact this
        simp only[hst2,qc,hEi,qu,qS];clear hst' hst2 hcall hpe hf;refine Bp 0 [(0,.fn (.func g) a b),(1,AG l),(3,.bool mid),(6,.iptr [AA sc.id,AA sc.a,AA sc.b]),(9,AM 11 o E),(16,AG l),(17,AA l.length),(18,AA i),(11,.ptr p 0)] (hset (AN o E (Aj st s1 H)) p (some (.cells [AA x.kind,AA x.code,AA x.id,.str x.text,Af h'.props,AA h'.ins,AA h'.move,AP h'.dels,AL h'.layers,AG x.flow,A3 x.rows]))) m4 ?_ (λm5 hm5=>?_);simp[go_sem,IO,AF.flat,AC,AS];subst hm5;have hupP:∀s' y,Aj st s' (hset (AN o E (Aj st s1 H)) p y)=hset (AN o E (Aj st s' H)) p y:=λs' y=>by rw[<-C.hset _ _ (by omega),C.acc hn hA,C.up2]
        have hasP:∀y k z,st s1 k=some z->hset (AN o E (Aj st s1 H)) p y k=some z:=λy k z e=>by rw[AD _ _ (by rintro rfl;rw[C.lt s1 k (by omega)]at e;cases e)];exact C.has hn hA Bw k z e
        refine AY 1 [(0,.fn (.func g) a b),(1,AG l),(3,.bool mid),(6,.iptr [AA sc.id,AA sc.a,AA sc.b]),(9,AM 11 o E),(16,AG l),(17,AA l.length),(18,AA i),(11,.iptr [AA x.kind,AA x.code,AA x.id,.str x.text,Af h'.props,AA h'.ins,AA h'.move,AP h'.dels,AL h'.layers,AG (By f it mid x s1).1.1,A3 (By f it mid x s1).1.2])] (AN o E (Aj st (By f it mid x s1).2 H)) m4 ?_ (λm5 hm5=>?_);by_cases k6:x.kind=6;have hc3:=λy=>hit x.id x.flow mid s1 (hset (AN o E (Aj st s1 H)) p y) m4 x3 (by rw[By,if_pos k6]at hct;exact hct) (by omega) (hasP y);simp only[hupP]at hc3;have hin:By f it mid x s1=(((it x.id x.flow mid s1).1,x.rows),(it x.id x.flow mid s1).2):=by rw[By,if_pos k6]
        rw[hin];generalize it x.id x.flow mid s1=r3 at hc3 ⊢;obtain⟨q3,s3⟩:=r3;dsimp only at hc3 ⊢;simp[go_sem,AC,k6];refine qC (by simpa[Av.enc]using hc3 _) ?_;rintro v H' n' ⟨rfl,rfl,rfl⟩;simp[go_sem,IO,AC,AS];exact⟨AV (AW (hXb2 _) (qa _)) (AC _ _ _),AJ (hXb2 _) AB⟩;by_cases k7:x.kind=7;have hc3:=λy=>bi (mid:=mid) C hit hiu x.rows x4 x5 s1 (by rw[By,if_neg k6,if_pos k7]at hct;exact hct) (n:=m4) (by omega) (hasP y);simp only[hupP]at hc3;have hin:By f it mid x s1=((x.flow,(GT f it mid x.rows s1).1),(GT f it mid x.rows s1).2):=by rw[By,if_neg k6,if_pos k7]
        rw[hin];generalize GT f it mid x.rows s1=r3 at hc3 ⊢;obtain⟨q3,s3⟩:=r3;dsimp only at hc3 ⊢;simp[go_sem,AC,k7];refine qC (by simpa[Av.enc]using hc3 _) ?_;rintro v H' n' ⟨rfl,rfl,rfl⟩;simp[go_sem,IO,AC,AS];exact⟨AV (AW (hXb2 _) (qa _)) (AC _ _ _),AJ (hXb2 _) AB⟩;have hin:By f it mid x s1=((x.flow,x.rows),s1):=by rw[By,if_neg k6,if_neg k7]
        rw[hin];dsimp only;simp[go_sem,IO,AC,k6,k7];exact⟨AV (AW (hXb2 _) (qa _)) (AC _ _ _),AJ (hXb2 _) AB⟩
        . generalize By f it mid x s1=r2;obtain⟨⟨q2,q3⟩,s2⟩:=r2;dsimp only;refine AH ?_;simp[go_sem];have hpush:=hA.push (j:=m5+1) (m':=m5+1+1) (e:=(x.put h' q2 q3).enc) (AE.E.st _) (AE.E.len _) (by omega) (by omega);rw[Dp (es:=E) (e:=(x.put h' q2 q3).enc) (o:=o) (t:=22) (t2:=22) (el:=70) (z:=11) (by simp[go_sem]) (by simp[go_sem]) (by simp[go_sem]) (by simp) (by simp[go_sem]) (by simp[go_sem]) (by simp[go_sem]) (by omega) hA (AE.E.len _) ?a1 ?a2]
          case a1=>simp[AC,qx,SV.cells,AE.put,AE.kind,AE.code,AE.id,AE.text,AE.head,AE.flow,AE.rows]
          case a2=>
           intro j e;have:=(hA.lt j e).2;rw[AD _ _ (by omega)];exact Cu j e
          have hlive:=CY (p:=m5+1) (v:=.sl (m5+1) 0 11 (E.length+1) false) (e:=(x.put h' q2 q3).enc) (hUb s2) (by omega) hA (H:=hset (AN o E (Aj st s2 H)) m5 (some (.cells [AA x.kind,AA x.code,AA x.id,.str x.text,Af h'.props,AA h'.ins,AA h'.move,AP h'.dels,AL h'.layers,AG q2,A3 q3]))) (AJ (λj z e=>by have:=hUb s2 j z e;omega) (Be (hUb s2) hA));have hvv:AM 11 (some (m5+1)) (E++[(x.put h' q2 q3).enc])=.sl (m5+1) 0 11 (E.length+1) false:=by simp[AM]
          simp[go_sem];exact⟨some (m5+1),⟨by omega,hpush⟩,hvv.symm,by simpa[dW.app,SV.cells]using hlive⟩
     refine AH ?_;simp[go_sem,w1,IO,-Int.natCast_add];exact⟨i+1,by omega,o,⟨by omega,hm.1,hm.2⟩,⟨rfl,rfl⟩,AB⟩
   have:i=l.length:=by omega
   subst this;refine AH ?_;simp[go_sem];exact⟨o,⟨hnm,hA⟩,rfl,AB⟩
 refine AH ?_;simp[go_sem];rw[hRl]at hm ⊢;exact GR (hU _) hm.2 (λe he=>by obtain⟨x,_,rfl⟩:=qy.1 he;exact AE.cl n x)
end
def trI:Tr:=.pure 0<|.pure 1<|.pure 2<|.pure 4<|.pure 5<|.pure 6<|.pure 8<|.pure 9<|.pure 10<|.one 3<|.one 7<|.one 11<|.one 12<|.one 13<|.one 14 .nil
section
variable {σ : Type} {st : σ → Nat → Option BT} {n0 : Nat} {g : FuncId} {a b : List SV} {f : σ → BW → AF × Bool × σ} {ok : AF → Prop} {rk : σ → Nat} {top : Nat} {sc : Av}
theorem B9 {h h2:Hp} {n n':Nat} {v:SV} (b:Es h n) (hc:closed n v=true) (a:∀j y,h j=some y->h2 j=some y):B8 n h2 n' v (λw h' n'=>w=v/\h'=h/\n'=n):=
 .inr ⟨0,v,h,IO,hc,λj x e=>⟨a j x e,b j x e⟩,rfl,rfl,rfl⟩
set_option maxHeartbeats 2000000 in
theorem Xq (C:ML st n0 g a b f ok rk top) (hp:AF->Prop) (K:Nat) (hK:K<=349525) (p:∀h:AF,hp h->ok h/\h.sized):∀N,Ze st n0 g a b (Al f sc N) sc (Da hp K N) rk top
 | 0=>λid l mid s H n h=>h.elim
 | N + 1 => fun id l mid s H n hl ht hn hs => by
  have R:=Xq C hp K hK p N;have o:=O8 C.up sc N;have pu:=λmid l s=>H8 C.up o mid l s;have i:=hl.sized (λh e=>(p h e).2) (by omega);have J:∀x∈l,x.text.size<=1048576:=kQ i.2;have d:∀l,Da hp K (N+1) l->∀x∈l,Ye ok (Da hp K N) x:=λl hl x hx=>by
   obtain⟨h1,h2,h3⟩:=dS.1 hl;obtain⟨h4,h5,h6,P⟩:=h3 x hx;exact⟨(p _ h4).1,by have:=JG hx;omega,h5,by omega,λr Q=>⟨(p _ (P r Q).1).1,by have:=(P r Q).2.1;omega,λc hc=>⟨(p _ ((P r Q).2.2 c hc).1).1,((P r Q).2.2 c hc).2⟩⟩⟩
  refine Db Tryz.func121 rfl λZ=>?_;have V:∀s',Es (Aj st s' H) n:=λs'=>C.old s' hn Z;have D:∀s' j y,Aj st s' H j=some y->j<n:=λs' j y e=>(V s' j y e).1;refine AY 1 [(0,.fn (.func g) a b),(1,AA id),(2,AG l),(4,.bool mid),(8,.iptr [AA sc.id,AA sc.a,AA sc.b])] (Aj st s H) n ?_ (λm Y=>?_);simp[go_sem,Av.enc,IO,DY s H hs];refine⟨AV (Z.none (qa n)) (by simp[hset]),λj y e=>by rw[AD _ _ (by have:=(Z j y e).1;omega)];exact e⟩;by_cases k:EX sc id l mid=true;have X:Al f sc (N+1) id l mid s=((BL f (Al f sc N) false (Ad l 0 sc.a).1 s).1++(BL f (Al f sc N) true (Ad l sc.a sc.b).1 (BL f (Al f sc N) false (Ad l 0 sc.a).1 s).2).1++(BL f (Al f sc N) false (Ad l sc.b (A8 l).1).1 (BL f (Al f sc N) true (Ad l sc.a sc.b).1 (BL f (Al f sc N) false (Ad l 0 sc.a).1 s).2).2).1,(BL f (Al f sc N) false (Ad l sc.b (A8 l).1).1 (BL f (Al f sc N) true (Ad l sc.a sc.b).1 (BL f (Al f sc N) false (Ad l 0 sc.a).1 s).2).2).2):=by rw[Al,if_pos k]
  simp only[EX,qq,decide_eq_true_eq,js]at k;obtain⟨⟨⟨⟨i1,i2⟩,i3⟩,i4⟩,i5⟩:=k;subst i1 i2;rw[X]at ht ⊢;have l1:=DB 0 sc.a hl;have l2:=DB sc.a sc.b hl;have l3:=DB sc.b (A8 l).1 hl;have n1:=EC l 0 sc.a;have n2:=EC l sc.a sc.b;have n3:=EC l sc.b (A8 l).1;have hlK:=hl.1;have c1:=Rh l 0 sc.a i.1 i.2;have c2:=Rh l sc.a sc.b i.1 i.2;have c3:=Rh l sc.b (A8 l).1 i.1 i.2;refine GI ?_;refine Bp 0 [(0,.fn (.func g) a b),(2,AG l),(8,.iptr [AA sc.id,AA sc.a,AA sc.b]),(26,.bool true)] (Aj st s H) m ?_ (λm' t=>?_);simp[go_sem,IO];subst t;refine Ah (b:=true) (by simp[go_sem]) ?_;rw[if_pos rfl];refine AY 0 [(0,.fn (.func g) a b),(2,AG l),(8,.iptr [AA sc.id,AA sc.a,AA sc.b]),(11,AA (A8 l).1)] (Aj st s H) m ?_ (λm' t=>?_);simp[go_sem];refine qw (VV l i.1 J) ?_;simp[go_sem,IO];refine Bp 0 [(0,.fn (.func g) a b),(2,AG l),(8,.iptr [AA sc.id,AA sc.a,AA sc.b]),(11,AA (A8 l).1),(47,.bool true)] (Aj st s H) m' ?_ (λm2 F=>?_);simp[go_sem,IO,i3,i4,i5];subst F;refine Ah (b:=true) (by simp[go_sem]) ?_;rw[if_pos rfl];refine AY 0 [(0,.fn (.func g) a b),(2,AG l),(8,.iptr [AA sc.id,AA sc.a,AA sc.b]),(11,AA (A8 l).1),(13,AG (Ad l 0 sc.a).1)] (Aj st s H) m' ?_ (λm2 F=>?_);simp[go_sem];refine qw c1 ?_;simp[go_sem,IO];refine AY 0 [(0,.fn (.func g) a b),(2,AG l),(8,.iptr [AA sc.id,AA sc.a,AA sc.b]),(11,AA (A8 l).1),(13,AG (Ad l 0 sc.a).1),(15,AG (Ad l sc.a sc.b).1)] (Aj st s H) m2 ?_ (λm3 hm3=>?_);simp[go_sem];refine qw c2 ?_;simp[go_sem,IO];refine AY 0 [(0,.fn (.func g) a b),(8,.iptr [AA sc.id,AA sc.a,AA sc.b]),(13,AG (Ad l 0 sc.a).1),(15,AG (Ad l sc.a sc.b).1),(17,AG (Ad l sc.b (A8 l).1).1)] (Aj st s H) m3 ?_ (λm4 hm4=>?_);simp[go_sem];refine qw c3 ?_;simp[go_sem,IO];generalize hr1:(Ad l 0 sc.a).1=r1 at l1 n1 ht ⊢;generalize hr2:(Ad l sc.a sc.b).1=r2 at l2 n2 ht ⊢;generalize hr3:(Ad l sc.b (A8 l).1).1=r3 at l3 n3 ht ⊢;have G:=qr (qr (pu true r2 (BL f (Al f sc N) false r1 s).2) (pu false r3 _)) ht;have w1:=λm (Y:n<=m)=>Ui (mid:=false) (sc:=sc) C R o r1 (by omega) (d r1 l1) s G (H:=Aj st s H) (n:=m) (by omega) Bw;have L:=GP (f:=f) (it:=Al f sc N) (mid:=false) r1 ([],s);have z1:BL f (Al f sc N) false r1 s=r1.foldl (Bt f (Al f sc N) false) ([],s):=rfl;rw[<-z1]at L;clear G;generalize BL f (Al f sc N) false r1 s=u at w1 L ht ⊢;obtain⟨u,s1⟩:=u;have I:=qr (pu false r3 (BL f (Al f sc N) true r2 s1).2) ht;have w2:=λm (Y:n<=m)=>Ui (mid:=true) (sc:=sc) C R o r2 (by omega) (d r2 l2) s1 I (H:=Aj st s1 H) (n:=m) (by omega) Bw;have M:=GP (f:=f) (it:=Al f sc N) (mid:=true) r2 ([],s1);have z2:BL f (Al f sc N) true r2 s1=r2.foldl (Bt f (Al f sc N) true) ([],s1):=rfl;rw[<-z2]at M;dsimp only at w1 L ⊢;clear I;generalize BL f (Al f sc N) true r2 s1=A at w2 M ht ⊢;obtain⟨A,s2⟩:=A;have w3:=λm (Y:n<=m)=>Ui (mid:=false) (sc:=sc) C R o r3 (by omega) (d r3 l3) s2 ht (H:=Aj st s2 H) (n:=m) (by omega) Bw;have O:=GP (f:=f) (it:=Al f sc N) (mid:=false) r3 ([],s2);have z3:BL f (Al f sc N) false r3 s2=r3.foldl (Bt f (Al f sc N) false) ([],s2):=rfl;rw[<-z3]at O;dsimp only at w2 M ⊢;clear ht;generalize BL f (Al f sc N) false r3 s2=B at w3 O ⊢;obtain⟨B,s3⟩:=B;dsimp only at w3 O ⊢;simp only[C.up2,Av.enc]at w1 w2 w3;have W:=aF [u,A,B] (by simp) (by simp at L M O ⊢;omega);refine AT 0 (α:=Unit) (λ_=>[(10,AG (u++A++B))]) (λ_=>Aj st s3 H) (λ_ m5=>m4<=m5) (BX trI rfl (by kernel_rfl) (by kernel_rfl) ?_) (λ_ m5 hm5=>?_);simp[go_sem,trI];refine qC (w1 m4 (by omega)) ?_;rintro v S n' ⟨rfl,rfl,rfl⟩;simp[go_sem];refine qC (w2 _ (by omega)) ?_;rintro v S n' ⟨rfl,rfl,rfl⟩;simp[go_sem];refine qC (w3 _ (by omega)) ?_;rintro v S n' ⟨rfl,rfl,rfl⟩;simp[go_sem];refine kU (bs:=[.imm 1 ([u,A,B].map AG) false]) (h2:=Aj st s3 H) 1 (AJ (λj z e=>by have:=D s3 j z e;omega) AB) ⟨?_,trivial⟩ ?_;exact DV (es:=[AG u,AG A,AG B]) (AW (D s3) (by omega)) (by simp) (by rw[AC];simp[SV.cells]) (by simp[SV.storable,SV.cells]);refine qw W ?_;simp[go_sem,IO];refine AH ?_;simp[go_sem];have:=B9 (h2:=Aj st s3 H) (n':=m5) (v:=AG (u++A++B)) (V s3) (AE.E.imm _ _ _ _) AB;simpa using this;have X:Al f sc (N+1) id l mid s=BL f (Al f sc N) mid l s:=by rw[Al,if_neg k]
  rw[X]at ht ⊢;refine AY 0 [(0,.fn (.func g) a b),(2,AG l),(4,.bool mid),(8,.iptr [AA sc.id,AA sc.a,AA sc.b])] (Aj st s H) m ?_ (λm' t=>?_);by_cases c1:id=sc.id;cases mid with
  | true=>simp[go_sem,IO,c1]
  | false=>
   simp[go_sem,c1];refine qw (VV l i.1 J) ?_;by_cases a0:0<=sc.a;by_cases T:sc.a<=sc.b;have U:¬sc.b<=(A8 l).1:=λU=>k (by simp[EX,c1,a0,T,U]);simp[go_sem,IO,a0,T,U];simp[go_sem,IO,a0,T];simp[go_sem,IO,a0]
  simp[go_sem,IO,c1];refine AY 0 [(10,AG (BL f (Al f sc N) mid l s).1)] (Aj st (BL f (Al f sc N) mid l s).2 H) n ?_ (λm' t=>?_);have w:=Ui (mid:=mid) (sc:=sc) C R o l i.1 (d l hl) s ht (H:=Aj st s H) (n:=m') (by omega) Bw;simp only[C.up2,Av.enc]at w;clear ht;generalize BL f (Al f sc N) mid l s=q at w ⊢;obtain⟨q,s1⟩:=q;dsimp only at w ⊢;simp[go_sem];refine qC w ?_;rintro v S n' ⟨rfl,rfl,rfl⟩;simp[go_sem,IO];omega;refine AH ?_;simp[go_sem];have:=B9 (h2:=Aj st (BL f (Al f sc N) mid l s).2 H) (n':=m') (v:=AG (BL f (Al f sc N) mid l s).1) (V _) (AE.E.imm _ _ _ _) AB;simpa using this
end
section
variable {σ : Type} {st : σ → Nat → Option BT} {n0 : Nat} {g : FuncId} {a b : List SV} {f : σ → BW → AF × Bool × σ} {ok : AF → Prop} {rk : σ → Nat} {top : Nat} {sc : Av}
def BR (f:σ->BW->AF×Bool×σ) (sc:Av) (N:Nat) (d:AI) (revs:List Ax) (s:σ):AI×σ:=
 (⟨(Al f sc N 0 d.flow false s).1,(f (Al f sc N 0 d.flow false s).2 ⟨d.«end»,false,1⟩).1,revs,d.settings⟩,(f (Al f sc N 0 d.flow false s).2 ⟨d.«end»,false,1⟩).2.2)
theorem Ey {n:Nat} (a:∀s o,n<=o->st s o=none) {s:σ} {H:Hp} {p:Nat} (hp:n<=p) (y:Option BT) (h:∀k z,st s k=some z->H k=some z):∀k z,st s k=some z->hset H p y k=some z:=λk z e=>by
 rw[AD _ _ (by rintro rfl;rw[a s k hp]at e;cases e)];exact h k z e
theorem El {n p:Nat} (hp:n≠p) (X:Hp) (a b c:Option BT):hset (hset (hset X n a) p b) n c=hset (hset X n c) p b:=by
 funext j;simp only[hset];grind
def C8:List SV:=[.imm 0 [] true,.imm 0 [] true,AA 0,AA 0,.imm 0 [] true,.imm 0 [] true,.imm 0 [] true,.imm 0 [] true,.imm 0 [] true,.imm 0 [] true,.imm 0 [] true]
set_option maxHeartbeats 2000000 in
theorem X7 (C:ML st n0 g a b f ok rk top) (hp:AF->Prop) (K:Nat) (T:K<=349525) (G:∀h:AF,hp h->ok h/\h.sized) (N:Nat) (d:AI) (revs:List Ax) (s:σ) (hl:Da hp K N d.flow) (F:hp d.«end») (ht:rk (BR f sc N d revs s).2<=top)
 (p:(BR f sc N d revs s).1.sized) (h2:(BR f sc N d revs s).1.normal.sized) (i:(Bd [] (AE.usL (Ac (BR f sc N d revs s).1.flow)++(BR f sc N d revs s).1.«end».all)).length<=1048576) {H:Hp} {n:Nat} (hn:n0<=n) (U:∀o y,st s o=some y->H o=some y):
 BA Tryz.prog 49 [.fn (.func g) a b,d.enc,sc.enc,Ao revs] H n (λv h' n'=>v=(BR f sc N d revs s).1.normal.enc/\h'=Aj st (BR f sc N d revs s).2 H/\n'=n):=by
 refine Db Tryz.func49 rfl λO=>?_;have Q:∀s',Es (Aj st s' H) n:=λs'=>C.old s' hn O;have t:∀s' j y,Aj st s' H j=some y->j<n:=λs' j y e=>(Q s' j y e).1;have A:n+2≠n:=by omega
 have c:n≠n+2:=by omega
 have u:∀s' y z,∀j w,Aj st s' H j=some w->hset (hset (Aj st s' H) n y) (n+2) z j=some w:=λs' y z=>AJ (λj z e=>by have:=t s' j z e;omega) (AJ (t s') AB);have I:∀s1 s' y z,Aj st s' (hset (hset (Aj st s1 H) n y) (n+2) z)=hset (hset (Aj st s' H) n y) (n+2) z:=λs1 s' y z=>by rw[<-C.hset _ _ (by omega),<-C.hset _ _ (by omega),C.up2]
 have l:∀s' y z,∀k w,st s' k=some w->hset (hset (Aj st s' H) n y) (n+2) z k=some w:=λs' y z=>Ey C.lt (by omega) z (Ey C.lt hn y Bw);refine BP 1 [(0,.fn (.func g) a b),(3,Ao revs),(5,.ptr n 0),(6,.iptr [AA sc.id,AA sc.a,AA sc.b]),(8,.ptr (n+2) 0)] (hset (hset (Aj st s H) n (some (.cells ([AG d.flow]++d.«end».flat++[Ao d.revs]++d.settings.flat)))) (n+2) (some (.cells C8))) (λm=>m=n+3) ?_ (λm L=>?_);simp[go_sem,Av.enc,IO,DY s H U,AI.enc,AF.flat,AK.flat,qD,C8];refine⟨AV (by rw[AD _ _ (by omega),AD _ _ (by omega)];exact O.none (by omega)) (by simp[hset]),λj y=>?_⟩;have:=O j y;simp only[hset];grind;subst L;have c1:=Xq (sc:=sc) C hp K T G N 0 d.flow false s;simp only[BR]at p h2 i ht ⊢;have x:=qr (C.up _ _) ht;generalize Al f sc N 0 d.flow false s=q at c1 p h2 i ht x ⊢;obtain⟨q,s1⟩:=q;dsimp only at c1 p h2 i ht x ⊢;refine BP 0 [(0,.fn (.func g) a b),(3,Ao revs),(5,.ptr n 0),(8,.ptr (n+2) 0)] (hset (hset (Aj st s1 H) n (some (.cells ([AG q]++d.«end».flat++[Ao d.revs]++d.settings.flat)))) (n+2) (some (.cells C8))) (λm=>n+3<=m) ?_ (λm L=>?_);have P:=λy z m (L:n<=m)=>c1 (hset (hset (Aj st s H) n y) (n+2) z) m hl x (by omega) (l s y z);simp only[I,Av.enc]at P;simp[go_sem,AF.flat,AK.flat,AC,AD];refine qC (P _ _ _ (by omega)) ?_;rintro v R n' ⟨rfl,rfl,rfl⟩;simp[go_sem,IO,AC,AD,El c];have J:=λy z m (L:n<=m)=>C.call s1 ⟨d.«end»,false,1⟩ (hset (hset (Aj st s1 H) n y) (n+2) z) m (G _ F).1 ht (by omega) (l s1 y z);generalize f s1 ⟨d.«end»,false,1⟩=r at J p h2 i ht ⊢;obtain⟨h',k,s2⟩:=r;simp only[I,BW.enc,AF.flat,qz,qE,qn]at J;dsimp only at J p h2 i ⊢;refine AY 0 [(3,Ao revs),(5,.ptr n 0),(8,.ptr (n+2) 0)] (hset (hset (Aj st s2 H) n (some (.cells ([AG q]++h'.flat++[Ao d.revs]++d.settings.flat)))) (n+2) (some (.cells C8))) m ?_ (λm2 hm2=>?_);simp[go_sem,AF.flat,AK.flat,AC,AD];refine qC (J _ _ _ (by omega)) ?_;rintro v R n' ⟨rfl,rfl,rfl⟩;simp[go_sem,IO,AC,AD,El c,AF.enc,AF.flat];refine AY 0 [(5,.ptr n 0),(8,.ptr (n+2) 0)] (hset (hset (Aj st s2 H) n (some (.cells ([AG q]++h'.flat++[Ao revs]++d.settings.flat)))) (n+2) (some (.cells C8))) m2 ?_ (λm3 hm3=>?_);simp[go_sem,IO,AF.flat,AK.flat,AC,AD,El c];generalize S:(⟨q,h',revs,d.settings⟩:AI)=D at p h2 i ⊢;have M:q=D.flow/\h'=D.«end»/\revs=D.revs/\d.settings=D.settings:=by rw[<-S];exact⟨rfl,rfl,rfl,rfl⟩
 obtain⟨f1,f2,f3,f4⟩:=M;rw[f1,f2]at i;rw[f1,f2,f3,f4];refine AH ?_;simp[go_sem,AF.flat,AK.flat,AC,AD];refine qw (by simpa[AI.enc,AF.flat,AK.flat]using ln D p h2 i) ?_;generalize hE:D.normal=E;have B:closed n E.enc=true:=by simp[AI.enc,AF.flat,AK.flat,closed,closedL,AE.E.closedL,Er.E.closedL,Az.E.closedL,Am.E.closedL,Ax.E.closedL,A6.E.closedL,Fb.E.closedL,Au.E.closedL,Ft.E.closedL]
 simp[go_sem,AI.enc,AF.flat,AK.flat,AC,C8];simp only[AI.enc,AF.flat,AK.flat,qz,qE]at B;exact B9 (Q s2) B (AJ (λj z e=>by have:=t s2 j z e;omega) (u s2 _ _))
theorem lx (C:ML st n0 g a b f ok) (hp:AF->Prop) (K:Nat) (k:K<=349525) (e:∀h:AF,hp h->ok h/\h.sized) (N:Nat) (d:AI) (revs:List Ax) (s:σ) (hl:Da hp K N d.flow) (c:hp d.«end»)
 (i:(BR f sc N d revs s).1.sized) (h2:(BR f sc N d revs s).1.normal.sized) (j:(Bd [] (AE.usL (Ac (BR f sc N d revs s).1.flow)++(BR f sc N d revs s).1.«end».all)).length<=1048576) {H:Hp} {n:Nat} (hn:n0<=n) (l:∀o y,st s o=some y->H o=some y):
 BA Tryz.prog 49 [.fn (.func g) a b,d.enc,sc.enc,Ao revs] H n (λv h' n'=>v=(BR f sc N d revs s).1.normal.enc/\h'=Aj st (BR f sc N d revs s).2 H/\n'=n):=
 X7 C hp K k e N d revs s hl c (qa _) i h2 j hn l
end
section
variable {σ : Type} {st : σ → Nat → Option BT} {n0 : Nat} {g : FuncId} {a b : List SV} {u : σ → BW → σ} {ok : AF → Prop} {rk : σ → Nat} {top : Nat} {sc : Av}
structure Vu (st:σ->Nat->Option BT) (n0:Nat) (g:FuncId) (a b:List SV) (u:σ->BW->σ) (ok:AF->Prop) (rk:σ->Nat:=λ_=>0) (top:Nat:=0):Prop where
 up:∀s p,rk s<=rk (u s p):=by exact λ_ _=>qa _
 lt:∀s o,n0<=o->st s o=none
 dom:∀s s' o,st s o=none->st s' o=none
 cl:∀s o y,st s o=some y->BQ n0 y=true
 call:∀s p H n,ok p.head->rk (u s p)<=top->n0<=n->(∀o y,st s o=some y->H o=some y)->BA Tryz.prog g (a++[p.enc]++b) H n (λv h' n'=>v=.tup []/\h'=Aj st (u s p) H/\n'=n)
def CH (u:σ->BW->σ) (s:σ) (p:BW):AF×Bool×σ:=(p.head,true,u s p)
theorem Vu.clo (C:Vu st n0 g a b u ok rk top):ML st n0 112 [] [.iptr [.fn (.func g) a b]] (CH u) ok rk top where
 up:=C.up
 lt:=C.lt
 dom:=C.dom
 cl:=C.cl
 call s p H n hp ht hn hs:=by
  have Cx:ML st n0 g a b (CH u) (λ_=>False):={ lt:=C.lt,dom:=C.dom,cl:=C.cl,call:=λs p H n h=>h.elim }
  refine Db Tryz.func112 rfl λd=>?_;have i:∀s',Es (Aj st s' H) n:=λs'=>Cx.old s' hn d;have c:∀s' j y,Aj st s' H j=some y->j<n:=λs' j y e=>(i s' j y e).1;have hc:=C.call s p (hset H (n+1) (some (.cells [.imm 0 [] true,AA 0,AA 0,.imm 0 [] true,.imm 0 [] true]))) (n+2) hp ht (by omega) (Ey C.lt (by omega) _ hs);have f:∀s' y,Aj st s' (hset H (n+1) y)=hset (Aj st s' H) (n+1) y:=λs' y=>by rw[Cx.hset _ _ (by omega)]
  rw[f]at hc;refine BP 1 [(1,.iptr [.fn (.func g) a b]),(2,.iptr (p.head.flat++[.bool p.mid,AA p.units])),(3,.ptr (n+1) 0)] (hset H (n+1) (some (.cells [.imm 0 [] true,AA 0,AA 0,.imm 0 [] true,.imm 0 [] true]))) (λm=>m=n+2) ?_ (λm k=>?_);simp[go_sem,BW.enc,AF.flat,IO];refine⟨AV (by rw[AD _ _ (by omega)];exact d.none (qa n)) (by simp[hset]),λj y=>?_⟩;have:=d j y;simp only[hset];grind;subst k;refine BP 0 [(2,.iptr (p.head.flat++[.bool p.mid,AA p.units])),(3,.ptr (n+1) 0)] (hset (Aj st (u s p) H) (n+1) (some (.cells [.imm 0 [] true,AA 0,AA 0,.imm 0 [] true,.imm 0 [] true]))) (λm=>n+2<=m) ?_ (λm k=>?_);simp[go_sem,AF.flat];refine qC (by simpa[BW.enc,AF.flat]using hc) ?_;rintro v H' n' ⟨rfl,rfl,rfl⟩;simp[go_sem,IO];refine AH ?_;simp[go_sem,AF.flat,AC,AS];have:=B9 (h2:=hset (Aj st (u s p) H) (n+1) (some (.cells [Af p.head.props,AA p.head.ins,AA p.head.move,AP p.head.dels,AL p.head.layers]))) (n':=m) (v:=.tup [p.head.enc,.bool true]) (i (u s p)) (by simp[closed,closedL,AF.enc,AF.flat,Er.E.closedL,Az.E.closedL,Am.E.closedL]) (AJ (λj z e=>by have:=c _ j z e;omega) AB);simpa[AF.enc,AF.flat,CH]using this
set_option maxHeartbeats 2000000 in
theorem Xz (C:Vu st n0 g a b u ok rk top) (hp:AF->Prop) (K:Nat) (p:K<=349525) (i:∀h:AF,hp h->ok h/\h.sized) (N:Nat) (d:AI) (s:σ) (hl:Da hp K N d.flow) (e:hp d.«end») (ht:rk (BR (CH u) sc N d d.revs s).2<=top)
 (k:(BR (CH u) sc N d d.revs s).1.sized) (h2:(BR (CH u) sc N d d.revs s).1.normal.sized) (l:(Bd [] (AE.usL (Ac (BR (CH u) sc N d d.revs s).1.flow)++(BR (CH u) sc N d d.revs s).1.«end».all)).length<=1048576) {H:Hp} {n:Nat} (hn:n0<=n) (r:∀o y,st s o=some y->H o=some y):
 BA Tryz.prog 36 [d.enc,sc.enc,.fn (.func g) a b] H n (λv h' n'=>v=.tup []/\h'=Aj st (BR (CH u) sc N d d.revs s).2 H/\n'=n):=by
 have Cx:=C.clo;refine Db Tryz.func36 rfl λf=>?_;have q:∀s',Es (Aj st s' H) n:=λs'=>Cx.old s' hn f;refine AY 1 [(3,.iptr ([AG d.flow]++d.«end».flat++[Ao d.revs]++d.settings.flat)),(4,.iptr [AA sc.id,AA sc.a,AA sc.b]),(5,.iptr [.fn (.func g) a b])] H n ?_ (λm hm=>?_);simp[go_sem,Av.enc,AI.enc,AF.flat,AK.flat,qD];refine⟨⟨AV (f.none (by omega)) (by simp[hset]),AV (f.none (by omega)) (by simp[hset]),AV (f.none (by omega)) (by simp[hset])⟩,λj y=>?_⟩;have:=f j y;simp only[hset];grind;have c:=X7 (sc:=sc) Cx hp K p i N d d.revs s hl e ht k h2 l (H:=H) (n:=m) (by omega) r;clear ht;generalize(BR (CH u) sc N d d.revs s).1.normal.enc=w at c;generalize(BR (CH u) sc N d d.revs s).2=s2 at c ⊢;refine AH ?_;simp[go_sem,AF.flat,AK.flat];refine qC (by simpa[Av.enc,AI.enc,AF.flat,AK.flat]using c) ?_;rintro v H' n' ⟨rfl,rfl,rfl⟩;simp[go_sem];exact B9 (q s2) (by simp[closed,closedL]) AB
theorem lv (C:Vu st n0 g a b u ok) (hp:AF->Prop) (K:Nat) (j:K<=349525) (e:∀h:AF,hp h->ok h/\h.sized) (N:Nat) (d:AI) (s:σ) (hl:Da hp K N d.flow) (c:hp d.«end»)
 (f:(BR (CH u) sc N d d.revs s).1.sized) (h2:(BR (CH u) sc N d d.revs s).1.normal.sized) (i:(Bd [] (AE.usL (Ac (BR (CH u) sc N d d.revs s).1.flow)++(BR (CH u) sc N d d.revs s).1.«end».all)).length<=1048576) {H:Hp} {n:Nat} (hn:n0<=n) (k:∀o y,st s o=some y->H o=some y):
 BA Tryz.prog 36 [d.enc,sc.enc,.fn (.func g) a b] H n (λv h' n'=>v=.tup []/\h'=Aj st (BR (CH u) sc N d d.revs s).2 H/\n'=n):=
 Xz C hp K j e N d s hl c (qa _) f h2 i hn k
end
def Im (p q:Nat) (s:Int×Int) (o:Nat):Option BT:=if o=p then some (.cells [AA s.1])else if o=q then some (.cells [AA s.2])else none
def HQ (rev:Int) (s:Int×Int) (x:BW):Int×Int:=
 if x.head.uses rev then if x.mid then(IntKind.i64.wrap (s.1+x.units),s.2)else(s.1,IntKind.i64.wrap (s.2+x.units))else s
theorem UC {p q:Nat} (b:p≠q) (s:Int×Int) (H:Hp):Aj (Im p q) s H=hset (hset H p (some (.cells [AA s.1]))) q (some (.cells [AA s.2])):=by
 funext o;simp only[Aj,Im,hset];by_cases a:o=p;subst a;simp[b];by_cases h2:o=q;subst h2;simp[a];simp[a,h2]
theorem v37 {p q n0:Nat} (d:p≠q) (hp:p<n0) (hq:q<n0) (rev:Int):Vu (Im p q) n0 37 [] [.iptr [AA rev],.ptr p 0,.ptr q 0] (HQ rev) (λh=>h.sized/\h.revs.length<=1048576) where
 lt s o h:=by simp only[Im];rw[if_neg (by omega),if_neg (by omega)]
 dom s s' o h:=by
  simp only[Im]at h ⊢;by_cases f:o=p;rw[if_pos f]at h;cases h;by_cases l:o=q;rw[if_neg f,if_pos l]at h;cases h;rw[if_neg f,if_neg l]
 cl s o y h:=by simp only[Im]at h;split at h<;>first|(cases h;simp[BQ,closed,closedL])|(split at h<;>first|(cases h;simp[BQ,closed,closedL])|cases h)
 call s x H n hx _ hn hs:=by
  have a1:H p=some (.cells [AA s.1]):=hs p _ (by simp[Im]);have a2:H q=some (.cells [AA s.2]):=hs q _ (by simp[Im,Ne.symm d]);have b1:p≠n:=by omega
  have b2:q≠n:=by omega
  have r:∀i k,(∀z,i=some z->BQ n z=true)->(∀z,k=some z->BQ n z=true)->Es H n->Es (hset (hset H p i) q k) n:=λi k c1 t b j z e=>by
   simp only[hset]at e;split at e;subst_vars;exact⟨by omega,t z rfl⟩;split at e;subst_vars;exact⟨by omega,c1 z rfl⟩;exact b j z e
  refine Db Tryz.func37 rfl λb=>?_;refine AY 1 [(1,.iptr [AA rev]),(2,.ptr p 0),(3,.ptr q 0),(4,.iptr (x.head.flat++[.bool x.mid,AA x.units]))] H n ?_ (λm hm=>?_);simp[go_sem,BW.enc,AF.flat,IO];refine⟨AV (b.none (qa n)) (by simp[hset]),AJ (λj z e=>(b j z e).1) AB⟩;refine AH ?_;simp[go_sem,AF.flat];refine qw (by simpa[AF.enc,AF.flat]using c38 x.head hx.1 hx.2 rev) ?_;rw[UC d];cases g:x.head.uses rev with
  | false =>
   simp[go_sem];have c:HQ rev s x=s:=by simp[HQ,g]
   rw[c];have e:hset (hset H p (some (.cells [AA s.1]))) q (some (.cells [AA s.2]))=H:=by
    funext j;simp only[hset];split;subst_vars;exact a2.symm;split;subst_vars;exact a1.symm;rfl
   rw[e];exact B9 b (by simp[closed,closedL]) AB
  | true =>
   cases a:x.mid with
   | true=>
    have c:HQ rev s x=(IntKind.i64.wrap (s.1+x.units),s.2):=by simp[HQ,g,a]
    rw[c];simp[go_sem,a1];refine B9 (r _ _ (by rintro z e;cases e;simp[BQ,closed,closedL]) (by rintro z e;cases e;simp[BQ,closed,closedL]) b) (by simp[closed,closedL]) λj y e=>?_;simp only[hset]at e ⊢;grind
   | false=>
    have c:HQ rev s x=(s.1,IntKind.i64.wrap (s.2+x.units)):=by simp[HQ,g,a]
    rw[c];simp[go_sem,a2];refine B9 (r _ _ (by rintro z e;cases e;simp[BQ,closed,closedL]) (by rintro z e;cases e;simp[BQ,closed,closedL]) b) (by simp[closed,closedL]) λj y e=>?_;simp only[hset]at e ⊢;grind
def ES (sc:Av) (l:List AE):Prop:=sc.a<0\/sc.b<sc.a\/(A8 l).1<sc.b
instance (sc:Av) (l:List AE):Decidable (ES sc l):=by unfold ES;infer_instance
def E9 (N:Nat) (d:AI) (rev:Int) (sc:Av):Int×Int×Int:=
 if(D9 d sc.id).isSome=false then(0,0,8)
 else if ES sc (((D9 d sc.id).map Fl.items).getD [])then(0,0,2)
 else if(CA d.revs rev).2=false then(0,0,22)
 else((BR (CH (HQ rev)) sc N d d.revs (0,0)).2.1,(BR (CH (HQ rev)) sc N d d.revs (0,0)).2.2,0)
def trE:Tr:=.two 0 1 (.two 1 2 (.one 2 (.one 3 (.one 4 .nil))) (.one 1 (.one 3 (.one 4 .nil)))) (.one 0 (.one 2 (.one 3 (.one 4 .nil))))
set_option maxHeartbeats 2000000 in
theorem ll (hp:AF->Prop) (K:Nat) (W:K<=349525) (G:∀h:AF,hp h->(h.sized/\h.revs.length<=1048576)/\h.sized) (N:Nat) (d:AI) (rev:Int) (sc:Av) (hl:Da hp K N d.flow) (F:hp d.«end») (Y:d.revs.length<=1048576)
 (L:∀fl,D9 d sc.id=some fl->fl.items.length<=1048576/\∀x∈fl.items,x.text.size<=1048576)
 (U:(BR (CH (HQ rev)) sc N d d.revs (0,0)).1.sized) (h2:(BR (CH (HQ rev)) sc N d d.revs (0,0)).1.normal.sized) (V:(Bd [] (AE.usL (Ac (BR (CH (HQ rev)) sc N d d.revs (0,0)).1.flow)++(BR (CH (HQ rev)) sc N d d.revs (0,0)).1.«end».all)).length<=1048576):
 PC 13 [d.enc,AA rev,sc.enc] (.tup [AA (E9 N d rev sc).1,AA (E9 N d rev sc).2.1,AA (E9 N d rev sc).2.2]):=by
 intro h n;refine Db Tryz.func13 rfl λg=>?_;have l:n+3≠n+4:=by omega
 have E:n+4≠n+3:=by omega
 have I:=hl.sized (λh e=>(G h e).2) (by omega);refine BP 1 [(3,.iptr ([AG d.flow]++d.«end».flat++[Ao d.revs]++d.settings.flat)),(4,.iptr [AA rev]),(5,.iptr [AA sc.id,AA sc.a,AA sc.b]),(6,.ptr (n+3) 0),(7,.ptr (n+4) 0)] (Aj (Im (n+3) (n+4)) (0,0) h) (λm=>n+5=m) ?_ (λm P=>?_);rw[UC l];simp[go_sem,Av.enc,AI.enc,AF.flat,AK.flat,IO,qD];refine⟨⟨AV (by simp[hset];exact g.none (by omega)) (by simp[hset]),AV (by simp[hset];exact g.none (by omega)) (by simp[hset]),AV (by simp[hset];exact g.none (by omega)) (by simp[hset])⟩,λj y=>?_⟩;have:=g j y;simp only[hset];grind;subst P;have B:∀(x y z:Int) (H:Hp),H (n+3)=some (.cells [AA x])->H (n+4)=some (.cells [AA y])->(∀j w,j<n->h j=some w->H j=some w)->∀m,B8 n H m (.tup [AA x,AA y,AA z]) (Is (.tup [AA x,AA y,AA z]) h n):=λx y z H _ _ X m=>Ay g (λj w e=>X j w (g j w e).1 e) rfl (by simp[closed,closedL]);have BE:∀s j w,j<n->h j=some w->Aj (Im (n+3) (n+4)) s h j=some w:=λs j w O e=>by simp only[Aj,Im];rw[if_neg (by omega),if_neg (by omega)];exact e
 have u:∀s,Aj (Im (n+3) (n+4)) s h (n+3)=some (.cells [AA s.1]):=λs=>by simp[Aj,Im]
 have A:∀s,Aj (Im (n+3) (n+4)) s h (n+4)=some (.cells [AA s.2]):=λs=>by simp[Aj,Im]
 refine BP 0 [(3,.iptr ([AG d.flow]++d.«end».flat++[Ao d.revs]++d.settings.flat)),(4,.iptr [AA rev]),(5,.iptr [AA sc.id,AA sc.a,AA sc.b]),(6,.ptr (n+3) 0),(7,.ptr (n+4) 0),(9,AG (((D9 d sc.id).map Fl.items).getD [])),(10,.bool (D9 d sc.id).isSome)] (Aj (Im (n+3) (n+4)) (0,0) h) (λm=>n+5<=m) ?_ (λm P=>?_);simp[go_sem,AF.flat,AK.flat];refine qw (by simpa[AI.enc,AF.flat,AK.flat]using c34 d sc.id I.1 I.2) ?_;simp[go_sem,IO];cases C:D9 d sc.id with
 | none=>
  have hc:E9 N d rev sc=(0,0,8):=by simp[E9,C]
  rw[hc];refine AH ?_;simp[go_sem,u,A,AC,AD];refine B 0 0 8 _ ?_ ?_ ?_ _;simp[hset];simp[hset];intro j w O e;rw[AD _ _ (by omega),AD _ _ (by omega)];exact BE _ j w O e
 | some fl=>
 obtain⟨o,p⟩:=L fl C;dsimp only[Option.map_some,Option.getD_some,Option.isSome_some];have f:E9 N d rev sc=if ES sc fl.items then(0,0,2)else if(CA d.revs rev).2=false then(0,0,22)else((BR (CH (HQ rev)) sc N d d.revs (0,0)).2.1,(BR (CH (HQ rev)) sc N d d.revs (0,0)).2.2,0):=by simp[E9,C]
 refine Bp 0 [(3,.iptr ([AG d.flow]++d.«end».flat++[Ao d.revs]++d.settings.flat)),(4,.iptr [AA rev]),(5,.iptr [AA sc.id,AA sc.a,AA sc.b]),(6,.ptr (n+3) 0),(7,.ptr (n+4) 0),(9,AG fl.items)] (Aj (Im (n+3) (n+4)) (0,0) h) m ?_ (λm2 D=>?_);simp[go_sem,IO];subst D;by_cases hb:ES sc fl.items;rw[if_pos hb]at f;rw[f];refine GI ?_;refine AY 0 [(3,.iptr ([AG d.flow]++d.«end».flat++[Ao d.revs]++d.settings.flat)),(4,.iptr [AA rev]),(5,.iptr [AA sc.id,AA sc.a,AA sc.b]),(6,.ptr (n+3) 0),(7,.ptr (n+4) 0),(11,AA (A8 fl.items).1)] (Aj (Im (n+3) (n+4)) (0,0) h) m ?_ (λm2 D=>?_);simp[go_sem];refine qw (VV fl.items o p) ?_;simp[go_sem,IO];have fin:∀r t m',B8 n (hset (hset (Aj (Im (n+3) (n+4)) (0,0) h) (n+3) r) (n+4) t) m' (.tup [AA 0,AA 0,AA 2]) (Is (.tup [AA 0,AA 0,AA 2]) h n):=λr t m'=>
  Ay g (λj w e=>by have:=(g j w e).1;rw[AD _ _ (by omega),AD _ _ (by omega)];exact BE _ j w this e) rfl (by simp[closed,closedL])
 unfold ES at hb;refine AH ?_;by_cases a0:sc.a<0;simp[go_sem,u,A,AC,AD,a0];exact fin _ _ _;by_cases a1:sc.b<sc.a;simp[go_sem,u,A,AC,AD,a0,a1];exact fin _ _ _;have a2:(A8 fl.items).1<sc.b:=by omega
 simp[go_sem,u,A,AC,AD,a0,a1,a2];exact fin _ _ _;rw[if_neg hb]at f;refine AY 0 [(3,.iptr ([AG d.flow]++d.«end».flat++[Ao d.revs]++d.settings.flat)),(4,.iptr [AA rev]),(5,.iptr [AA sc.id,AA sc.a,AA sc.b]),(6,.ptr (n+3) 0),(7,.ptr (n+4) 0)] (Aj (Im (n+3) (n+4)) (0,0) h) m ?_ (λm2 D=>?_);unfold ES at hb;have a0:¬sc.a<0:=by omega
 have a1:¬sc.b<sc.a:=by omega
 have a2:¬(A8 fl.items).1<sc.b:=by omega
 simp[go_sem];refine qw (VV fl.items o p) ?_;simp[go_sem,IO,a0,a1,a2];have J:=V4 d.revs Y rev;generalize CA d.revs rev=S at J f;obtain⟨S,Z⟩:=S;cases Z with
 | false =>
  have i:E9 N d rev sc=(0,0,22):=by simpa using f
  rw[i];have fin:∀r t T m',n+5<=m'->∀q,m'<=q->∀k,B8 n (hset (hset (hset (Aj (Im (n+3) (n+4)) (0,0) h) q T) (n+3) r) (n+4) t) k (.tup [AA 0,AA 0,AA 22]) (Is (.tup [AA 0,AA 0,AA 22]) h n):=λr t T m' _ q _ k=>
   Ay g (λj w e=>by have:=(g j w e).1;rw[AD _ _ (by omega),AD _ _ (by omega),AD _ _ (by omega)];exact BE _ j w this e) rfl (by simp[closed,closedL])
  refine AH ?_;have q1:n+3≠m2:=by omega
  have q2:n+4≠m2:=by omega
  simp[go_sem,AF.flat,AK.flat];refine qw J ?_;simp[go_sem,u,A,AC,AD,AS,q1,q2,Ax.enc];exact fin _ _ _ m2 (by omega) _ (qa _) _
 | true =>
  have i:E9 N d rev sc=((BR (CH (HQ rev)) sc N d d.revs (0,0)).2.1,(BR (CH (HQ rev)) sc N d d.revs (0,0)).2.2,0):=by simpa using f
  rw[i];clear f i;refine AY 0 [(3,.iptr ([AG d.flow]++d.«end».flat++[Ao d.revs]++d.settings.flat)),(4,.iptr [AA rev]),(5,.iptr [AA sc.id,AA sc.a,AA sc.b]),(6,.ptr (n+3) 0),(7,.ptr (n+4) 0)] (Aj (Im (n+3) (n+4)) (0,0) h) m2 ?_ (λQ hm3=>?_);simp[go_sem,AF.flat,AK.flat];refine qw J ?_;simp[go_sem,IO,AC,AS,Ax.enc];exact AJ (λj z e=>by
   simp only[Aj,Im]at e;by_cases x1:j=n+3;omega;by_cases x2:j=n+4;omega;rw[if_neg x1,if_neg x2]at e;have:=(g j z e).1;omega) AB
  have c:=lv (sc:=sc) (v37 (n0:=n+5) l (by omega) (by omega) rev) hp K W G N d (0,0) hl F U h2 V (H:=Aj (Im (n+3) (n+4)) (0,0) h) (n:=Q) (by omega) Bw;generalize(BR (CH (HQ rev)) sc N d d.revs (0,0)).2=s2 at c ⊢;have M:Aj (Im (n+3) (n+4)) s2 (Aj (Im (n+3) (n+4)) (0,0) h)=Aj (Im (n+3) (n+4)) s2 h:=(v37 (n0:=n+5) l (by omega) (by omega) rev).clo.up2 _ _ _;rw[M]at c;refine AY 0 [(6,.ptr (n+3) 0),(7,.ptr (n+4) 0)] (Aj (Im (n+3) (n+4)) s2 h) Q ?_ (λm4 hm4=>?_);simp[go_sem,AF.flat,AK.flat];refine kU (bs:=[d.enc,sc.enc,.fn (.func 37) [] [.iptr [AA rev],.ptr (n+3) 0,.ptr (n+4) 0]]) 1 AB ?_ ?_;refine⟨?_,?_,?_,trivial⟩;simp[AI.enc,AF.flat,AK.flat,IO];simp[Av.enc,IO];exact IO;refine qC c ?_;rintro v H' n' ⟨rfl,rfl,rfl⟩;simp[go_sem,IO];have fin:∀r t k,B8 n (hset (hset (Aj (Im (n+3) (n+4)) s2 h) (n+3) r) (n+4) t) k (.tup [AA s2.1,AA s2.2,AA 0]) (Is (.tup [AA s2.1,AA s2.2,AA 0]) h n):=λr t k=>
   Ay g (λj w e=>by have:=(g j w e).1;rw[AD _ _ (by omega),AD _ _ (by omega)];exact BE _ j w this e) rfl (by simp[closed,closedL])
  refine AT 0 (α:=Unit) (λ_=>[(6,.ptr (n+3) 0),(7,.ptr (n+4) 0),(8,AA 0)]) (λ_=>Aj (Im (n+3) (n+4)) s2 h) (λ_ R=>m4<=R) (BX trE rfl (by kernel_rfl) (by kernel_rfl) ?_) (λ_ R hm5=>?_);have El:hset (hset (Aj (Im (n+3) (n+4)) s2 h) (n+3) (some (.cells [AA s2.1]))) (n+4) (some (.cells [AA s2.2]))=Aj (Im (n+3) (n+4)) s2 h:=by
   funext j;simp only[hset,Aj,Im];grind
  simp[go_sem,trE,IO,u,A,AD,El];refine AH ?_;simp[go_sem,u,A];exact Ay g (λj w e=>BE _ j w (g j w e).1 e) rfl (by simp[closed,closedL])
section
variable {σ : Type} (f : σ → BW → AF × Bool × σ) (fl : Int → List AE → Av → Bool → σ → List AE × σ) (sc : Av) (mid : Bool)
def CG (q:List Wl×σ) (c:Wl):List Wl×σ:=
 (if(f q.2 ⟨c.head,mid,1⟩).2.1 then q.1++[.mk c.id (f q.2 ⟨c.head,mid,1⟩).1 (fl c.id c.flow sc mid (f q.2 ⟨c.head,mid,1⟩).2.2).1]else q.1,(fl c.id c.flow sc mid (f q.2 ⟨c.head,mid,1⟩).2.2).2)
def Dh (l:List Wl) (s:σ):List Wl×σ:=l.foldl (CG f fl sc mid) ([],s)
def Hj (x:Aa) (s:σ):Aa×Bool×σ:=
 (.mk (f s ⟨x.head,mid,1⟩).1 (Dh f fl sc mid x.cells (f s ⟨x.head,mid,1⟩).2.2).1,(f s ⟨x.head,mid,1⟩).2.1&&decide (0<(Dh f fl sc mid x.cells (f s ⟨x.head,mid,1⟩).2.2).1.length),(Dh f fl sc mid x.cells (f s ⟨x.head,mid,1⟩).2.2).2)
def CW (q:List Aa×σ) (x:Aa):List Aa×σ:=(if(Hj f fl sc mid x q.2).2.1 then q.1++[(Hj f fl sc mid x q.2).1]else q.1,(Hj f fl sc mid x q.2).2.2)
def FH (l:List Aa) (s:σ):List Aa×σ:=l.foldl (CW f fl sc mid) ([],s)
def K3 (x:AE) (s:σ):List AE×σ:=if x.kind=6 then fl x.id x.flow sc mid s else(x.flow,s)
def Dq (q:List AE×σ) (x:AE):List AE×σ:=
 let r:=f q.2 ⟨x.head,mid,(A8 [x]).1⟩
 let w:=K3 fl sc mid x r.2.2
 let v:=FH f fl sc mid x.rows w.2
 (if r.2.1 && !(decide (x.kind=7)&&decide (v.1.length=0))then q.1++[x.put r.1 w.1 v.1]else q.1,v.2)
def Bq (l:List AE) (s:σ):List AE×σ:=l.foldl (Dq f fl sc mid) ([],s)
end
def AX:Av:=⟨-1,0,0⟩
def Aw {σ:Type} (f:σ->BW->AF×Bool×σ):Nat->Int->List AE->Av->Bool->σ->List AE×σ
 | 0,_,_,_,_,s=>([],s)
 | N + 1, id, l, sc, mid, s =>
  if id=sc.id/\mid=false then
   let p1:=Bq f (Aw f N) AX false (Ad l 0 sc.a).1 s
   let p2:=Bq f (Aw f N) AX true (Ad l sc.a sc.b).1 p1.2
   let p3:=Bq f (Aw f N) AX false (Ad l sc.b (A8 l).1).1 p2.2
   (p1.1++p2.1++p3.1,p3.2)
  else Bq f (Aw f N) sc mid l s
section
variable {σ : Type} {f : σ → BW → AF × Bool × σ} {fl : Int → List AE → Av → Bool → σ → List AE × σ} {sc : Av} {mid : Bool}
theorem Lg (l:List Wl) (z:List Wl×σ):(l.foldl (CG f fl sc mid) z).1.length<=z.1.length+l.length:=by
 induction l generalizing z with
 | nil=>simp
 | cons a l ih=>
  have:=ih (CG f fl sc mid z a);have h2:(CG f fl sc mid z a).1.length<=z.1.length+1:=by unfold CG;dsimp only;split<;>simp
  simp only[qM,qF];omega
theorem NB (l:List Aa) (z:List Aa×σ):(l.foldl (CW f fl sc mid) z).1.length<=z.1.length+l.length:=by
 induction l generalizing z with
 | nil=>simp
 | cons a l ih=>
  have:=ih (CW f fl sc mid z a);have h2:(CW f fl sc mid z a).1.length<=z.1.length+1:=by unfold CW;dsimp only;split<;>simp
  simp only[qM,qF];omega
theorem G6 (l:List AE) (z:List AE×σ):(l.foldl (Dq f fl sc mid) z).1.length<=z.1.length+l.length:=by
 induction l generalizing z with
 | nil=>simp
 | cons a l ih=>
  have:=ih (Dq f fl sc mid z a);have h2:(Dq f fl sc mid z a).1.length<=z.1.length+1:=by unfold Dq;dsimp only;split<;>simp
  simp only[qM,qF];omega
end
section
variable {α σ : Type} {rk : σ → Nat}
variable {f : σ → BW → AF × Bool × σ} {fl : Int → List AE → Av → Bool → σ → List AE × σ}
theorem PB (h:∀s p,rk s<=rk (f s p).2.2) (a:∀id l sc mid s,rk s<=rk (fl id l sc mid s).2) (sc:Av) (mid:Bool) (q:List Wl×σ) (c:Wl):rk q.2<=rk (CG f fl sc mid q c).2:=qr (h _ _) (a _ _ _ _ _)
theorem M7 (h:∀s p,rk s<=rk (f s p).2.2) (a:∀id l sc mid s,rk s<=rk (fl id l sc mid s).2) (sc:Av) (mid:Bool) (l:List Wl) (s:σ):rk s<=rk (Dh f fl sc mid l s).2:=Gi (G:=CG f fl sc mid) (PB h a sc mid) l ([],s)
theorem RG (h:∀s p,rk s<=rk (f s p).2.2) (a:∀id l sc mid s,rk s<=rk (fl id l sc mid s).2) (sc:Av) (mid:Bool) (x:Aa) (s:σ):rk s<=rk (Hj f fl sc mid x s).2.2:=qr (h s ⟨x.head,mid,1⟩) (M7 h a sc mid x.cells _)
theorem Lj (h:∀s p,rk s<=rk (f s p).2.2) (a:∀id l sc mid s,rk s<=rk (fl id l sc mid s).2) (sc:Av) (mid:Bool) (l:List Aa) (s:σ):rk s<=rk (FH f fl sc mid l s).2:=Gi (G:=CW f fl sc mid) (λq x=>RG h a sc mid x q.2) l ([],s)
theorem Tf (a:∀id l sc mid s,rk s<=rk (fl id l sc mid s).2) (sc:Av) (mid:Bool) (x:AE) (s:σ):rk s<=rk (K3 fl sc mid x s).2:=by
 unfold K3;split;exact a _ _ _ _ _;exact qa _
theorem PE (h:∀s p,rk s<=rk (f s p).2.2) (a:∀id l sc mid s,rk s<=rk (fl id l sc mid s).2) (sc:Av) (mid:Bool) (q:List AE×σ) (x:AE):rk q.2<=rk (Dq f fl sc mid q x).2:=
 qr (qr (h _ _) (Tf a sc mid x _)) (Lj h a sc mid x.rows _)
theorem G7 (h:∀s p,rk s<=rk (f s p).2.2) (a:∀id l sc mid s,rk s<=rk (fl id l sc mid s).2) (sc:Av) (mid:Bool) (l:List AE) (s:σ):rk s<=rk (Bq f fl sc mid l s).2:=Gi (G:=Dq f fl sc mid) (PE h a sc mid) l ([],s)
theorem PD (h:∀s p,rk s<=rk (f s p).2.2):∀(N:Nat) (id:Int) (l:List AE) (sc:Av) (mid:Bool) (s:σ),rk s<=rk (Aw f N id l sc mid s).2
 | 0,_,_,_,_,_=>qa _
 | N+1,id,l,sc,mid,s=>by
  rw[Aw];have a:=PD h N;split;exact qr (qr (G7 h a _ _ _ _) (G7 h a _ _ _ _)) (G7 h a _ _ _ _);exact G7 h a _ _ _ _
end
section
variable {σ : Type}
structure MN (st:σ->Nat->Option BT) (n0:Nat) (g:FuncId) (a b:List SV) (f:σ->BW->AF×Bool×σ) (ok:AF->Prop) (rk:σ->Nat:=λ_=>0) (top:Nat:=0):Prop where
 up:∀s p,rk s<=rk (f s p).2.2:=by exact λ_ _=>qa _
 lt:∀s o,n0<=o->st s o=none
 dom:∀s s' o,st s o=none->st s' o=none
 cl:∀s o y,st s o=some y->BQ n0 y=true
 call:∀s p H n,ok p.head->rk (f s p).2.2<=top->n0<=n->(∀o y,st s o=some y->H o=some y)->BA Tryz.prog g (a++[p.head.enc,AA p.units,.bool p.mid]++b) H n (λv h' n'=>v=.tup [(f s p).1.enc,.bool (f s p).2.1]/\h'=Aj st (f s p).2.2 H/\n'=n)
variable {st : σ → Nat → Option BT} {n0 : Nat} {g : FuncId} {a b : List SV} {f : σ → BW → AF × Bool × σ} {ok : AF → Prop} {rk : σ → Nat} {top : Nat}
theorem MN.cx (C:MN st n0 g a b f ok rk top):ML st n0 g a b f (λ_=>False):={ lt:=C.lt,dom:=C.dom,cl:=C.cl,call:=λ_ _ _ _ h=>h.elim }
variable {fl : Int → List AE → Av → Bool → σ → List AE × σ} {mid : Bool} {P : List AE → Prop} {sc : Av}
def ZF (st:σ->Nat->Option BT) (n0:Nat) (g:FuncId) (a b:List SV) (fl:Int->List AE->Av->Bool->σ->List AE×σ) (P:List AE->Prop) (rk:σ->Nat:=λ_=>0) (top:Nat:=0):Prop:=
 ∀id l sc mid s H n,P l->rk (fl id l sc mid s).2<=top->n0<=n->(∀o y,st s o=some y->H o=some y)->BA Tryz.prog 115 [AG l,AA id,sc.enc,.bool mid,.fn (.func g) a b] H n (λv h' n'=>v=AG (fl id l sc mid s).1/\h'=Aj st (fl id l sc mid s).2 H/\n'=n)
def Ks:List SV:=[.imm 0 [] true,AA 0,AA 0,.imm 0 [] true,.imm 0 [] true,.imm 0 [] true]
theorem Sp {h h':Hp} {o:Option Nat} {es:List SV} (a:∀j y,h j=some y->h' j=some y):∀j y,AN o es h j=some y->AN o es h' j=some y:=λj y e=>by
 cases o with
 | none=>exact a j y e
 | some k=>
  simp only[AN,hset]at e ⊢;split at e;rename_i c;rw[if_pos c];exact e;rename_i c;rw[if_neg c];exact a j y e
set_option maxHeartbeats 2000000 in
theorem bZ (C:MN st n0 g a b f ok rk top) (hfl:ZF st n0 g a b fl P rk top) (hfu:∀id l sc mid s,rk s<=rk (fl id l sc mid s).2) (x:Aa) (hx:ok x.head/\x.cells.length<=1048576/\∀c∈x.cells,ok c.head/\P c.flow) (s:σ) (ht:rk (Hj f fl sc mid x s).2.2<=top) {H:Hp} {n:Nat} (hn:n0<=n) (hs:∀o y,st s o=some y->H o=some y):
 BA Tryz.prog 181 [x.enc,sc.enc,.bool mid,.fn (.func g) a b] H n (λv h' n'=>v=.tup [(Hj f fl sc mid x s).1.enc,.bool (Hj f fl sc mid x s).2.1]/\h'=Aj st (Hj f fl sc mid x s).2.2 H/\n'=n):=by
 have D:=C.cx;refine Db Tryz.func181 rfl λho=>?_;obtain⟨x1,x2,x3⟩:=hx;have hU:∀s',Es (Aj st s' H) n:=λs'=>D.old s' hn ho;have hUb:∀s' j y,Aj st s' H j=some y->j<n:=λs' j y e=>(hU s' j y e).1;have F:∀s' j y,hset (Aj st s' H) (n+2) (some (.cells Ks)) j=some y->j<n+3:=λs' j y e=>by
  simp only[hset]at e;split at e;omega;have:=hUb s' j y e;omega
 have hup:∀s1 s' z,Aj st s' (hset (Aj st s1 H) (n+2) z)=hset (Aj st s' H) (n+2) z:=λs1 s' z=>by rw[<-D.hset _ _ (by omega),D.up2]
 have hhas:∀s' z,∀k w,st s' k=some w->hset (Aj st s' H) (n+2) z k=some w:=λs' z=>Ey C.lt (by omega) z Bw;refine BP 1 [(2,.bool mid),(3,.fn (.func g) a b),(4,.iptr (x.head.flat++[BS x.cells])),(5,.iptr [AA sc.id,AA sc.a,AA sc.b]),(8,.ptr (n+2) 0)] (hset (Aj st s H) (n+2) (some (.cells Ks))) (λm=>n+3=m) ?_ (λm W=>?_);simp[go_sem,Av.enc,qQ,AF.flat,IO,DY s H hs,Ks,qD];refine⟨⟨AV (by rw[AD _ _ (by omega)];exact ho.none (by omega)) (by simp[hset]),AV (by rw[AD _ _ (by omega)];exact ho.none (by omega)) (by simp[hset])⟩,λj y=>?_⟩;have:=ho j y;simp only[hset];grind;subst W;have K:=λz=>C.call s ⟨x.head,mid,1⟩ (hset (Aj st s H) (n+2) z) (n+3) x1 (qr (M7 C.up hfu sc mid x.cells _) ht) (by omega) (hhas s z);simp only[Hj]at ht ⊢;generalize f s ⟨x.head,mid,1⟩=r at K ht ⊢;obtain⟨h',k,s1⟩:=r;dsimp only at K ht ⊢;simp only[hup,qz,qE,qn]at K;refine BP 1 [(2,.bool mid),(3,.fn (.func g) a b),(4,.iptr (x.head.flat++[BS x.cells])),(5,.iptr [AA sc.id,AA sc.a,AA sc.b]),(8,.ptr (n+2) 0),(10,.iptr h'.flat),(11,.bool k)] (hset (Aj st s1 H) (n+2) (some (.cells Ks))) (λm=>n+3<=m) ?_ (λm W=>?_);simp[go_sem,AF.flat];refine qC (by simpa[AF.enc,AF.flat]using K _) ?_;rintro v H' n' ⟨rfl,rfl,rfl⟩;simp[go_sem,IO,AC];exact⟨AV (AW (F _) (qa _)) (AC _ _ _),AJ (F _) (AJ (F _) AB)⟩;obtain⟨Q,hQ⟩:∃Q:Nat->List Wl×σ,∀i,Q i=(x.cells.take i).foldl (CG f fl sc mid) ([],s1):=⟨_,λ_=>rfl⟩
 have hQ0:Q 0=([],s1):=by rw[hQ];rfl
 have hQs:∀i y,(h:i<x.cells.length)->x.cells[i]=y->Q (i+1)=CG f fl sc mid (Q i) y:=λi y h hy=>by rw[hQ,hQ,DE _ _ _ _ _ h hy]
 have hQl:Q x.cells.length=Dh f fl sc mid x.cells s1:=by rw[hQ,qi];rfl
 have hQn:∀i,(Q i).1.length<=i:=λi=>by rw[hQ];have:=Lg (f:=f) (fl:=fl) (sc:=sc) (mid:=mid) (x.cells.take i) ([],s1);simp at this;omega
 have hQt:∀i,rk (Q i).2<=top:=λi=>by rw[hQ];exact qr (Ih (PB C.up hfu sc mid) _ _ i) ht
 clear hQ;refine BM 0 (α:=Nat) (λp=>[(2,.bool mid),(3,.fn (.func g) a b),(4,.iptr (x.head.flat++[BS x.cells])),(5,.iptr [AA sc.id,AA sc.a,AA sc.b]),(8,.ptr (n+2) 0),(11,.bool k),(12,.ptr p 0)]) (λp=>hset (hset (Aj st s1 H) (n+2) (some (.cells Ks))) p (some (.cells (h'.flat++[AM 7 none []])))) (λp m2=>n+3<=p/\p+1=m2) ?_ (λp m2 hm2=>?_);simp[go_sem,IO,AF.flat,AC,AS,AM];exact⟨m,⟨W,rfl⟩,rfl,AB⟩;obtain⟨hp1,rfl⟩:=hm2;obtain⟨B,Y⟩:∃B:σ->SV->Hp,∀s' v,B s' v=hset (hset (Aj st s' H) (n+2) (some (.cells Ks))) p (some (.cells (h'.flat++[v]))):=⟨_,λ_ _=>rfl⟩
 have O:∀s' v,B s' v p=some (.cells (h'.flat++[v])):=λs' v=>by rw[Y,AC]
 have hBb:∀s' v j y,B s' v j=some y->j<p+1:=λs' v j y e=>by
  rw[Y]at e;by_cases h:j=p;omega;rw[AD _ _ h]at e;have:=F s' j y e;omega
 have hBu:∀s1 s' v,Aj st s' (B s1 v)=B s' v:=λs1 s' v=>by rw[Y,Y,<-D.hset _ _ (by omega),hup]
 have hBh:∀s' v,∀k w,st s' k=some w->B s' v k=some w:=λs' v=>by rw[Y];exact Ey C.lt (by omega) _ (hhas s' _)
 refine Bo 2 [(8,.ptr (n+2) 0),(11,.bool k),(12,.iptr (h'.flat++[BS (Dh f fl sc mid x.cells s1).1]))] (hset (Aj st (Dh f fl sc mid x.cells s1).2 H) (n+2) (some (.cells Ks))) (λm=>p+1<=m) ?_ (λm3 hm3=>?_);refine BP 0 [(2,.bool mid),(3,.fn (.func g) a b),(4,.iptr (x.head.flat++[BS x.cells])),(5,.iptr [AA sc.id,AA sc.a,AA sc.b]),(8,.ptr (n+2) 0),(11,.bool k),(12,.ptr p 0),(13,AA 0)] (B s1 (AM 7 none [])) (λm=>p+1=m) ?_ (λM hm4=>?_);simp[go_sem,IO,Y];subst hm4;refine AR (BG 0 (α:=Nat×Option Nat) (λq=>[(2,.bool mid),(3,.fn (.func g) a b),(4,.iptr (x.head.flat++[BS x.cells])),(5,.iptr [AA sc.id,AA sc.a,AA sc.b]),(8,.ptr (n+2) 0),(11,.bool k),(12,.ptr p 0),(13,AA q.1)])
  (λq=>AN q.2 ((Q q.1).1.map Wl.enc) (B (Q q.1).2 (AM 7 q.2 ((Q q.1).1.map Wl.enc)))) (λq m=>q.1<=x.cells.length/\p+1<=m/\Ar (p+1) m 7 q.2 ((Q q.1).1.map Wl.enc)) (λq=>x.cells.length-q.1) (0,none) ⟨qg _,qa _,by simp only[hQ0];exact jK _ _ _⟩ ?_ ?_ ?_)
 simp[go_sem,Ai,IO];simp only[hQ0];exact AB;rintro⟨j,u⟩ M ⟨hj,hm4,d⟩;dsimp only at hj d ⊢;have hCn:((Q j).1.map Wl.enc).length<=j:=by rw[qd];exact hQn j
 by_cases Z:j<x.cells.length;obtain⟨y,hy⟩:∃y,x.cells[j]=y:=⟨_,rfl⟩
 have hym:y∈x.cells:=by rw[<-hy];exact ql Z
 obtain⟨y1,y2⟩:=x3 y hym;have L:=hQs j y Z hy;have w2:=wS j (by omega);generalize hSj:(Q j).2=sj at L;generalize hGj:(Q j).1.map Wl.enc=G at d hCn ⊢;generalize hV:AM 7 u G=V;have hYb:∀s' j y,AN u G (B s' V) j=some y->j<M:=λs'=>Dm (hBb s' V) hm4 d;refine Bp 0 [(2,.bool mid),(3,.fn (.func g) a b),(4,.iptr (x.head.flat++[BS x.cells])),(5,.iptr [AA sc.id,AA sc.a,AA sc.b]),(8,.ptr (n+2) 0),(11,.bool k),(12,.ptr p 0),(13,AA j)] (AN u G (B sj V)) M ?_ (λm' hm'=>?_);simp[go_sem,IO,Z,AF.flat];subst hm';refine AT 0 (α:=Option Nat) (λu=>[(2,.bool mid),(3,.fn (.func g) a b),(4,.iptr (x.head.flat++[BS x.cells])),(5,.iptr [AA sc.id,AA sc.a,AA sc.b]),(8,.ptr (n+2) 0),(11,.bool k),(12,.ptr p 0),(13,AA j)]) (λu=>AN u ((Q (j+1)).1.map Wl.enc) (B (Q (j+1)).2 (AM 7 u ((Q (j+1)).1.map Wl.enc)))) (λu m=>p+1<=m/\Ar (p+1) m 7 u ((Q (j+1)).1.map Wl.enc)) ?_ (λu m W=>?_);refine AR ?_;refine BP 0 [(2,.bool mid),(3,.fn (.func g) a b),(4,.iptr (x.head.flat++[BS x.cells])),(5,.iptr [AA sc.id,AA sc.a,AA sc.b]),(8,.ptr (n+2) 0),(11,.bool k),(12,.ptr p 0),(13,AA j),(14,.ptr M 0)] (hset (AN u G (B sj V)) M (some (.cells ([AA y.id]++y.head.flat++[AG y.flow])))) (λm5=>M+1=m5) ?_ (λm5 hm5=>?_);simp[go_sem,IO,Z,hy,QS,AF.flat,AC,AS];subst hm5;have hZb:∀s' z j y,hset (AN u G (B s' V)) M z j=some y->j<M+1:=λs' z j y e=>by
  by_cases h:j=M;omega;rw[AD _ _ h]at e;have:=hYb s' j y e;omega
 have hZu:∀s1 s' z,Aj st s' (hset (AN u G (B s1 V)) M z)=hset (AN u G (B s' V)) M z:=λs1 s' z=>by rw[<-D.hset _ _ (by omega),D.acc (by omega) d,hBu]
 have hZh:∀s' z,∀k w,st s' k=some w->hset (AN u G (B s' V)) M z k=some w:=λs' z=>Ey C.lt (by omega) _ (D.has (by omega) d (hBh s' V));simp only[CG,hSj]at L;have J:=hQt (j+1);rw[L]at J;have A:=λz m (W:n0<=m)=>C.call sj ⟨y.head,mid,1⟩ (hset (AN u G (B sj V)) M z) m y1 (qr (hfu _ _ _ _ _) J) W (hZh sj z);generalize f sj ⟨y.head,mid,1⟩=r2 at A L J;obtain⟨h2,k2,s2⟩:=r2;dsimp only at A L J;simp only[hZu,qz,qE,qn]at A;refine BP 1 [(2,.bool mid),(3,.fn (.func g) a b),(4,.iptr (x.head.flat++[BS x.cells])),(5,.iptr [AA sc.id,AA sc.a,AA sc.b]),(8,.ptr (n+2) 0),(11,.bool k),(12,.ptr p 0),(13,AA j),(14,.ptr M 0),(15,.iptr h2.flat),(16,.bool k2)] (hset (AN u G (B s2 V)) M (some (.cells ([AA y.id]++y.head.flat++[AG y.flow])))) (λm6=>M+1<=m6) ?_ (λm6 hm6=>?_);simp[go_sem,AF.flat,AC];refine qC (by simpa[AF.enc,AF.flat]using A _ _ (by omega)) ?_;rintro v H' n' ⟨rfl,rfl,rfl⟩;simp[go_sem,IO,AC];exact⟨AV (AW (hZb _ _) (qa _)) (AC _ _ _),AJ (hZb _ _) (AJ (hZb _ _) AB)⟩;refine Bp 0 [(2,.bool mid),(3,.fn (.func g) a b),(4,.iptr (x.head.flat++[BS x.cells])),(5,.iptr [AA sc.id,AA sc.a,AA sc.b]),(8,.ptr (n+2) 0),(11,.bool k),(12,.ptr p 0),(13,AA j),(14,.ptr M 0),(16,.bool k2)] (hset (AN u G (B s2 V)) M (some (.cells ([AA y.id]++h2.flat++[AG y.flow])))) m6 ?_ (λI hm7=>?_);simp[go_sem,IO,AF.flat,AC,AS];subst hm7;have R:=λz m (W:n0<=m)=>hfl y.id y.flow sc mid s2 (hset (AN u G (B s2 V)) M z) m y2 J W (hZh s2 z);clear J;generalize fl y.id y.flow sc mid s2=r3 at R L;obtain⟨q3,s3⟩:=r3;dsimp only at R L;simp only[hZu,Av.enc]at R;refine AY 1 [(2,.bool mid),(3,.fn (.func g) a b),(4,.iptr (x.head.flat++[BS x.cells])),(5,.iptr [AA sc.id,AA sc.a,AA sc.b]),(8,.ptr (n+2) 0),(11,.bool k),(12,.ptr p 0),(13,AA j),(14,.iptr ([AA y.id]++h2.flat++[AG q3])),(16,.bool k2)] (AN u G (B s3 V)) m6 ?_ (λI hm7=>?_);simp[go_sem,AF.flat,AC];refine qC (R _ _ (by omega)) ?_;rintro v H' n' ⟨rfl,rfl,rfl⟩;simp[go_sem,IO,AC,AS];exact⟨AV (AW (hYb _) (qa _)) (AC _ _ _),AJ (hYb _) AB⟩;rw[L];cases k2 with
 | false=>
  simp only[qj,if_false,hGj];refine AH ?_;simp[go_sem,IO];exact⟨u,⟨by omega,d.mono (by omega)⟩,by rw[hV];exact AB⟩
 | true =>
  simp only[if_true,qc,hGj,qu,qS];clear L R A;subst hV;have N:(AN u G (B s3 (AM 7 u G))) p=some (.cells [Af h'.props,AA h'.ins,AA h'.move,AP h'.dels,AL h'.layers,AM 7 u G]):=by
   cases u with
   | none=>exact O _ _
   | some q=>have:=(d.lt q rfl).1;simp only[AN];rw[AD _ _ (by omega)];exact O _ _
  have pm:p≠I:=by omega
  have pm1:p≠I+1:=by omega
  have T:=d.push (j:=I+1) (m':=I+1+1) (e:=(Wl.mk y.id h2 q3).enc) (Wl.E.st _) (Wl.E.len _) (by omega) (by omega);have hap:=λ(X:Hp) (a1:X I=some (.cells (Wl.mk y.id h2 q3).enc.cells)) (a2:∀j,u=some j->X j=some (.cells (G.flatMap SV.cells)))=>Dp (P:=Tryz.prog) (H:=X) (k:=I) (es:=G) (e:=(Wl.mk y.id h2 q3).enc) (o:=u) (t:=167) (t2:=167) (el:=171) (z:=7) (by simp[go_sem]) (by simp[go_sem]) (by simp[go_sem]) (by simp) (by simp[go_sem]) (by simp[go_sem]) (by simp[go_sem]) (by omega) d (Wl.E.len _) a1 a2 (I+1);have hvv:AM 7 (some (I+1)) (G++[(Wl.mk y.id h2 q3).enc])=.sl (I+1) 0 7 (G.length+1) false:=by simp[AM]
  have hX0:∀j w,hset (Aj st s3 H) (n+2) (some (.cells Ks)) j=some w->AN u G (B s3 (AM 7 u G)) j=some w:=λj w e=>by
   have:=F s3 j w e;refine Be (hBb s3 _) d j w ?_;rw[Y,AD _ _ (by omega)];exact e
  have S:=CY (n:=p+1) (p:=I+1) (v:=.sl (I+1) 0 7 (G.length+1) false) (e:=(Wl.mk y.id h2 q3).enc) (λj w e=>by have:=F s3 j w e;omega) (by omega) d (H:=hset (AN u G (B s3 (AM 7 u G))) I (some (.cells [AA y.id,Af h2.props,AA h2.ins,AA h2.move,AP h2.dels,AL h2.layers,AG q3]))) (AJ (λj z e=>by have:=F s3 j z e;omega) hX0);have hfin:∀X:Hp,(∀j w,AN (some (I+1)) (G++[(Wl.mk y.id h2 q3).enc]) (hset (Aj st s3 H) (n+2) (some (.cells Ks))) j=some w->X j=some w)->∀j w,AN (some (I+1)) (G++[(Wl.mk y.id h2 q3).enc]) (B s3 (.sl (I+1) 0 7 (G.length+1) false)) j=some w->hset X p (some (.cells [Af h'.props,AA h'.ins,AA h'.move,AP h'.dels,AL h'.layers,.sl (I+1) 0 7 (G.length+1) false])) j=some w:=λX hX j w e=>by
   by_cases h:j=p;subst h;simp only[AN]at e;rw[AD _ _ pm1,O]at e;rw[AC];exact e;rw[AD _ _ h];refine hX j w ?_;simp only[AN]at e ⊢;by_cases h2:j=I+1;subst h2;rw[AC]at e ⊢;exact e;rw[AD _ _ h2]at e ⊢;rw[Y,AD _ _ h]at e;exact e
  refine AH ?_;rcases u with _|q;simp[go_sem,AF.flat,N];rw[hap _ (by simp[AC,QS,SV.cells,Wl.id,Wl.head,Wl.flow]) (by simp)];simp[go_sem,AD,pm,pm1,N];refine⟨some (I+1),⟨by omega,T⟩,?_⟩;rw[hvv];refine hfin _ ?_;simpa[dW.app,SV.cells]using S;have hq:=d.lt q rfl;have pq:p≠q:=by omega
  have qm:q≠I:=by omega
  simp[go_sem,AF.flat,N];rw[hap _ (by simp[AC,QS,SV.cells,Wl.id,Wl.head,Wl.flow]) (by rintro j e;cases e;rw[AD _ _ qm];exact Cu q rfl)];simp[go_sem,AD,pm,pm1,pq,N];refine⟨some (I+1),⟨by omega,T⟩,?_⟩;rw[hvv];refine hfin _ ?_;simpa[dW.app,SV.cells]using S
 refine AH ?_;simp[go_sem,w2,IO,-Int.natCast_add];exact⟨j+1,by omega,u,⟨by omega,W.1,W.2⟩,rfl,AB⟩;have:j=x.cells.length:=by omega
 subst this;rw[hQl]at d ⊢;refine AH ?_;simp[go_sem,IO,AF.flat];generalize Dh f fl sc mid x.cells s1=r2 at d ⊢;obtain⟨q2,s2⟩:=r2;dsimp only at d ⊢;have hB0:∀v,∀j w,hset (Aj st s2 H) (n+2) (some (.cells Ks)) j=some w->B s2 v j=some w:=λv j w e=>by
  have:=F s2 j w e;rw[Y,AD _ _ (by omega)];exact e
 have N:∀v,(AN u (q2.map Wl.enc) (B s2 v)) p=some (.cells (h'.flat++[v])):=λv=>by
  cases u with
  | none=>exact O _ _
  | some q=>have:=(d.lt q rfl).1;simp only[AN];rw[AD _ _ (by omega)];exact O _ _
 refine⟨by omega,.inr ⟨AW (F _) (by omega),_,N _,by simp,?_⟩,λj w e=>Be (hBb s2 _) d j w (hB0 _ j w e)⟩;exact⟨IO,IO,IO,IO,IO,AM.fz' (λj hj=>AW (F _) (by omega)) d (Sp (hB0 _)),trivial⟩
 . generalize Dh f fl sc mid x.cells s1=r2;obtain⟨q2,s2⟩:=r2;dsimp only;have U:∀(z:BT) (m:Nat) (w:Bool),B8 n (hset (Aj st s2 H) (n+2) (some z)) m (.tup [(Aa.mk h' q2).enc,.bool w]) (λv h2 n'=>v=.tup [(Aa.mk h' q2).enc,.bool w]/\h2=Aj st s2 H/\n'=n):=λz m w=>
    B9 (hU s2) (by rw[closed,closedL,closedL,closedL];simp only[Bool.and_true,qq];exact⟨Aa.cl n _,by simp[closed]⟩) (AJ (λj z e=>by have:=hUb s2 j z e;omega) AB)
   simp only[qQ,Aa.head,Aa.cells]at U;refine AH ?_;cases k with
   | false=>
    simp[go_sem,AF.flat,AC,Ks]
    repeat first|refine nq ?_|refine sq ?_|refine aq ?_
    have:=U (.cells [Af h'.props,AA h'.ins,AA h'.move,AP h'.dels,AL h'.layers,BS q2]) m3 false;simpa[qQ,Aa.head,Aa.cells,AS]using this
   | true=>
    simp[go_sem,AF.flat,AC,Ks]
    repeat first|refine nq ?_|refine sq ?_|refine aq ?_
    have:=U (.cells [Af h'.props,AA h'.ins,AA h'.move,AP h'.dels,AL h'.layers,BS q2]) m3 (decide (0<q2.length));simpa[qQ,Aa.head,Aa.cells,AS]using this
end
end Go.Proofs.YtgakninlhfkkmaaGreat.Sh
