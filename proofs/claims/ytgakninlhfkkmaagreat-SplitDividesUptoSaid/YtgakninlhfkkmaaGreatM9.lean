/- A part of the proof (part 9 of 15). -/
import Derived.Test.YtgakninlhfkkmaaGreatM8
namespace Go.Proofs.YtgakninlhfkkmaaGreat.Sh
abbrev ZJ:=@AE.sizedL_text
open Proofs
set_option maxRecDepth 10000
mutual
theorem Dm {n m:Nat} (h:n<=m):∀v:SV,closed n v=true->closed m v=true
 | .agg cs,e=>by rw[closed]at *;exact Cd h cs e
 | .tup cs,e=>by rw[closed]at *;exact Cd h cs e
 | .fn _ a b,e=>by rw[closed,Yb]at *;exact⟨Cd h a e.1,Cd h b e.2⟩
 | .ptr o _,e=>by simp only[closed,decide_eq_true_eq]at *;omega
 | .iptr cs,e=>by rw[closed]at *;exact Cd h cs e
 | .sl o _ _ _ _,e=>by simp only[closed,decide_eq_true_eq]at *;omega
 | .slc o _ _ _ _,e=>by simp only[closed,decide_eq_true_eq]at *;omega
 | .imm _ es _,e=>by rw[closed]at *;exact Cd h es e
 | .map o,e=>by simp only[closed,decide_eq_true_eq]at *;omega
 | .int _ _,_|.bool _,_|.str _,_|.junk,_|.nilp,_|.nilf,_|.nilm,_=>by simp[closed]
theorem Cd {n m:Nat} (h:n<=m):∀l:List SV,closedL n l=true->closedL m l=true
 | [],_=>by rw[closedL]
 | s::l,e=>by rw[closedL,Yb]at *;exact⟨Dm h s e.1,Cd h l e.2⟩
end
theorem G8 {n m:Nat} (h:n<=m) {y:BT} (hc:BN n y=true):BN m y=true:=by
 cases y with
 | cells cs ty=>exact Cd h _ hc
 | map es=>
  simp only[BN,YL,Yb]at hc ⊢
  exact λp hp=>⟨Dm h _ (hc p hp).1,Dm h _ (hc p hp).2⟩
 | loop l=>rfl
 | list z es=>exact Cd h _ hc
 | iter l r=>
  simp only[BN,YL,Yb,Option.all_eq_true]at hc ⊢
  exact⟨λp hp=>⟨Dm h _ (hc.1 p hp).1,Dm h _ (hc.1 p hp).2⟩,λp hp=>⟨Dm h _ (hc.2 p hp).1,Dm h _ (hc.2 p hp).2⟩⟩
section
variable {σ : Type}
def Ai (st:σ->Nat->Option BT) (s:σ) (H:Hp):Hp:=λo=>match st s o with|some y=>some y|none=>H o
structure Lt (st:σ->Nat->Option BT) (n0:Nat) (g:FuncId) (a b:List SV) (f:σ->BY->AF×Bool×σ) (ok:AF->Prop):Prop where
 lt:∀s o,n0<=o->st s o=none
 dom:∀s s' o,st s o=none->st s' o=none
 cl:∀s o y,st s o=some y->BN n0 y=true
 call:∀s p H n,ok p.head->n0<=n->(∀o y,st s o=some y->H o=some y)->BM Tryz.prog g (a++[p.enc]++b) H n (λv h' n'=>v=.tup [(f s p).1.enc,.bool (f s p).2.1]/\h'=Ai st (f s p).2.2 H/\n'=n)
variable {st : σ → Nat → Option BT} {n0 : Nat} {g : FuncId} {a b : List SV} {f : σ → BY → AF × Bool × σ} {ok : AF → Prop}
theorem Lt.ne (C:Lt st n0 g a b f ok) (s:σ) (H:Hp) {o:Nat} (h:n0<=o):Ai st s H o=H o:=by simp[Ai,C.lt s o h]
theorem Lt.up2 (C:Lt st n0 g a b f ok) (s s':σ) (H:Hp):Ai st s' (Ai st s H)=Ai st s' H:=by
 funext o
 simp only[Ai]
 cases h:st s' o with
 | some y=>rfl
 | none=>simp[C.dom s' s o h]
theorem Lt.hset (C:Lt st n0 g a b f ok) (s:σ) (H:Hp) {o:Nat} (h:n0<=o) (y:Option BT):hset (Ai st s H) o y=Ai st s (hset H o y):=by
 funext j
 simp only[Ai,Sh.hset]
 split
 . subst_vars;rw[C.lt s _ h]
 . rfl
theorem DP (s:σ) (H:Hp) (h:∀o y,st s o=some y->H o=some y):Ai st s H=H:=by
 funext o
 simp only[Ai]
 cases e:st s o with
 | some y=>rw[h o y e]
 | none=>rfl
theorem Lt.old (C:Lt st n0 g a b f ok) (s:σ) {H:Hp} {n:Nat} (hn:n0<=n) (ho:E4 H n):E4 (Ai st s H) n:=λo y e=>by
 simp only[Ai]at e
 cases e1:st s o with
 | some z=>
  rw[e1]at e;cases e
  refine⟨?_,G8 hn (C.cl s o y e1)⟩
  by_cases h:n0<=o
  . rw[C.lt s o h]at e1;cases e1
  . omega
 | none=>rw[e1]at e;exact ho o y e
theorem Lt.acc (C:Lt st n0 g a b f ok) {n m z:Nat} {o:Option Nat} {es:List SV} (hn:n0<=n) (hA:A7 n m z o es) (s':σ) (H:Hp):Ai st s' (AO o es H)=AO o es (Ai st s' H):=by
 cases o with
 | none=>rfl
 | some j=>have:=(hA.lt j rfl).1;simp only[AO];rw[C.hset s' H (by omega)]
theorem Lt.has (C:Lt st n0 g a b f ok) {n m z:Nat} {o:Option Nat} {es:List SV} (hn:n0<=n) (hA:A7 n m z o es) {s:σ} {H:Hp} (h:∀k y,st s k=some y->H k=some y):∀k y,st s k=some y->AO o es H k=some y:=λk y e=>by
 cases o with
 | none=>exact h k y e
 | some j=>
  have:=(hA.lt j rfl).1
  simp only[AO]
  rw[AD _ _ ?_]
  . exact h k y e
  . rintro rfl;rw[C.lt s k (by omega)]at e;cases e
theorem Bq {s:σ} {H:Hp}:∀k y,st s k=some y->Ai st s H k=some y:=λk y e=>by simp[Ai,e]
theorem G6 {n m z:Nat} {o:Option Nat} {es:List SV} {h:Hp} (hb:∀j y,h j=some y->j<n) (hnm:n<=m) (hA:A7 n m z o es):∀j y,AO o es h j=some y->j<m:=λj y e=>by
 cases o with
 | none=>have:=hb j y e;omega
 | some k=>
  have:=(hA.lt k rfl).2
  simp only[AO,hset]at e
  split at e
  . omega
  . have:=hb j y e;omega
theorem Ac {h:Hp} {m:Nat} (hb:∀j y,h j=some y->j<m) {k:Nat} (hk:m<=k):h k=none:=by
 cases e:h k with
 | none=>rfl
 | some y=>have:=hb k y e;omega
theorem AN.fz' {h:Hp} {n m z k:Nat} {o:Option Nat} {es:List SV} (hn:∀j,n<=j->h j=none) (H:A7 n m z o es) {h':Hp} (hh:∀j y,AO o es h j=some y->h' j=some y):Fz h' h (k+1) (AN z o es) (.imm z es false):=by
 cases o with
 | none=>rw[H.none rfl];exact .inr ⟨by simp,.inl rfl,trivial,by simp⟩
 | some j =>
  have hj:=hh j (.cells (es.flatMap SV.cells)) (by simp[AO,hset])
  refine .inr ⟨hn j (H.lt j rfl).1,by simp,rfl,rfl,_,_,hj,by simp[Bk,BE H.size];rfl,H.size,?_⟩
  have:∀l:List SV,AZ (Fz h' h k) l l:=by
   intro l;induction l with
   | nil=>trivial
   | cons a l ih=>exact⟨Y0,ih⟩
  simp only[<-BE H.size,Ya]
  exact this _
theorem C8 {h:Hp} {n m z:Nat} {o:Option Nat} {es:List SV} (hb:∀j y,h j=some y->j<n) (H:A7 n m z o es):∀j x,h j=some x->AO o es h j=some x:=λj x e=>by
 cases o with
 | none=>exact e
 | some k=>
  have h1:=(H.lt k rfl).1
  have h2:=hb j x e
  simp only[AO];rw[AD _ _ (by omega)];exact e
theorem Du {h H:Hp} {n m p z:Nat} {es:List SV} {e:SV} {o:Option Nat} {v:SV} (hb:∀j y,h j=some y->j<n) (hn:n<=p) (hA:A7 n m z o es) (hH:∀j y,h j=some y->H j=some y):
 ∀j y,AO (some p) (es++[e]) h j=some y->(Cs.app H p { val:=v,upd:=o.map λj=>(j,none),new:=some (.cells (es.flatMap SV.cells++e.cells)) }) j=some y:=by
 intro j y hj
 simp only[AO]at hj
 by_cases e1:j=p
 . subst e1
   rw[AC]at hj
   simp only[Cs.app,AC]
   rw[<-hj];simp
 . rw[AD _ _ e1]at hj
   have hlt:=hb j y hj
   have:=hH j y hj
   cases o with
   | none=>simp[Cs.app,AD _ _ e1,this]
   | some k=>
    have hk:j≠k:=by have:=(hA.lt k rfl).1;omega
    simp[Cs.app,AD _ _ e1,AD _ _ hk,this]
theorem Gx {h:Hp} {n n' m z:Nat} {o:Option Nat} {es:List SV} (ho:E4 h n) (H:A7 n m z o es) (hc:∀e∈es,closed n e=true):Bz n (AO o es h) n' (AN z o es) (λv h' n'=>v=.imm z es false/\h'=h/\n'=n):=
 .inr ⟨1,.imm z es false,h,AN.fz ho H AB,by rw[closed];exact DS.2 hc,λj x e=>⟨AO.old ho H j x e,ho j x e⟩,rfl,rfl,rfl⟩
theorem AK {h h':Hp} {m:Nat} {y:Option BT} (hb:∀j z,h j=some z->j<m) (hh:∀j z,h j=some z->h' j=some z):∀j z,h j=some z->hset h' m y j=some z:=λj z e=>by
 rw[AD _ _ (by have:=hb j z e;omega)];exact hh j z e
def trR:Tr:=.pure 0<|.pure 1<|.pure 2<|.pure 3<|.pure 4<|.pure 5<|.pure 6<|.pure 7<|.pure 8<|.pure 9<|.pure 10<|.one 11<|.one 12<|.one 13<|.one 14<|.one 15 .nil
variable {it : Int → List AE → Bool → σ → List AE × σ} {mid : Bool} {P : List AE → Prop} {sc : Ah}
def ItC (st:σ->Nat->Option BT) (n0:Nat) (g:FuncId) (a b:List SV) (it:Int->List AE->Bool->σ->List AE×σ) (sc:Ah) (P:List AE->Prop):Prop:=
 ∀id l mid s H n,P l->n0<=n->(∀o y,st s o=some y->H o=some y)->BM Tryz.prog 121 [.fn (.func g) a b,AA id,AG l,sc.enc,.bool mid] H n (λv h' n'=>v=AG (it id l mid s).1/\h'=Ai st (it id l mid s).2 H/\n'=n)
set_option maxHeartbeats 2000000 in
theorem d257 (C:Lt st n0 g a b f ok) (hit:ItC st n0 g a b it sc P) (l:List AW) (hl:l.length<=1048576) (hr:∀r∈l,ok r.head/\r.cells.length<=1048576/\∀c∈r.cells,ok c.head/\P c.flow) (s:σ) {H:Hp} {n:Nat} (hn:n0<=n) (hs:∀o y,st s o=some y->H o=some y):
 BM Tryz.prog 257 [.fn (.func g) a b,Av l,sc.enc,.bool mid] H n (λv h' n'=>v=Av (Gy f it mid l s).1/\h'=Ai st (Gy f it mid l s).2 H/\n'=n):=by
 refine Dg Tryz.func257 rfl λho=>?_
 obtain⟨R,hR⟩:∃R:Nat->List AW×σ,∀i,R i=(l.take i).foldl (Et f it mid) ([],s):=⟨_,λ_=>rfl⟩
 have hR0:R 0=([],s):=by rw[hR];rfl
 have hRs:∀i x,(h:i<l.length)->l[i]=x->R (i+1)=Et f it mid (R i) x:=λi x h hx=>by rw[hR,hR,FI _ _ _ _ _ h hx]
 have hRl:R l.length=Gy f it mid l s:=by rw[hR,Ya];rfl
 have hRn:∀i,(R i).1.length<=i:=λi=>by rw[hR];have:=Ms (f:=f) (it:=it) (mid:=mid) (l.take i) ([],s);simp at this;omega
 clear hR
 have hU:∀s',E4 (Ai st s' H) n:=λs'=>C.old s' hn ho
 have hUb:∀s' j y,Ai st s' H j=some y->j<n:=λs' j y e=>(hU s' j y e).1
 refine Ab 1 [(0,.fn (.func g) a b),(1,Av l),(3,.bool mid),(6,.iptr [AA sc.id,AA sc.a,AA sc.b])] (Ai st s H) n ?_ (λm hm=>?_)
 . simp[go_sem,Ah.enc,Y0,DP s H hs]
   refine⟨AT (ho.none (Y1 n)) (by simp[hset]),λj y e=>by rw[AD _ _ (by have:=(ho j y e).1;omega)];exact e⟩
 refine Ab 0 [(0,.fn (.func g) a b),(1,Av l),(3,.bool mid),(6,.iptr [AA sc.id,AA sc.a,AA sc.b]),(9,.imm 0 [] true)] (Ai st s H) n ?_ (λm hm=>?_)
 . simp[go_sem,Y0,hm]
 refine AV 0 (α:=Option Nat) (λo=>[(9,AN 6 o ((R l.length).1.map AW.enc))]) (λo=>AO o ((R l.length).1.map AW.enc) (Ai st (R l.length).2 H)) (λo m=>n<=m/\A7 n m 6 o ((R l.length).1.map AW.enc)) ?_ (λo m hm=>?_)
 . refine Ab 0 [(0,.fn (.func g) a b),(3,.bool mid),(6,.iptr [AA sc.id,AA sc.a,AA sc.b]),(9,.imm 0 [] true),(19,Av l),(20,AA l.length),(21,AA 0)] (Ai st s H) n ?_ (λm hm=>?_)
   . simp[go_sem,Y0,hm]
   refine AR (BP 0 (α:=Nat×Option Nat) (λq=>[(0,.fn (.func g) a b),(3,.bool mid),(6,.iptr [AA sc.id,AA sc.a,AA sc.b]),(9,AN 6 q.2 ((R q.1).1.map AW.enc)),(19,Av l),(20,AA l.length),(21,AA q.1)])
    (λq=>AO q.2 ((R q.1).1.map AW.enc) (Ai st (R q.1).2 H)) (λq m=>q.1<=l.length/\n<=m/\A7 n m 6 q.2 ((R q.1).1.map AW.enc)) (λq=>l.length-q.1) (0,none) ⟨Y4 _,hm,by simp only[hR0];exact Zs _ _ _⟩ ?_ ?_ ?_)
   . simp[go_sem,Aj,AN,Y0]
   . simp only[hR0];exact AB
   clear hm m
   rintro⟨i,o⟩ m ⟨hi,hnm,hA⟩
   dsimp only at hi hA ⊢
   have hEn:((R i).1.map AW.enc).length<=i:=by rw[Y5];exact hRn i
   by_cases hlt:i<l.length
   . obtain⟨x,hx⟩:∃x,l[i]=x:=⟨_,rfl⟩
     have hxm:x∈l:=by rw[<-hx];exact Yc hlt
     obtain⟨x1,x2,x3⟩:=hr x hxm
     have hgx:(l.map AW.enc)[i]? = some x.enc:=by simp[hlt,hx]
     have hst:=hRs i x hlt hx
     have w1:=wS i (by omega)
     generalize hSi:(R i).2=si at hst
     generalize hEi:(R i).1.map AW.enc=E at hA hEn ⊢
     have hXb:∀s' j y,AO o E (Ai st s' H) j=some y->j<m:=λs'=>G6 (hUb s') hnm hA
     refine By 0 [(0,.fn (.func g) a b),(3,.bool mid),(6,.iptr [AA sc.id,AA sc.a,AA sc.b]),(9,AN 6 o E),(19,Av l),(20,AA l.length),(21,AA i),(22,.bool true)] (AO o E (Ai st si H)) m ?_ (λm' hm'=>?_)
     . simp[go_sem,Y0,hlt]
     subst hm'
     refine By 0 [(0,.fn (.func g) a b),(3,.bool mid),(6,.iptr [AA sc.id,AA sc.a,AA sc.b]),(9,AN 6 o E),(19,Av l),(20,AA l.length),(21,AA i)] (AO o E (Ai st si H)) m ?_ (λm2 hm2=>?_)
     . simp[go_sem,Y0]
     subst hm2
     refine AV 0 (α:=Option Nat) (λo=>[(0,.fn (.func g) a b),(3,.bool mid),(6,.iptr [AA sc.id,AA sc.a,AA sc.b]),(9,AN 6 o ((R (i+1)).1.map AW.enc)),(19,Av l),(20,AA l.length),(21,AA i)]) (λo=>AO o ((R (i+1)).1.map AW.enc) (Ai st (R (i+1)).2 H)) (λo m=>n<=m/\A7 n m 6 o ((R (i+1)).1.map AW.enc)) ?_ (λo m hm=>?_)
     . refine AR ?_
       refine Ab 1 [(0,.fn (.func g) a b),(3,.bool mid),(6,.iptr [AA sc.id,AA sc.a,AA sc.b]),(9,AN 6 o E),(19,Av l),(20,AA l.length),(21,AA i),(11,.iptr (x.head.flat++[BQ x.cells]))] (AO o E (Ai st si H)) m ?_ (λm2 hm2=>?_)
       . simp[go_sem,Y0,hlt,hx,YB,AF.flat,AC]
         refine⟨AT (Ac (hXb _) (Y1 m)) (AC _ _ _),AK (hXb _) (AK (hXb _) AB)⟩
       have hXb2:∀s' j y,AO o E (Ai st s' H) j=some y->j<m2:=λs' j y e=>by have:=hXb s' j y e;omega
       obtain⟨p,hp⟩:∃p:BY,p=⟨x.head,mid,1⟩:=⟨_,rfl⟩
       have hcall:=C.call si p (AO o E (Ai st si H)) m2 (by rw[hp];exact x1) (by omega) (C.has hn hA Bq)
       have hst':R (i+1)=if(f si p).2.1 then((R i).1++[.mk (f si p).1 (EP f it mid x.cells (f si p).2.2).1],(EP f it mid x.cells (f si p).2.2).2)else((R i).1,(f si p).2.2):=by rw[hst,hp,Et,hSi]
       rw[C.acc hn hA,C.up2]at hcall
       have hpe:p.enc=.agg (x.head.flat++[.bool mid,AA 1]):=by rw[hp];rfl
       clear hst hSi
       rcases hf:f si p with⟨h',k,s1⟩
       rw[hf]at hcall hst'
       dsimp only at hcall hst'
       refine Ab 1 [(0,.fn (.func g) a b),(3,.bool mid),(6,.iptr [AA sc.id,AA sc.a,AA sc.b]),(9,AN 6 o E),(19,Av l),(20,AA l.length),(21,AA i),(11,.iptr (x.head.flat++[BQ x.cells])),(12,.iptr h'.flat),(13,.bool k)] (AO o E (Ai st s1 H)) m2 ?_ (λm3 hm3=>?_)
       . rw[hpe]at hcall
         simp only[AF.flat,Yq,Yt,Ye]at hcall
         simp[go_sem,AF.flat]
         refine Ys hcall ?_
         rintro v H' n' ⟨rfl,rfl,rfl⟩
         simp[go_sem,Y0,AF.enc,AF.flat,AC]
         exact⟨AT (Ac (hXb2 _) (Y1 _)) (AC _ _ _),AK (hXb2 _) (AK (hXb2 _) AB)⟩
       cases k with
       | false=>
        have hst2:R (i+1)=((R i).1,s1):=by simpa using hst'
        simp only[hst2,hEi]
        refine AI ?_
        simp[go_sem,Y0]
        exact⟨o,⟨by omega,hA.mono (by omega)⟩,rfl,AB⟩
       | true=>
        have hst2:R (i+1)=((R i).1++[.mk h' (EP f it mid x.cells s1).1],(EP f it mid x.cells s1).2):=by simpa using hst'
        simp only[hst2,Y3,hEi,Yf,YF]
        clear hst' hst2 hcall hpe hf
        refine By 0 [(0,.fn (.func g) a b),(3,.bool mid),(6,.iptr [AA sc.id,AA sc.a,AA sc.b]),(9,AN 6 o E),(19,Av l),(20,AA l.length),(21,AA i),(11,.iptr (x.head.flat++[BQ x.cells])),(12,.iptr h'.flat)] (AO o E (Ai st s1 H)) m3 ?_ (λm4 hm4=>?_)
        . simp[go_sem,Y0]
        subst hm4
        refine By 0 [(0,.fn (.func g) a b),(3,.bool mid),(6,.iptr [AA sc.id,AA sc.a,AA sc.b]),(9,AN 6 o E),(19,Av l),(20,AA l.length),(21,AA i),(11,.iptr (x.head.flat++[BQ x.cells])),(12,.iptr h'.flat),(14,.imm 0 [] true)] (AO o E (Ai st s1 H)) m3 ?_ (λm4 hm4=>?_)
        . simp[go_sem,Y0]
        subst hm4
        refine Bt 1 [(0,.fn (.func g) a b),(3,.bool mid),(6,.iptr [AA sc.id,AA sc.a,AA sc.b]),(9,AN 6 o E),(19,Av l),(20,AA l.length),(21,AA i),(12,.iptr h'.flat),(14,BQ (EP f it mid x.cells s1).1)] (AO o E (Ai st (EP f it mid x.cells s1).2 H)) m3 ?_ (λm4 hm4=>?_)
        . refine By 0 [(0,.fn (.func g) a b),(3,.bool mid),(6,.iptr [AA sc.id,AA sc.a,AA sc.b]),(9,AN 6 o E),(19,Av l),(20,AA l.length),(21,AA i),(12,.iptr h'.flat),(14,.imm 0 [] true),(37,BQ x.cells),(38,AA x.cells.length),(39,AA 0)] (AO o E (Ai st s1 H)) m3 ?_ (λm4 hm4=>?_)
          . simp[go_sem,Y0,AF.flat]
          subst hm4
          obtain⟨Q,hQ⟩:∃Q:Nat->List AL×σ,∀i,Q i=(x.cells.take i).foldl (Dl f it mid) ([],s1):=⟨_,λ_=>rfl⟩
          have hQ0:Q 0=([],s1):=by rw[hQ];rfl
          have hQs:∀i y,(h:i<x.cells.length)->x.cells[i]=y->Q (i+1)=Dl f it mid (Q i) y:=λi y h hy=>by rw[hQ,hQ,FI _ _ _ _ _ h hy]
          have hQl:Q x.cells.length=EP f it mid x.cells s1:=by rw[hQ,Ya];rfl
          have hQn:∀i,(Q i).1.length<=i:=λi=>by rw[hQ];have:=Kw (f:=f) (it:=it) (mid:=mid) (x.cells.take i) ([],s1);simp at this;omega
          clear hQ
          have hBb:∀s' j y,AO o E (Ai st s' H) j=some y->j<m3:=λs' j y e=>by have:=hXb s' j y e;omega
          refine AR (BP 0 (α:=Nat×Option Nat) (λq=>[(0,.fn (.func g) a b),(3,.bool mid),(6,.iptr [AA sc.id,AA sc.a,AA sc.b]),(9,AN 6 o E),(19,Av l),(20,AA l.length),(21,AA i),(12,.iptr h'.flat),(14,AN 7 q.2 ((Q q.1).1.map AL.enc)),(37,BQ x.cells),(38,AA x.cells.length),(39,AA q.1)])
           (λq=>AO q.2 ((Q q.1).1.map AL.enc) (AO o E (Ai st (Q q.1).2 H))) (λq m=>q.1<=x.cells.length/\m3<=m/\A7 m3 m 7 q.2 ((Q q.1).1.map AL.enc)) (λq=>x.cells.length-q.1) (0,none) ⟨Y4 _,Y1 _,by simp only[hQ0];exact Zs _ _ _⟩ ?_ ?_ ?_)
          . simp[go_sem,Aj,AN,Y0]
          . simp only[hQ0];exact AB
          rintro⟨j,o2⟩ m4 ⟨hj,hm4,hA2⟩
          dsimp only at hj hA2 ⊢
          have hCn:((Q j).1.map AL.enc).length<=j:=by rw[Y5];exact hQn j
          by_cases hjt:j<x.cells.length
          . obtain⟨y,hy⟩:∃y,x.cells[j]=y:=⟨_,rfl⟩
            have hym:y∈x.cells:=by rw[<-hy];exact Yc hjt
            obtain⟨y1,y2⟩:=x3 y hym
            have hgy:(x.cells.map AL.enc)[j]? = some y.enc:=by simp[hjt,hy]
            have hqt:=hQs j y hjt hy
            have w2:=wS j (by omega)
            generalize hSj:(Q j).2=sj at hqt
            generalize hGj:(Q j).1.map AL.enc=G at hA2 hCn ⊢
            have hYb:∀s' j y,AO o2 G (AO o E (Ai st s' H)) j=some y->j<m4:=λs'=>G6 (hBb s') hm4 hA2
            refine By 0 [(0,.fn (.func g) a b),(3,.bool mid),(6,.iptr [AA sc.id,AA sc.a,AA sc.b]),(9,AN 6 o E),(19,Av l),(20,AA l.length),(21,AA i),(12,.iptr h'.flat),(14,AN 7 o2 G),(37,BQ x.cells),(38,AA x.cells.length),(39,AA j),(40,.bool true)] (AO o2 G (AO o E (Ai st sj H))) m4 ?_ (λm' hm'=>?_)
            . simp[go_sem,Y0,hjt]
            subst hm'
            refine By 0 [(0,.fn (.func g) a b),(3,.bool mid),(6,.iptr [AA sc.id,AA sc.a,AA sc.b]),(9,AN 6 o E),(19,Av l),(20,AA l.length),(21,AA i),(12,.iptr h'.flat),(14,AN 7 o2 G),(37,BQ x.cells),(38,AA x.cells.length),(39,AA j)] (AO o2 G (AO o E (Ai st sj H))) m4 ?_ (λm' hm'=>?_)
            . simp[go_sem,Y0]
            subst hm'
            refine AV 0 (α:=Option Nat) (λo2=>[(0,.fn (.func g) a b),(3,.bool mid),(6,.iptr [AA sc.id,AA sc.a,AA sc.b]),(9,AN 6 o E),(19,Av l),(20,AA l.length),(21,AA i),(12,.iptr h'.flat),(14,AN 7 o2 ((Q (j+1)).1.map AL.enc)),(37,BQ x.cells),(38,AA x.cells.length),(39,AA j)]) (λo2=>AO o2 ((Q (j+1)).1.map AL.enc) (AO o E (Ai st (Q (j+1)).2 H))) (λo2 m=>m3<=m/\A7 m3 m 7 o2 ((Q (j+1)).1.map AL.enc)) ?_ (λo2 m hm=>?_)
            . refine AR ?_
              refine Ab 1 [(0,.fn (.func g) a b),(3,.bool mid),(6,.iptr [AA sc.id,AA sc.a,AA sc.b]),(9,AN 6 o E),(19,Av l),(20,AA l.length),(21,AA i),(12,.iptr h'.flat),(14,AN 7 o2 G),(37,BQ x.cells),(38,AA x.cells.length),(39,AA j),(16,.iptr ([AA y.id]++y.head.flat++[AG y.flow]))] (AO o2 G (AO o E (Ai st sj H))) m4 ?_ (λm5 hm5=>?_)
              . simp[go_sem,Y0,hjt,hy,Z9,AF.flat,AC]
                refine⟨AT (Ac (hYb _) (Y1 m4)) (AC _ _ _),AK (hYb _) (AK (hYb _) AB)⟩
              have hYb2:∀s' j y,AO o2 G (AO o E (Ai st s' H)) j=some y->j<m5:=λs' j y e=>by have:=hYb s' j y e;omega
              obtain⟨p2,hp2⟩:∃p:BY,p=⟨y.head,mid,1⟩:=⟨_,rfl⟩
              have hcall2:=C.call sj p2 (AO o2 G (AO o E (Ai st sj H))) m5 (by rw[hp2];exact y1) (by omega) (C.has (by omega) hA2 (C.has hn hA Bq))
              have hqt':Q (j+1)=if(f sj p2).2.1 then((Q j).1++[.mk y.id (f sj p2).1 (it y.id y.flow mid (f sj p2).2.2).1],(it y.id y.flow mid (f sj p2).2.2).2)else((Q j).1,(f sj p2).2.2):=by rw[hqt,hp2,Dl,hSj]
              rw[C.acc (by omega) hA2,C.acc hn hA,C.up2]at hcall2
              have hpe2:p2.enc=.agg (y.head.flat++[.bool mid,AA 1]):=by rw[hp2];rfl
              clear hqt hSj
              rcases hf2:f sj p2 with⟨h2,k2,s2⟩
              rw[hf2]at hcall2 hqt'
              dsimp only at hcall2 hqt'
              refine Ab 1 [(0,.fn (.func g) a b),(3,.bool mid),(6,.iptr [AA sc.id,AA sc.a,AA sc.b]),(9,AN 6 o E),(19,Av l),(20,AA l.length),(21,AA i),(12,.iptr h'.flat),(14,AN 7 o2 G),(37,BQ x.cells),(38,AA x.cells.length),(39,AA j),(16,.iptr ([AA y.id]++y.head.flat++[AG y.flow])),(17,.iptr h2.flat),(18,.bool k2)] (AO o2 G (AO o E (Ai st s2 H))) m5 ?_ (λm6 hm6=>?_)
              . rw[hpe2]at hcall2
                simp only[AF.flat,Yq,Yt,Ye]at hcall2
                simp[go_sem,AF.flat]
                refine Ys hcall2 ?_
                rintro v H' n' ⟨rfl,rfl,rfl⟩
                simp[go_sem,Y0,AF.enc,AF.flat,AC]
                exact⟨AT (Ac (hYb2 _) (Y1 _)) (AC _ _ _),AK (hYb2 _) (AK (hYb2 _) AB)⟩
              cases k2 with
              | false=>
               have hst3:Q (j+1)=((Q j).1,s2):=by simpa using hqt'
               simp only[hst3,hGj]
               refine AI ?_
               simp[go_sem,Y0]
               exact⟨o2,⟨by omega,hA2.mono (by omega)⟩,rfl,AB⟩
              | true =>
               have hst3:Q (j+1)=((Q j).1++[.mk y.id h2 (it y.id y.flow mid s2).1],(it y.id y.flow mid s2).2):=by simpa using hqt'
               simp only[hst3,Y3,hGj,Yf,YF]
               clear hqt' hst3 hcall2 hpe2 hf2
               refine By 0 [(0,.fn (.func g) a b),(3,.bool mid),(6,.iptr [AA sc.id,AA sc.a,AA sc.b]),(9,AN 6 o E),(19,Av l),(20,AA l.length),(21,AA i),(12,.iptr h'.flat),(14,AN 7 o2 G),(37,BQ x.cells),(38,AA x.cells.length),(39,AA j),(16,.iptr ([AA y.id]++y.head.flat++[AG y.flow])),(17,.iptr h2.flat),(52,.bool true)] (AO o2 G (AO o E (Ai st s2 H))) m6 ?_ (λm7 hm7=>?_)
               . simp[go_sem,Y0]
               subst hm7
               refine Ag (b:=true) (by simp[go_sem]) ?_
               rw[if_pos rfl]
               have hc3:=hit y.id y.flow mid s2 (AO o2 G (AO o E (Ai st s2 H))) m6 y2 (by omega) (C.has (by omega) hA2 (C.has hn hA Bq))
               rw[C.acc (by omega) hA2,C.acc hn hA,C.up2]at hc3
               generalize it y.id y.flow mid s2=r3 at hc3 ⊢
               obtain⟨q3,s3⟩:=r3
               dsimp only at hc3 ⊢
               refine B7 trR rfl (by kernel_rfl) (by kernel_rfl) ?_
               simp[go_sem,trR,AF.flat]
               refine Ys (by simpa[Ah.enc]using hc3) ?_
               rintro v H' n' ⟨rfl,rfl,rfl⟩
               simp[go_sem]
               have hpush:=hA2.push (j:=n'+1) (m':=n'+1+1) (e:=(AL.mk y.id h2 q3).enc) (AL.E.st _) (AL.E.len _) (by omega) (by omega)
               rw[FU (es:=G) (e:=(AL.mk y.id h2 q3).enc) (o:=o2) (t:=167) (t2:=167) (el:=171) (z:=7) (by simp[go_sem]) (by simp[go_sem]) (by simp[go_sem]) (by simp) (by simp[go_sem]) (by simp[go_sem]) (by simp[go_sem]) (by omega) hA2 (AL.E.len _) ?a1 ?a2]
               case a1=>simp[AC,Z9,SV.cells,AL.id,AL.head,AL.flow]
               case a2=>
                intro j e
                have:=(hA2.lt j e).2
                rw[AD _ _ (by omega)];exact Dz j e
               have hlive:=Du (p:=n'+1) (v:=.sl (n'+1) 0 7 (G.length+1) false) (e:=(AL.mk y.id h2 q3).enc) (hBb s3) (by omega) hA2 (H:=hset (AO o2 G (AO o E (Ai st s3 H))) n' (some (.cells [AA y.id,Af h2.props,AA h2.ins,AA h2.move,Aa h2.dels,AQ h2.layers,AG q3]))) (AK (λj z e=>by have:=hBb s3 j z e;omega) (C8 (hBb s3) hA2))
               have hvv:AN 7 (some (n'+1)) (G++[(AL.mk y.id h2 q3).enc])=.sl (n'+1) 0 7 (G.length+1) false:=by simp[AN]
               simp[go_sem]
               exact⟨some (n'+1),⟨by omega,hpush⟩,hvv.symm,by simpa[Cs.app,SV.cells]using hlive⟩
            . refine AI ?_
              simp[go_sem,w2,Y0,-Int.natCast_add]
              exact⟨j+1,by omega,o2,⟨by omega,hm.1,hm.2⟩,⟨rfl,rfl⟩,AB⟩
          . have:j=x.cells.length:=by omega
            subst this
            rw[hQl]at hA2 ⊢
            refine AI ?_
            simp[go_sem,Y0]
            exact⟨by omega,AN.fz' (λj hj=>Ac (hBb _) hj) hA2 AB,C8 (hBb _) hA2⟩
        . generalize EP f it mid x.cells s1=r2
          obtain⟨q2,s2⟩:=r2
          dsimp only
          refine AI ?_
          simp[go_sem,AF.flat]
          have hpush:=hA.push (j:=m4+1) (m':=m4+1+1) (e:=(AW.mk h' q2).enc) (AW.E.st _) (AW.E.len _) (by omega) (by omega)
          rw[FU (es:=E) (e:=(AW.mk h' q2).enc) (o:=o) (t:=68) (t2:=68) (el:=169) (z:=6) (by simp[go_sem]) (by simp[go_sem]) (by simp[go_sem]) (by simp) (by simp[go_sem]) (by simp[go_sem]) (by simp[go_sem]) (by omega) hA (AW.E.len _) ?a1 ?a2]
          case a1=>simp[AC,YB,SV.cells,AW.head,AW.cells]
          case a2=>
           intro j e
           have:=(hA.lt j e).2
           rw[AD _ _ (by omega)];exact Dz j e
          have hlive:=Du (p:=m4+1) (v:=.sl (m4+1) 0 6 (E.length+1) false) (e:=(AW.mk h' q2).enc) (hUb s2) (by omega) hA (H:=hset (AO o E (Ai st s2 H)) m4 (some (.cells [Af h'.props,AA h'.ins,AA h'.move,Aa h'.dels,AQ h'.layers,BQ q2]))) (AK (λj z e=>by have:=hUb s2 j z e;omega) (C8 (hUb s2) hA))
          have hvv:AN 6 (some (m4+1)) (E++[(AW.mk h' q2).enc])=.sl (m4+1) 0 6 (E.length+1) false:=by simp[AN]
          simp[go_sem]
          exact⟨some (m4+1),⟨by omega,hpush⟩,hvv.symm,by simpa[Cs.app,SV.cells]using hlive⟩
     . refine AI ?_
       simp[go_sem,w1,Y0,-Int.natCast_add]
       exact⟨i+1,by omega,o,⟨by omega,hm.1,hm.2⟩,⟨rfl,rfl⟩,AB⟩
   . have:i=l.length:=by omega
     subst this
     refine AI ?_
     simp[go_sem]
     exact⟨o,⟨hnm,hA⟩,rfl,AB⟩
 . refine AI ?_
   simp[go_sem]
   rw[hRl]at hm ⊢
   exact Gx (hU _) hm.2 (λe he=>by obtain⟨x,_,rfl⟩:=Yp.1 he;exact AW.cl n x)
end
section
variable {σ : Type} {st : σ → Nat → Option BT} {n0 : Nat} {g : FuncId} {a b : List SV} {f : σ → BY → AF × Bool × σ} {ok : AF → Prop} {it : Int → List AE → Bool → σ → List AE × σ} {mid : Bool} {P : List AE → Prop} {sc : Ah}
def okI (ok:AF->Prop) (P:List AE->Prop) (x:AE):Prop:=ok x.head/\x.text.size<=1048576/\P x.flow/\x.rows.length<=1048576/\∀r∈x.rows,ok r.head/\r.cells.length<=1048576/\∀c∈r.cells,ok c.head/\P c.flow
set_option maxHeartbeats 2000000 in
theorem TG (C:Lt st n0 g a b f ok) (hit:ItC st n0 g a b it sc P) (l:List AE) (hl:l.length<=1048576) (hr:∀x∈l,okI ok P x) (s:σ) {H:Hp} {n:Nat} (hn:n0<=n) (hs:∀o y,st s o=some y->H o=some y):
 BM Tryz.prog 190 [.fn (.func g) a b,AG l,sc.enc,.bool mid] H n (λv h' n'=>v=AG (BK f it mid l s).1/\h'=Ai st (BK f it mid l s).2 H/\n'=n):=by
 refine Dg Tryz.func190 rfl λho=>?_
 obtain⟨R,hR⟩:∃R:Nat->List AE×σ,∀i,R i=(l.take i).foldl (CK f it mid) ([],s):=⟨_,λ_=>rfl⟩
 have hR0:R 0=([],s):=by rw[hR];rfl
 have hRs:∀i x,(h:i<l.length)->l[i]=x->R (i+1)=CK f it mid (R i) x:=λi x h hx=>by rw[hR,hR,FI _ _ _ _ _ h hx]
 have hRl:R l.length=BK f it mid l s:=by rw[hR,Ya];rfl
 have hRn:∀i,(R i).1.length<=i:=λi=>by rw[hR];have:=GK (f:=f) (it:=it) (mid:=mid) (l.take i) ([],s);simp at this;omega
 clear hR
 have hU:∀s',E4 (Ai st s' H) n:=λs'=>C.old s' hn ho
 have hUb:∀s' j y,Ai st s' H j=some y->j<n:=λs' j y e=>(hU s' j y e).1
 refine Ab 1 [(0,.fn (.func g) a b),(1,AG l),(3,.bool mid),(6,.iptr [AA sc.id,AA sc.a,AA sc.b])] (Ai st s H) n ?_ (λm hm=>?_)
 . simp[go_sem,Ah.enc,Y0,DP s H hs]
   refine⟨AT (ho.none (Y1 n)) (by simp[hset]),λj y e=>by rw[AD _ _ (by have:=(ho j y e).1;omega)];exact e⟩
 refine Ab 0 [(0,.fn (.func g) a b),(1,AG l),(3,.bool mid),(6,.iptr [AA sc.id,AA sc.a,AA sc.b]),(9,.imm 0 [] true)] (Ai st s H) n ?_ (λm hm=>?_)
 . simp[go_sem,Y0,hm]
 refine AV 0 (α:=Option Nat) (λo=>[(9,AN 11 o ((R l.length).1.map AE.enc))]) (λo=>AO o ((R l.length).1.map AE.enc) (Ai st (R l.length).2 H)) (λo m=>n<=m/\A7 n m 11 o ((R l.length).1.map AE.enc)) ?_ (λo m hm=>?_)
 . refine Ab 0 [(0,.fn (.func g) a b),(1,AG l),(3,.bool mid),(6,.iptr [AA sc.id,AA sc.a,AA sc.b]),(9,.imm 0 [] true),(16,AG l),(17,AA l.length),(18,AA 0)] (Ai st s H) n ?_ (λm hm=>?_)
   . simp[go_sem,Y0,hm]
   refine AR (BP 0 (α:=Nat×Option Nat) (λq=>[(0,.fn (.func g) a b),(1,AG l),(3,.bool mid),(6,.iptr [AA sc.id,AA sc.a,AA sc.b]),(9,AN 11 q.2 ((R q.1).1.map AE.enc)),(16,AG l),(17,AA l.length),(18,AA q.1)])
    (λq=>AO q.2 ((R q.1).1.map AE.enc) (Ai st (R q.1).2 H)) (λq m=>q.1<=l.length/\n<=m/\A7 n m 11 q.2 ((R q.1).1.map AE.enc)) (λq=>l.length-q.1) (0,none) ⟨Y4 _,hm,by simp only[hR0];exact Zs _ _ _⟩ ?_ ?_ ?_)
   . simp[go_sem,Aj,AN,Y0]
   . simp only[hR0];exact AB
   clear hm m
   rintro⟨i,o⟩ m ⟨hi,hnm,hA⟩
   dsimp only at hi hA ⊢
   have hEn:((R i).1.map AE.enc).length<=i:=by rw[Y5];exact hRn i
   by_cases hlt:i<l.length
   . obtain⟨x,hx⟩:∃x,l[i]=x:=⟨_,rfl⟩
     have hxm:x∈l:=by rw[<-hx];exact Yc hlt
     obtain⟨x1,x2,x3,x4,x5⟩:=hr x hxm
     have hgx:(l.map AE.enc)[i]? = some x.enc:=by simp[hlt,hx]
     have hst:=hRs i x hlt hx
     have w1:=wS i (by omega)
     generalize hSi:(R i).2=si at hst
     generalize hEi:(R i).1.map AE.enc=E at hA hEn ⊢
     have hXb:∀s' j y,AO o E (Ai st s' H) j=some y->j<m:=λs'=>G6 (hUb s') hnm hA
     refine By 0 [(0,.fn (.func g) a b),(1,AG l),(3,.bool mid),(6,.iptr [AA sc.id,AA sc.a,AA sc.b]),(9,AN 11 o E),(16,AG l),(17,AA l.length),(18,AA i),(19,.bool true)] (AO o E (Ai st si H)) m ?_ (λm' hm'=>?_)
     . simp[go_sem,Y0,hlt]
     subst hm'
     refine By 0 [(0,.fn (.func g) a b),(1,AG l),(3,.bool mid),(6,.iptr [AA sc.id,AA sc.a,AA sc.b]),(9,AN 11 o E),(16,AG l),(17,AA l.length),(18,AA i)] (AO o E (Ai st si H)) m ?_ (λm2 hm2=>?_)
     . simp[go_sem,Y0]
     subst hm2
     refine AV 0 (α:=Option Nat) (λo=>[(0,.fn (.func g) a b),(1,AG l),(3,.bool mid),(6,.iptr [AA sc.id,AA sc.a,AA sc.b]),(9,AN 11 o ((R (i+1)).1.map AE.enc)),(16,AG l),(17,AA l.length),(18,AA i)]) (λo=>AO o ((R (i+1)).1.map AE.enc) (Ai st (R (i+1)).2 H)) (λo m=>n<=m/\A7 n m 11 o ((R (i+1)).1.map AE.enc)) ?_ (λo m hm=>?_)
     . refine AR ?_
       refine BG 0 (α:=Nat) (λp=>[(0,.fn (.func g) a b),(1,AG l),(3,.bool mid),(6,.iptr [AA sc.id,AA sc.a,AA sc.b]),(9,AN 11 o E),(16,AG l),(17,AA l.length),(18,AA i),(10,AA i),(11,.ptr p 0)]) (λp=>hset (AO o E (Ai st si H)) p (some (.cells [AA x.kind,AA x.code,AA x.id,.str x.text,Af x.head.props,AA x.head.ins,AA x.head.move,Aa x.head.dels,AQ x.head.layers,AG x.flow,Av x.rows]))) (λp m2=>m<=p/\p<m2) ?_ (λp m2 hm2=>?_)
       . simp[go_sem,Y0,hlt,hx,Yh,AC,AY]
         exact⟨m,by omega,rfl,AB⟩
       have hXb2:∀s' j y,AO o E (Ai st s' H) j=some y->j<p:=λs' j y e=>by have:=hXb s' j y e;omega
       refine Ab 0 [(0,.fn (.func g) a b),(1,AG l),(3,.bool mid),(6,.iptr [AA sc.id,AA sc.a,AA sc.b]),(9,AN 11 o E),(16,AG l),(17,AA l.length),(18,AA i),(10,AA i),(11,.ptr p 0),(12,AA (A5 [x]).1)] (hset (AO o E (Ai st si H)) p (some (.cells [AA x.kind,AA x.code,AA x.id,.str x.text,Af x.head.props,AA x.head.ins,AA x.head.move,Aa x.head.dels,AQ x.head.layers,AG x.flow,Av x.rows]))) m2 ?_ (λm3 hm3=>?_)
       . have hle:i+1<=l.length:=hlt
         have hsl:List.drop i (List.take (i+1) (l.map AE.enc))=[x.enc]:=by rw[List.drop_take,Nat.add_sub_cancel_left,YA (by simpa using hlt)];simp[hx]
         simp[go_sem,w1,hle,hsl,-Int.natCast_add,-List.map_take,-List.map_drop]
         refine Yj (Sr [x] (by simp) (by simpa using x2)) ?_
         simp[go_sem,Y0]
       obtain⟨pt,hp⟩:∃q:BY,q=⟨x.head,mid,(A5 [x]).1⟩:=⟨_,rfl⟩
       have hcall:=λy=>C.call si pt (hset (AO o E (Ai st si H)) p y) m3 (by rw[hp];exact x1) (by omega) (λk z e=>by rw[AD _ _ (by rintro rfl;rw[C.lt si k (by omega)]at e;cases e)];exact C.has hn hA Bq k z e)
       have hst':R (i+1)=if(f si pt).2.1 then((R i).1++[x.put (f si pt).1 (Cr f it mid x (f si pt).2.2).1.1 (Cr f it mid x (f si pt).2.2).1.2],(Cr f it mid x (f si pt).2.2).2)else((R i).1,(f si pt).2.2):=by rw[hst,hp,CK,hSi]
       have hup:∀s' y,Ai st s' (hset (AO o E (Ai st si H)) p y)=hset (AO o E (Ai st s' H)) p y:=λs' y=>by rw[<-C.hset _ _ (by omega),C.acc hn hA,C.up2]
       simp only[hup]at hcall
       have hpe:pt.enc=.agg (x.head.flat++[.bool mid,AA (A5 [x]).1]):=by rw[hp];rfl
       clear hst hSi hup
       rcases hf:f si pt with⟨h',k,s1⟩
       rw[hf]at hcall hst'
       dsimp only at hcall hst'
       have hYb:∀s' y j z,hset (AO o E (Ai st s' H)) p y j=some z->j<m3:=λs' y j z e=>by
        by_cases h:j=p
        . omega
        . rw[AD _ _ h]at e;have:=hXb2 s' j z e;omega
       refine Ab 1 [(0,.fn (.func g) a b),(1,AG l),(3,.bool mid),(6,.iptr [AA sc.id,AA sc.a,AA sc.b]),(9,AN 11 o E),(16,AG l),(17,AA l.length),(18,AA i),(11,.ptr p 0),(14,.iptr h'.flat),(15,.bool k)] (hset (AO o E (Ai st s1 H)) p (some (.cells [AA x.kind,AA x.code,AA x.id,.str x.text,Af x.head.props,AA x.head.ins,AA x.head.move,Aa x.head.dels,AQ x.head.layers,AG x.flow,Av x.rows]))) m3 ?_ (λm4 hm4=>?_)
       . rw[hpe]at hcall
         simp only[AF.flat,Yq,Yt,Ye]at hcall
         simp[go_sem,AF.flat,AC]
         refine Ys (hcall _) ?_
         rintro v H' n' ⟨rfl,rfl,rfl⟩
         simp[go_sem,Y0,AF.enc,AF.flat,AC]
         exact⟨AT (Ac (hYb _ _) (Y1 _)) (AC _ _ _),AK (hYb _ _) (AK (hYb _ _) AB)⟩
       cases k with
       | false=>
        have hst2:R (i+1)=((R i).1,s1):=by simpa using hst'
        simp only[hst2,hEi]
        refine AI ?_
        simp[go_sem,Y0,AF.flat,AC,AY]
        exact⟨o,⟨by omega,hA.mono (by omega)⟩,rfl,AK (hXb2 _) AB⟩
       | true=>
        have hst2:R (i+1)=((R i).1++[x.put h' (Cr f it mid x s1).1.1 (Cr f it mid x s1).1.2],(Cr f it mid x s1).2):=by simpa using hst'
        simp only[hst2,Y3,hEi,Yf,YF]
        clear hst' hst2 hcall hpe hf
        refine By 0 [(0,.fn (.func g) a b),(1,AG l),(3,.bool mid),(6,.iptr [AA sc.id,AA sc.a,AA sc.b]),(9,AN 11 o E),(16,AG l),(17,AA l.length),(18,AA i),(11,.ptr p 0)] (hset (AO o E (Ai st s1 H)) p (some (.cells [AA x.kind,AA x.code,AA x.id,.str x.text,Af h'.props,AA h'.ins,AA h'.move,Aa h'.dels,AQ h'.layers,AG x.flow,Av x.rows]))) m4 ?_ (λm5 hm5=>?_)
        . simp[go_sem,Y0,AF.flat,AC,AY]
        subst hm5
        have hupP:∀s' y,Ai st s' (hset (AO o E (Ai st s1 H)) p y)=hset (AO o E (Ai st s' H)) p y:=λs' y=>by rw[<-C.hset _ _ (by omega),C.acc hn hA,C.up2]
        have hasP:∀y k z,st s1 k=some z->hset (AO o E (Ai st s1 H)) p y k=some z:=λy k z e=>by rw[AD _ _ (by rintro rfl;rw[C.lt s1 k (by omega)]at e;cases e)];exact C.has hn hA Bq k z e
        refine Ab 1 [(0,.fn (.func g) a b),(1,AG l),(3,.bool mid),(6,.iptr [AA sc.id,AA sc.a,AA sc.b]),(9,AN 11 o E),(16,AG l),(17,AA l.length),(18,AA i),(11,.iptr [AA x.kind,AA x.code,AA x.id,.str x.text,Af h'.props,AA h'.ins,AA h'.move,Aa h'.dels,AQ h'.layers,AG (Cr f it mid x s1).1.1,Av (Cr f it mid x s1).1.2])] (AO o E (Ai st (Cr f it mid x s1).2 H)) m4 ?_ (λm5 hm5=>?_)
        . by_cases k6:x.kind=6
          . have hc3:=λy=>hit x.id x.flow mid s1 (hset (AO o E (Ai st s1 H)) p y) m4 x3 (by omega) (hasP y)
            simp only[hupP]at hc3
            have hin:Cr f it mid x s1=(((it x.id x.flow mid s1).1,x.rows),(it x.id x.flow mid s1).2):=by rw[Cr,if_pos k6]
            rw[hin]
            generalize it x.id x.flow mid s1=r3 at hc3 ⊢
            obtain⟨q3,s3⟩:=r3
            dsimp only at hc3 ⊢
            simp[go_sem,AC,k6]
            refine Ys (by simpa[Ah.enc]using hc3 _) ?_
            rintro v H' n' ⟨rfl,rfl,rfl⟩
            simp[go_sem,Y0,AC,AY]
            exact⟨AT (Ac (hXb2 _) (Y1 _)) (AC _ _ _),AK (hXb2 _) AB⟩
          . by_cases k7:x.kind=7
            . have hc3:=λy=>d257 (mid:=mid) C hit x.rows x4 x5 s1 (n:=m4) (by omega) (hasP y)
              simp only[hupP]at hc3
              have hin:Cr f it mid x s1=((x.flow,(Gy f it mid x.rows s1).1),(Gy f it mid x.rows s1).2):=by rw[Cr,if_neg k6,if_pos k7]
              rw[hin]
              generalize Gy f it mid x.rows s1=r3 at hc3 ⊢
              obtain⟨q3,s3⟩:=r3
              dsimp only at hc3 ⊢
              simp[go_sem,AC,k7]
              refine Ys (by simpa[Ah.enc]using hc3 _) ?_
              rintro v H' n' ⟨rfl,rfl,rfl⟩
              simp[go_sem,Y0,AC,AY]
              exact⟨AT (Ac (hXb2 _) (Y1 _)) (AC _ _ _),AK (hXb2 _) AB⟩
            . have hin:Cr f it mid x s1=((x.flow,x.rows),s1):=by rw[Cr,if_neg k6,if_neg k7]
              rw[hin]
              dsimp only
              simp[go_sem,Y0,AC,k6,k7]
              exact⟨AT (Ac (hXb2 _) (Y1 _)) (AC _ _ _),AK (hXb2 _) AB⟩
        . generalize Cr f it mid x s1=r2
          obtain⟨⟨q2,q3⟩,s2⟩:=r2
          dsimp only
          refine AI ?_
          simp[go_sem]
          have hpush:=hA.push (j:=m5+1) (m':=m5+1+1) (e:=(x.put h' q2 q3).enc) (AE.E.st _) (AE.E.len _) (by omega) (by omega)
          rw[FU (es:=E) (e:=(x.put h' q2 q3).enc) (o:=o) (t:=22) (t2:=22) (el:=70) (z:=11) (by simp[go_sem]) (by simp[go_sem]) (by simp[go_sem]) (by simp) (by simp[go_sem]) (by simp[go_sem]) (by simp[go_sem]) (by omega) hA (AE.E.len _) ?a1 ?a2]
          case a1=>simp[AC,Yh,SV.cells,AE.put,AE.kind,AE.code,AE.id,AE.text,AE.head,AE.flow,AE.rows]
          case a2=>
           intro j e
           have:=(hA.lt j e).2
           rw[AD _ _ (by omega)];exact Dz j e
          have hlive:=Du (p:=m5+1) (v:=.sl (m5+1) 0 11 (E.length+1) false) (e:=(x.put h' q2 q3).enc) (hUb s2) (by omega) hA (H:=hset (AO o E (Ai st s2 H)) m5 (some (.cells [AA x.kind,AA x.code,AA x.id,.str x.text,Af h'.props,AA h'.ins,AA h'.move,Aa h'.dels,AQ h'.layers,AG q2,Av q3]))) (AK (λj z e=>by have:=hUb s2 j z e;omega) (C8 (hUb s2) hA))
          have hvv:AN 11 (some (m5+1)) (E++[(x.put h' q2 q3).enc])=.sl (m5+1) 0 11 (E.length+1) false:=by simp[AN]
          simp[go_sem]
          exact⟨some (m5+1),⟨by omega,hpush⟩,hvv.symm,by simpa[Cs.app,SV.cells]using hlive⟩
     . refine AI ?_
       simp[go_sem,w1,Y0,-Int.natCast_add]
       exact⟨i+1,by omega,o,⟨by omega,hm.1,hm.2⟩,⟨rfl,rfl⟩,AB⟩
   . have:i=l.length:=by omega
     subst this
     refine AI ?_
     simp[go_sem]
     exact⟨o,⟨hnm,hA⟩,rfl,AB⟩
 . refine AI ?_
   simp[go_sem]
   rw[hRl]at hm ⊢
   exact Gx (hU _) hm.2 (λe he=>by obtain⟨x,_,rfl⟩:=Yp.1 he;exact AE.cl n x)
end
def trI:Tr:=.pure 0<|.pure 1<|.pure 2<|.pure 4<|.pure 5<|.pure 6<|.pure 8<|.pure 9<|.pure 10<|.one 3<|.one 7<|.one 11<|.one 12<|.one 13<|.one 14 .nil
section
variable {σ : Type} {st : σ → Nat → Option BT} {n0 : Nat} {g : FuncId} {a b : List SV} {f : σ → BY → AF × Bool × σ} {ok : AF → Prop} {sc : Ah}
theorem CT {h h2:Hp} {n n':Nat} {v:SV} (ho:E4 h n) (hc:closed n v=true) (hh:∀j y,h j=some y->h2 j=some y):Bz n h2 n' v (λw h' n'=>w=v/\h'=h/\n'=n):=
 .inr ⟨0,v,h,Y0,hc,λj x e=>⟨hh j x e,ho j x e⟩,rfl,rfl,rfl⟩
set_option maxHeartbeats 2000000 in
theorem d121 (C:Lt st n0 g a b f ok) (hp:AF->Prop) (K:Nat) (hK:K<=349525) (hok:∀h:AF,hp h->ok h/\h.sized):∀N,ItC st n0 g a b (Al f sc N) sc (DM hp K N)
 | 0=>λid l mid s H n h=>h.elim
 | N + 1 => fun id l mid s H n hl hn hs => by
  have ih:=d121 C hp K hK hok N
  have hsz:=hl.sized (λh e=>(hok h e).2) (by omega)
  have htx:∀x∈l,x.text.size<=1048576:=ZJ hsz.2
  have hparts:∀l,DM hp K (N+1) l->∀x∈l,okI ok (DM hp K N) x:=λl hl x hx=>by
   obtain⟨h1,h2,h3⟩:=Cf.1 hl
   obtain⟨h4,h5,h6,h7⟩:=h3 x hx
   exact⟨(hok _ h4).1,by have:=Iv hx;omega,h5,by omega,λr hr=>⟨(hok _ (h7 r hr).1).1,by have:=(h7 r hr).2.1;omega,λc hc=>⟨(hok _ ((h7 r hr).2.2 c hc).1).1,((h7 r hr).2.2 c hc).2⟩⟩⟩
  refine Dg Tryz.func121 rfl λho=>?_
  have hU:∀s',E4 (Ai st s' H) n:=λs'=>C.old s' hn ho
  have hUb:∀s' j y,Ai st s' H j=some y->j<n:=λs' j y e=>(hU s' j y e).1
  refine Ab 1 [(0,.fn (.func g) a b),(1,AA id),(2,AG l),(4,.bool mid),(8,.iptr [AA sc.id,AA sc.a,AA sc.b])] (Ai st s H) n ?_ (λm hm=>?_)
  . simp[go_sem,Ah.enc,Y0,DP s H hs]
    refine⟨AT (ho.none (Y1 n)) (by simp[hset]),λj y e=>by rw[AD _ _ (by have:=(ho j y e).1;omega)];exact e⟩
  by_cases hin:DB sc id l mid=true
  . have he:Al f sc (N+1) id l mid s=((BK f (Al f sc N) false (AU l 0 sc.a).1 s).1++(BK f (Al f sc N) true (AU l sc.a sc.b).1 (BK f (Al f sc N) false (AU l 0 sc.a).1 s).2).1++(BK f (Al f sc N) false (AU l sc.b (A5 l).1).1 (BK f (Al f sc N) true (AU l sc.a sc.b).1 (BK f (Al f sc N) false (AU l 0 sc.a).1 s).2).2).1,(BK f (Al f sc N) false (AU l sc.b (A5 l).1).1 (BK f (Al f sc N) true (AU l sc.a sc.b).1 (BK f (Al f sc N) false (AU l 0 sc.a).1 s).2).2).2):=by rw[Al,if_pos hin]
    simp only[DB,Yb,decide_eq_true_eq,Z1]at hin
    obtain⟨⟨⟨⟨i1,i2⟩,i3⟩,i4⟩,i5⟩:=hin
    subst i1 i2
    rw[he]
    have l1:=Cv 0 sc.a hl
    have l2:=Cv sc.a sc.b hl
    have l3:=Cv sc.b (A5 l).1 hl
    have n1:=Dv l 0 sc.a
    have n2:=Dv l sc.a sc.b
    have n3:=Dv l sc.b (A5 l).1
    have hlK:=hl.1
    have c1:=QZ l 0 sc.a hsz.1 hsz.2
    have c2:=QZ l sc.a sc.b hsz.1 hsz.2
    have c3:=QZ l sc.b (A5 l).1 hsz.1 hsz.2
    refine Ei ?_
    refine By 0 [(0,.fn (.func g) a b),(2,AG l),(8,.iptr [AA sc.id,AA sc.a,AA sc.b]),(26,.bool true)] (Ai st s H) m ?_ (λm' hm'=>?_)
    . simp[go_sem,Y0]
    subst hm'
    refine Ag (b:=true) (by simp[go_sem]) ?_
    rw[if_pos rfl]
    refine Ab 0 [(0,.fn (.func g) a b),(2,AG l),(8,.iptr [AA sc.id,AA sc.a,AA sc.b]),(11,AA (A5 l).1)] (Ai st s H) m ?_ (λm' hm'=>?_)
    . simp[go_sem]
      refine Yj (Sr l hsz.1 htx) ?_
      simp[go_sem,Y0]
    refine By 0 [(0,.fn (.func g) a b),(2,AG l),(8,.iptr [AA sc.id,AA sc.a,AA sc.b]),(11,AA (A5 l).1),(47,.bool true)] (Ai st s H) m' ?_ (λm2 hm2=>?_)
    . simp[go_sem,Y0,i3,i4,i5]
    subst hm2
    refine Ag (b:=true) (by simp[go_sem]) ?_
    rw[if_pos rfl]
    refine Ab 0 [(0,.fn (.func g) a b),(2,AG l),(8,.iptr [AA sc.id,AA sc.a,AA sc.b]),(11,AA (A5 l).1),(13,AG (AU l 0 sc.a).1)] (Ai st s H) m' ?_ (λm2 hm2=>?_)
    . simp[go_sem]
      refine Yj c1 ?_
      simp[go_sem,Y0]
    refine Ab 0 [(0,.fn (.func g) a b),(2,AG l),(8,.iptr [AA sc.id,AA sc.a,AA sc.b]),(11,AA (A5 l).1),(13,AG (AU l 0 sc.a).1),(15,AG (AU l sc.a sc.b).1)] (Ai st s H) m2 ?_ (λm3 hm3=>?_)
    . simp[go_sem]
      refine Yj c2 ?_
      simp[go_sem,Y0]
    refine Ab 0 [(0,.fn (.func g) a b),(8,.iptr [AA sc.id,AA sc.a,AA sc.b]),(13,AG (AU l 0 sc.a).1),(15,AG (AU l sc.a sc.b).1),(17,AG (AU l sc.b (A5 l).1).1)] (Ai st s H) m3 ?_ (λm4 hm4=>?_)
    . simp[go_sem]
      refine Yj c3 ?_
      simp[go_sem,Y0]
    generalize hr1:(AU l 0 sc.a).1=r1 at l1 n1 ⊢
    generalize hr2:(AU l sc.a sc.b).1=r2 at l2 n2 ⊢
    generalize hr3:(AU l sc.b (A5 l).1).1=r3 at l3 n3 ⊢
    have w1:=λm (hm:n<=m)=>TG (mid:=false) (sc:=sc) C ih r1 (by omega) (hparts r1 l1) s (H:=Ai st s H) (n:=m) (by omega) Bq
    have e1:=GK (f:=f) (it:=Al f sc N) (mid:=false) r1 ([],s)
    have z1:BK f (Al f sc N) false r1 s=r1.foldl (CK f (Al f sc N) false) ([],s):=rfl
    rw[<-z1]at e1
    generalize BK f (Al f sc N) false r1 s=q1 at w1 e1 ⊢
    obtain⟨q1,s1⟩:=q1
    have w2:=λm (hm:n<=m)=>TG (mid:=true) (sc:=sc) C ih r2 (by omega) (hparts r2 l2) s1 (H:=Ai st s1 H) (n:=m) (by omega) Bq
    have e2:=GK (f:=f) (it:=Al f sc N) (mid:=true) r2 ([],s1)
    have z2:BK f (Al f sc N) true r2 s1=r2.foldl (CK f (Al f sc N) true) ([],s1):=rfl
    rw[<-z2]at e2
    dsimp only at w1 e1 ⊢
    generalize BK f (Al f sc N) true r2 s1=q2 at w2 e2 ⊢
    obtain⟨q2,s2⟩:=q2
    have w3:=λm (hm:n<=m)=>TG (mid:=false) (sc:=sc) C ih r3 (by omega) (hparts r3 l3) s2 (H:=Ai st s2 H) (n:=m) (by omega) Bq
    have e3:=GK (f:=f) (it:=Al f sc N) (mid:=false) r3 ([],s2)
    have z3:BK f (Al f sc N) false r3 s2=r3.foldl (CK f (Al f sc N) false) ([],s2):=rfl
    rw[<-z3]at e3
    dsimp only at w2 e2 ⊢
    generalize BK f (Al f sc N) false r3 s2=q3 at w3 e3 ⊢
    obtain⟨q3,s3⟩:=q3
    dsimp only at w3 e3 ⊢
    simp only[C.up2,Ah.enc]at w1 w2 w3
    have hcc:=c189 [q1,q2,q3] (by simp) (by simp at e1 e2 e3 ⊢;omega)
    refine AV 0 (α:=Unit) (λ_=>[(10,AG (q1++q2++q3))]) (λ_=>Ai st s3 H) (λ_ m5=>m4<=m5) (B7 trI rfl (by kernel_rfl) (by kernel_rfl) ?_) (λ_ m5 hm5=>?_)
    . simp[go_sem,trI]
      refine Ys (w1 m4 (by omega)) ?_
      rintro v H' n' ⟨rfl,rfl,rfl⟩
      simp[go_sem]
      refine Ys (w2 _ (by omega)) ?_
      rintro v H' n' ⟨rfl,rfl,rfl⟩
      simp[go_sem]
      refine Ys (w3 _ (by omega)) ?_
      rintro v H' n' ⟨rfl,rfl,rfl⟩
      simp[go_sem]
      refine Xg (bs:=[.imm 1 ([q1,q2,q3].map AG) false]) (h2:=Ai st s3 H) 1 (AK (λj z e=>by have:=hUb s3 j z e;omega) AB) ⟨?_,trivial⟩ ?_
      . exact Dj (es:=[AG q1,AG q2,AG q3]) (Ac (hUb s3) (by omega)) (by simp) (by rw[AC];simp[SV.cells]) (by simp[SV.storable,SV.cells])
      refine Yj hcc ?_
      simp[go_sem,Y0]
    . refine AI ?_
      simp[go_sem]
      have:=CT (h2:=Ai st s3 H) (n':=m5) (v:=AG (q1++q2++q3)) (hU s3) (AE.E.imm _ _ _ _) AB
      simpa using this
  . have he:Al f sc (N+1) id l mid s=BK f (Al f sc N) mid l s:=by rw[Al,if_neg hin]
    rw[he]
    refine Ab 0 [(0,.fn (.func g) a b),(2,AG l),(4,.bool mid),(8,.iptr [AA sc.id,AA sc.a,AA sc.b])] (Ai st s H) m ?_ (λm' hm'=>?_)
    . by_cases c1:id=sc.id
      . cases mid with
        | true=>simp[go_sem,Y0,c1]
        | false=>
         simp[go_sem,c1]
         refine Yj (Sr l hsz.1 htx) ?_
         by_cases a0:0<=sc.a
         . by_cases ab:sc.a<=sc.b
           . have bl:¬sc.b<=(A5 l).1:=λbl=>hin (by simp[DB,c1,a0,ab,bl])
             simp[go_sem,Y0,a0,ab,bl]
           . simp[go_sem,Y0,a0,ab]
         . simp[go_sem,Y0,a0]
      . simp[go_sem,Y0,c1]
    refine Ab 0 [(10,AG (BK f (Al f sc N) mid l s).1)] (Ai st (BK f (Al f sc N) mid l s).2 H) n ?_ (λm' hm'=>?_)
    . have w:=TG (mid:=mid) (sc:=sc) C ih l hsz.1 (hparts l hl) s (H:=Ai st s H) (n:=m') (by omega) Bq
      simp only[C.up2,Ah.enc]at w
      generalize BK f (Al f sc N) mid l s=q at w ⊢
      obtain⟨q,s1⟩:=q
      dsimp only at w ⊢
      simp[go_sem]
      refine Ys w ?_
      rintro v H' n' ⟨rfl,rfl,rfl⟩
      simp[go_sem,Y0]
      omega
    . refine AI ?_
      simp[go_sem]
      have:=CT (h2:=Ai st (BK f (Al f sc N) mid l s).2 H) (n':=m') (v:=AG (BK f (Al f sc N) mid l s).1) (hU _) (AE.E.imm _ _ _ _) AB
      simpa using this
end
section
variable {σ : Type} {st : σ → Nat → Option BT} {n0 : Nat} {g : FuncId} {a b : List SV} {f : σ → BY → AF × Bool × σ} {ok : AF → Prop} {sc : Ah}
def Bi (f:σ->BY->AF×Bool×σ) (sc:Ah) (N:Nat) (d:AH) (revs:List BD) (s:σ):AH×σ:=
 (⟨(Al f sc N 0 d.flow false s).1,(f (Al f sc N 0 d.flow false s).2 ⟨d.«end»,false,1⟩).1,revs,d.settings⟩,(f (Al f sc N 0 d.flow false s).2 ⟨d.«end»,false,1⟩).2.2)
theorem Ep {n:Nat} (hlt:∀s o,n<=o->st s o=none) {s:σ} {H:Hp} {p:Nat} (hp:n<=p) (y:Option BT) (h:∀k z,st s k=some z->H k=some z):∀k z,st s k=some z->hset H p y k=some z:=λk z e=>by
 rw[AD _ _ (by rintro rfl;rw[hlt s k hp]at e;cases e)];exact h k z e
theorem De {n p:Nat} (hp:n≠p) (X:Hp) (a b c:Option BT):hset (hset (hset X n a) p b) n c=hset (hset X n c) p b:=by
 funext j;simp only[hset];grind
def C2:List SV:=[.imm 0 [] true,.imm 0 [] true,AA 0,AA 0,.imm 0 [] true,.imm 0 [] true,.imm 0 [] true,.imm 0 [] true,.imm 0 [] true,.imm 0 [] true,.imm 0 [] true]
set_option maxHeartbeats 2000000 in
theorem d49 (C:Lt st n0 g a b f ok) (hp:AF->Prop) (K:Nat) (hK:K<=349525) (hok:∀h:AF,hp h->ok h/\h.sized) (N:Nat) (d:AH) (revs:List BD) (s:σ) (hl:DM hp K N d.flow) (hend:hp d.«end»)
 (h1:(Bi f sc N d revs s).1.sized) (h2:(Bi f sc N d revs s).1.normal.sized) (h3:(BZ [] (AE.usL (An (Bi f sc N d revs s).1.flow)++(Bi f sc N d revs s).1.«end».all)).length<=1048576) {H:Hp} {n:Nat} (hn:n0<=n) (hs:∀o y,st s o=some y->H o=some y):
 BM Tryz.prog 49 [.fn (.func g) a b,d.enc,sc.enc,Aw revs] H n (λv h' n'=>v=(Bi f sc N d revs s).1.normal.enc/\h'=Ai st (Bi f sc N d revs s).2 H/\n'=n):=by
 refine Dg Tryz.func49 rfl λho=>?_
 have hU:∀s',E4 (Ai st s' H) n:=λs'=>C.old s' hn ho
 have hUb:∀s' j y,Ai st s' H j=some y->j<n:=λs' j y e=>(hU s' j y e).1
 have e1:n+2≠n:=by omega
 have e2:n≠n+2:=by omega
 have hlive:∀s' y z,∀j w,Ai st s' H j=some w->hset (hset (Ai st s' H) n y) (n+2) z j=some w:=λs' y z=>AK (λj z e=>by have:=hUb s' j z e;omega) (AK (hUb s') AB)
 have hup:∀s1 s' y z,Ai st s' (hset (hset (Ai st s1 H) n y) (n+2) z)=hset (hset (Ai st s' H) n y) (n+2) z:=λs1 s' y z=>by rw[<-C.hset _ _ (by omega),<-C.hset _ _ (by omega),C.up2]
 have hhas:∀s' y z,∀k w,st s' k=some w->hset (hset (Ai st s' H) n y) (n+2) z k=some w:=λs' y z=>Ep C.lt (by omega) z (Ep C.lt hn y Bq)
 refine BV 1 [(0,.fn (.func g) a b),(3,Aw revs),(5,.ptr n 0),(6,.iptr [AA sc.id,AA sc.a,AA sc.b]),(8,.ptr (n+2) 0)] (hset (hset (Ai st s H) n (some (.cells ([AG d.flow]++d.«end».flat++[Aw d.revs]++d.settings.flat)))) (n+2) (some (.cells C2))) (λm=>m=n+3) ?_ (λm hm=>?_)
 . simp[go_sem,Ah.enc,Y0,DP s H hs,AH.enc,AF.flat,AJ.flat,Yn,C2]
   refine⟨AT (by rw[AD _ _ (by omega),AD _ _ (by omega)];exact ho.none (by omega)) (by simp[hset]),λj y=>?_⟩
   have:=ho j y;simp only[hset];grind
 subst hm
 have c1:=d121 (sc:=sc) C hp K hK hok N 0 d.flow false s
 simp only[Bi]at h1 h2 h3 ⊢
 generalize Al f sc N 0 d.flow false s=q at c1 h1 h2 h3 ⊢
 obtain⟨q,s1⟩:=q
 dsimp only at c1 h1 h2 h3 ⊢
 refine BV 0 [(0,.fn (.func g) a b),(3,Aw revs),(5,.ptr n 0),(8,.ptr (n+2) 0)] (hset (hset (Ai st s1 H) n (some (.cells ([AG q]++d.«end».flat++[Aw d.revs]++d.settings.flat)))) (n+2) (some (.cells C2))) (λm=>n+3<=m) ?_ (λm hm=>?_)
 . have c2:=λy z m (hm:n<=m)=>c1 (hset (hset (Ai st s H) n y) (n+2) z) m hl (by omega) (hhas s y z)
   simp only[hup,Ah.enc]at c2
   simp[go_sem,AF.flat,AJ.flat,AC,AD]
   refine Ys (c2 _ _ _ (by omega)) ?_
   rintro v H' n' ⟨rfl,rfl,rfl⟩
   simp[go_sem,Y0,AC,AD,De e2]
 have c3:=λy z m (hm:n<=m)=>C.call s1 ⟨d.«end»,false,1⟩ (hset (hset (Ai st s1 H) n y) (n+2) z) m (hok _ hend).1 (by omega) (hhas s1 y z)
 generalize f s1 ⟨d.«end»,false,1⟩=r at c3 h1 h2 h3 ⊢
 obtain⟨h',k,s2⟩:=r
 simp only[hup,BY.enc,AF.flat,Yq,Yt,Ye]at c3
 dsimp only at c3 h1 h2 h3 ⊢
 refine Ab 0 [(3,Aw revs),(5,.ptr n 0),(8,.ptr (n+2) 0)] (hset (hset (Ai st s2 H) n (some (.cells ([AG q]++h'.flat++[Aw d.revs]++d.settings.flat)))) (n+2) (some (.cells C2))) m ?_ (λm2 hm2=>?_)
 . simp[go_sem,AF.flat,AJ.flat,AC,AD]
   refine Ys (c3 _ _ _ (by omega)) ?_
   rintro v H' n' ⟨rfl,rfl,rfl⟩
   simp[go_sem,Y0,AC,AD,De e2,AF.enc,AF.flat]
 refine Ab 0 [(5,.ptr n 0),(8,.ptr (n+2) 0)] (hset (hset (Ai st s2 H) n (some (.cells ([AG q]++h'.flat++[Aw revs]++d.settings.flat)))) (n+2) (some (.cells C2))) m2 ?_ (λm3 hm3=>?_)
 . simp[go_sem,Y0,AF.flat,AJ.flat,AC,AD,De e2]
 generalize hD:(⟨q,h',revs,d.settings⟩:AH)=D at h1 h2 h3 ⊢
 have hDf:q=D.flow/\h'=D.«end»/\revs=D.revs/\d.settings=D.settings:=by rw[<-hD];exact⟨rfl,rfl,rfl,rfl⟩
 obtain⟨f1,f2,f3,f4⟩:=hDf
 rw[f1,f2]at h3
 rw[f1,f2,f3,f4]
 refine AI ?_
 simp[go_sem,AF.flat,AJ.flat,AC,AD]
 refine Yj (by simpa[AH.enc,AF.flat,AJ.flat]using c21 D h1 h2 h3) ?_
 generalize hE:D.normal=E
 have hcl:closed n E.enc=true:=by simp[AH.enc,AF.flat,AJ.flat,closed,closedL,AE.E.closedL,E8.E.closedL,BO.E.closedL,Ax.E.closedL,BD.E.closedL,Az.E.closedL,FQ.E.closedL,As.E.closedL,Fa.E.closedL]
 simp[go_sem,AH.enc,AF.flat,AJ.flat,AC,C2]
 simp only[AH.enc,AF.flat,AJ.flat,Yq,Yt]at hcl
 exact CT (hU s2) hcl (AK (λj z e=>by have:=hUb s2 j z e;omega) (hlive s2 _ _))
end
section
variable {σ : Type} {st : σ → Nat → Option BT} {n0 : Nat} {g : FuncId} {a b : List SV} {u : σ → BY → σ} {ok : AF → Prop} {sc : Ah}
structure Vis (st:σ->Nat->Option BT) (n0:Nat) (g:FuncId) (a b:List SV) (u:σ->BY->σ) (ok:AF->Prop):Prop where
 lt:∀s o,n0<=o->st s o=none
 dom:∀s s' o,st s o=none->st s' o=none
 cl:∀s o y,st s o=some y->BN n0 y=true
 call:∀s p H n,ok p.head->n0<=n->(∀o y,st s o=some y->H o=some y)->BM Tryz.prog g (a++[p.enc]++b) H n (λv h' n'=>v=.tup []/\h'=Ai st (u s p) H/\n'=n)
def CD (u:σ->BY->σ) (s:σ) (p:BY):AF×Bool×σ:=(p.head,true,u s p)
theorem Vis.clo (C:Vis st n0 g a b u ok):Lt st n0 112 [] [.iptr [.fn (.func g) a b]] (CD u) ok where
 lt:=C.lt
 dom:=C.dom
 cl:=C.cl
 call s p H n hp hn hs:=by
  have Cx:Lt st n0 g a b (CD u) (λ_=>False):=⟨C.lt,C.dom,C.cl,λs p H n h=>h.elim⟩
  refine Dg Tryz.func112 rfl λho=>?_
  have hU:∀s',E4 (Ai st s' H) n:=λs'=>Cx.old s' hn ho
  have hUb:∀s' j y,Ai st s' H j=some y->j<n:=λs' j y e=>(hU s' j y e).1
  have hc:=C.call s p (hset H (n+1) (some (.cells [.imm 0 [] true,AA 0,AA 0,.imm 0 [] true,.imm 0 [] true]))) (n+2) hp (by omega) (Ep C.lt (by omega) _ hs)
  have hup:∀s' y,Ai st s' (hset H (n+1) y)=hset (Ai st s' H) (n+1) y:=λs' y=>by rw[Cx.hset _ _ (by omega)]
  rw[hup]at hc
  refine BV 1 [(1,.iptr [.fn (.func g) a b]),(2,.iptr (p.head.flat++[.bool p.mid,AA p.units])),(3,.ptr (n+1) 0)] (hset H (n+1) (some (.cells [.imm 0 [] true,AA 0,AA 0,.imm 0 [] true,.imm 0 [] true]))) (λm=>m=n+2) ?_ (λm hm=>?_)
  . simp[go_sem,BY.enc,AF.flat,Y0]
    refine⟨AT (by rw[AD _ _ (by omega)];exact ho.none (Y1 n)) (by simp[hset]),λj y=>?_⟩
    have:=ho j y;simp only[hset];grind
  subst hm
  refine BV 0 [(2,.iptr (p.head.flat++[.bool p.mid,AA p.units])),(3,.ptr (n+1) 0)] (hset (Ai st (u s p) H) (n+1) (some (.cells [.imm 0 [] true,AA 0,AA 0,.imm 0 [] true,.imm 0 [] true]))) (λm=>n+2<=m) ?_ (λm hm=>?_)
  . simp[go_sem,AF.flat]
    refine Ys (by simpa[BY.enc,AF.flat]using hc) ?_
    rintro v H' n' ⟨rfl,rfl,rfl⟩
    simp[go_sem,Y0]
  refine AI ?_
  simp[go_sem,AF.flat,AC,AY]
  have:=CT (h2:=hset (Ai st (u s p) H) (n+1) (some (.cells [Af p.head.props,AA p.head.ins,AA p.head.move,Aa p.head.dels,AQ p.head.layers]))) (n':=m) (v:=.tup [p.head.enc,.bool true]) (hU (u s p)) (by simp[closed,closedL,AF.enc,AF.flat,E8.E.closedL,BO.E.closedL,Ax.E.closedL]) (AK (λj z e=>by have:=hUb _ j z e;omega) AB)
  simpa[AF.enc,AF.flat,CD]using this
set_option maxHeartbeats 2000000 in
theorem d36 (C:Vis st n0 g a b u ok) (hp:AF->Prop) (K:Nat) (hK:K<=349525) (hok:∀h:AF,hp h->ok h/\h.sized) (N:Nat) (d:AH) (s:σ) (hl:DM hp K N d.flow) (hend:hp d.«end»)
 (h1:(Bi (CD u) sc N d d.revs s).1.sized) (h2:(Bi (CD u) sc N d d.revs s).1.normal.sized) (h3:(BZ [] (AE.usL (An (Bi (CD u) sc N d d.revs s).1.flow)++(Bi (CD u) sc N d d.revs s).1.«end».all)).length<=1048576) {H:Hp} {n:Nat} (hn:n0<=n) (hs:∀o y,st s o=some y->H o=some y):
 BM Tryz.prog 36 [d.enc,sc.enc,.fn (.func g) a b] H n (λv h' n'=>v=.tup []/\h'=Ai st (Bi (CD u) sc N d d.revs s).2 H/\n'=n):=by
 have Cx:=C.clo
 refine Dg Tryz.func36 rfl λho=>?_
 have hU:∀s',E4 (Ai st s' H) n:=λs'=>Cx.old s' hn ho
 refine Ab 1 [(3,.iptr ([AG d.flow]++d.«end».flat++[Aw d.revs]++d.settings.flat)),(4,.iptr [AA sc.id,AA sc.a,AA sc.b]),(5,.iptr [.fn (.func g) a b])] H n ?_ (λm hm=>?_)
 . simp[go_sem,Ah.enc,AH.enc,AF.flat,AJ.flat,Yn]
   refine⟨⟨AT (ho.none (by omega)) (by simp[hset]),AT (ho.none (by omega)) (by simp[hset]),AT (ho.none (by omega)) (by simp[hset])⟩,λj y=>?_⟩
   have:=ho j y;simp only[hset];grind
 have c:=d49 (sc:=sc) Cx hp K hK hok N d d.revs s hl hend h1 h2 h3 (H:=H) (n:=m) (by omega) hs
 generalize(Bi (CD u) sc N d d.revs s).1.normal.enc=w at c
 generalize(Bi (CD u) sc N d d.revs s).2=s2 at c ⊢
 refine AI ?_
 simp[go_sem,AF.flat,AJ.flat]
 refine Ys (by simpa[Ah.enc,AH.enc,AF.flat,AJ.flat]using c) ?_
 rintro v H' n' ⟨rfl,rfl,rfl⟩
 simp[go_sem]
 exact CT (hU s2) (by simp[closed,closedL]) AB
end
def D8 (p q:Nat) (s:Int×Int) (o:Nat):Option BT:=if o=p then some (.cells [AA s.1])else if o=q then some (.cells [AA s.2])else none
def GF (rev:Int) (s:Int×Int) (x:BY):Int×Int:=
 if x.head.uses rev then if x.mid then(IntKind.i64.wrap (s.1+x.units),s.2)else(s.1,IntKind.i64.wrap (s.2+x.units))else s
theorem Ni {p q:Nat} (hpq:p≠q) (s:Int×Int) (H:Hp):Ai (D8 p q) s H=hset (hset H p (some (.cells [AA s.1]))) q (some (.cells [AA s.2])):=by
 funext o
 simp only[Ai,D8,hset]
 by_cases h1:o=p
 . subst h1;simp[hpq]
 . by_cases h2:o=q
   . subst h2;simp[h1]
   . simp[h1,h2]
theorem UF {p q n0:Nat} (hpq:p≠q) (hp:p<n0) (hq:q<n0) (rev:Int):Vis (D8 p q) n0 37 [] [.iptr [AA rev],.ptr p 0,.ptr q 0] (GF rev) (λh=>h.sized/\h.revs.length<=1048576) where
 lt s o h:=by simp only[D8];rw[if_neg (by omega),if_neg (by omega)]
 dom s s' o h:=by
  simp only[D8]at h ⊢
  by_cases e1:o=p
  . rw[if_pos e1]at h;cases h
  . by_cases e2:o=q
    . rw[if_neg e1,if_pos e2]at h;cases h
    . rw[if_neg e1,if_neg e2]
 cl s o y h:=by simp only[D8]at h;split at h<;>first|(cases h;simp[BN,closed,closedL])|(split at h<;>first|(cases h;simp[BN,closed,closedL])|cases h)
 call s x H n hx hn hs:=by
  have a1:H p=some (.cells [AA s.1]):=hs p _ (by simp[D8])
  have a2:H q=some (.cells [AA s.2]):=hs q _ (by simp[D8,Ne.symm hpq])
  have b1:p≠n:=by omega
  have b2:q≠n:=by omega
  have hU:∀y1 y2,(∀z,y1=some z->BN n z=true)->(∀z,y2=some z->BN n z=true)->E4 H n->E4 (hset (hset H p y1) q y2) n:=λy1 y2 c1 c2 ho j z e=>by
   simp only[hset]at e
   split at e
   . subst_vars;exact⟨by omega,c2 z rfl⟩
   . split at e
     . subst_vars;exact⟨by omega,c1 z rfl⟩
     . exact ho j z e
  refine Dg Tryz.func37 rfl λho=>?_
  refine Ab 1 [(1,.iptr [AA rev]),(2,.ptr p 0),(3,.ptr q 0),(4,.iptr (x.head.flat++[.bool x.mid,AA x.units]))] H n ?_ (λm hm=>?_)
  . simp[go_sem,BY.enc,AF.flat,Y0]
    refine⟨AT (ho.none (Y1 n)) (by simp[hset]),AK (λj z e=>(ho j z e).1) AB⟩
  refine AI ?_
  simp[go_sem,AF.flat]
  refine Yj (by simpa[AF.enc,AF.flat]using c38 x.head hx.1 hx.2 rev) ?_
  rw[Ni hpq]
  cases hu:x.head.uses rev with
  | false =>
   simp[go_sem]
   have hk:GF rev s x=s:=by simp[GF,hu]
   rw[hk]
   have e:hset (hset H p (some (.cells [AA s.1]))) q (some (.cells [AA s.2]))=H:=by
    funext j;simp only[hset];split
    . subst_vars;exact a2.symm
    . split
      . subst_vars;exact a1.symm
      . rfl
   rw[e]
   exact CT ho (by simp[closed,closedL]) AB
  | true =>
   cases hmid:x.mid with
   | true=>
    have hk:GF rev s x=(IntKind.i64.wrap (s.1+x.units),s.2):=by simp[GF,hu,hmid]
    rw[hk]
    simp[go_sem,a1]
    refine CT (hU _ _ (by rintro z e;cases e;simp[BN,closed,closedL]) (by rintro z e;cases e;simp[BN,closed,closedL]) ho) (by simp[closed,closedL]) λj y e=>?_
    simp only[hset]at e ⊢;grind
   | false=>
    have hk:GF rev s x=(s.1,IntKind.i64.wrap (s.2+x.units)):=by simp[GF,hu,hmid]
    rw[hk]
    simp[go_sem,a2]
    refine CT (hU _ _ (by rintro z e;cases e;simp[BN,closed,closedL]) (by rintro z e;cases e;simp[BN,closed,closedL]) ho) (by simp[closed,closedL]) λj y e=>?_
    simp only[hset]at e ⊢;grind
def CS (sc:Ah) (l:List AE):Prop:=sc.a<0\/sc.b<sc.a\/(A5 l).1<sc.b
instance (sc:Ah) (l:List AE):Decidable (CS sc l):=by unfold CS;infer_instance
def CP (N:Nat) (d:AH) (rev:Int) (sc:Ah):Int×Int×Int:=
 if(CG d sc.id).isSome=false then(0,0,8)
 else if CS sc (((CG d sc.id).map Fl.items).getD [])then(0,0,2)
 else if(Bv d.revs rev).2=false then(0,0,22)
 else((Bi (CD (GF rev)) sc N d d.revs (0,0)).2.1,(Bi (CD (GF rev)) sc N d d.revs (0,0)).2.2,0)
def trE:Tr:=.two 0 1 (.two 1 2 (.one 2 (.one 3 (.one 4 .nil))) (.one 1 (.one 3 (.one 4 .nil)))) (.one 0 (.one 2 (.one 3 (.one 4 .nil))))
set_option maxHeartbeats 2000000 in
theorem c13 (hp:AF->Prop) (K:Nat) (hK:K<=349525) (hok:∀h:AF,hp h->(h.sized/\h.revs.length<=1048576)/\h.sized) (N:Nat) (d:AH) (rev:Int) (sc:Ah) (hl:DM hp K N d.flow) (hend:hp d.«end») (hr:d.revs.length<=1048576)
 (hfl:∀fl,CG d sc.id=some fl->fl.items.length<=1048576/\∀x∈fl.items,x.text.size<=1048576)
 (h1:(Bi (CD (GF rev)) sc N d d.revs (0,0)).1.sized) (h2:(Bi (CD (GF rev)) sc N d d.revs (0,0)).1.normal.sized) (h3:(BZ [] (AE.usL (An (Bi (CD (GF rev)) sc N d d.revs (0,0)).1.flow)++(Bi (CD (GF rev)) sc N d d.revs (0,0)).1.«end».all)).length<=1048576):
 PC 13 [d.enc,AA rev,sc.enc] (.tup [AA (CP N d rev sc).1,AA (CP N d rev sc).2.1,AA (CP N d rev sc).2.2]):=by
 intro h n
 refine Dg Tryz.func13 rfl λho=>?_
 have e0:n+3≠n+4:=by omega
 have e1:n+4≠n+3:=by omega
 have hsz:=hl.sized (λh e=>(hok h e).2) (by omega)
 refine BV 1 [(3,.iptr ([AG d.flow]++d.«end».flat++[Aw d.revs]++d.settings.flat)),(4,.iptr [AA rev]),(5,.iptr [AA sc.id,AA sc.a,AA sc.b]),(6,.ptr (n+3) 0),(7,.ptr (n+4) 0)] (Ai (D8 (n+3) (n+4)) (0,0) h) (λm=>n+5=m) ?_ (λm hm=>?_)
 . rw[Ni e0]
   simp[go_sem,Ah.enc,AH.enc,AF.flat,AJ.flat,Y0,Yn]
   refine⟨⟨AT (by simp[hset];exact ho.none (by omega)) (by simp[hset]),AT (by simp[hset];exact ho.none (by omega)) (by simp[hset]),AT (by simp[hset];exact ho.none (by omega)) (by simp[hset])⟩,λj y=>?_⟩
   have:=ho j y;simp only[hset];grind
 subst hm
 have hend2:∀(x y z:Int) (H:Hp),H (n+3)=some (.cells [AA x])->H (n+4)=some (.cells [AA y])->(∀j w,j<n->h j=some w->H j=some w)->∀m,Bz n H m (.tup [AA x,AA y,AA z]) (Is (.tup [AA x,AA y,AA z]) h n):=λx y z H _ _ hh m=>Au ho (λj w e=>hh j w (ho j w e).1 e) rfl (by simp[closed,closedL])
 have A8:∀s j w,j<n->h j=some w->Ai (D8 (n+3) (n+4)) s h j=some w:=λs j w hj e=>by simp only[Ai,D8];rw[if_neg (by omega),if_neg (by omega)];exact e
 have g3:∀s,Ai (D8 (n+3) (n+4)) s h (n+3)=some (.cells [AA s.1]):=λs=>by simp[Ai,D8]
 have g4:∀s,Ai (D8 (n+3) (n+4)) s h (n+4)=some (.cells [AA s.2]):=λs=>by simp[Ai,D8]
 refine BV 0 [(3,.iptr ([AG d.flow]++d.«end».flat++[Aw d.revs]++d.settings.flat)),(4,.iptr [AA rev]),(5,.iptr [AA sc.id,AA sc.a,AA sc.b]),(6,.ptr (n+3) 0),(7,.ptr (n+4) 0),(9,AG (((CG d sc.id).map Fl.items).getD [])),(10,.bool (CG d sc.id).isSome)] (Ai (D8 (n+3) (n+4)) (0,0) h) (λm=>n+5<=m) ?_ (λm hm=>?_)
 . simp[go_sem,AF.flat,AJ.flat]
   refine Yj (by simpa[AH.enc,AF.flat,AJ.flat]using c34 d sc.id hsz.1 hsz.2) ?_
   simp[go_sem,Y0]
 cases hfd:CG d sc.id with
 | none=>
  have hc:CP N d rev sc=(0,0,8):=by simp[CP,hfd]
  rw[hc]
  refine AI ?_
  simp[go_sem,g3,g4,AC,AD]
  refine hend2 0 0 8 _ ?_ ?_ ?_ _
  . simp[hset]
  . simp[hset]
  . intro j w hj e;rw[AD _ _ (by omega),AD _ _ (by omega)];exact A8 _ j w hj e
 | some fl=>
 obtain⟨hfl1,hfl2⟩:=hfl fl hfd
 dsimp only[Option.map_some,Option.getD_some,Option.isSome_some]
 have hcs:CP N d rev sc=if CS sc fl.items then(0,0,2)else if(Bv d.revs rev).2=false then(0,0,22)else((Bi (CD (GF rev)) sc N d d.revs (0,0)).2.1,(Bi (CD (GF rev)) sc N d d.revs (0,0)).2.2,0):=by simp[CP,hfd]
 refine By 0 [(3,.iptr ([AG d.flow]++d.«end».flat++[Aw d.revs]++d.settings.flat)),(4,.iptr [AA rev]),(5,.iptr [AA sc.id,AA sc.a,AA sc.b]),(6,.ptr (n+3) 0),(7,.ptr (n+4) 0),(9,AG fl.items)] (Ai (D8 (n+3) (n+4)) (0,0) h) m ?_ (λm2 hm2=>?_)
 . simp[go_sem,Y0]
 subst hm2
 by_cases hb:CS sc fl.items
 . rw[if_pos hb]at hcs
   rw[hcs]
   refine Ei ?_
   refine Ab 0 [(3,.iptr ([AG d.flow]++d.«end».flat++[Aw d.revs]++d.settings.flat)),(4,.iptr [AA rev]),(5,.iptr [AA sc.id,AA sc.a,AA sc.b]),(6,.ptr (n+3) 0),(7,.ptr (n+4) 0),(11,AA (A5 fl.items).1)] (Ai (D8 (n+3) (n+4)) (0,0) h) m ?_ (λm2 hm2=>?_)
   . simp[go_sem]
     refine Yj (Sr fl.items hfl1 hfl2) ?_
     simp[go_sem,Y0]
   have fin:∀y1 y2 m',Bz n (hset (hset (Ai (D8 (n+3) (n+4)) (0,0) h) (n+3) y1) (n+4) y2) m' (.tup [AA 0,AA 0,AA 2]) (Is (.tup [AA 0,AA 0,AA 2]) h n):=λy1 y2 m'=>
    Au ho (λj w e=>by have:=(ho j w e).1;rw[AD _ _ (by omega),AD _ _ (by omega)];exact A8 _ j w this e) rfl (by simp[closed,closedL])
   unfold CS at hb
   refine AI ?_
   by_cases a0:sc.a<0
   . simp[go_sem,g3,g4,AC,AD,a0]
     exact fin _ _ _
   . by_cases a1:sc.b<sc.a
     . simp[go_sem,g3,g4,AC,AD,a0,a1]
       exact fin _ _ _
     . have a2:(A5 fl.items).1<sc.b:=by omega
       simp[go_sem,g3,g4,AC,AD,a0,a1,a2]
       exact fin _ _ _
 rw[if_neg hb]at hcs
 refine Ab 0 [(3,.iptr ([AG d.flow]++d.«end».flat++[Aw d.revs]++d.settings.flat)),(4,.iptr [AA rev]),(5,.iptr [AA sc.id,AA sc.a,AA sc.b]),(6,.ptr (n+3) 0),(7,.ptr (n+4) 0)] (Ai (D8 (n+3) (n+4)) (0,0) h) m ?_ (λm2 hm2=>?_)
 . unfold CS at hb
   have a0:¬sc.a<0:=by omega
   have a1:¬sc.b<sc.a:=by omega
   have a2:¬(A5 fl.items).1<sc.b:=by omega
   simp[go_sem]
   refine Yj (Sr fl.items hfl1 hfl2) ?_
   simp[go_sem,Y0,a0,a1,a2]
 have cr:=c20 d.revs hr rev
 generalize Bv d.revs rev=rf at cr hcs
 obtain⟨rf,kf⟩:=rf
 cases kf with
 | false =>
  have hcs2:CP N d rev sc=(0,0,22):=by simpa using hcs
  rw[hcs2]
  have fin:∀y1 y2 y3 m',n+5<=m'->∀q,m'<=q->∀m'',Bz n (hset (hset (hset (Ai (D8 (n+3) (n+4)) (0,0) h) q y3) (n+3) y1) (n+4) y2) m'' (.tup [AA 0,AA 0,AA 22]) (Is (.tup [AA 0,AA 0,AA 22]) h n):=λy1 y2 y3 m' _ q _ m''=>
   Au ho (λj w e=>by have:=(ho j w e).1;rw[AD _ _ (by omega),AD _ _ (by omega),AD _ _ (by omega)];exact A8 _ j w this e) rfl (by simp[closed,closedL])
  refine AI ?_
  have q1:n+3≠m2:=by omega
  have q2:n+4≠m2:=by omega
  simp[go_sem,AF.flat,AJ.flat]
  refine Yj cr ?_
  simp[go_sem,g3,g4,AC,AD,AY,q1,q2,BD.enc]
  exact fin _ _ _ m2 (by omega) _ (Y1 _) _
 | true =>
  have hcs2:CP N d rev sc=((Bi (CD (GF rev)) sc N d d.revs (0,0)).2.1,(Bi (CD (GF rev)) sc N d d.revs (0,0)).2.2,0):=by simpa using hcs
  rw[hcs2]
  clear hcs hcs2
  refine Ab 0 [(3,.iptr ([AG d.flow]++d.«end».flat++[Aw d.revs]++d.settings.flat)),(4,.iptr [AA rev]),(5,.iptr [AA sc.id,AA sc.a,AA sc.b]),(6,.ptr (n+3) 0),(7,.ptr (n+4) 0)] (Ai (D8 (n+3) (n+4)) (0,0) h) m2 ?_ (λm3 hm3=>?_)
  . simp[go_sem,AF.flat,AJ.flat]
    refine Yj cr ?_
    simp[go_sem,Y0,AC,AY,BD.enc]
    exact AK (λj z e=>by
     simp only[Ai,D8]at e
     by_cases x1:j=n+3
     . omega
     . by_cases x2:j=n+4
       . omega
       . rw[if_neg x1,if_neg x2]at e;have:=(ho j z e).1;omega) AB
  have c:=d36 (sc:=sc) (UF (n0:=n+5) e0 (by omega) (by omega) rev) hp K hK hok N d (0,0) hl hend h1 h2 h3 (H:=Ai (D8 (n+3) (n+4)) (0,0) h) (n:=m3) (by omega) Bq
  generalize(Bi (CD (GF rev)) sc N d d.revs (0,0)).2=s2 at c ⊢
  have hu2:Ai (D8 (n+3) (n+4)) s2 (Ai (D8 (n+3) (n+4)) (0,0) h)=Ai (D8 (n+3) (n+4)) s2 h:=(UF (n0:=n+5) e0 (by omega) (by omega) rev).clo.up2 _ _ _
  rw[hu2]at c
  refine Ab 0 [(6,.ptr (n+3) 0),(7,.ptr (n+4) 0)] (Ai (D8 (n+3) (n+4)) s2 h) m3 ?_ (λm4 hm4=>?_)
  . simp[go_sem,AF.flat,AJ.flat]
    refine Xg (bs:=[d.enc,sc.enc,.fn (.func 37) [] [.iptr [AA rev],.ptr (n+3) 0,.ptr (n+4) 0]]) 1 AB ?_ ?_
    . refine⟨?_,?_,?_,trivial⟩
      . simp[AH.enc,AF.flat,AJ.flat,Y0]
      . simp[Ah.enc,Y0]
      . exact Y0
    refine Ys c ?_
    rintro v H' n' ⟨rfl,rfl,rfl⟩
    simp[go_sem,Y0]
  have fin:∀y1 y2 m'',Bz n (hset (hset (Ai (D8 (n+3) (n+4)) s2 h) (n+3) y1) (n+4) y2) m'' (.tup [AA s2.1,AA s2.2,AA 0]) (Is (.tup [AA s2.1,AA s2.2,AA 0]) h n):=λy1 y2 m''=>
   Au ho (λj w e=>by have:=(ho j w e).1;rw[AD _ _ (by omega),AD _ _ (by omega)];exact A8 _ j w this e) rfl (by simp[closed,closedL])
  refine AV 0 (α:=Unit) (λ_=>[(6,.ptr (n+3) 0),(7,.ptr (n+4) 0),(8,AA 0)]) (λ_=>Ai (D8 (n+3) (n+4)) s2 h) (λ_ m5=>m4<=m5) (B7 trE rfl (by kernel_rfl) (by kernel_rfl) ?_) (λ_ m5 hm5=>?_)
  . have De:hset (hset (Ai (D8 (n+3) (n+4)) s2 h) (n+3) (some (.cells [AA s2.1]))) (n+4) (some (.cells [AA s2.2]))=Ai (D8 (n+3) (n+4)) s2 h:=by
     funext j;simp only[hset,Ai,D8];grind
    simp[go_sem,trE,Y0,g3,g4,AD,De]
  . refine AI ?_
    simp[go_sem,g3,g4]
    exact Au ho (λj w e=>A8 _ j w (ho j w e).1 e) rfl (by simp[closed,closedL])
section
variable {σ : Type} (f : σ → BY → AF × Bool × σ) (fl : Int → List AE → Ah → Bool → σ → List AE × σ) (sc : Ah) (mid : Bool)
def CC (q:List AL×σ) (c:AL):List AL×σ:=
 (if(f q.2 ⟨c.head,mid,1⟩).2.1 then q.1++[.mk c.id (f q.2 ⟨c.head,mid,1⟩).1 (fl c.id c.flow sc mid (f q.2 ⟨c.head,mid,1⟩).2.2).1]else q.1,(fl c.id c.flow sc mid (f q.2 ⟨c.head,mid,1⟩).2.2).2)
def DK (l:List AL) (s:σ):List AL×σ:=l.foldl (CC f fl sc mid) ([],s)
def Gs (x:AW) (s:σ):AW×Bool×σ:=
 (.mk (f s ⟨x.head,mid,1⟩).1 (DK f fl sc mid x.cells (f s ⟨x.head,mid,1⟩).2.2).1,(f s ⟨x.head,mid,1⟩).2.1&&decide (0<(DK f fl sc mid x.cells (f s ⟨x.head,mid,1⟩).2.2).1.length),(DK f fl sc mid x.cells (f s ⟨x.head,mid,1⟩).2.2).2)
def Cb (q:List AW×σ) (x:AW):List AW×σ:=(if(Gs f fl sc mid x q.2).2.1 then q.1++[(Gs f fl sc mid x q.2).1]else q.1,(Gs f fl sc mid x q.2).2.2)
def Ed (l:List AW) (s:σ):List AW×σ:=l.foldl (Cb f fl sc mid) ([],s)
def LI (x:AE) (s:σ):List AE×σ:=if x.kind=6 then fl x.id x.flow sc mid s else(x.flow,s)
def Dp (q:List AE×σ) (x:AE):List AE×σ:=
 let r:=f q.2 ⟨x.head,mid,(A5 [x]).1⟩
 let w:=LI fl sc mid x r.2.2
 let v:=Ed f fl sc mid x.rows w.2
 (if r.2.1 && !(decide (x.kind=7)&&decide (v.1.length=0))then q.1++[x.put r.1 w.1 v.1]else q.1,v.2)
def BU (l:List AE) (s:σ):List AE×σ:=l.foldl (Dp f fl sc mid) ([],s)
end
def Ar:Ah:=⟨-1,0,0⟩
def Aq {σ:Type} (f:σ->BY->AF×Bool×σ):Nat->Int->List AE->Ah->Bool->σ->List AE×σ
 | 0,_,_,_,_,s=>([],s)
 | N + 1, id, l, sc, mid, s =>
  if id=sc.id/\mid=false then
   let p1:=BU f (Aq f N) Ar false (AU l 0 sc.a).1 s
   let p2:=BU f (Aq f N) Ar true (AU l sc.a sc.b).1 p1.2
   let p3:=BU f (Aq f N) Ar false (AU l sc.b (A5 l).1).1 p2.2
   (p1.1++p2.1++p3.1,p3.2)
  else BU f (Aq f N) sc mid l s
section
variable {σ : Type} {f : σ → BY → AF × Bool × σ} {fl : Int → List AE → Ah → Bool → σ → List AE × σ} {sc : Ah} {mid : Bool}
theorem LF (l:List AL) (z:List AL×σ):(l.foldl (CC f fl sc mid) z).1.length<=z.1.length+l.length:=by
 induction l generalizing z with
 | nil=>simp
 | cons a l ih=>
  have:=ih (CC f fl sc mid z a)
  have h2:(CC f fl sc mid z a).1.length<=z.1.length+1:=by unfold CC;dsimp only;split<;>simp
  simp only[YT,Yy];omega
theorem Mo (l:List AW) (z:List AW×σ):(l.foldl (Cb f fl sc mid) z).1.length<=z.1.length+l.length:=by
 induction l generalizing z with
 | nil=>simp
 | cons a l ih=>
  have:=ih (Cb f fl sc mid z a)
  have h2:(Cb f fl sc mid z a).1.length<=z.1.length+1:=by unfold Cb;dsimp only;split<;>simp
  simp only[YT,Yy];omega
theorem Gq (l:List AE) (z:List AE×σ):(l.foldl (Dp f fl sc mid) z).1.length<=z.1.length+l.length:=by
 induction l generalizing z with
 | nil=>simp
 | cons a l ih=>
  have:=ih (Dp f fl sc mid z a)
  have h2:(Dp f fl sc mid z a).1.length<=z.1.length+1:=by unfold Dp;dsimp only;split<;>simp
  simp only[YT,Yy];omega
end
section
variable {α σ : Type} {rk : σ → Nat}
theorem JM {β:Type} {G:β×σ->α->β×σ} (h:∀q x,rk q.2<=rk (G q x).2):∀(l:List α) (q:β×σ),rk q.2<=rk (l.foldl G q).2
 | [],_=>Y1 _
 | x::l,q=>Yo (h q x) (JM h l _)
theorem Nc {β:Type} {G:β×σ->α->β×σ} (h:∀q x,rk q.2<=rk (G q x).2) (l:List α) (q:β×σ) (i:Nat):rk ((l.take i).foldl G q).2<=rk (l.foldl G q).2:=by
 conv=>rhs;rw[<-Z4 i l]
 rw[Zw];exact JM h _ _
variable {f : σ → BY → AF × Bool × σ} {fl : Int → List AE → Ah → Bool → σ → List AE × σ}
theorem Of (h:∀s p,rk s<=rk (f s p).2.2) (hf:∀id l sc mid s,rk s<=rk (fl id l sc mid s).2) (sc:Ah) (mid:Bool) (q:List AL×σ) (c:AL):rk q.2<=rk (CC f fl sc mid q c).2:=Yo (h _ _) (hf _ _ _ _ _)
theorem Mi (h:∀s p,rk s<=rk (f s p).2.2) (hf:∀id l sc mid s,rk s<=rk (fl id l sc mid s).2) (sc:Ah) (mid:Bool) (l:List AL) (s:σ):rk s<=rk (DK f fl sc mid l s).2:=JM (G:=CC f fl sc mid) (Of h hf sc mid) l ([],s)
theorem QJ (h:∀s p,rk s<=rk (f s p).2.2) (hf:∀id l sc mid s,rk s<=rk (fl id l sc mid s).2) (sc:Ah) (mid:Bool) (x:AW) (s:σ):rk s<=rk (Gs f fl sc mid x s).2.2:=Yo (h s ⟨x.head,mid,1⟩) (Mi h hf sc mid x.cells _)
theorem LK (h:∀s p,rk s<=rk (f s p).2.2) (hf:∀id l sc mid s,rk s<=rk (fl id l sc mid s).2) (sc:Ah) (mid:Bool) (l:List AW) (s:σ):rk s<=rk (Ed f fl sc mid l s).2:=JM (G:=Cb f fl sc mid) (λq x=>QJ h hf sc mid x q.2) l ([],s)
theorem SD (hf:∀id l sc mid s,rk s<=rk (fl id l sc mid s).2) (sc:Ah) (mid:Bool) (x:AE) (s:σ):rk s<=rk (LI fl sc mid x s).2:=by
 unfold LI;split
 . exact hf _ _ _ _ _
 . exact Y1 _
theorem Ol (h:∀s p,rk s<=rk (f s p).2.2) (hf:∀id l sc mid s,rk s<=rk (fl id l sc mid s).2) (sc:Ah) (mid:Bool) (q:List AE×σ) (x:AE):rk q.2<=rk (Dp f fl sc mid q x).2:=
 Yo (Yo (h _ _) (SD hf sc mid x _)) (LK h hf sc mid x.rows _)
theorem Gr (h:∀s p,rk s<=rk (f s p).2.2) (hf:∀id l sc mid s,rk s<=rk (fl id l sc mid s).2) (sc:Ah) (mid:Bool) (l:List AE) (s:σ):rk s<=rk (BU f fl sc mid l s).2:=JM (G:=Dp f fl sc mid) (Ol h hf sc mid) l ([],s)
theorem Oi (h:∀s p,rk s<=rk (f s p).2.2):∀(N:Nat) (id:Int) (l:List AE) (sc:Ah) (mid:Bool) (s:σ),rk s<=rk (Aq f N id l sc mid s).2
 | 0,_,_,_,_,_=>Y1 _
 | N+1,id,l,sc,mid,s=>by
  rw[Aq]
  have hf:=Oi h N
  split
  . exact Yo (Yo (Gr h hf _ _ _ _) (Gr h hf _ _ _ _)) (Gr h hf _ _ _ _)
  . exact Gr h hf _ _ _ _
end
section
variable {σ : Type}
structure Kk (st:σ->Nat->Option BT) (n0:Nat) (g:FuncId) (a b:List SV) (f:σ->BY->AF×Bool×σ) (ok:AF->Prop) (rk:σ->Nat:=λ_=>0) (top:Nat:=0):Prop where
 up:∀s p,rk s<=rk (f s p).2.2:=by exact λ_ _=>Y1 _
 lt:∀s o,n0<=o->st s o=none
 dom:∀s s' o,st s o=none->st s' o=none
 cl:∀s o y,st s o=some y->BN n0 y=true
 call:∀s p H n,ok p.head->rk (f s p).2.2<=top->n0<=n->(∀o y,st s o=some y->H o=some y)->BM Tryz.prog g (a++[p.head.enc,AA p.units,.bool p.mid]++b) H n (λv h' n'=>v=.tup [(f s p).1.enc,.bool (f s p).2.1]/\h'=Ai st (f s p).2.2 H/\n'=n)
variable {st : σ → Nat → Option BT} {n0 : Nat} {g : FuncId} {a b : List SV} {f : σ → BY → AF × Bool × σ} {ok : AF → Prop} {rk : σ → Nat} {top : Nat}
theorem Kk.cx (C:Kk st n0 g a b f ok rk top):Lt st n0 g a b f (λ_=>False):=⟨C.lt,C.dom,C.cl,λ_ _ _ _ h=>h.elim⟩
variable {fl : Int → List AE → Ah → Bool → σ → List AE × σ} {mid : Bool} {P : List AE → Prop} {sc : Ah}
def FlC (st:σ->Nat->Option BT) (n0:Nat) (g:FuncId) (a b:List SV) (fl:Int->List AE->Ah->Bool->σ->List AE×σ) (P:List AE->Prop) (rk:σ->Nat:=λ_=>0) (top:Nat:=0):Prop:=
 ∀id l sc mid s H n,P l->rk (fl id l sc mid s).2<=top->n0<=n->(∀o y,st s o=some y->H o=some y)->BM Tryz.prog 115 [AG l,AA id,sc.enc,.bool mid,.fn (.func g) a b] H n (λv h' n'=>v=AG (fl id l sc mid s).1/\h'=Ai st (fl id l sc mid s).2 H/\n'=n)
def KY:List SV:=[.imm 0 [] true,AA 0,AA 0,.imm 0 [] true,.imm 0 [] true,.imm 0 [] true]
theorem RT {h h':Hp} {o:Option Nat} {es:List SV} (hh:∀j y,h j=some y->h' j=some y):∀j y,AO o es h j=some y->AO o es h' j=some y:=λj y e=>by
 cases o with
 | none=>exact hh j y e
 | some k=>
  simp only[AO,hset]at e ⊢
  split at e
  . rename_i c;rw[if_pos c];exact e
  . rename_i c;rw[if_neg c];exact hh j y e
set_option maxHeartbeats 2000000 in
theorem d181 (C:Kk st n0 g a b f ok rk top) (hfl:FlC st n0 g a b fl P rk top) (hfu:∀id l sc mid s,rk s<=rk (fl id l sc mid s).2) (x:AW) (hx:ok x.head/\x.cells.length<=1048576/\∀c∈x.cells,ok c.head/\P c.flow) (s:σ) (ht:rk (Gs f fl sc mid x s).2.2<=top) {H:Hp} {n:Nat} (hn:n0<=n) (hs:∀o y,st s o=some y->H o=some y):
 BM Tryz.prog 181 [x.enc,sc.enc,.bool mid,.fn (.func g) a b] H n (λv h' n'=>v=.tup [(Gs f fl sc mid x s).1.enc,.bool (Gs f fl sc mid x s).2.1]/\h'=Ai st (Gs f fl sc mid x s).2.2 H/\n'=n):=by
 have D:=C.cx
 refine Dg Tryz.func181 rfl λho=>?_
 obtain⟨x1,x2,x3⟩:=hx
 have hU:∀s',E4 (Ai st s' H) n:=λs'=>D.old s' hn ho
 have hUb:∀s' j y,Ai st s' H j=some y->j<n:=λs' j y e=>(hU s' j y e).1
 have hRb:∀s' j y,hset (Ai st s' H) (n+2) (some (.cells KY)) j=some y->j<n+3:=λs' j y e=>by
  simp only[hset]at e
  split at e
  . omega
  . have:=hUb s' j y e;omega
 have hup:∀s1 s' z,Ai st s' (hset (Ai st s1 H) (n+2) z)=hset (Ai st s' H) (n+2) z:=λs1 s' z=>by rw[<-D.hset _ _ (by omega),D.up2]
 have hhas:∀s' z,∀k w,st s' k=some w->hset (Ai st s' H) (n+2) z k=some w:=λs' z=>Ep C.lt (by omega) z Bq
 refine BV 1 [(2,.bool mid),(3,.fn (.func g) a b),(4,.iptr (x.head.flat++[BQ x.cells])),(5,.iptr [AA sc.id,AA sc.a,AA sc.b]),(8,.ptr (n+2) 0)] (hset (Ai st s H) (n+2) (some (.cells KY))) (λm=>n+3=m) ?_ (λm hm=>?_)
 . simp[go_sem,Ah.enc,YB,AF.flat,Y0,DP s H hs,KY,Yn]
   refine⟨⟨AT (by rw[AD _ _ (by omega)];exact ho.none (by omega)) (by simp[hset]),AT (by rw[AD _ _ (by omega)];exact ho.none (by omega)) (by simp[hset])⟩,λj y=>?_⟩
   have:=ho j y;simp only[hset];grind
 subst hm
 have hcall:=λz=>C.call s ⟨x.head,mid,1⟩ (hset (Ai st s H) (n+2) z) (n+3) x1 (Yo (Mi C.up hfu sc mid x.cells _) ht) (by omega) (hhas s z)
 simp only[Gs]at ht ⊢
 generalize f s ⟨x.head,mid,1⟩=r at hcall ht ⊢
 obtain⟨h',k,s1⟩:=r
 dsimp only at hcall ht ⊢
 simp only[hup,Yq,Yt,Ye]at hcall
 refine BV 1 [(2,.bool mid),(3,.fn (.func g) a b),(4,.iptr (x.head.flat++[BQ x.cells])),(5,.iptr [AA sc.id,AA sc.a,AA sc.b]),(8,.ptr (n+2) 0),(10,.iptr h'.flat),(11,.bool k)] (hset (Ai st s1 H) (n+2) (some (.cells KY))) (λm=>n+3<=m) ?_ (λm hm=>?_)
 . simp[go_sem,AF.flat]
   refine Ys (by simpa[AF.enc,AF.flat]using hcall _) ?_
   rintro v H' n' ⟨rfl,rfl,rfl⟩
   simp[go_sem,Y0,AC]
   exact⟨AT (Ac (hRb _) (Y1 _)) (AC _ _ _),AK (hRb _) (AK (hRb _) AB)⟩
 obtain⟨Q,hQ⟩:∃Q:Nat->List AL×σ,∀i,Q i=(x.cells.take i).foldl (CC f fl sc mid) ([],s1):=⟨_,λ_=>rfl⟩
 have hQ0:Q 0=([],s1):=by rw[hQ];rfl
 have hQs:∀i y,(h:i<x.cells.length)->x.cells[i]=y->Q (i+1)=CC f fl sc mid (Q i) y:=λi y h hy=>by rw[hQ,hQ,FI _ _ _ _ _ h hy]
 have hQl:Q x.cells.length=DK f fl sc mid x.cells s1:=by rw[hQ,Ya];rfl
 have hQn:∀i,(Q i).1.length<=i:=λi=>by rw[hQ];have:=LF (f:=f) (fl:=fl) (sc:=sc) (mid:=mid) (x.cells.take i) ([],s1);simp at this;omega
 have hQt:∀i,rk (Q i).2<=top:=λi=>by rw[hQ];exact Yo (Nc (Of C.up hfu sc mid) _ _ i) ht
 clear hQ
 refine BG 0 (α:=Nat) (λp=>[(2,.bool mid),(3,.fn (.func g) a b),(4,.iptr (x.head.flat++[BQ x.cells])),(5,.iptr [AA sc.id,AA sc.a,AA sc.b]),(8,.ptr (n+2) 0),(11,.bool k),(12,.ptr p 0)]) (λp=>hset (hset (Ai st s1 H) (n+2) (some (.cells KY))) p (some (.cells (h'.flat++[AN 7 none []])))) (λp m2=>n+3<=p/\p+1=m2) ?_ (λp m2 hm2=>?_)
 . simp[go_sem,Y0,AF.flat,AC,AY,AN]
   exact⟨m,⟨hm,rfl⟩,rfl,AB⟩
 obtain⟨hp1,rfl⟩:=hm2
 obtain⟨B,hB⟩:∃B:σ->SV->Hp,∀s' v,B s' v=hset (hset (Ai st s' H) (n+2) (some (.cells KY))) p (some (.cells (h'.flat++[v]))):=⟨_,λ_ _=>rfl⟩
 have hBp:∀s' v,B s' v p=some (.cells (h'.flat++[v])):=λs' v=>by rw[hB,AC]
 have hBb:∀s' v j y,B s' v j=some y->j<p+1:=λs' v j y e=>by
  rw[hB]at e
  by_cases h:j=p
  . omega
  . rw[AD _ _ h]at e;have:=hRb s' j y e;omega
 have hBu:∀s1 s' v,Ai st s' (B s1 v)=B s' v:=λs1 s' v=>by rw[hB,hB,<-D.hset _ _ (by omega),hup]
 have hBh:∀s' v,∀k w,st s' k=some w->B s' v k=some w:=λs' v=>by rw[hB];exact Ep C.lt (by omega) _ (hhas s' _)
 refine CB 2 [(8,.ptr (n+2) 0),(11,.bool k),(12,.iptr (h'.flat++[BQ (DK f fl sc mid x.cells s1).1]))] (hset (Ai st (DK f fl sc mid x.cells s1).2 H) (n+2) (some (.cells KY))) (λm=>p+1<=m) ?_ (λm3 hm3=>?_)
 . refine BV 0 [(2,.bool mid),(3,.fn (.func g) a b),(4,.iptr (x.head.flat++[BQ x.cells])),(5,.iptr [AA sc.id,AA sc.a,AA sc.b]),(8,.ptr (n+2) 0),(11,.bool k),(12,.ptr p 0),(13,AA 0)] (B s1 (AN 7 none [])) (λm=>p+1=m) ?_ (λm4 hm4=>?_)
   . simp[go_sem,Y0,hB]
   subst hm4
   refine AR (BP 0 (α:=Nat×Option Nat) (λq=>[(2,.bool mid),(3,.fn (.func g) a b),(4,.iptr (x.head.flat++[BQ x.cells])),(5,.iptr [AA sc.id,AA sc.a,AA sc.b]),(8,.ptr (n+2) 0),(11,.bool k),(12,.ptr p 0),(13,AA q.1)])
    (λq=>AO q.2 ((Q q.1).1.map AL.enc) (B (Q q.1).2 (AN 7 q.2 ((Q q.1).1.map AL.enc)))) (λq m=>q.1<=x.cells.length/\p+1<=m/\A7 (p+1) m 7 q.2 ((Q q.1).1.map AL.enc)) (λq=>x.cells.length-q.1) (0,none) ⟨Y4 _,Y1 _,by simp only[hQ0];exact Zs _ _ _⟩ ?_ ?_ ?_)
   . simp[go_sem,Aj,Y0]
   . simp only[hQ0];exact AB
   rintro⟨j,o2⟩ m4 ⟨hj,hm4,hA2⟩
   dsimp only at hj hA2 ⊢
   have hCn:((Q j).1.map AL.enc).length<=j:=by rw[Y5];exact hQn j
   by_cases hjt:j<x.cells.length
   . obtain⟨y,hy⟩:∃y,x.cells[j]=y:=⟨_,rfl⟩
     have hym:y∈x.cells:=by rw[<-hy];exact Yc hjt
     obtain⟨y1,y2⟩:=x3 y hym
     have hqt:=hQs j y hjt hy
     have w2:=wS j (by omega)
     generalize hSj:(Q j).2=sj at hqt
     generalize hGj:(Q j).1.map AL.enc=G at hA2 hCn ⊢
     generalize hV:AN 7 o2 G=V
     have hYb:∀s' j y,AO o2 G (B s' V) j=some y->j<m4:=λs'=>G6 (hBb s' V) hm4 hA2
     refine By 0 [(2,.bool mid),(3,.fn (.func g) a b),(4,.iptr (x.head.flat++[BQ x.cells])),(5,.iptr [AA sc.id,AA sc.a,AA sc.b]),(8,.ptr (n+2) 0),(11,.bool k),(12,.ptr p 0),(13,AA j)] (AO o2 G (B sj V)) m4 ?_ (λm' hm'=>?_)
     . simp[go_sem,Y0,hjt,AF.flat]
     subst hm'
     refine AV 0 (α:=Option Nat) (λo2=>[(2,.bool mid),(3,.fn (.func g) a b),(4,.iptr (x.head.flat++[BQ x.cells])),(5,.iptr [AA sc.id,AA sc.a,AA sc.b]),(8,.ptr (n+2) 0),(11,.bool k),(12,.ptr p 0),(13,AA j)]) (λo2=>AO o2 ((Q (j+1)).1.map AL.enc) (B (Q (j+1)).2 (AN 7 o2 ((Q (j+1)).1.map AL.enc)))) (λo2 m=>p+1<=m/\A7 (p+1) m 7 o2 ((Q (j+1)).1.map AL.enc)) ?_ (λo2 m hm=>?_)
     . refine AR ?_
       refine BV 0 [(2,.bool mid),(3,.fn (.func g) a b),(4,.iptr (x.head.flat++[BQ x.cells])),(5,.iptr [AA sc.id,AA sc.a,AA sc.b]),(8,.ptr (n+2) 0),(11,.bool k),(12,.ptr p 0),(13,AA j),(14,.ptr m4 0)] (hset (AO o2 G (B sj V)) m4 (some (.cells ([AA y.id]++y.head.flat++[AG y.flow])))) (λm5=>m4+1=m5) ?_ (λm5 hm5=>?_)
       . simp[go_sem,Y0,hjt,hy,Z9,AF.flat,AC,AY]
       subst hm5
       have hZb:∀s' z j y,hset (AO o2 G (B s' V)) m4 z j=some y->j<m4+1:=λs' z j y e=>by
        by_cases h:j=m4
        . omega
        . rw[AD _ _ h]at e;have:=hYb s' j y e;omega
       have hZu:∀s1 s' z,Ai st s' (hset (AO o2 G (B s1 V)) m4 z)=hset (AO o2 G (B s' V)) m4 z:=λs1 s' z=>by rw[<-D.hset _ _ (by omega),D.acc (by omega) hA2,hBu]
       have hZh:∀s' z,∀k w,st s' k=some w->hset (AO o2 G (B s' V)) m4 z k=some w:=λs' z=>Ep C.lt (by omega) _ (D.has (by omega) hA2 (hBh s' V))
       simp only[CC,hSj]at hqt
       have hqt2:=hQt (j+1)
       rw[hqt]at hqt2
       have hcall2:=λz m (hm:n0<=m)=>C.call sj ⟨y.head,mid,1⟩ (hset (AO o2 G (B sj V)) m4 z) m y1 (Yo (hfu _ _ _ _ _) hqt2) hm (hZh sj z)
       generalize f sj ⟨y.head,mid,1⟩=r2 at hcall2 hqt hqt2
       obtain⟨h2,k2,s2⟩:=r2
       dsimp only at hcall2 hqt hqt2
       simp only[hZu,Yq,Yt,Ye]at hcall2
       refine BV 1 [(2,.bool mid),(3,.fn (.func g) a b),(4,.iptr (x.head.flat++[BQ x.cells])),(5,.iptr [AA sc.id,AA sc.a,AA sc.b]),(8,.ptr (n+2) 0),(11,.bool k),(12,.ptr p 0),(13,AA j),(14,.ptr m4 0),(15,.iptr h2.flat),(16,.bool k2)] (hset (AO o2 G (B s2 V)) m4 (some (.cells ([AA y.id]++y.head.flat++[AG y.flow])))) (λm6=>m4+1<=m6) ?_ (λm6 hm6=>?_)
       . simp[go_sem,AF.flat,AC]
         refine Ys (by simpa[AF.enc,AF.flat]using hcall2 _ _ (by omega)) ?_
         rintro v H' n' ⟨rfl,rfl,rfl⟩
         simp[go_sem,Y0,AC]
         exact⟨AT (Ac (hZb _ _) (Y1 _)) (AC _ _ _),AK (hZb _ _) (AK (hZb _ _) AB)⟩
       refine By 0 [(2,.bool mid),(3,.fn (.func g) a b),(4,.iptr (x.head.flat++[BQ x.cells])),(5,.iptr [AA sc.id,AA sc.a,AA sc.b]),(8,.ptr (n+2) 0),(11,.bool k),(12,.ptr p 0),(13,AA j),(14,.ptr m4 0),(16,.bool k2)] (hset (AO o2 G (B s2 V)) m4 (some (.cells ([AA y.id]++h2.flat++[AG y.flow])))) m6 ?_ (λm7 hm7=>?_)
       . simp[go_sem,Y0,AF.flat,AC,AY]
       subst hm7
       have hc3:=λz m (hm:n0<=m)=>hfl y.id y.flow sc mid s2 (hset (AO o2 G (B s2 V)) m4 z) m y2 hqt2 hm (hZh s2 z)
       clear hqt2
       generalize fl y.id y.flow sc mid s2=r3 at hc3 hqt
       obtain⟨q3,s3⟩:=r3
       dsimp only at hc3 hqt
       simp only[hZu,Ah.enc]at hc3
       refine Ab 1 [(2,.bool mid),(3,.fn (.func g) a b),(4,.iptr (x.head.flat++[BQ x.cells])),(5,.iptr [AA sc.id,AA sc.a,AA sc.b]),(8,.ptr (n+2) 0),(11,.bool k),(12,.ptr p 0),(13,AA j),(14,.iptr ([AA y.id]++h2.flat++[AG q3])),(16,.bool k2)] (AO o2 G (B s3 V)) m6 ?_ (λm7 hm7=>?_)
       . simp[go_sem,AF.flat,AC]
         refine Ys (hc3 _ _ (by omega)) ?_
         rintro v H' n' ⟨rfl,rfl,rfl⟩
         simp[go_sem,Y0,AC,AY]
         exact⟨AT (Ac (hYb _) (Y1 _)) (AC _ _ _),AK (hYb _) AB⟩
       rw[hqt]
       cases k2 with
       | false=>
        simp only[Y7,if_false,hGj]
        refine AI ?_
        simp[go_sem,Y0]
        exact⟨o2,⟨by omega,hA2.mono (by omega)⟩,by rw[hV];exact AB⟩
       | true =>
        simp only[if_true,Y3,hGj,Yf,YF]
        clear hqt hc3 hcall2
        subst hV
        have hpA:(AO o2 G (B s3 (AN 7 o2 G))) p=some (.cells [Af h'.props,AA h'.ins,AA h'.move,Aa h'.dels,AQ h'.layers,AN 7 o2 G]):=by
         cases o2 with
         | none=>exact hBp _ _
         | some q=>have:=(hA2.lt q rfl).1;simp only[AO];rw[AD _ _ (by omega)];exact hBp _ _
        have pm:p≠m7:=by omega
        have pm1:p≠m7+1:=by omega
        have hpush:=hA2.push (j:=m7+1) (m':=m7+1+1) (e:=(AL.mk y.id h2 q3).enc) (AL.E.st _) (AL.E.len _) (by omega) (by omega)
        have hap:=λ(X:Hp) (a1:X m7=some (.cells (AL.mk y.id h2 q3).enc.cells)) (a2:∀j,o2=some j->X j=some (.cells (G.flatMap SV.cells)))=>FU (P:=Tryz.prog) (H:=X) (k:=m7) (es:=G) (e:=(AL.mk y.id h2 q3).enc) (o:=o2) (t:=167) (t2:=167) (el:=171) (z:=7) (by simp[go_sem]) (by simp[go_sem]) (by simp[go_sem]) (by simp) (by simp[go_sem]) (by simp[go_sem]) (by simp[go_sem]) (by omega) hA2 (AL.E.len _) a1 a2 (m7+1)
        have hvv:AN 7 (some (m7+1)) (G++[(AL.mk y.id h2 q3).enc])=.sl (m7+1) 0 7 (G.length+1) false:=by simp[AN]
        have hX0:∀j w,hset (Ai st s3 H) (n+2) (some (.cells KY)) j=some w->AO o2 G (B s3 (AN 7 o2 G)) j=some w:=λj w e=>by
         have:=hRb s3 j w e
         refine C8 (hBb s3 _) hA2 j w ?_
         rw[hB,AD _ _ (by omega)];exact e
        have hlive:=Du (n:=p+1) (p:=m7+1) (v:=.sl (m7+1) 0 7 (G.length+1) false) (e:=(AL.mk y.id h2 q3).enc) (λj w e=>by have:=hRb s3 j w e;omega) (by omega) hA2 (H:=hset (AO o2 G (B s3 (AN 7 o2 G))) m7 (some (.cells [AA y.id,Af h2.props,AA h2.ins,AA h2.move,Aa h2.dels,AQ h2.layers,AG q3]))) (AK (λj z e=>by have:=hRb s3 j z e;omega) hX0)
        have hfin:∀X:Hp,(∀j w,AO (some (m7+1)) (G++[(AL.mk y.id h2 q3).enc]) (hset (Ai st s3 H) (n+2) (some (.cells KY))) j=some w->X j=some w)->∀j w,AO (some (m7+1)) (G++[(AL.mk y.id h2 q3).enc]) (B s3 (.sl (m7+1) 0 7 (G.length+1) false)) j=some w->hset X p (some (.cells [Af h'.props,AA h'.ins,AA h'.move,Aa h'.dels,AQ h'.layers,.sl (m7+1) 0 7 (G.length+1) false])) j=some w:=λX hX j w e=>by
         by_cases h:j=p
         . subst h
           simp only[AO]at e
           rw[AD _ _ pm1,hBp]at e
           rw[AC];exact e
         . rw[AD _ _ h]
           refine hX j w ?_
           simp only[AO]at e ⊢
           by_cases h2:j=m7+1
           . subst h2;rw[AC]at e ⊢;exact e
           . rw[AD _ _ h2]at e ⊢;rw[hB,AD _ _ h]at e;exact e
        refine AI ?_
        rcases o2 with _|q
        . simp[go_sem,AF.flat,hpA]
          rw[hap _ (by simp[AC,Z9,SV.cells,AL.id,AL.head,AL.flow]) (by simp)]
          simp[go_sem,AD,pm,pm1,hpA]
          refine⟨some (m7+1),⟨by omega,hpush⟩,?_⟩
          rw[hvv]
          refine hfin _ ?_
          simpa[Cs.app,SV.cells]using hlive
        . have hq:=hA2.lt q rfl
          have pq:p≠q:=by omega
          have qm:q≠m7:=by omega
          simp[go_sem,AF.flat,hpA]
          rw[hap _ (by simp[AC,Z9,SV.cells,AL.id,AL.head,AL.flow]) (by rintro j e;cases e;rw[AD _ _ qm];exact Dz q rfl)]
          simp[go_sem,AD,pm,pm1,pq,hpA]
          refine⟨some (m7+1),⟨by omega,hpush⟩,?_⟩
          rw[hvv]
          refine hfin _ ?_
          simpa[Cs.app,SV.cells]using hlive
     . refine AI ?_
       simp[go_sem,w2,Y0,-Int.natCast_add]
       exact⟨j+1,by omega,o2,⟨by omega,hm.1,hm.2⟩,rfl,AB⟩
   . have:j=x.cells.length:=by omega
     subst this
     rw[hQl]at hA2 ⊢
     refine AI ?_
     simp[go_sem,Y0,AF.flat]
     generalize DK f fl sc mid x.cells s1=r2 at hA2 ⊢
     obtain⟨q2,s2⟩:=r2
     dsimp only at hA2 ⊢
     have hB0:∀v,∀j w,hset (Ai st s2 H) (n+2) (some (.cells KY)) j=some w->B s2 v j=some w:=λv j w e=>by
      have:=hRb s2 j w e
      rw[hB,AD _ _ (by omega)];exact e
     have hpA:∀v,(AO o2 (q2.map AL.enc) (B s2 v)) p=some (.cells (h'.flat++[v])):=λv=>by
      cases o2 with
      | none=>exact hBp _ _
      | some q=>have:=(hA2.lt q rfl).1;simp only[AO];rw[AD _ _ (by omega)];exact hBp _ _
     refine⟨by omega,.inr ⟨Ac (hRb _) (by omega),_,hpA _,by simp,?_⟩,λj w e=>C8 (hBb s2 _) hA2 j w (hB0 _ j w e)⟩
     exact⟨Y0,Y0,Y0,Y0,Y0,AN.fz' (λj hj=>Ac (hRb _) (by omega)) hA2 (RT (hB0 _)),trivial⟩
 . generalize DK f fl sc mid x.cells s1=r2
   obtain⟨q2,s2⟩:=r2
   dsimp only
   have hret:∀(z:BT) (m:Nat) (w:Bool),Bz n (hset (Ai st s2 H) (n+2) (some z)) m (.tup [(AW.mk h' q2).enc,.bool w]) (λv h2 n'=>v=.tup [(AW.mk h' q2).enc,.bool w]/\h2=Ai st s2 H/\n'=n):=λz m w=>
    CT (hU s2) (by rw[closed,closedL,closedL,closedL];simp only[Bool.and_true,Yb];exact⟨AW.cl n _,by simp[closed]⟩) (AK (λj z e=>by have:=hUb s2 j z e;omega) AB)
   simp only[YB,AW.head,AW.cells]at hret
   refine AI ?_
   cases k with
   | false=>
    simp[go_sem,AF.flat,AC,KY]
    repeat first|refine nq ?_|refine sq ?_|refine aq ?_
    have:=hret (.cells [Af h'.props,AA h'.ins,AA h'.move,Aa h'.dels,AQ h'.layers,BQ q2]) m3 false
    simpa[YB,AW.head,AW.cells,AY]using this
   | true=>
    simp[go_sem,AF.flat,AC,KY]
    repeat first|refine nq ?_|refine sq ?_|refine aq ?_
    have:=hret (.cells [Af h'.props,AA h'.ins,AA h'.move,Aa h'.dels,AQ h'.layers,BQ q2]) m3 (decide (0<q2.length))
    simpa[YB,AW.head,AW.cells,AY]using this
end
end Go.Proofs.YtgakninlhfkkmaaGreat.Sh
