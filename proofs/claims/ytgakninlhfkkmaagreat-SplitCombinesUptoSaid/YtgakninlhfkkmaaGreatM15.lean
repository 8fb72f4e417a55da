/- A part of the proof (part 15 of 17). -/
import Derived.Test.YtgakninlhfkkmaaGreatM14
namespace Go.Proofs.YtgakninlhfkkmaaGreat.Sh
open Proofs
set_option maxRecDepth 10000
def JY (l:List Az):Prop:=l.Pairwise λa b=>a.rev<b.rev
theorem La:∀{l:List Az} {x y:Az},y∈FS l x->y=x\/y∈l
 | [],x,y,h=>by simpa[FS]using h
 | z::l,x,y,h=>by
  rw[FS]at h;split at h;rcases qk.1 h with rfl|h;exact .inr (by simp);rcases La h with h|h;exact .inl h;exact .inr (by simp[h]);split at h;exact .inr h;rcases qk.1 h with rfl|h;exact .inl rfl;exact .inr h
theorem O3:∀{l:List Az} {x:Az},JY l->JY (FS l x)
 | [],x,_=>by simp[FS,JY]
 | z::l,x,h=>by
  obtain⟨h1,h2⟩:=qR.1 h;rw[FS];split;rename_i e;refine qR.2 ⟨λy hy=>?_,O3 h2⟩;rcases La hy with rfl|hy;exact e;exact h1 y hy;split;exact h;refine qR.2 ⟨λy hy=>?_,h⟩;rcases qk.1 hy with rfl|hy;omega;have:=h1 y hy;omega
theorem O5:∀{l:List Az} {x:Az},(∀y∈l,y.rev≠x.rev)->∀y,y∈FS l x↔y=x\/y∈l
 | [],x,_,y=>by simp[FS]
 | z::l,x,h,y=>by
  rw[FS];split;rw[qk,O5 (λy hy=>h y (by simp[hy])),qk];exact⟨λg=>g.elim (λe=>.inr (.inl e)) λg=>g.elim .inl λe=>.inr (.inr e),λg=>g.elim (λe=>.inr (.inl e)) λg=>g.elim .inl λe=>.inr (.inr e)⟩;split;rename_i e;exact absurd e (h z (by simp));simp
theorem Mo:∀(l o:List Az),JY o->JY (l.foldl FS o)
 | [],_,h=>h
 | _x::l,_o,h=>Mo l _ (O3 h)
theorem Mp:∀(l o:List Az),l.Pairwise (λa b=>a.rev≠b.rev)->(∀x∈l,∀y∈o,y.rev≠x.rev)->∀y,y∈l.foldl FS o↔y∈o\/y∈l
 | [],o,_,_,y=>by simp
 | x :: l, o, h, g, y => by
  obtain⟨h1,h2⟩:=qR.1 h;have hx:=O5 (g x (by simp));rw[qM,Mp l _ h2 (λz hz w hw=>by
   rcases(hx w).1 hw with rfl|hw;exact h1 z hz;exact g z (by simp[hz]) w hw),hx y,qk]
  exact⟨λg=>g.elim (λg=>g.elim (λe=>.inr (.inl e)) .inl) λe=>.inr (.inr e),λg=>g.elim (λe=>.inl (.inr e)) λg=>g.elim (λe=>.inl (.inl e)) .inr⟩
theorem H3 (l:List Az):JY (Cc l):=Mo l [] (by simp[JY])
theorem H4 {l:List Az} (h:l.Pairwise (λa b=>a.rev≠b.rev)) (y:Az):y∈Cc l↔y∈l:=by
 rw[Cc,Mp l [] h (by simp)];simp
theorem QN:∀{a b:List Az},JY a->JY b->(∀y,y∈a↔y∈b)->a=b
 | [],[],_,_,_=>rfl
 | [],y::_,_,_,h=>absurd ((h y).2 (by simp)) (by simp)
 | x::_,[],_,_,h=>absurd ((h x).1 (by simp)) (by simp)
 | x :: a, y :: b, ha, hb, h => by
  obtain⟨a1,a2⟩:=qR.1 ha;obtain⟨b1,b2⟩:=qR.1 hb;have e:x=y:=by
   rcases qk.1 ((h x).1 (by simp))with e|e;exact e;rcases qk.1 ((h y).2 (by simp))with g|g;exact g.symm;have:=b1 x e;have:=a1 y g;omega
  subst e;rw[QN a2 b2 λz=>?_];constructor;intro hz;rcases qk.1 ((h z).1 (by simp[hz]))with e|e;subst e;have:=a1 z hz;omega;exact e;intro hz;rcases qk.1 ((h z).2 (by simp[hz]))with e|e;subst e;have:=b1 z hz;omega;exact e
def Hi:List Az->Az->List Az
 | [],x=>[x]
 | a::A,x=>if x.rev<a.rev then a::Hi A x else x::a::A
theorem My:∀(A:List Az) (x:Az),(Hi A x).length=A.length+1
 | [],_=>rfl
 | a::A,x=>by rw[Hi];split<;>simp[My A x]
theorem J6:∀{A:List Az} {x y:Az},y∈Hi A x↔y=x\/y∈A
 | [],x,y=>by simp[Hi]
 | a::A,x,y=>by
  rw[Hi];split;rw[qk,J6,qk];exact⟨λg=>g.elim (λe=>.inr (.inl e)) λg=>g.elim .inl λe=>.inr (.inr e),λg=>g.elim (λe=>.inr (.inl e)) λg=>g.elim .inl λe=>.inr (.inr e)⟩;simp
theorem Mx:∀{A:List Az} {x:Az},A.Pairwise (λa b=>b.rev<a.rev)->(∀y∈A,y.rev≠x.rev)->(Hi A x).Pairwise λa b=>b.rev<a.rev
 | [],x,_,_=>by simp[Hi]
 | a::A,x,h,g=>by
  obtain⟨h1,h2⟩:=qR.1 h;rw[Hi];split;rename_i e;refine qR.2 ⟨λy hy=>?_,Mx h2 λy hy=>g y (by simp[hy])⟩;rcases J6.1 hy with rfl|hy;exact e;exact h1 y hy;refine qR.2 ⟨λy hy=>?_,h⟩;have:=g a (by simp);rcases qk.1 hy with rfl|hy;omega;have:=h1 y hy;omega
theorem Q0 (A B:List Az) (x:Az):HK (A++x::B) A.length=x:=by simp[HK,List.getD]
theorem Ph:∀(A:List Az) (x:Az) (B:List Az),E8 (A.reverse++x::B) A.length=(Hi A x).reverse++B
 | [],x,B=>rfl
 | a :: A, x, B => by
  have e1:(a::A).reverse++x::B=A.reverse++a::x::B:=by simp
  have d1:HK (A.reverse++a::x::B) (A.length+1)=x:=by
   have:=Q0 (A.reverse++[a]) B x;simpa using this
  have d2:HK (A.reverse++a::x::B) A.length=a:=by
   have:=Q0 A.reverse (x::B) a;simpa using this
  rw[e1,qF,E8,d1,d2,Hi];split;have e2:IQ (A.reverse++a::x::B) A.length=A.reverse++x::a::B:=by
   unfold IQ;rw[d1,d2];have h1:(A.reverse++a::x::B).set (A.length+1) a=A.reverse++a::a::B:=by
    rw[jV _ _ (by simp)];simp
   rw[h1,jV _ _ (by simp)];simp
  rw[e2,Ph A x (a::B)];simp;simp
theorem NT:∀(i:Nat) (l:List Az),i<=l.length->l.Pairwise (λa b=>a.rev≠b.rev)->∃A:List Az,Cz l i=A.reverse++l.drop i/\A.length=i/\A.Pairwise (λa b=>b.rev<a.rev)/\∀y,y∈A↔y∈l.take i
 | 0,l,_,_=>⟨[],by simp[Cz],rfl,List.Pairwise.nil,by simp⟩
 | i+1,l,hi,hp=>by
  obtain⟨A,h1,h2,h3,h4⟩:=NT i l (by omega) hp;have hlt:i<l.length:=by omega
  refine⟨Hi A l[i],?_,by rw[My,h2],Mx h3 λy hy=>?_,λy=>?_⟩;rw[Cz,h1,qG hlt];have:=Ph A l[i] (l.drop (i+1));rw[h2]at this;exact this;obtain⟨j,hj,e⟩:=ky.1 ((h4 y).1 hy);rw[List.getElem_take]at e;rw[jr]at hj;rw[<-e];exact jC.1 hp j i (by omega) hlt (by omega);rw[J6,h4,qb hlt,qe,qv];exact Or.comm
theorem SS {l:List Az} (hp:l.Pairwise (λa b=>a.rev≠b.rev)):JY (Cz l l.length):=by
 obtain⟨A,h1,_,h3,_⟩:=NT l.length l (qa _) hp;rw[h1,List.drop_length,jq,JY,List.pairwise_reverse];exact h3
theorem UB {l:List Az} (hp:l.Pairwise (λa b=>a.rev≠b.rev)):Cz l l.length=Cc l:=
 QN (SS hp) (H3 l) λy=>by rw[KO l _ (qa _),H4 hp]
theorem TW {l:List Az} (h:JY l):l.Pairwise λa b=>a.rev≠b.rev:=
 List.Pairwise.imp (R:=λa b:Az=>a.rev<b.rev) (S:=λa b:Az=>a.rev≠b.rev) (fun {a b} g=>by have:a.rev<b.rev:=g;omega) h
section
variable {a id : Int}
end
mutual
theorem Y7 {g:AF->AF} {f:Int->Int} (hg:∀h y,y∈h.all->f y∈(g h).all):∀(x:AE) (y:Int),y∈x.us->f y∈(AE.mh g x).us
 | .mk k c i t h l r,y,hy=>by
  rw[AE.mh,AE.us];rw[AE.us]at hy;rcases qe.1 hy with hy|hy;exact kc _ (hg h y hy);refine jN _ ?_;by_cases k6:k=6;rw[if_pos k6]at hy ⊢;exact Ql hg l y hy;rw[if_neg k6]at hy ⊢;by_cases k7:k=7;rw[if_pos k7]at hy ⊢;exact RY hg r y hy;rw[if_neg k7]at hy;cases hy
theorem Ql {g:AF->AF} {f:Int->Int} (hg:∀h y,y∈h.all->f y∈(g h).all):∀(l:List AE) (y:Int),y∈AE.usL l->f y∈AE.usL (AE.mhL g l)
 | [],y,hy=>by rw[AE.usL]at hy;cases hy
 | x::l,y,hy=>by
  rw[AE.mhL,AE.usL];rw[AE.usL]at hy;rcases qe.1 hy with hy|hy;exact kc _ (Y7 hg x y hy);exact jN _ (Ql hg l y hy)
theorem W3 {g:AF->AF} {f:Int->Int} (hg:∀h y,y∈h.all->f y∈(g h).all):∀(x:Aa) (y:Int),y∈x.us->f y∈(Aa.mh g x).us
 | .mk h c,y,hy=>by
  rw[Aa.mh,Aa.us];rw[Aa.us]at hy;rcases qe.1 hy with hy|hy;exact kc _ (hg h y hy);exact jN _ (RX hg c y hy)
theorem RY {g:AF->AF} {f:Int->Int} (hg:∀h y,y∈h.all->f y∈(g h).all):∀(l:List Aa) (y:Int),y∈Aa.usL l->f y∈Aa.usL (Aa.mhL g l)
 | [],y,hy=>by rw[Aa.usL]at hy;cases hy
 | x::l,y,hy=>by
  rw[Aa.mhL,Aa.usL];rw[Aa.usL]at hy;rcases qe.1 hy with hy|hy;exact kc _ (W3 hg x y hy);exact jN _ (RY hg l y hy)
theorem Wz {g:AF->AF} {f:Int->Int} (hg:∀h y,y∈h.all->f y∈(g h).all):∀(x:Cell) (y:Int),y∈x.us->f y∈(Cell.mh g x).us
 | .mk i h l,y,hy=>by
  rw[Cell.mh,Cell.us];rw[Cell.us]at hy;rcases qe.1 hy with hy|hy;exact kc _ (hg h y hy);exact jN _ (Ql hg l y hy)
theorem RX {g:AF->AF} {f:Int->Int} (hg:∀h y,y∈h.all->f y∈(g h).all):∀(l:List Cell) (y:Int),y∈Cell.usL l->f y∈Cell.usL (Cell.mhL g l)
 | [],y,hy=>by rw[Cell.usL]at hy;cases hy
 | x::l,y,hy=>by
  rw[Cell.mhL,Cell.usL];rw[Cell.usL]at hy;rcases qe.1 hy with hy|hy;exact kc _ (Wz hg x y hy);exact jN _ (RX hg l y hy)
end
theorem WM {l:List Az} (h:∀i (hi:i<l.length),0<i->l[i-1].rev<l[i].rev):JY l:=by
 refine jC.2 λi j hi hj hij=>?_
 induction j with
 | zero=>omega
 | succ j ih=>
  have h1:=h (j+1) hj (by omega);simp only[Nat.add_sub_cancel]at h1;rcases ji i j with c|c;have:=ih (by omega) c;omega;have:i=j:=by omega
  subst this;exact h1
def hpR (m2:List Int) (h:AF):Prop:=J5 m2 h/\C6 m2 h
section
variable {N K : Nat} {d : AI} {m2 : List Int}
theorem Tq (hm2:m2=Bd [] (d.revs.map (·.id))) (hd:Hk N d) (hl:Da (J5 m2) K N d.flow):wf (hpR m2) (λi=>i ≠ -1) N d.flow:=
 UK (hm2▸hd.flow) hl λi hi=>by have:=(hd.ids i hi).1;omega
theorem Ry (hd:Hk N d):Px d.revs:=Wu (QZ hd.revs)
theorem WU (hm2:m2=Bd [] (d.revs.map (·.id))) {id:Int}:id∈m2↔∃r∈d.revs,r.id=id:=by
 rw[hm2,LA];simp
theorem Wt {l:List Ax} (h:Px l) {r:Ax} (hr:r∈l):r.id≠0:=by have:=Pa (h.2.1 r hr);omega
end
def Vo:Tr:=.pure 0<|.pure 1<|.pure 2<|.pure 3<|.pure 4<|.pure 5<|.two 6 10 (.pure 7<|.pure 8<|.pure 9<|.one 10<|.one 11<|.one 12 .nil) (.one 6<|.pure 7<|.pure 8<|.pure 9<|.one 11<|.one 12 .nil)
def Kg:Tr:=.pure 0<|.pure 1<|.pure 2<|.pure 3<|.pure 4<|.pure 5<|.pure 6<|.pure 7<|.pure 8<|.pure 9<|.pure 10<|.pure 11<|.pure 12<|.pure 13<|.pure 14 .nil
def Yz:Tr:=.pure 0<|.pure 1<|.pure 3<|.one 2<|.one 4<|.one 5<|.one 6 .nil
def Ln (revs:List Int) (A:Nat->List Int):Nat->List (Int×Int)
 | 0=>[]
 | i+1=>Ln revs A i++(Fg (A i) 0).map λm=>(revs.getD i 0,m)
theorem Yb (n:Nat) (l:List (Int×Int)):closedL n (l.map B5)=true:=by
 rw[BU];intro e he;obtain⟨p,_,rfl⟩:=qy.1 he;rfl
def Vk:Tr:=.pure 0<|.pure 2<|.one 1<|.one 3 .nil
set_option maxHeartbeats 4000000 in
theorem Zm (D:AI) (revs:List Int) (hr:revs.length<=1048576) (A:Nat->List Int) (_hA:∀i,(A i).length<=1048576) (hn:∀i,i<=revs.length->(Ln revs A i).length+(A i).length<=1048576)
 (k39:∀i,i<revs.length->∀(q n0:Nat),q<n0->∀(H:Hp) (n:Nat),n0<=n->H q=some (.list 1 [])->BA Tryz.prog 39 [D.enc,AX.enc,.imm 0 [] true,.fn (.func 171) [] [.ptr q 0,.iptr [.imm 1 (revs.map AA) false],.iptr [AA i]]] H n (λv h' n'=>(∃E:AI,v=E.enc)/\h'=Aj (UD q) (A i) H/\n'=n)):
 PC 104 [D.enc,.imm 1 (revs.map AA) false] (.imm 2 ((Ln revs A revs.length).map B5) false):=by
 intro h n;refine Db Tryz.func104 rfl λho=>?_;have hHb:=ho.lt;obtain⟨X,hX⟩:∃X:SV,X=.iptr ([AG D.flow]++D.«end».flat++[Ao D.revs]++D.settings.flat):=⟨_,rfl⟩
 obtain⟨R,hR⟩:∃R:SV,R=.iptr [.imm 1 (revs.map AA) false]:=⟨_,rfl⟩
 refine AY 1 [(2,X),(3,R)] h n ?_ (λm hm=>?_);rw[hX,hR];simp[go_sem,AI.enc,AF.flat,AK.flat];exact⟨by omega,⟨AV (ho.none (by omega)) (by simp[hset]),AV (ho.none (by omega)) (by simp[hset])⟩,λj y e=>by have:=hHb j y e;simp only[hset];grind⟩;refine AY 0 [(2,X),(3,R),(5,.imm 0 [] true)] h n ?_ (λm hm=>?_);simp[go_sem,IO,hm];have hsz:∀i,∀e∈(Ln revs A i).map B5,e.storable=true/\e.cells.length=2:=λi=>E3 _;refine Bc 1 [(5,.imm 2 ((Ln revs A revs.length).map B5) false)] h n ?_ (λm hm=>?_);refine AY 1 [(2,X),(3,R),(5,.imm 0 [] true),(6,.iptr [AA 0])] h n ?_ (λm hm=>?_);have hHm:∀j y,h j=some y->j<m:=λj y e=>by have:=hHb j y e;omega
 simp[go_sem,IO,AC,AS];exact⟨by omega,AV (AW hHm (qa _)) (AC _ _ _),AJ hHm AB⟩;refine AR (BG 1 (α:=Nat×Option Nat) (λq=>[(2,X),(3,R),(5,AM 2 q.2 ((Ln revs A q.1).map B5)),(6,.iptr [AA q.1])]) (λq=>AN q.2 ((Ln revs A q.1).map B5) h) (λq m=>q.1<=revs.length/\n<=m/\Ar n m 2 q.2 ((Ln revs A q.1).map B5)) (λq=>revs.length-q.1) (0,none) ⟨by omega,hm,jK _ _ _⟩ ?_ ?_ ?_);simp[Ai,AM,Ln,IO];exact AB;clear hm m;rintro⟨i,o⟩ m ⟨hi,hm,hAc⟩;dsimp only at hi hAc ⊢;obtain⟨E,hE⟩:∃E,E=(Ln revs A i).map B5:=⟨_,rfl⟩
 rw[<-hE]at hAc ⊢;have hXb:∀j y,AN o E h j=some y->j<m:=Dm hHb hm hAc;by_cases hlt:i<revs.length
 · have w1 := wS i (by omega)
   refine Ea 0 [(2,X),(3,R),(5,AM 2 o E),(6,.iptr [AA i])] (AN o E h) m (AH ?_) (λm' hm'=>?_);rw[hR];simp[go_sem,IO,hlt];subst hm';obtain⟨L,hL⟩:∃L,L=A i:=⟨_,rfl⟩
   obtain⟨rv,hrv⟩:∃rv,revs[i]=rv:=⟨_,rfl⟩
   have hnx:Ln revs A (i+1)=Ln revs A i++(Fg L 0).map λm=>(rv,m):=by
    rw[Ln,List.getD_eq_getElem?_getD,qf hlt,hrv,hL];rfl
   refine AT 0 (α:=Option Nat) (λo=>[(2,X),(3,R),(5,AM 2 o (E++((Fg L 0).map λm=>(rv,m)).map B5)),(6,.iptr [AA i])]) (λo=>AN o (E++((Fg L 0).map λm=>(rv,m)).map B5) h) (λo m=>n<=m/\Ar n m 2 o (E++((Fg L 0).map λm=>(rv,m)).map B5)) (AR ?_) (λo m hm=>?_);refine BM 0 (α:=Nat) (λp=>[(2,X),(3,R),(5,AM 2 o E),(6,.iptr [AA i]),(7,.ptr p 0)]) (λp=>hset (AN o E h) p (some (.cells [.imm 0 [] true]))) (λp m'=>m<=p/\p+1=m') ?_ (λp m' hm'=>?_);simp[go_sem,IO];exact⟨m,by omega,rfl,AB⟩;obtain⟨hmp,rfl⟩:=hm';refine Jt p 1 none (AC _ _ _) ?_;rw[AS];have hWs:∀s,Aj (UD p) s (hset (AN o E h) p (some (.list 1 [])))=hset (AN o E h) p (some (.list 1 (s.map AA))):=λs=>by
    funext j;simp only[Aj,UD,hset];by_cases e:j=p;simp[e];simp[e]
   have k39':=λm' (hm':p+1<=m')=>k39 i hlt p (p+1) (by omega) (hset (AN o E h) p (some (.list 1 []))) m' hm' (AC _ _ _);simp only[hWs]at k39';rw[<-hL]at k39';refine AT 0 (α:=Unit) (λ_=>[(2,X),(3,R),(5,AM 2 o E),(6,.iptr [AA i]),(7,.ptr p 0)]) (λ_=>hset (AN o E h) p (some (.list 1 (L.map AA)))) (λ_ m'=>p+1<=m') (BX Vk rfl (by kernel_rfl) (by kernel_rfl) ?_) (λ_ m1 hm1=>?_);rw[hX,hR];simp[go_sem,Vk,AF.flat,AK.flat];refine bH.use ?_;simp[go_sem];refine qC (by simpa[AI.enc,AF.flat,AK.flat]using k39' (p+1) (qa _)) ?_;rintro v H' n' ⟨⟨E,rfl⟩,rfl,rfl⟩;simp[go_sem,IO];refine Kt p (Hz.size L) (AC _ _ _) λoL m2 hm2 hL1 hL2=>?_;rw[AS];obtain⟨Z,hZ⟩:∃Z:Hp,Z=AN oL (L.map AA) (hset (AN o E h) p (some (.cells [AM 1 oL (L.map AA)]))):=⟨_,rfl⟩
   rw[<-hZ];have hZp:Z p=some (.cells [AM 1 oL (L.map AA)]):=by
    rw[hZ];cases oL with
    | none=>simp only[AN];rw[AC]
    | some k=>have:=(hL1.lt k rfl).1;simp only[AN];rw[AD _ _ (by omega),AC]
   have hZk:∀j y,AN o E h j=some y->Z j=some y:=λj y e=>by
    have:=hXb j y e;rw[hZ];cases oL with
    | none=>simp only[AN];rw[AD _ _ (by omega)];exact e
    | some k=>have:=(hL1.lt k rfl).1;simp only[AN];rw[AD _ _ (by omega),AD _ _ (by omega)];exact e
   have hsub:∀j y,AN oL (L.map AA) (AN o E h) j=some y->Z j=some y:=λj y e=>by
    cases oL with
    | none=>exact hZk j y e
    | some k=>
     simp only[AN,hset]at e;split at e;rename_i q;rw[hZ,q];simp only[AN];rw[AC];exact e;exact hZk j y e
   have hnone:∀j,p+1<=j->AN o E h j=none:=λj hj=>AW hXb (by omega);have fz7:Fz Z (AN o E h) 3 (.ptr p 0) (.iptr [.imm 1 (L.map AA) false]):=.inr ⟨AW hXb hmp,_,hZp,by simp,⟨vb (λj hj=>hnone j (by omega)) hL1 hsub,trivial⟩⟩;refine BP 3 [(2,X),(3,R),(5,AM 2 o E),(6,.iptr [AA i]),(7,.iptr [.imm 1 (L.map AA) false]),(8,AA 0)] (AN o E h) (λm'=>p+1<=m') ?_ (λm3 hm3=>?_);simp[go_sem,IO];exact⟨by omega,fz7,hZk⟩;clear fz7 hsub hZk hZp hZ hL2 hL1;refine BP 0 [(2,X),(3,R),(5,AM 2 o E),(6,.iptr [AA i]),(7,.iptr [.imm 1 (L.map AA) false]),(8,AA 0),(9,.bool true)] (AN o E h) (λm'=>p+1<=m') ?_ (λm3 hm3=>?_);simp[go_sem,IO,hm3];have hEl:E.length+L.length<=1048576:=by have:=hn i hi;rw[hE,qd,hL];exact this
   have hW0:(Fg L 0).length<=L.length:=qr (Lp L 0) (qU _ _);have hLl:L.length<=1048576:=by omega
   clear hXb hnone hWs k39';refine AR (BG 0 (α:=Bool×Int×List Int×Option Nat) (λq=>[(2,X),(3,R),(6,.iptr [AA i]),(7,.iptr [.imm 1 (L.map AA) false]),(5,AM 2 q.2.2.2 (E++(q.2.2.1.map λm=>(rv,m)).map B5)),(8,AA q.2.1),(9,.bool q.1)])
    (λq=>AN q.2.2.2 (E++(q.2.2.1.map λm=>(rv,m)).map B5) h) (λq m=>n<=m/\Ar n m 2 q.2.2.2 (E++(q.2.2.1.map λm=>(rv,m)).map B5)/\q.2.2.1++(if q.1 then Fg L q.2.1 else[])=Fg L 0) (λq=>if q.1 then(L.filter λx=>decide (q.2.1<x)).length+1 else 0) (true,0,[],o) ⟨by omega,by simpa using hAc.mono (by omega),by simp⟩ ?_ ?_ ?_)
   simp[Ai,IO];simp only[qS,jq];exact AB;rintro⟨fl,last,out,o2⟩ m4 ⟨hm4,hA4,hout⟩;dsimp only at hA4 hout ⊢;obtain⟨E2,hE2⟩:∃E2,E2=E++(out.map λm=>(rv,m)).map B5:=⟨_,rfl⟩
   rw[<-hE2]at hA4 ⊢;have hE2l:E2.length=E.length+out.length:=by rw[hE2];simp
   cases fl with
   | false=>
    have ho2:out=Fg L 0:=by simpa using hout
    refine AH ?_;simp[go_sem,IO];rw[<-ho2];have e2:E++List.map (B5 ∘ λm=>(rv,m)) out=E2:=by rw[hE2,List.map_map]
    simp only[e2];exact⟨o2,⟨hm4,hA4⟩,IO,AB⟩
   | true =>
    rw[if_pos rfl]at hout;have hol:out.length+(Fg L last).length<=L.length:=by
     have:=congrArg List.length hout;rw[qt]at this;omega
    refine Bc 0 [(2,X),(3,R),(6,.iptr [AA i]),(7,.iptr [.imm 1 (L.map AA) false]),(5,AM 2 o2 E2),(8,AA last)] (AN o2 E2 h) m4 (AH ?_) (λm5 hm5=>?_);simp[go_sem,IO];refine AR ?_;refine AY 0 [(2,X),(3,R),(6,.iptr [AA i]),(7,.iptr [.imm 1 (L.map AA) false]),(5,AM 2 o2 E2),(8,AA last),(9,.bool false)] (AN o2 E2 h) m4 ?_ (λm5 hm5=>?_);simp[go_sem,IO,hm5];refine AY 0 [(2,X),(3,R),(6,.iptr [AA i]),(7,.iptr [.imm 1 (L.map AA) false]),(5,AM 2 o2 E2),(8,AA last),(9,.bool false),(10,AA 0)] (AN o2 E2 h) m4 ?_ (λm5 hm5=>?_);simp[go_sem,IO,hm5];obtain⟨S,hS⟩:∃S:Nat->Int×Bool,∀k,S k=(L.take k).foldl (DO last) (0,false):=⟨_,λ_=>rfl⟩
    have hS0:S 0=(0,false):=by rw[hS];rfl
    have hSs:∀k x,(h:k<L.length)->L[k]=x->S (k+1)=DO last (S k) x:=λk x h hx=>by rw[hS,hS,DE _ _ _ _ _ h hx]
    have hSl:S L.length=Oa L last:=by rw[hS,qi];rfl
    clear hS;refine Bc 0 [(2,X),(3,R),(6,.iptr [AA i]),(7,.iptr [.imm 1 (L.map AA) false]),(5,AM 2 o2 E2),(8,AA last),(9,.bool (Oa L last).2),(10,AA (Oa L last).1)] (AN o2 E2 h) m4 ?_ (λm5 hm5=>?_);refine AY 0 [(2,X),(3,R),(6,.iptr [AA i]),(7,.iptr [.imm 1 (L.map AA) false]),(5,AM 2 o2 E2),(8,AA last),(9,.bool false),(10,AA 0),(11,AA 0)] (AN o2 E2 h) m4 ?_ (λm6 hm6=>?_);simp[go_sem,IO,hm5];refine AR (BG 0 (α:=Nat) (λk=>[(2,X),(3,R),(6,.iptr [AA i]),(7,.iptr [.imm 1 (L.map AA) false]),(5,AM 2 o2 E2),(8,AA last),(9,.bool (S k).2),(10,AA (S k).1),(11,AA k)]) (λ_=>AN o2 E2 h) (λk m'=>k<=L.length/\m4<=m') (λk=>L.length-k) 0 ⟨by omega,hm6⟩ ?_ AB ?_);simp[Ai,hS0,IO];rintro k m7 ⟨hk,hm7⟩;by_cases hkl:k<L.length;have v1:=wS k (by omega);obtain⟨x,hx⟩:∃x,L[k]=x:=⟨_,rfl⟩
    have hst:=hSs k x hkl hx;refine Bc 0 [(2,X),(3,R),(6,.iptr [AA i]),(7,.iptr [.imm 1 (L.map AA) false]),(5,AM 2 o2 E2),(8,AA last),(9,.bool (S k).2),(10,AA (S k).1),(11,AA k)] (AN o2 E2 h) m4 (AH ?_) (λm8 hm8=>?_);simp[go_sem,IO,hkl,hm7];refine AT 0 (α:=Unit) (λ_=>[(2,X),(3,R),(6,.iptr [AA i]),(7,.iptr [.imm 1 (L.map AA) false]),(5,AM 2 o2 E2),(8,AA last),(9,.bool (S (k+1)).2),(10,AA (S (k+1)).1),(11,AA k)]) (λ_=>AN o2 E2 h) (λ_ m'=>m4<=m') (AR (AH ?_)) (λ_ m9 hm9=>?_);rw[hst];by_cases c1:last<x;by_cases c2:(S k).1=0;simp[go_sem,hkl,hx,c1,c2,DO,IO,hm8];by_cases c3:x<(S k).1;simp[go_sem,hkl,hx,c1,c2,c3,DO,IO,hm8];simp[go_sem,hkl,hx,c1,c2,c3,DO,IO,hm8];simp[go_sem,hkl,hx,c1,DO,IO,hm8];refine AH ?_;simp[go_sem,v1,IO,-Int.natCast_add];exact⟨k+1,by omega,⟨by omega,hm9⟩,IO,IO,IO⟩;have:k=L.length:=by omega
    subst this;rw[hSl];refine AH ?_;simp[go_sem,IO,hm7];obtain⟨b,hb⟩:∃b,b=Oa L last:=⟨_,rfl⟩
    have hnw:Fg L last=if b.2=true then b.1::Fg L b.1 else[]:=by rw[Fg,<-hb];split<;>rfl
    rw[<-hb];cases Hn:b.2 with
    | false=>
     refine AH ?_;simp[go_sem,IO];have e2:E++List.map (B5 ∘ λm=>(rv,m)) out=E2:=by rw[hE2,List.map_map]
     rw[Hn]at hnw;have hnw':Fg L last=[]:=by simpa using hnw
     rw[hnw',jq]at hout;exact .inl ⟨last,out,o2,⟨by omega,by rw[e2];exact hA4.mono (by omega),hout⟩,⟨by rw[e2];exact IO,IO⟩,by rw[e2];exact AB⟩
    | true=>
     refine AH ?_;rw[hR];simp[go_sem,hlt,hrv];rw[Hn,if_pos rfl]at hnw;have hXb:∀j y,AN o2 E2 h j=some y->j<m4:=Dm hHb hm4 hA4;have hdec:=H5 (A:=L) (last:=last) (by rw[<-hb];exact Hn);rw[<-hb]at hdec;have hl1:(Fg L last).length=(Fg L b.1).length+1:=by rw[hnw];rfl
     have h4:hset (AN o2 E2 h) m5 (some (.cells [AA rv,AA b.1])) m5=some (.cells (B5 (rv,b.1)).cells):=by simp[AC,B5,SV.cells]
     have h3:∀j w,AN o2 E2 h j=some w->hset (AN o2 E2 h) m5 (some (.cells [AA rv,AA b.1])) j=some w:=λj w e=>by have:=hXb j w e;rw[AD _ _ (by omega)];exact e
     have b1:=Dp (P:=Tryz.prog) (es:=E2) (e:=B5 (rv,b.1)) (o:=o2) (t:=159) (t2:=159) (el:=239) (z:=2) (by simp[go_sem]) (by simp[go_sem]) (by simp[go_sem]) (by simp) (by simp[go_sem]) (by simp[go_sem]) (by simp[go_sem]) (by omega) hA4 rfl h4 (λj e=>h3 j _ (Cu j e)) (m5+1);have b4:=CY (p:=m5+1) (v:=.sl (m5+1) 0 2 (E2.length+1) false) (e:=B5 (rv,b.1)) hHb (by omega) hA4 (H:=hset (AN o2 E2 h) m5 (some (.cells [AA rv,AA b.1]))) (λj w e=>h3 j w (Be hHb hA4 j w e));have b2:=hA4.push (j:=m5+1) (m':=m5+1+1) (e:=B5 (rv,b.1)) (by rfl) (by rfl) (by omega) (by omega);have e3:E++List.map (B5 ∘ λm=>(rv,m)) (out++[b.1])=E2++[B5 (rv,b.1)]:=by rw[hE2,qc,List.map_map,qn];rfl
     rw[b1];have hvv:AM 2 (some (m5+1)) (E2++[B5 (rv,b.1)])=.sl (m5+1) 0 2 (E2.length+1) false:=by simp[AM]
     refine .inr ⟨b.1,out++[b.1],some (m5+1),hdec,⟨by simp;omega,by rw[e3];simpa using b2,by rw[<-hout,hnw];simp⟩,⟨by rw[e3,hvv];exact IO,IO⟩,by rw[e3];exact b4⟩
   have hHm:∀j y,AN o (E++((Fg L 0).map λm=>(rv,m)).map B5) h j=some y->j<m:=Dm hHb hm.1 hm.2;refine AH ?_;simp[go_sem,AC,AS,w1,-Int.natCast_add];have e4:(Ln revs A (i+1)).map B5=E++List.map (B5 ∘ λm=>(rv,m)) (Fg L 0):=by rw[hnx,qc,hE,List.map_map]
   have e5:((Fg L 0).map λm=>(rv,m)).map B5=List.map (B5 ∘ λm=>(rv,m)) (Fg L 0):=List.map_map;rw[e5]at hm hHm;exact⟨i+1,by omega,o,⟨by omega,by omega,by rw[e4];exact hm.2.mono (by omega)⟩,⟨by rw[e4];exact IO,AV (by rw[e4];exact AW hHm (qa _)) (AC _ _ _)⟩,by rw[e4];exact AJ hHm AB⟩
 have:i=revs.length:=by omega
 subst this;refine AH ?_;rw[hR];simp[go_sem];exact⟨hm,by rw[<-hE];exact vb (λj hj=>AW hHb hj) hAc AB,Be hHb hAc⟩;refine AH ?_;simp[go_sem];exact Ay ho AB rfl (by rw[closed];exact Yb n _)
def PF (x y:Int×Int):Prop:=x.1<y.1\/(x.1=y.1/\x.2<y.2)
def Rr (l:List (Int×Int)):Prop:=l.Pairwise PF
theorem Nx {x y:Int×Int} (h:PF x y):x≠y:=by rintro rfl;unfold PF at h;omega
theorem Th {x y:Int×Int} (h:PF x y) (g:PF y x):False:=by unfold PF at h g;omega
theorem RC:∀{a b:List (Int×Int)},Rr a->Rr b->(∀y,y∈a↔y∈b)->a=b
 | [],[],_,_,_=>rfl
 | [],y::_,_,_,h=>absurd ((h y).2 (by simp)) (by simp)
 | x::_,[],_,_,h=>absurd ((h x).1 (by simp)) (by simp)
 | x :: a, y :: b, ha, hb, h => by
  obtain⟨a1,a2⟩:=qR.1 ha;obtain⟨b1,b2⟩:=qR.1 hb;have e:x=y:=by
   rcases qk.1 ((h x).1 (by simp))with e|e;exact e;rcases qk.1 ((h y).2 (by simp))with g|g;exact g.symm;exact(Th (b1 x e) (a1 y g)).elim
  subst e;rw[RC a2 b2 λz=>?_];constructor;intro hz;rcases qk.1 ((h z).1 (by simp[hz]))with e|e;exact absurd e.symm (Nx (a1 z hz));exact e;intro hz;rcases qk.1 ((h z).2 (by simp[hz]))with e|e;exact absurd e.symm (Nx (b1 z hz));exact e
theorem Pn (l:List (Int×Int)):(De l).Pairwise λa b=>¬PF b a:=by
 have h:∀x y,(!(ltOf LJ) y x)=true↔¬PF y x:=λx y=>by rw[Ya];unfold PF;simp;omega
 have:=List.pairwise_mergeSort (le:=λx y=>!(ltOf LJ) y x) (λa b c h1 h2=>by
  rw[h]at h1 h2 ⊢;unfold PF at *;omega) (λa b=>by
  rw[kH,h,h];unfold PF;omega) l
 exact this.imp fun {a b} g=>(h a b).1 g
theorem QF {l:List (Int×Int)} (hl:l.Pairwise λa b=>¬PF b a):∀i,i<=l.length->Rr (Ip l i)/\∀y,y∈Ip l i↔y∈l.take i
 | 0,_=>⟨List.Pairwise.nil,by simp[Ip]⟩
 | i+1,hi=>by
  obtain⟨h1,h2⟩:=QF hl i (by omega);have hlt:i<l.length:=by omega
  have htk:l.take (i+1)=l.take i++[l[i]]:=qb hlt;rcases Nat.eq_zero_or_pos i with e|e;subst e;have hd:Ip l (0+1)=[l[0]]:=by simp[Ip,hlt]
  rw[hd,htk];exact⟨List.pairwise_singleton _ _,by simp⟩;rw[LL l e hlt,htk];have hm1:l[i-1]∈l.take i:=List.mem_take_iff_getElem.2 ⟨i-1,by omega,rfl⟩;by_cases c:l[i]=l[i-1];rw[if_pos c];refine⟨h1,λy=>?_⟩;rw[h2,qe,qv];exact⟨.inl,λg=>g.elim id λg=>by rw[g,c];exact hm1⟩;rw[if_neg c];refine⟨List.pairwise_append.2 ⟨h1,List.pairwise_singleton _ _,λa ha b hb=>?_⟩,λy=>by rw[qe,qe,h2]⟩;rw[qv]at hb;subst hb;rw[h2]at ha;obtain⟨j,hj,rfl⟩:=List.mem_take_iff_getElem.1 ha;have hj':j<i:=by omega
  have g1:¬PF l[i] l[i-1]:=jC.1 hl (i-1) i (by omega) hlt (by omega);have g2:j=i-1\/¬PF l[i-1] l[j]:=by
   rcases ji j (i-1)with q|q;exact .inr (jC.1 hl j (i-1) (by omega) (by omega) q);exact .inl (by omega)
  have g3:l[i-1]≠l[i]:=λq=>c q.symm;have g4:PF l[i-1] l[i]:=by
   unfold PF at g1 ⊢;by_cases q1:l[i-1].1=l[i].1;have q2:l[i-1].2≠l[i].2:=λq=>g3 (Prod.ext q1 q);omega;omega
  rcases g2 with rfl|g2;exact g4;unfold PF at g2 g4 ⊢;omega
def WX (l:List Int) (M:List (Int×Int)):List (Int×Int):=Ip (De (M.filter λx=>BV l x.1)) (De (M.filter λx=>BV l x.1)).length
theorem RH (l:List Int) (M:List (Int×Int)):Rr (WX l M):=(QF (Pn _) _ (qa _)).1
theorem Uy {l:List Int} {M:List (Int×Int)} {y:Int×Int}:y∈WX l M↔y∈M/\BV l y.1=true:=by
 unfold WX;rw[(QF (Pn _) _ (qa _)).2,qi];unfold De;rw[List.mem_mergeSort,qW]
theorem Qs {last:Int} (h0:0<=last):∀(A:List Int) (q:Int×Bool),(q=(0,false)\/(q.2=true/\last<q.1))->(q.2=true->(A.foldl (DO last) q).2=true/\(A.foldl (DO last) q).1<=q.1)/\∀x∈A,last<x->(A.foldl (DO last) q).2=true/\(A.foldl (DO last) q).1<=x
 | [],q,_=>⟨λh=>⟨h,Int.le_refl _⟩,by simp⟩
 | a :: A, q, hq => by
  have hs:DO last q a=(0,false)\/((DO last q a).2=true/\last<(DO last q a).1):=by
   unfold DO;split;rename_i c;exact .inr ⟨rfl,c.1⟩;exact hq
  obtain⟨i1,i2⟩:=Qs h0 A (DO last q a) hs;have hle:q.2=true->(DO last q a).2=true/\(DO last q a).1<=q.1:=λg=>by
   have g2:last<q.1:=by
    rcases hq with e|e;rw[e]at g;cases g;exact e.2
   unfold DO;split;rename_i c;exact⟨rfl,by omega⟩;exact⟨g,Int.le_refl _⟩
  have hxa:last<a->(DO last q a).2=true/\(DO last q a).1<=a:=λg=>by
   unfold DO;split;exact⟨rfl,Int.le_refl _⟩;rename_i c;have c2:¬(q.1=0\/a<q.1):=λk=>c ⟨g,k⟩;rcases hq with e|e;rw[e]at c2;exact absurd (.inl rfl) c2;exact⟨e.1,by omega⟩
  simp only[qM];refine⟨λg=>?_,λx hx hlx=>?_⟩;have:=hle g;have:=i1 this.1;exact⟨this.1,by omega⟩;rcases qk.1 hx with rfl|hx;have:=hxa hlx;have:=i1 this.1;exact⟨this.1,by omega⟩;exact i2 x hx hlx
theorem PQ (A:List Int) (last:Int) (h0:0<=last):(Fg A last).Pairwise (· < ·)/\∀x,x∈Fg A last↔x∈A/\last<x:=by
 rw[Fg];obtain⟨_,hb⟩:=Qs h0 A (0,false) (.inl rfl);split;rename_i h;obtain⟨m1,m2⟩:=Qq h;have:=H5 h;obtain⟨i1,i2⟩:=PQ A (Oa A last).1 (by omega);refine⟨qR.2 ⟨λx hx=>((i2 x).1 hx).2,i1⟩,λx=>?_⟩;rw[qk,i2];constructor;rintro(rfl|⟨g1,g2⟩);exact⟨m1,m2⟩;exact⟨g1,by omega⟩;rintro⟨g1,g2⟩;have:=(hb x g1 g2).2;by_cases c:x=(Oa A last).1;exact .inl c;refine .inr ⟨g1,?_⟩;have:(Oa A last).1<=x:=this;omega;rename_i h;refine⟨List.Pairwise.nil,λx=>⟨λg=>by simp at g,λ⟨g1,g2⟩=>absurd (hb x g1 g2).1 h⟩⟩
termination_by (A.filter λx=>decide (last<x)).length
theorem RI {revs:List Int} {A:Nat->List Int} (hr:revs.Pairwise (· < ·)):∀i,i<=revs.length->Rr (Ln revs A i)/\∀y,y∈Ln revs A i↔∃j,j<i/\revs[j]? = some y.1/\y.2∈A j/\0<y.2
 | 0,_=>⟨List.Pairwise.nil,by simp[Ln]⟩
 | i+1,hi=>by
  obtain⟨h1,h2⟩:=RI (A:=A) hr i (by omega);obtain⟨n1,n2⟩:=PQ (A i) 0 (Int.le_refl _);have hlt:i<revs.length:=by omega
  have hg:revs.getD i 0=revs[i]:=by simp[List.getD,hlt]
  rw[Ln,hg];refine⟨List.pairwise_append.2 ⟨h1,?_,λa ha b hb=>?_⟩,λy=>?_⟩;rw[List.pairwise_map];exact n1.imp fun {a b} g=>.inr ⟨rfl,g⟩
  obtain⟨j,hj,e,_⟩:=(h2 a).1 ha;obtain⟨x,_,rfl⟩:=qy.1 hb;obtain⟨hj2,e2⟩:=qo.1 e;have:=jC.1 hr j i hj2 hlt hj;exact .inl (by rw[<-e2];exact this);rw[qe,h2,qy];constructor;rintro(⟨j,hj,e⟩|⟨x,hx,rfl⟩);exact⟨j,by omega,e⟩;exact⟨i,by omega,qf hlt,(n2 x).1 hx⟩;rintro⟨j,hj,e,e2⟩;rcases ji j i with q|q;exact .inl ⟨j,q,e,e2⟩;have:j=i:=by omega
  subst this;refine .inr ⟨y.2,(n2 _).2 e2,?_⟩;rw[qf hlt]at e;exact Prod.ext (by simpa using Option.some.inj e) rfl
section
variable {σ τ : Type}
theorem GO {α β γ:Type} (R:β->γ->Prop) (g1:β->α->β) (g2:γ->α->γ):∀(l:List α) (p:β) (q:γ),(∀x∈l,∀p q,R p q->R (g1 p x) (g2 q x))->R p q->R (l.foldl g1 p) (l.foldl g2 q)
 | [],_,_,_,g=>g
 | x::l,p,q,h,g=>GO R g1 g2 l _ _ (λy hy=>h y (qL _ hy)) (h x (jP ..) p q g)
theorem HZ (R:σ->τ->Prop) (f1:σ->BW->AF×Bool×σ) (f2:τ->BW->AF×Bool×τ) (h:∀s t p,R s t->R (f1 s p).2.2 (f2 t p).2.2):∀(N:Nat) (id:Int) (l:List AE) (sc:Av) (mid:Bool) (s:σ) (t:τ),R s t->R (Aw f1 N id l sc mid s).2 (Aw f2 N id l sc mid t).2
 | 0,_,_,_,_,_,_,g=>g
 | N + 1, id, l, sc, mid, s, t, g => by
  have ih:=HZ R f1 f2 h N;have fr:∀{α β γ:Type} (g1:β×σ->α->β×σ) (g2:γ×τ->α->γ×τ),(∀x p q,R p.2 q.2->R (g1 p x).2 (g2 q x).2)->∀(l:List α) (p:β×σ) (q:γ×τ),R p.2 q.2->R (l.foldl g1 p).2 (l.foldl g2 q).2:=λg1 g2 hg l p q g=>
   GO (λp q=>R p.2 q.2) g1 g2 l p q (λx _ p q g=>hg x p q g) g
  have q:∀sc mid l s t,R s t->R (Bq f1 (Aw f1 N) sc mid l s).2 (Bq f2 (Aw f2 N) sc mid l t).2:=λsc mid l s t g=>by
   refine fr (Dq f1 (Aw f1 N) sc mid) (Dq f2 (Aw f2 N) sc mid) (λx p q g=>?_) l ([],s) ([],t) g;refine(fr (CW f1 (Aw f1 N) sc mid) (CW f2 (Aw f2 N) sc mid) (λr p q g=>?_) x.rows ([],(K3 (Aw f1 N) sc mid x (f1 p.2 ⟨x.head,mid,(A8 [x]).1⟩).2.2).2) ([],(K3 (Aw f2 N) sc mid x (f2 q.2 ⟨x.head,mid,(A8 [x]).1⟩).2.2).2) ?_:_);refine(fr (CG f1 (Aw f1 N) sc mid) (CG f2 (Aw f2 N) sc mid) (λc p q g=>?_) r.cells ([],(f1 p.2 ⟨r.head,mid,1⟩).2.2) ([],(f2 q.2 ⟨r.head,mid,1⟩).2.2) (h _ _ _ g):_);exact ih _ _ _ _ _ _ (h _ _ _ g);unfold K3;split;exact ih _ _ _ _ _ _ (h _ _ _ g);exact h _ _ _ g
  rw[Aw,Aw];split;exact q _ _ _ _ _ (q _ _ _ _ _ (q _ _ _ _ _ g));exact q _ _ _ _ _ g
end
section
variable {σ τ : Type} {hp : AF → Prop} {T : Int → Prop} {f1 : σ → BW → AF × Bool × σ} {f2 : τ → BW → AF × Bool × τ} {sc : Av}
def Pc (hp:AF->Prop) (f1:σ->BW->AF×Bool×σ) (f2:τ->BW->AF×Bool×τ):Prop:=∀s t p,hp p.head->(f1 s p).2.1=(f2 t p).2.1/\((f1 s p).2.1=true->(f1 s p).1=(f2 t p).1)
theorem IF (l:List AE) (x:AE):Ac (l++[x])=BK (Ac l) (AE.nrm x):=by
 unfold Ac EM;rw[kM,kM,qc,kg];rfl
theorem QE (h:Pc hp f1 f2) (it:Int->List AE->Bool->τ->List AE×τ) (fl:Int->List AE->Av->Bool->σ->List AE×σ) (mid:Bool) (l:List Cell) (s:σ) (t:τ) (hl:∀c∈l,hp c.head/\∀s t,Ac (fl c.id c.flow sc mid s).1=Ac (it c.id c.flow mid t).1):
 ((Dh f1 fl sc mid l s).1.map Cell.nrm)=((DQ f2 it mid l t).1.map Cell.nrm):=by
 refine GO (λ(p:List Cell×σ) (q:List Cell×τ)=>p.1.map Cell.nrm=q.1.map Cell.nrm) (CG f1 fl sc mid) (Cg f2 it mid) l ([],s) ([],t) (λc hc p q g=>?_) rfl;obtain⟨hc1,hc2⟩:=hl c hc;obtain⟨k1,k2⟩:=h p.2 q.2 ⟨c.head,mid,1⟩ hc1;unfold CG Cg;rw[<-k1];by_cases e:(f1 p.2 ⟨c.head,mid,1⟩).2.1=true;rw[if_pos e,if_pos e,qc,qc,g,List.map_singleton,List.map_singleton];congr 2;rw[Cell.nrm_eq,Cell.nrm_eq];show Cell.mk c.id _ _=Cell.mk c.id _ _;congr 1;exact k2 e;exact hc2 _ _;rw[if_neg e,if_neg e];exact g
def PY (r:Aa):Bool:=!decide (r.cells.length=0)
theorem SB (h:Pc hp f1 f2) (it:Int->List AE->Bool->τ->List AE×τ) (fl:Int->List AE->Av->Bool->σ->List AE×σ) (mid:Bool) (l:List Aa) (s:σ) (t:τ) (hl:∀r∈l,hp r.head/\∀c∈r.cells,hp c.head/\∀s t,Ac (fl c.id c.flow sc mid s).1=Ac (it c.id c.flow mid t).1):
 ((FH f1 fl sc mid l s).1.map Aa.nrm).filter PY=((GT f2 it mid l t).1.map Aa.nrm).filter PY/\∀r∈(FH f1 fl sc mid l s).1,r.cells.length≠0:=by
 refine GO (λ(p:List Aa×σ) (q:List Aa×τ)=>(p.1.map Aa.nrm).filter PY=(q.1.map Aa.nrm).filter PY/\∀r∈p.1,r.cells.length≠0) (CW f1 fl sc mid) (DM f2 it mid) l ([],s) ([],t) (λr hr p q g=>?_) ⟨rfl,by simp⟩;obtain⟨hr1,hr2⟩:=hl r hr;obtain⟨k1,k2⟩:=h p.2 q.2 ⟨r.head,mid,1⟩ hr1;have hc:=QE h it fl mid r.cells (f1 p.2 ⟨r.head,mid,1⟩).2.2 (f2 q.2 ⟨r.head,mid,1⟩).2.2 hr2;have hlen:(Dh f1 fl sc mid r.cells (f1 p.2 ⟨r.head,mid,1⟩).2.2).1.length=(DQ f2 it mid r.cells (f2 q.2 ⟨r.head,mid,1⟩).2.2).1.length:=by
  have:=congrArg List.length hc;simpa using this
 unfold CW DM Hj;dsimp only;rw[<-k1];cases e:(f1 p.2 ⟨r.head,mid,1⟩).2.1 with
 | false=>simpa using g
 | true=>
  rw[Bool.true_and,if_pos rfl];dsimp only;rw[qc,qI,List.map_singleton];by_cases c:0<(Dh f1 fl sc mid r.cells (f1 p.2 ⟨r.head,mid,1⟩).2.2).1.length;rw[if_pos (by simpa using c),qc,qI,g.1,List.map_singleton];refine⟨?_,λx hx=>?_⟩;congr 2;congr 1;rw[Aa.nrm_eq,Aa.nrm_eq];show Aa.mk _ _=Aa.mk _ _;congr 1;exact k2 e;rcases qe.1 hx with hx|hx;exact g.2 x hx;rw[qv.1 hx];show(Dh f1 fl sc mid r.cells _).1.length≠0;omega;rw[if_neg (by simpa using c)];have hz:(DQ f2 it mid r.cells (f2 q.2 ⟨r.head,mid,1⟩).2.2).1=[]:=jQ.1 (by omega);have:[Aa.nrm (.mk (f2 q.2 ⟨r.head,mid,1⟩).1 (DQ f2 it mid r.cells (f2 q.2 ⟨r.head,mid,1⟩).2.2).1)].filter PY=[]:=by
   rw[hz,Aa.nrm_eq];rfl
  rw[this,jq];exact g
theorem Rt (h:Pc hp f1 f2) (it:Int->List AE->Bool->τ->List AE×τ) (fl:Int->List AE->Av->Bool->σ->List AE×σ) (mid:Bool) {N:Nat} {l:List AE} (H:wf hp T (N+1) l) (s:σ) (t:τ)
 (hfl:∀id f,T id->wf hp T N f->∀s t,Ac (fl id f sc mid s).1=Ac (it id f mid t).1):Ac (Bq f1 fl sc mid l s).1=Ac (BL f2 it mid l t).1:=by
 refine GO (λ(p:List AE×σ) (q:List AE×τ)=>Ac p.1=Ac q.1) (Dq f1 fl sc mid) (Bt f2 it mid) l ([],s) ([],t) (λx hx p q g=>?_) rfl;obtain⟨a,b6,b7,_,e6,wf6,w7⟩:=OG.1 H x hx;obtain⟨k1,k2⟩:=h p.2 q.2 ⟨x.head,mid,(A8 [x]).1⟩ a;unfold Dq Bt;dsimp only;rw[<-k1];cases e:(f1 p.2 ⟨x.head,mid,(A8 [x]).1⟩).2.1 with
 | false=>simpa using g
 | true =>
  rw[Bool.true_and,if_pos rfl];generalize hS1:(f1 p.2 ⟨x.head,mid,(A8 [x]).1⟩).2.2=S1;generalize hS2:(f2 q.2 ⟨x.head,mid,(A8 [x]).1⟩).2.2=S2;have hA:Ac (K3 fl sc mid x S1).1=Ac (By f2 it mid x S2).1.1:=by
   unfold K3 By;by_cases c6:x.kind=6;rw[if_pos c6,if_pos c6];exact hfl _ _ (e6 c6) wf6 _ _;rw[if_neg c6,if_neg c6];split<;>rfl
  have hB:((FH f1 fl sc mid x.rows (K3 fl sc mid x S1).2).1.map Aa.nrm).filter PY=((By f2 it mid x S2).1.2.map Aa.nrm).filter PY:=by
   by_cases c7:x.kind=7;have c6:¬x.kind=6:=by omega
   unfold By;rw[if_neg c6,if_pos c7];exact(SB h it fl mid x.rows _ S2 λr hr=>⟨(w7 r hr).1,λc hc=>⟨((w7 r hr).2.2 c hc).2.1,hfl _ _ ((w7 r hr).2.2 c hc).1 ((w7 r hr).2.2 c hc).2.2⟩⟩).1;have:(By f2 it mid x S2).1.2=x.rows:=by
    unfold By;rw[if_neg c7];split<;>rfl
   rw[this,b7 c7];rfl
  generalize(K3 fl sc mid x S1)=w at hA hB ⊢;generalize(By f2 it mid x S2)=u at hA hB ⊢;generalize(FH f1 fl sc mid x.rows w.2)=v at hB ⊢;rw[IF];by_cases c:x.kind=7/\v.1.length=0;have hv:v.1=[]:=jQ.1 c.2;rw[if_neg (by simp[c])];have hd:Co (AE.nrm (x.put (f2 q.2 ⟨x.head,mid,(A8 [x]).1⟩).1 u.1.1 u.1.2)):=by
   rw[AE.nrm_eq];refine .inl ⟨c.1,?_⟩;show(u.1.2.map Aa.nrm).filter PY=[];rw[<-hB,hv];rfl
  unfold BK;rw[if_pos hd];exact g;rw[if_pos (by simp;exact Decidable.or_iff_not_imp_left.2 λk k2=>c ⟨Decidable.not_not.1 k,by rw[k2];rfl⟩),IF,g];congr 1;rw[AE.nrm_eq,AE.nrm_eq];show AE.mk x.kind x.code x.id x.text _ _ _=AE.mk x.kind x.code x.id x.text _ _ _;congr 1;exact k2 e
theorem Lc (h:Pc hp f1 f2) (hT:∀i,T i->i ≠ -1):∀(N:Nat) (id:Int) (l:List AE) (mid:Bool) (s:σ) (t:τ),wf hp T N l->(mid=true\/id ≠ -1)->Ac (Aw f1 N id l AX mid s).1=Ac (Al f2 AX N id l mid t).1
 | 0,_,_,_,_,_,h,_=>h.elim
 | N + 1, id, l, mid, s, t, H, hid => by
  have n2:¬(id=AX.id/\mid=false):=by rcases hid with rfl|h<;>simp[AX, *]
  have n3:EX AX id l mid=false:=by
   unfold EX;rcases hid with rfl|g;simp;simp[AX,g]
  rw[Aw,if_neg n2,Al,n3];exact Rt h _ _ mid H s t λid f ti w s t=>Lc h hT N id f mid s t w (.inr (hT _ ti))
end
def Gh (h h2:Hp) (n:Nat):Prop:=∀c,Bn h c->Fr n c->∃c':Cx,c'.w=c.w/\DZ c c'/\Bn h2 c'/\Fr n c'/\∀j,j<n->c'.ρ j=c.ρ j
theorem Gh.pack {h:Hp} {n p q z:Nat} {es:List SV} {full:Bool} {ty ty2:Option TypeId} (hp:h p=some (.cells [.sl q 0 z es.length full] ty)) (hq:h q=some (.cells (es.flatMap SV.cells) ty2)) (hne:es≠[]) (hpq:p≠q):Gh h (hset (hset h p (some (.list z es))) q none) n:=
 λ_ R F=>let⟨c',e1,e2,X,R'⟩:=R.pack hp hq hne hpq;⟨c',e1,X,R',λj hj=>by rw[e2];exact F j hj,λj _=>by rw[e2]⟩
theorem Gh.pack0 {h:Hp} {n p z:Nat} {ty:Option TypeId} (hp:h p=some (.cells [.imm 0 [] true] ty)):Gh h (hset h p (some (.list z []))) n:=
 λ_ R F=>let⟨c',e1,e2,X,R'⟩:=R.pack0 hp;⟨c',e1,X,R',λj hj=>by rw[e2];exact F j hj,λj _=>by rw[e2]⟩
section
variable {E : B6} {P : Program} {N : Nat} {code : Code} {Q : Ce} {sa : SA} {h : Hp} {n : Nat}
theorem Rb (H:Fs E P N code (λe sa' h' n'=>∃h2,Gh h' h2 n'/\Q e sa' h2 n') sa h n):Fs E P N code Q sa h n:=by
 intro hd c a I R F A;refine wpIn_mono (H hd c a I R F A) ?_;rintro e a' w' ⟨sa',h',n',c',⟨h2,g,q⟩,hw,R',F',A',X⟩;obtain⟨c2,hw2,X2,R2,F2,hρ2⟩:=g c' R' F';refine⟨sa',h2,n',c2,q,?_,R2,F2,A'.ext X2,⟨X.ext.trans X2,X.le,λj hj=>(hρ2 j (kq hj X.le)).trans (X.same j hj)⟩⟩;rw[hw2];exact hw
end
section
variable {P : Program}
theorem KG {t e:TypeId} (d:Nat) (a b a' b':Int) (ht:P.underlying t=some (.array 2 e)) (he:(Jl P e).isSome=true) (_hs:Bh P e=1) (hg:Fm P e=some false) (hz:∀w,(Go.sizeOf e).run P w=.ok 1 w) (w:World):
 (Op.equalIn (d+2) t (.agg #[.int .i64 a,.int .i64 b]) (.agg #[.int .i64 a',.int .i64 b'])).run P w=.ok (a==a'&&b==b') w:=by
 obtain⟨i,hi⟩:=jn.1 he;have q:∀x y,(Op.equalIn (d+1) e (.int .i64 x) (.int .i64 y)).run P w=.ok (x==y) w:=λx y=>run_equalIn_int w d e _ _ _ _ (FY hi);have p:∀(xs:Array Value) (k:Nat) v,xs[k]? = some v->(part e xs k).run P w=.ok v w:=λxs k v h=>by simp[part,Dz hg,h]
 have p0:=p #[.int .i64 a,.int .i64 b] 0 _ rfl;have p1:=p #[.int .i64 a,.int .i64 b] 1 _ rfl;have p2:=p #[.int .i64 a',.int .i64 b'] 0 _ rfl;have p3:=p #[.int .i64 a',.int .i64 b'] 1 _ rfl;rw[Op.equalIn];generalize Op.equalIn (d+1)=f at q ⊢;simp only[Sem.run_bind,run_underlying ht,Result.andThen_ok,hz];simp only[Std.Legacy.Range.forIn_eq_forIn_range',Std.Legacy.Range.size,kF,Nat.add_sub_cancel,Nat.div_one,List.range'_succ,List.range'_zero,List.forIn_cons,List.forIn_nil,jc,Nat.mul_one];simp only[Sem.run_bind,p0,p2,Result.andThen_ok];cases h1:(a==a')<;>cases h2:(b==b')<;>simp[Sem.run_bind,p1,p3,q,h1,h2]
theorem T5 {evs:Operand->SV} {o:Oper} {t t2 e:TypeId} {x y:Operand} {op:BinOp} {a b a' b':Int} (ho:o.op=.binOp op t x y t2) (hop:op=.eql\/op=.neq)
 (ht:P.underlying t=some (.array 2 e)) (hm:P.eqGuardType P.depth t=false) (he:(Jl P e).isSome=true) (hs:Bh P e=1) (hg:Fm P e=some false) (hz:∀w,(Go.sizeOf e).run P w=.ok 1 w)
 (hx:evs x=.agg [.int .i64 a,.int .i64 b]) (hy:evs y=.agg [.int .i64 a',.int .i64 b']):OU P evs o (.bool (if op=.eql then(a==a'&&b==b')else !(a==a'&&b==b'))):=by
 refine⟨by rw[ho];simp,λc ev _ hv=>?_⟩;have hvx:=hv x (by simp[ho,Op.operands]);have hvy:=hv y (by simp[ho,Op.operands]);rw[hx]at hvx;rw[hy]at hvy;obtain⟨vs,e1,h1,h2⟩:=Eh hvx;obtain⟨us,e2,h3,h4⟩:=Eh hvy;have two:∀{p q:Int} {vs:List Value},AZ (V c) [.int .i64 p,.int .i64 q] vs->vs=[.int .i64 p,.int .i64 q]:=fun {p q vs} h=>by
  match vs,h with
  | [u,v],h=>rw[C7 h.1,C7 h.2.1]
 have e3:=two h1;have e4:=two h3;subst e3 e4;have hrr:=KG (P:=P) 9998 a b a' b' ht he hs hg hz c.w;rcases hop with rfl|rfl;exact⟨.bool (a==a'&&b==b'),by simp only[execOp,ho,e1,e2,Sem.run_bind,run_eqGuard_agg c.w _ _ _ _ _ _ hm,Result.andThen_ok,run_eql_struct,hrr];simp,by simp[V]⟩;exact⟨.bool !(a==a'&&b==b'),by simp only[execOp,ho,e1,e2,Sem.run_bind,run_eqGuard_agg c.w _ _ _ _ _ _ hm,Result.andThen_ok,run_neq_struct,hrr];simp,by simp[V]⟩
end
def E4:List (Int×Int)->Int×Int->Int->Int
 | [],_,_=>0
 | y::l,x,k=>if y=x then k+1 else E4 l x (k+1)
theorem Z6 (l:List (Int×Int)) (hl:l.length<=1073741824) (x:Int×Int) (full:Bool):PC 172 [.imm 2 (l.map B5) full,AA x.1,AA x.2] (AA (E4 l x 0)):=by
 intro h n;refine gq Tryz.func172 rfl λho=>?_;simp[go_sem];refine An 1 (α:=Nat) (λk=>[(0,.imm 2 (l.map B5) full),(1,AA x.1),(2,AA x.2),(7,AA k)]) (λ_=>h) (λk m=>k<=l.length/\n<=m/\E4 l x 0=E4 (l.drop k) x k) (λk=>l.length-k) 0 ?_ ?_ AB ?_;simp;simp[Ai];rintro k m ⟨hk,hnm,hf⟩;by_cases hlt:k<l.length;have w1:=wS k (by omega);obtain⟨y,hy⟩:∃y,l[k]=y:=⟨_,rfl⟩
 have hd:l.drop k=y::l.drop (k+1):=by rw[qG hlt,hy]
 rw[hd,E4]at hf;simp[go_sem,hlt,hy,B5];refine OU.op (T5 rfl (.inl rfl) Tryz.underlying239 (by kernel_rfl) (by simp[go_sem]) (by simp[go_sem]) (by simp[go_sem]) (λw=>Tryz.sizeOf3 w) (a:=y.1) (b:=y.2) (a':=x.1) (b':=x.2) rfl rfl) ?_;simp[go_sem];by_cases e:y=x;rw[if_pos e]at hf;subst e;simp[go_sem,w1,-Int.natCast_add];exact As ho rfl (by rw[hf];rfl);rw[if_neg e]at hf;simp[go_sem,w1,-Int.natCast_add];rw[if_neg λg=>e (Prod.ext g.1 g.2)];exact⟨k+1,by omega,⟨by omega,hnm,hf⟩,IO⟩;rw[jF (by omega)]at hf;simp[go_sem,hlt];exact As ho rfl (by rw[hf];rfl)
section
variable (l : List Int) (L : List (Int × Int)) (to : Int)
def G4 (q:List Az×List Az×Bool) (d:Az):List Az×List Az×Bool:=if d.rev∈l then(q.1,q.2.1++[⟨to,E4 L (d.rev,d.move) 0⟩],q.2.2||(d.move !=0))else(q.1++[d],q.2.1,q.2.2)
def Fv (x:AF):List Az×List Az×Bool:=x.dels.foldl (G4 l L to) ([],[],decide (x.ins∈l)&&(x.move !=0))
def J8 (y:Am):Am:=if y.rev∈l then { y with rev:=to } else y
def Cj (Y:List Am):Nat->List Am×Bool
 | 0=>([],false)
 | i+1=>match Y[i]? with
  | none=>Cj Y i
  | some y=>if decide (y.rev∈l)&&(Cj Y i).2&&decide (∀z,Y[i-1]? = some z->z.key=y.key)then Cj Y i else((Cj Y i).1++[J8 l to y],decide (y.rev∈l))
def Ld (x:AF):List Az:=(Fv l L to x).1++(Fv l L to x).2.1.take 1
def CP (x:AF):AF×Bool×Bool:=
 ({ x with ins:=if x.ins∈l then to else x.ins,move:=if x.ins∈l then E4 L (x.ins,x.move) 0 else x.move,dels:=Cc (Ld l L to x),layers:=(Cj l to x.layers x.layers.length).1 },
   !(decide (x.ins∈l)&&decide (0<(Fv l L to x).2.1.length)),(decide (1<(Fv l L to x).2.1.length)||(decide (x.ins∈l)&&decide (0<(Fv l L to x).2.1.length)))&&(Fv l L to x).2.2)
theorem Mz:∀(ds:List Az) (q:List Az×List Az×Bool),(ds.foldl (G4 l L to) q).1.length+(ds.foldl (G4 l L to) q).2.1.length=q.1.length+q.2.1.length+ds.length
 | [],q=>by simp
 | d :: ds, q => by
  have h:=Mz ds (G4 l L to q d);have h2:(G4 l L to q d).1.length+(G4 l L to q d).2.1.length=q.1.length+q.2.1.length+1:=by
   unfold G4;split<;>simp<;>omega
  simp only[qM,qF];omega
theorem M6 (Y:List Am):∀i,(Cj l to Y i).1.length<=i
 | 0=>qa _
 | i+1=>by
  have:=M6 Y i;rw[Cj];split;omega;split;omega;simp;omega
end
theorem Gu {o1 o2:Option Nat} {E1 E2:List SV} {W:Hp} (hd:∀j,o1=some j->o2≠some j):AN o2 E2 (AN o1 E1 W)=AN o1 E1 (AN o2 E2 W):=by
 cases o1 with
 | none=>rfl
 | some a =>
  cases o2 with
  | none=>rfl
  | some b=>
   have:a≠b:=λe=>hd a rfl (by rw[e]);simp only[AN];funext j;simp only[hset];by_cases h1:j=a;by_cases h2:j=b;omega;simp[h1,this];simp[h1]
theorem Sq {h H:Hp} {p:Nat} {es:List SV} {e:SV} {o:Option Nat} {v:SV} (hb:∀j y,h j=some y->j≠p/\o≠some j) (hH:∀j y,h j=some y->H j=some y):
 ∀j y,AN (some p) (es++[e]) h j=some y->(Cs.app H p { val:=v,upd:=o.map λj=>(j,none),new:=some (.cells (es.flatMap SV.cells++e.cells)) }) j=some y:=by
 intro j y hj;simp only[AN]at hj;by_cases e1:j=p;subst e1;rw[AC]at hj;simp only[Cs.app,AC];rw[<-hj];simp;rw[AD _ _ e1]at hj;have:=hH j y hj;cases o with
 | none=>simp[Cs.app,AD _ _ e1,this]
 | some k=>
  have hk:j≠k:=λg=>(hb j y hj).2 (by rw[g]);simp[Cs.app,AD _ _ e1,AD _ _ hk,this]
theorem Pt {n m z z2 r:Nat} {o1 o2:Option Nat} {E1 E2:List SV} {W X:Hp} {e:SV} {v:SV} (h1:Ar n m z o1 E1) (h2:Ar n m z2 o2 E2) (hd:∀j,o1=some j->o2≠some j) (hW:∀j y,W j=some y->j<n) (hnm:n<=m) (hr:m<=r)
 (hX:∀j y,AN o2 E2 (AN o1 E1 W) j=some y->X j=some y):
 (∀j,o1=some j->X j=some (.cells (E1.flatMap SV.cells)))/\(∀j,some r=some j->o2≠some j)/\
 ∀j y,AN o2 E2 (AN (some r) (E1++[e]) W) j=some y->(Cs.app X r { val:=v,upd:=o1.map λj=>(j,none),new:=some (.cells (E1.flatMap SV.cells++e.cells)) }) j=some y:=by
 have hd2:∀j,some r=some j->o2≠some j:=λj ej g=>by cases ej;have:=(h2.lt r g).2;omega
 refine⟨λj ej=>hX j _ (by rw[Gu hd];exact Cu j ej),hd2,?_⟩;rw[Gu hd2];have hb:∀j y,AN o2 E2 W j=some y->j≠r/\o1≠some j:=λj y ej=>by
  have:(o2=some j)\/W j=some y:=by
   cases o2 with
   | none=>exact .inr ej
   | some k=>
    simp only[AN,hset]at ej;split at ej;rename_i q;exact .inl (by rw[q]);exact .inr ej
  rcases this with g|g;exact⟨by have:=(h2.lt j g).2;omega,λg1=>hd j g1 g⟩;have:=hW j y g;exact⟨by omega,λg1=>by have:=(h1.lt j g1).1;omega⟩
 have hk:∀j y,AN o2 E2 W j=some y->X j=some y:=λj y ej=>hX j y (by
  rw[Gu hd];cases o1 with
  | none=>exact ej
  | some k=>
   have:=(hb j y ej).2;simp only[AN];rw[AD _ _ (λg=>this (by rw[g]))];exact ej)
 exact Sq (o:=o1) hb hk
section
variable {E : B6} {evs : Operand → SV} {o : Oper} {h : Hp} {n : Nat} {K : SV → Hp → Nat → Prop}
theorem Iq {m x:Operand} {q:Nat} {a b:Int} {es:List (SV×SV)} {r:Option (Nat×SV)} (ho:o.op=.lookup 155 m x false) (hm:evs m=.map q) (hq:h q=some (.map es)) (hx:evs x=.agg [.int .i64 a,.int .i64 b])
 {v:SV} (hv0:(match r with|some p=>p.2|none=>BH Tryz.prog 3)=v) (hf:F3 Tryz.prog 89 [.int .i64 a,.int .i64 b] es 0=some r) (hk:K v h n):EI E Tryz.prog evs o h n K:=by
 subst hv0;refine⟨by rw[ho];simp,λc ev _ _ R F hv=>?_⟩;have hvm:=hv m;have hvx:=hv x;rw[hm,V]at hvm;obtain⟨bq,hρ,hev⟩:=hvm;rw[hx]at hvx;have hkey:=Vv hvx;obtain⟨b',ents,clock,g1,g2,g3,_⟩:=R.obj _ _ hq;rw[hρ]at g1;cases g1;have hgo:(getObj bq).run Tryz.prog c.w=.ok (.map ents clock) c.w:=by simp[getObj,Sem.run,g2]
 have u155:Tryz.prog.underlying 155=some (.map 89 3):=Tryz.underlying155;have hck:∀em,(Instr.checkKey em 10000 89 (ev x)).run Tryz.prog c.w=.ok () c.w:=λem=>by rw[hkey];exact LH em a b c.w
 have hst:(BH Tryz.prog 3).storable=true:=by simp[go_sem]
 obtain⟨i,z,hi,hzz,hze⟩:=CB hst;have hvz:=C9 c z;rw[<-hze]at hvz;rcases J1 Vf hvx c.w es ents.toList 0 r g3 hf with⟨rfl,hg⟩|⟨j,x2,y2,e2,ds,rfl,hg,hxy,_,_⟩
 have hfk:=GB Tryz.underlying89 hg;refine⟨z,BH Tryz.prog 3,h,n,c,?_,hvz,R,F,ke n c,hk⟩;simp[execOp,ho,Instr.lookup,AO u155,hev,hgo,hck,hfk,E5 hi hzz];have hfk:=GB Tryz.underlying89 hg;refine⟨y2,x2,h,n,c,?_,hxy,R,F,ke n c,hk⟩;simp[execOp,ho,Instr.lookup,AO u155,hev,hgo,hck,hfk]
theorem KJ {m y x:Operand} {q:Nat} {a b:Int} {es:List (SV×SV)} {r:Option (Nat×SV)} (ho:o.op=.mapUpdate 155 m y x) (hm:evs m=.map q) (hq:h q=some (.map es)) (hy:evs y=.agg [.int .i64 a,.int .i64 b]) (hes:∀p∈es,Vd p)
 {es2:List (SV×SV)} (he2:(match r with|some p=>HF es p.1 (.agg [.int .i64 a,.int .i64 b]) (evs x)|none=>es++[(.agg [.int .i64 a,.int .i64 b],evs x)])=es2) (hf:F3 Tryz.prog 89 [.int .i64 a,.int .i64 b] es 0=some r)
 (hk:K (.tup []) (hset h q (some (.map es2))) n):XM E Tryz.prog evs o h n K:=by
 subst he2;refine⟨by rw[ho];simp,λc ev _ _ R F hv=>?_⟩;have hvm:=hv m;have hvy:=hv y;have hvx:=hv x;rw[hm,V]at hvm;obtain⟨bq,hρ,hev⟩:=hvm;rw[hy]at hvy;have hkey:=Vv hvy;obtain⟨b',ents,clock,g1,g2,g3,hB⟩:=R.obj _ _ hq;rw[hρ]at g1;cases g1;have hgo:(getObj bq).run Tryz.prog c.w=.ok (.map ents clock) c.w:=by simp[getObj,Sem.run,g2]
 have u155:Tryz.prog.underlying 155=some (.map 89 3):=Tryz.underlying155;have hck:∀em,(Instr.checkKey em 10000 89 (ev y)).run Tryz.prog c.w=.ok () c.w:=λem=>by rw[hkey];exact LH em a b c.w
 have hset':∀ob:Obj,(setObj bq ob).run Tryz.prog c.w=.ok () { c.w with heap:=c.w.heap.setIfInBounds bq ob }:=λob=>by
  simp[setObj,Sem.run,g2]
 have fin:∀(es':List (SV×SV)) (ents':Array MapEntry) (clock':Nat),AZ (λ(p:SV×SV) (e:MapEntry)=>V c p.1 e.key/\V c p.2 e.val) es' ents'.toList->Hm ents'.toList clock'->
  (Instr.mapUpdate 155 (ev m) (ev y) (ev x)).run Tryz.prog c.w=.ok () { c.w with heap:=c.w.heap.setIfInBounds bq (.map ents' clock') }->K (.tup []) (hset h q (some (.map es'))) n->
  ∃h' n' c',(execOp ev o).run Tryz.prog c.w=.ok .skip c'.w/\Bn h' c'/\Fr n' c'/\Fq n c n' c'/\K (.tup []) h' n':=λes' ents' clock' he hB' hr hK=>by
  obtain⟨R',E'⟩:=KB (clock':=clock') R hq hρ g2 he hB';exact⟨_,n,_,by simp[execOp,ho,hr],R',F,⟨E',qa n,λ_ _=>rfl⟩,hK⟩
 rcases J1 Vf hvy c.w es ents.toList 0 r g3 hf with⟨rfl,hg⟩|⟨j,x2,y2,e2,ds,rfl,hg,hxy,hj,hds,hfe⟩
 have hfk:=GB Tryz.underlying89 hg;refine fin _ (ents.push { key:=ev y,val:=ev x,born:=clock }) (clock+1) (by rw[Array.toList_push];exact jS g3 (as':=[(_,evs x)]) ⟨⟨hvy,hvx⟩,trivial⟩) (by rw[Array.toList_push];exact hB.push _ rfl) ?_ hk;simp[Instr.mapUpdate,AO u155,hev,hgo,hck,hfk,hset'];have hfk:=GB Tryz.underlying89 hg;rw[jc]at hf hfk;obtain⟨ds',v',k1,k2⟩:=Ou es 0 j x2 (by rw[jc];exact hf);obtain⟨a',b',k3⟩:=hes _ (jb k1);have hd':ds'=[.int .i64 a',.int .i64 b']:=by simpa using k3
 have hs:=Wo (by rw[hd'];rfl) k2;obtain⟨e3,k4,k5,_⟩:=AZ.get g3 k1;have hee:e3=e2:=by rw[hj]at k4;exact(Option.some.inj k4).symm
 subst hee;simp only[hs]at k5;have hek:=Vv k5;have hj':ents[j]? = some e3:=by simpa using hj
 have hsb:Instr.sameBits 10000 e3.key (ev y)=true:=by
  rw[hek,hkey];have:∀n,Instr.sameBits (n+1) (.agg #[.int .i64 a,.int .i64 b]) (.agg #[.int .i64 a,.int .i64 b])=true:=λn=>by simp[Instr.sameBits]
  exact this 9999
 refine fin _ _ clock (Oq j hvy hvx g3) (Hm.modify hB j _ λ_=>rfl) ?_ (by simpa using hk);simp[Instr.mapUpdate,AO u155,hev,hgo,hck,hfk,Instr.keyThatStays,hj',hsb,hset']
end
def Cy:List (Int×Int)->Int->List (SV×SV)
 | [],_=>[]
 | x::l,k=>(B5 x,AA (k+1))::Cy l (k+1)
theorem KA (x:Int×Int):∀(L:List (Int×Int)) (k:Int) (i:Nat),∃r,F3 Tryz.prog 89 [.int .i64 x.1,.int .i64 x.2] (Cy L k) i=some r/\(match r with|some p=>p.2|none=>BH Tryz.prog 3)=AA (E4 L x k)
 | [],k,i=>⟨none,rfl,by simp[E4,go_sem]⟩
 | y::L,k,i=>by
  simp only[Cy,F3,B5,WG,E4];by_cases e:y=x;subst e;rw[if_pos rfl];have e1:(y.1==y.1&&y.2==y.2)=true:=by simp
  rw[e1];exact⟨_,rfl,rfl⟩;have e1:(x.1==y.1&&x.2==y.2)=false:=by
   cases h1:(x.1==y.1)<;>cases h2:(x.2==y.2)<;>simp;exact e (Prod.ext (by simpa using h1:x.1=y.1).symm (by simpa using h2:x.2=y.2).symm)
  rw[e1,if_neg e];exact KA x L (k+1) (i+1)
section
variable (l : List Int) (L : List (Int × Int))
def Hf (q:List Az×Bool) (d:Az):List Az×Bool:=if BV l d.rev then(if q.2 then q.1++[⟨d.rev,E4 L (d.rev,d.move) 0⟩]else q.1,false)else(q.1++[d],q.2)
def Dn (ds:List Az):List Az:=(ds.foldl (Hf l L) ([],true)).1
def Cf (Y:List Am):Nat->List Am
 | 0=>[]
 | i+1=>match Y[i]? with
  | none=>Cf Y i
  | some y=>if 0<i/\BV l y.rev=true/\(∀z,Y[i-1]? = some z->BV l z.rev=true/\z.key=y.key)then Cf Y i else Cf Y i++[y]
def Hr (x:AF):AF:={ x with move:=if BV l x.ins then E4 L (x.ins,x.move) 0 else x.move,dels:=Dn l L x.dels,layers:=Cf l x.layers x.layers.length }
def Ga (to:Int) (x:AF):AF×Bool:=if BV l x.ins&&x.dels.any (λd=>BV l d.rev)then(Fo,false)else(Ji (BV l) to (Hr l L x),true)
theorem IU:∀(ds:List Az) (q:List Az×Bool),(ds.foldl (Hf l L) q).1.length<=q.1.length+ds.length
 | [],q=>by simp
 | d :: ds, q => by
  have h:=IU ds (Hf l L q d);have h2:(Hf l L q d).1.length<=q.1.length+1:=by
   unfold Hf;split;split<;>simp;simp
  simp only[qM,qF];omega
theorem IV (Y:List Am):∀i,(Cf l Y i).length<=i
 | 0=>qa _
 | i+1=>by
  have:=IV Y i;rw[Cf];split;omega;split;omega;simp;omega
end
def Eb (l:List Int) (s:Int×Bool) (d:Az):Int×Bool:=if BV l d.rev then(s.1+1,s.2||(d.move !=0))else s
def Hu (l:List Int) (h:AF):Int×Bool:=if BV l h.ins then(1,h.move !=0)else(0,false)
def JN (l:List Int) (h:AF):Bool:=decide (1<(h.dels.foldl (Eb l) (Hu l h)).1)&&(h.dels.foldl (Eb l) (Hu l h)).2
theorem VX (l:List Int):∀(ds:List Az) (s:Int×Bool),s.1<=(ds.foldl (Eb l) s).1/\(ds.foldl (Eb l) s).1<=s.1+ds.length
 | [],s=>by simp
 | d::ds,s=>by
  have h:=VX l ds (Eb l s d);have h2:s.1<=(Eb l s d).1/\(Eb l s d).1<=s.1+1:=by unfold Eb;split<;>constructor<;>omega
  simp only[qM,qF];omega
set_option maxHeartbeats 2000000 in
theorem c94 (l:List Int) (hl:l.length<=1073741824) (full:Bool) (x:AF) (hx:x.dels.length<=1048576):PC 94 [.imm 1 (l.map AA) full,x.enc] (.bool (JN l x)):=by
 intro h n;refine Db Tryz.func94 rfl λho=>?_;have hHb:=ho.lt;obtain⟨I,hI⟩:∃I:SV,I=.imm 1 (l.map AA) full:=⟨_,rfl⟩
 have kI:=λy=>ZN l hl y full;rw[<-hI]at kI ⊢;refine AY 1 [(0,I),(3,.iptr x.flat)] h n ?_ (λm hm=>?_);simp[go_sem,AF.enc,AF.flat,IO];exact⟨AV (ho.none (by omega)) (by simp[hset]),λj y e=>by have:=hHb j y e;simp only[hset];grind⟩;refine AY 0 [(0,I),(3,.iptr x.flat),(5,AA 0),(6,.bool false)] h n ?_ (λm hm=>?_);simp[go_sem,IO,hm];refine Bc 0 [(0,I),(3,.iptr x.flat),(5,AA (Hu l x).1),(6,.bool (Hu l x).2)] h n (AH ?_) (λm hm=>?_)
 . simp[go_sem,AF.flat];refine qw (kI x.ins) ?_;cases e:BV l x.ins with
   | false=>simp[go_sem,Hu,e,IO,hm]
   | true=>
    simp[go_sem,Hu,e]
    repeat first|refine nq ?_|refine sq ?_|refine aq ?_
    simp[go_sem,hm]
 obtain⟨S,hS⟩:∃S:Nat->Int×Bool,∀i,S i=(x.dels.take i).foldl (Eb l) (Hu l x):=⟨_,λ_=>rfl⟩
 have hS0:S 0=Hu l x:=by rw[hS];rfl
 have hSs:∀i d,(h:i<x.dels.length)->x.dels[i]=d->S (i+1)=Eb l (S i) d:=λi d h hd=>by rw[hS,hS,DE _ _ _ _ _ h hd]
 have hSl:S x.dels.length=x.dels.foldl (Eb l) (Hu l x):=by rw[hS,qi]
 have hSb:∀i,0<=(S i).1/\(S i).1<=1+i:=λi=>by
  have:=VX l (x.dels.take i) (Hu l x);have h2:0<=(Hu l x).1/\(Hu l x).1<=1:=by unfold Hu;split<;>simp
  rw[hS];have h3:(x.dels.take i).length<=i:=ki _ _;omega
 clear hS;refine Bc 0 [(5,AA (S x.dels.length).1),(6,.bool (S x.dels.length).2)] h n ?_ (λm hm=>?_)
 . refine AY 0 [(0,I),(5,AA (Hu l x).1),(6,.bool (Hu l x).2),(20,AP x.dels),(21,AA x.dels.length),(22,AA 0)] h n ?_ (λm hm=>?_);simp[go_sem,AF.flat,IO,hm];refine AR (BG 0 (α:=Nat) (λi=>[(0,I),(5,AA (S i).1),(6,.bool (S i).2),(20,AP x.dels),(21,AA x.dels.length),(22,AA i)]) (λ_=>h) (λi m=>i<=x.dels.length/\n<=m) (λi=>x.dels.length-i) 0 ⟨by omega,hm⟩ ?_ AB ?_);simp[Ai,hS0,IO];rintro i m2 ⟨hi,hm2⟩;by_cases hlt:i<x.dels.length
   . have w1:=wS i (by omega);have w2:IntKind.i64.wrap ((S i).1+1)=(S i).1+1:=by have:=hSb i;rw[Cl]<;>omega
     obtain⟨d,hd⟩:∃d,x.dels[i]=d:=⟨_,rfl⟩
     have hst:=hSs i d hlt hd;refine Bp 0 [(0,I),(5,AA (S i).1),(6,.bool (S i).2),(20,AP x.dels),(21,AA x.dels.length),(22,AA i),(23,.bool true)] h m2 ?_ (λm hm=>?_);simp[go_sem,IO,hlt];subst hm;refine Bp 0 [(0,I),(5,AA (S i).1),(6,.bool (S i).2),(20,AP x.dels),(21,AA x.dels.length),(22,AA i)] h m2 ?_ (λm hm=>?_);simp[go_sem,IO];subst hm;refine AT 0 (α:=Unit) (λ_=>[(0,I),(5,AA (S (i+1)).1),(6,.bool (S (i+1)).2),(20,AP x.dels),(21,AA x.dels.length),(22,AA i)]) (λ_=>h) (λ_ m=>n<=m) (AR (AH ?_)) (λ_ m hm=>?_)
     . simp[go_sem,hlt,hd,Az.enc,AC,AS];refine qw (kI d.rev) ?_;rw[hst,Eb];cases e:BV l d.rev with
       | false=>
        simp[go_sem,IO];exact⟨by omega,AJ (λj y e=>by have:=hHb j y e;omega) AB⟩
       | true =>
        have hk:∀y,∀j z,h j=some z->hset h m2 y j=some z:=λy=>AJ (λj y e=>by have:=hHb j y e;omega) AB;cases hb:(S i).2 with
        | false=>
         simp[go_sem]
         repeat first|refine nq ?_|refine sq ?_|refine aq ?_
         simp[go_sem,AC,w2,IO]
         repeat first|refine nq ?_|refine sq ?_|refine aq ?_
         exact hk _
        | true=>
         simp[go_sem]
         repeat first|refine nq ?_|refine sq ?_|refine aq ?_
         simp[go_sem,w2,IO]
         repeat first|refine nq ?_|refine sq ?_|refine aq ?_
         exact hk _
     refine AH ?_;simp[go_sem,w1,IO,-Int.natCast_add];exact⟨i+1,by omega,⟨by omega,hm⟩,IO,IO,IO⟩
   have:i=x.dels.length:=by omega
   subst this;refine AH ?_;simp[go_sem,IO,hm2]
 refine AH ?_;rw[hSl];unfold JN;generalize x.dels.foldl (Eb l) (Hu l x)=q;by_cases e:1<q.1;simp[go_sem,e];exact As ho rfl (by simp[]);simp[go_sem,e];exact As ho rfl (by simp[])
structure Sk (l:List Int) (to:Int) (h:AF):Prop where
 inc:JY h.dels
 nz:(0:Int)∉l
 dels:∀d∈h.dels,d.rev∉l->d.rev≠to
section
variable {l : List Int} {L : List (Int × Int)} {to : Int}
theorem JX (nz:(0:Int)∉l) (y:Int):BV l y=decide (y∈l):=by
 unfold BV;by_cases c:y∈l;have:y≠0:=λe=>nz (e▸c);simp[c,this];simp[c]
def Dd (l:List Int) (ds:List Az):List Az:=ds.filter λd=>!BV l d.rev
def C3 (l:List Int) (L:List (Int×Int)) (to:Int) (ds:List Az):List Az:=(ds.filter λd=>BV l d.rev).map λd=>⟨to,E4 L (d.rev,d.move) 0⟩
def PL (l:List Int) (ds:List Az):Bool:=ds.any λd=>BV l d.rev&&(d.move !=0)
theorem Nu (nz:(0:Int)∉l):∀(ds:List Az) (q:List Az×List Az×Bool),ds.foldl (G4 l L to) q=(q.1++Dd l ds,q.2.1++C3 l L to ds,q.2.2||PL l ds)
 | [],q=>by simp[Dd,C3,PL]
 | d::ds,q=>by
  rw[qM,Nu nz ds];have e:=JX nz d.rev;unfold G4 Dd C3 PL;by_cases c:d.rev∈l;have e1:BV l d.rev=true:=by rw[e];simpa using c
  simp[c,e1,Bool.or_assoc];have e1:BV l d.rev=false:=by rw[e];simpa using c
  simp[c,e1]
theorem Qy:∀(ds:List Az) (s:Int×Bool),ds.foldl (Eb l) s=(s.1+(C3 l L to ds).length,s.2||PL l ds)
 | [],s=>by simp[C3,PL]
 | d::ds,s=>by
  rw[qM,Qy ds];unfold Eb C3 PL;by_cases c:BV l d.rev=true;simp[c,Bool.or_assoc];omega;have c:BV l d.rev=false:=by simpa using c
  simp[c]
def Oe (l:List Int) (L:List (Int×Int)):List Az->Bool->List Az
 | [],_=>[]
 | d::ds,f=>if BV l d.rev=true then(if f then⟨d.rev,E4 L (d.rev,d.move) 0⟩::Oe l L ds false else Oe l L ds false)else d::Oe l L ds f
theorem Ni:∀(ds:List Az) (q:List Az×Bool),(ds.foldl (Hf l L) q).1=q.1++Oe l L ds q.2
 | [],q=>by simp[Oe]
 | d::ds,q=>by
  rw[qM,Ni ds,Oe];unfold Hf;by_cases c:BV l d.rev=true;rw[if_pos c,if_pos c];cases q.2<;>simp;rw[if_neg c,if_neg c];simp
theorem Jz:∀ds,Oe l L ds false=Dd l ds
 | []=>rfl
 | d::ds=>by
  rw[Oe,Dd,jZ];by_cases c:BV l d.rev=true;simp[c,Jz ds,Dd];have c:BV l d.rev=false:=by simpa using c
  simp[c,Jz ds,Dd]
theorem Tb:∀ds,(Dd l ds).map (Bz (BV l) to)=Dd l ds:=λds=>by
 have:∀d∈Dd l ds,Bz (BV l) to d=d:=λd hd=>by
  have:=(qW.1 hd).2;have c:BV l d.rev=false:=by simpa using this
  unfold Bz Kl;rw[c];rfl
 rw[jT this,List.map_id']
theorem Qw:∀ds:List Az,(ds.Pairwise λa b=>a.rev≠b.rev)->(∀d∈ds,BV l d.rev=false->d.rev≠to)->
 (((Oe l L ds true).map (Bz (BV l) to)).Pairwise λa b=>a.rev≠b.rev)/\∀y,y∈(Oe l L ds true).map (Bz (BV l) to)↔y∈Dd l ds++(C3 l L to ds).take 1
 | [],_,_=>by simp[Oe,Dd,C3]
 | d::ds,hp,hd=>by
  obtain⟨p1,p2⟩:=qR.1 hp;have hk:∀y∈Dd l ds,y∈ds/\BV l y.rev=false:=λy hy=>⟨(qW.1 hy).1,by simpa using(qW.1 hy).2⟩
  by_cases c:BV l d.rev=true;have e:Bz (BV l) to ⟨d.rev,E4 L (d.rev,d.move) 0⟩=⟨to,E4 L (d.rev,d.move) 0⟩:=by unfold Bz Kl;rw[if_pos c]
  have e2:Dd l (d::ds)=Dd l ds:=by simp[Dd,c]
  have e3:(C3 l L to (d::ds)).take 1=[⟨to,E4 L (d.rev,d.move) 0⟩]:=by simp[C3,c]
  rw[Oe,if_pos c,if_pos rfl,qu,e,Jz,Tb,e2,e3];refine⟨qR.2 ⟨λy hy=>?_,p2.sublist List.filter_sublist⟩,λy=>?_⟩;obtain⟨a,b⟩:=hk y hy;exact λg=>hd y (qL _ a) b g.symm;rw[qk,qe,qv];exact Or.comm;have c:BV l d.rev=false:=by simpa using c
  obtain⟨i1,i2⟩:=Qw ds p2 λy hy=>hd y (qL _ hy);have e:Bz (BV l) to d=d:=by unfold Bz Kl;rw[c];rfl
  have e2:Dd l (d::ds)=d::Dd l ds:=by simp[Dd,c]
  have e3:C3 l L to (d::ds)=C3 l L to ds:=by simp[C3,c]
  rw[Oe,if_neg (by simp[c]),qu,e,e2,e3];refine⟨qR.2 ⟨λy hy=>?_,i1⟩,λy=>?_⟩;rw[i2,qe]at hy;rcases hy with hy|hy;exact p1 y (hk y hy).1;have:=qH hy;unfold C3 at this;obtain⟨z,_,rfl⟩:=qy.1 this;exact hd d (jP ..) c;rw[qk,i2,qz,qk]
theorem Uo (ds:List Az) (hp:ds.Pairwise λa b=>a.rev≠b.rev) (hd:∀d∈ds,BV l d.rev=false->d.rev≠to):(Dd l ds++(C3 l L to ds).take 1).Pairwise λa b=>a.rev≠b.rev:=by
 refine List.pairwise_append.2 ⟨hp.sublist List.filter_sublist,?_,λa ha b hb=>?_⟩;cases C3 l L to ds with
 | nil=>simp
 | cons x xs=>simp
 have:=qH hb;unfold C3 at this;obtain⟨z,_,rfl⟩:=qy.1 this;exact hd a ((qW.1 ha).1) (by simpa using(qW.1 ha).2)
theorem QP (nz:(0:Int)∉l) (Y:List Am):∀i,i<=Y.length->(Cj l to Y i).1=(Cf l Y i).map (CE (BV l) to)/\(Cj l to Y i).2=(match i with|0=>false|j+1=>match Y[j]? with|some z=>BV l z.rev|none=>false)
 | 0,_=>⟨rfl,rfl⟩
 | i + 1, hi => by
  obtain⟨i1,i2⟩:=QP nz Y i (by omega);have hlt:i<Y.length:=by omega
  obtain⟨y,hy⟩:∃y,Y[i]? = some y:=⟨_,qf hlt⟩
  rw[Cj,Cf,hy];dsimp only;have e:=JX nz y.rev;have key:(decide (y.rev∈l)&&(Cj l to Y i).2&&decide (∀z,Y[i-1]? = some z->z.key=y.key))=true↔(0<i/\BV l y.rev=true/\∀z,Y[i-1]? = some z->BV l z.rev=true/\z.key=y.key):=by
   rw[<-e,i2];cases i with
   | zero=>simp
   | succ j=>
    obtain⟨z,hz⟩:∃z,Y[j]? = some z:=⟨_,qf (by omega)⟩
    simp[hz];constructor;rintro⟨⟨a,b⟩,c⟩;exact⟨a,b,c⟩;rintro⟨a,b,c⟩;exact⟨⟨a,b⟩,c⟩
  by_cases c:0<i/\BV l y.rev=true/\∀z,Y[i-1]? = some z->BV l z.rev=true/\z.key=y.key;rw[if_pos (key.2 c),if_pos c];refine⟨i1,?_⟩;rw[i2];obtain⟨j,rfl⟩:∃j,i=j+1:=⟨i-1,by omega⟩
  obtain⟨z,hz⟩:∃z,Y[j]? = some z:=⟨_,qf (by omega)⟩
  have:=c.2.2 z hz;simp only[hz,hy];rw[this.1,c.2.1];rw[if_neg (λg=>c (key.1 g)),if_neg c];refine⟨?_,by simp only[hy];exact e.symm⟩;rw[qc,<-i1];show _++[J8 l to y]=_++[CE (BV l) to y];congr 2;unfold J8 CE Kl;rw[e];by_cases q:y.rev∈l<;>simp[q]
theorem JZ {h:AF} (H:Sk l to h):(CP l L to h).2.2=JN l h/\(CP l L to h).2.1=(Ga l L to h).2/\((CP l L to h).2.1=true->(CP l L to h).1=(Ga l L to h).1):=by
 have nz:=H.nz;have eI:=JX nz h.ins;have hj:Fv l L to h=(Dd l h.dels,C3 l L to h.dels,(decide (h.ins∈l)&&(h.move !=0))||PL l h.dels):=by
  unfold Fv;rw[Nu nz];simp
 have hml:(0<(C3 l L to h.dels).length)↔h.dels.any (λd=>BV l d.rev)=true:=by
  unfold C3;rw[qd,qA,List.any_eq_true];constructor;intro g;obtain⟨x,hx⟩:=List.exists_mem_of_ne_nil _ g;exact⟨x,(qW.1 hx).1,(qW.1 hx).2⟩;rintro⟨x,hx,g⟩ e;have:x∈h.dels.filter λd=>BV l d.rev:=qW.2 ⟨hx,g⟩;rw[e]at this;cases this
 have hd:∀d∈h.dels,BV l d.rev=false->d.rev≠to:=λd hd g=>H.dels d hd (by rw[JX nz]at g;simpa using g);refine⟨?_,?_,λhk=>?_⟩;unfold CP JN Hu;rw[hj];dsimp only;rw[Qy (L:=L) (to:=to),eI];by_cases c:h.ins∈l;simp only[c,decide_true,Bool.true_and,if_true];congr 1;rw[Bool.eq_iff_iff];simp;omega;simp only[c,decide_false,Bool.false_and,Bool.or_false,Bool.false_or];congr 1;rw[Bool.eq_iff_iff];simp;omega;unfold CP Ga;rw[hj,eI];dsimp only;have hd2:decide (0<(C3 l L to h.dels).length)=h.dels.any (λd=>BV l d.rev):=by rw[Bool.eq_iff_iff,decide_eq_true_eq];exact hml
 rw[hd2];cases decide (h.ins∈l)&&h.dels.any (λd=>BV l d.rev)<;>rfl;have hk2:(BV l h.ins&&h.dels.any λd=>BV l d.rev)=false:=by
  unfold CP at hk;rw[hj]at hk;dsimp only at hk;have hd2:decide (0<(C3 l L to h.dels).length)=h.dels.any (λd=>BV l d.rev):=by rw[Bool.eq_iff_iff,decide_eq_true_eq];exact hml
  rw[hd2,<-eI]at hk;cases q:(BV l h.ins&&h.dels.any λd=>BV l d.rev)with
  | false=>rfl
  | true=>rw[q]at hk;cases hk
 unfold Ga;rw[hk2];simp only[qj,if_false];unfold CP Ji Hr Ld;rw[hj];dsimp only;obtain⟨p1,p2⟩:=Qw (L:=L) h.dels (TW H.inc) hd;have hcb:Dn l L h.dels=Oe l L h.dels true:=by unfold Dn;rw[Ni];rfl
 have eD:Cc (Dd l h.dels++(C3 l L to h.dels).take 1)=Cz ((Dn l L h.dels).map (Bz (BV l) to)) (Dn l L h.dels).length:=by
  rw[hcb];have:=UB p1;rw[qd]at this;rw[this];exact QN (H3 _) (H3 _) λy=>by rw[H4 (Uo h.dels (TW H.inc) hd),H4 p1,p2]
 rw[eD,(QP nz h.layers h.layers.length (qa _)).1];have eN:FV (BV l) to h.ins=if h.ins∈l then to else h.ins:=by
  unfold FV;by_cases c:h.ins∈l;have c0:h.ins≠0:=λg=>nz (g▸c);rw[if_pos c,if_pos ⟨c0,by rw[eI];simpa using c⟩];rw[if_neg c,if_neg (λg=>c (by rw[eI]at g;simpa using g.2))]
 rw[eN,eI];by_cases c:h.ins∈l<;>simp[c]
end
theorem UY {X:Hp} {n m:Nat} {o:Option Nat} {es:List SV} (H:Ar n m 2 o es) (hX:∀j,o=some j->X j=some (.cells (es.flatMap SV.cells))) (xs:List (Int×Int)) (hroom:es.length+xs.length<=1073741824) (p:Nat):
 (xs=[]/\AU Tryz.prog X p .append [86,86] [AM 2 o es,.imm 2 (xs.map B5) false]=some { val:=AM 2 o es })\/
 (xs≠[]/\AU Tryz.prog X p .append [86,86] [AM 2 o es,.imm 2 (xs.map B5) false]=some { val:=.sl p 0 2 (es.length+xs.length) false,upd:=o.map λj=>(j,none),new:=some (.cells (es.flatMap SV.cells++(xs.map B5).flatMap SV.cells)) }):=by
 have e1:A9 Tryz.prog 86=some 89:=by simp[go_sem]
 have e2:Bh Tryz.prog 89=2:=by simp[go_sem]
 have e3:(BH Tryz.prog 89).storable=true:=by simp[go_sem]
 have e4:(BH Tryz.prog 89).cells.length=2:=by simp[go_sem]
 have e5:BY Tryz.prog 89<=65536:=by simp[go_sem]
 have e6:Gq 89=none:=by rfl
 by_cases hx:xs=[];subst hx;refine .inl ⟨rfl,?_⟩;simp only[AU,e1,jE,if_true,Cm,e2,e3,e4];cases o<;>simp[AM,Hd,Dw,flat,EH];refine .inr ⟨hx,?_⟩;have hxl:xs.length≠0:=by cases xs<;>simp at hx ⊢
 have hr:C4 (es.length+xs.length) (BY Tryz.prog 89)=true:=by simp only[C4,qq,decide_eq_true_eq];exact⟨by omega,e5⟩
 simp only[AU,e1,jE,if_true,Cm,e2,e3,e4];cases o with
 | none=>
  have he:=H.none rfl;subst he;simp only[jI,jc]at hr;simp[AM,Hd,Dw,flat,hxl,hr,e6]
 | some j=>
  have hj:=hX j rfl;have hl:=A7 H.size;simp[AM,Hd,Dw,flat,hj,hxl,hr,GX e6,Bg,hl];rw[qB (by omega)]
theorem Vp {G:Hp} {n p z:Nat} {es:List SV} {o:Option Nat} {k m':Nat} (hA:Ar k m' z o es) (hG:∀j y,G j=some y->j<k) (hpk:p<k) (ho:es=[]->o=none):Gh (AN o es (hset G p (some (.cells [AM z o es])))) (hset G p (some (.list z es))) n:=by
 cases o with
 | none=>
  have he:=hA.none rfl;subst he;have:=Gh.pack0 (h:=hset G p (some (.cells [AM z none []]))) (n:=n) (z:=z) (p:=p) (ty:=none) (AC _ _ _);rw[AS]at this;exact this
 | some j =>
  have hj:=(hA.lt j rfl).1;have hne:es≠[]:=λg=>by cases ho g
  have hpj:p≠j:=by omega
  have:=Gh.pack (h:=AN (some j) es (hset G p (some (.cells [AM z (some j) es])))) (n:=n) (p:=p) (q:=j) (z:=z) (es:=es) (full:=false) (ty:=none) (ty2:=none) (by simp only[AN];rw[AD _ _ hpj,AC];rfl) (AC _ _ _) hne hpj;have e:hset (hset (AN (some j) es (hset G p (some (.cells [AM z (some j) es])))) p (some (.list z es))) j none=hset G p (some (.list z es)):=by
   funext q;have hq:=hG q;simp only[AN,hset];by_cases h1:q=j;have hp:q≠p:=by omega
   rw[if_pos h1,if_neg hp];cases hGq:G q with
   | none=>rfl
   | some y=>have:=hq y hGq;omega
   rw[if_neg h1,if_neg h1];by_cases h2:q=p;rw[if_pos h2,if_pos h2];rw[if_neg h2,if_neg h2,if_neg h2]
  rw[e]at this;exact this
def QC (l:List Int) (s:Bool×List (Int×Int)) (x:BW):Bool×List (Int×Int):=(s.1||JN l x.head,s.2++x.head.moves)
def KP (p q:Nat) (s:Bool×List (Int×Int)) (o:Nat):Option BT:=if o=p then some (.cells [.bool s.1])else if o=q then some (.list 2 (s.2.map B5))else none
theorem Pp {p q n0:Nat} (hp:p<n0) (hq:q<n0) (s:Bool×List (Int×Int)) {H:Hp} {n:Nat} (hn:n0<=n) (ho:Es H n):Es (Aj (KP p q) s H) n:=λo y e=>by
 simp only[Aj,KP]at e;by_cases e1:o=p;rw[if_pos e1]at e;cases e;exact⟨by omega,rfl⟩;by_cases e2:o=q;rw[if_neg e1,if_pos e2]at e;cases e;exact⟨by omega,KC n s.2⟩;rw[if_neg e1,if_neg e2]at e;exact ho o y e
set_option maxHeartbeats 4000000 in
theorem v93 {p q n0:Nat} (hpq:p≠q) (hp:p<n0) (hq:q<n0) (l:List Int) (hl:l.length<=1073741824) (full:Bool):Vu (KP p q) n0 93 [] [.ptr p 0,.iptr [.imm 1 (l.map AA) full],.ptr q 0] (QC l) (λh=>h.sized) (λs=>s.2.length) 1073741824 where
 up s x:=by simp only[QC,qt];omega
 lt s o h:=by simp only[KP];rw[if_neg (by omega),if_neg (by omega)]
 dom s s' o h:=by
  simp only[KP]at h ⊢;by_cases e1:o=p;rw[if_pos e1]at h;cases h;by_cases e2:o=q;rw[if_neg e1,if_pos e2]at h;cases h;rw[if_neg e1,if_neg e2]
 cl s o y h:=by
  have:=Pp hp hq s (H:=λ_=>none) (qa n0) (λ_ _ e=>by cases e) o y (by simp only[Aj,h]);exact this.2
 call s x H n hx ht hn hs:=by
  refine Db Tryz.func93 rfl λho=>?_;have hHb:=ho.lt;have hHp:H p=some (.cells [.bool s.1]):=hs p _ (by simp[KP]);have hHq:H q=some (.list 2 (s.2.map B5)):=hs q _ (by simp[KP,hpq.symm]);obtain⟨X,hX⟩:∃X:SV,X=.iptr (x.head.flat++[.bool x.mid,AA x.units]):=⟨_,rfl⟩
  obtain⟨G,hG⟩:∃G:SV,G=.iptr [.imm 1 (l.map AA) full]:=⟨_,rfl⟩
  rw[<-hG];refine AY 1 [(1,.ptr p 0),(2,G),(3,.ptr q 0),(4,X)] H n ?_ (λm hm=>?_);rw[hX];simp[go_sem,BW.enc,AF.flat,IO];exact⟨AV (ho.none (by omega)) (by simp[hset]),AJ hHb AB⟩;obtain⟨b,hb⟩:∃b,b=(s.1||JN l x.head):=⟨_,rfl⟩
  have hk94:=c94 l hl full x.head hx.dels;refine AY 0 [(3,.ptr q 0),(4,X)] (hset H p (some (.cells [.bool b]))) n ?_ (λm hm=>?_);cases hs1:s.1 with
  | true=>
   rw[hs1]at hHp;simp[go_sem,hHp];exact⟨hm,by rw[hb,hs1];exact AB⟩
  | false=>
   rw[hs1]at hHp;rw[hX,hG];simp[go_sem,hHp,AF.flat];refine qw (by simpa[AF.enc,AF.flat]using hk94) ?_;simp[go_sem,hHp];exact⟨hm,by rw[hb,hs1];exact AB⟩
  obtain⟨B,hB⟩:∃B:Hp,B=hset H p (some (.cells [.bool b])):=⟨_,rfl⟩
  rw[<-hB];have hBb:∀j y,B j=some y->j<n:=λj y e=>by
   rw[hB]at e;by_cases h:j=p;omega;rw[AD _ _ h]at e;exact hHb j y e
  obtain⟨A,hA0⟩:∃A:List SV,A=s.2.map B5:=⟨_,rfl⟩
  obtain⟨M,hM⟩:∃M:List (Int×Int),M=x.head.moves:=⟨_,rfl⟩
  have hBq:B q=some (.list 2 A):=by rw[hB,AD _ _ hpq.symm,hA0];exact hHq
  have hlen:A.length+M.length<=1073741824:=by
   simp only[QC,qt]at ht;rw[hA0,hM,qd];omega
  have hc:=bF x.head hx;rw[<-hM]at hc;refine Kt q (by rw[hA0];exact E3 _) hBq λo m1 hm1 hA hoe=>?_;refine Rb ?_;have hCb:∀v j y,hset B q (some (.cells [v])) j=some y->j<m:=λv j y e=>by
   by_cases h:j=q;omega;rw[AD _ _ h]at e;have:=hBb j y e;omega
  have hqj:∀j,o=some j->q≠j:=λj e=>by have:=(hA.lt j e).1;omega
  have fin:∀(h':Hp) (n':Nat),Gh h' (hset B q (some (.list 2 (A++M.map B5)))) n'->∃h2,Gh h' h2 n'/\B8 n h2 n' (.tup []) (λv h' n'=>v=.tup []/\h'=Aj (KP p q) (QC l s x) H/\n'=n):=λh' n' hg=>by
   refine⟨_,hg,?_⟩;have hst:QC l s x=(b,s.2++M):=by rw[hb,hM];rfl
   rw[hst];refine B9 (Pp hp hq (b,s.2++M) hn ho) (by simp[closed,closedL]) (λj y e=>?_);simp only[Aj,KP]at e;by_cases c1:j=p;subst c1;rw[if_pos rfl]at e;rw[AD _ _ hpq,hB,AC];exact e;by_cases c2:j=q;subst c2;rw[if_neg c1,if_pos rfl,qc,<-hA0]at e;rw[AC];exact e;rw[if_neg c1,if_neg c2]at e;rw[AD _ _ c2,hB,AD _ _ c1];exact e
  have pk:∀(o':Option Nat) (m' m2:Nat),Ar m m' 2 o' (A++M.map B5)->(A++M.map B5=[]->o'=none)->Gh (AN o' (A++M.map B5) (hset B q (some (.cells [AM 2 o' (A++M.map B5)])))) (hset B q (some (.list 2 (A++M.map B5)))) m2:=λo' m' m2 h1 h2=>Vp h1 (λj y e=>by have:=hBb j y e;omega) (by omega) h2;refine BX UG rfl (by kernel_rfl) (by kernel_rfl) ?_;rw[hX];rcases UY hA (X:=AN o A (hset B q (some (.cells [AM 2 o A])))) (λj e=>Cu j e) M hlen m1 with⟨hMe,b1⟩|⟨hMe,b1⟩
  cases o with
  | none=>
   simp only[AN,AM]at b1;simp[go_sem,UG,AF.flat,AN,AM,AC];refine⟨?_,?_⟩ <;>
   . refine qw (by simpa[AF.enc,AF.flat]using hc) ?_;simp[go_sem,b1,AC,AS];have:=pk none m1 m1 (by simpa[hMe]using hA) (λ_=>rfl);simp only[AN,AM]at this;exact fin _ _ this
  | some j=>
   have hpj:=hqj j rfl;have hj:=(hA.lt j rfl).1;simp only[AN,AM]at b1;simp[go_sem,UG,AF.flat,AN,AM,AC,AD _ _ hpj];refine⟨?_,?_⟩ <;>
   . refine qw (by simpa[AF.enc,AF.flat]using hc) ?_;simp[go_sem,b1,AC,AD _ _ hpj];have:=pk (some j) m1 m1 (by simpa[hMe]using hA) (λg=>hoe (by simpa[hMe]using g));simp only[AN,AM,hMe,qS,jq]at this;have e:hset (hset (hset B q (some (.cells [.sl j 0 2 A.length false]))) j (some (.cells (A.flatMap SV.cells)))) q (some (.cells [.sl j 0 2 A.length false]))=hset (hset B q (some (.cells [.sl j 0 2 A.length false]))) j (some (.cells (A.flatMap SV.cells))):=by
      funext i;simp only[hset];grind
     rw[e];exact fin _ _ (by simpa[hMe]using this)
  have hpm:q≠m1:=by omega
  have hpush:Ar m (m1+1) 2 (some m1) (A++M.map B5):=⟨by simp,λj e=>by cases e;omega,λe he=>(qe.1 he).elim (hA.size e) (E3 M e)⟩
  cases o with
  | none=>
   simp only[AN,AM]at b1;simp[go_sem,UG,AF.flat,AN,AM,AC];refine⟨?_,?_⟩ <;>
   . refine qw (by simpa[AF.enc,AF.flat]using hc) ?_;simp[go_sem,b1,AC,AD _ _ hpm];have:=pk (some m1) (m1+1) (m1+1) hpush (λg=>by simp[hMe]at g);simp only[AN,AM,jm,qt,qd]at this;have e:hset (hset (hset B q (some (.cells [.imm 0 [] true]))) m1 (some (.cells (A.flatMap SV.cells++(M.map B5).flatMap SV.cells)))) q (some (.cells [.sl m1 0 2 (A.length+M.length) false]))=hset (hset B q (some (.cells [.sl m1 0 2 (A.length+M.length) false]))) m1 (some (.cells (A.flatMap SV.cells++(M.map B5).flatMap SV.cells))):=by
      funext i;simp only[hset];grind
     rw[e];exact fin _ _ this
  | some j=>
   have hpj:=hqj j rfl;have hj:=(hA.lt j rfl).1;simp only[AN,AM]at b1;simp[go_sem,UG,AF.flat,AN,AM,AC,AD _ _ hpj];refine⟨?_,?_⟩ <;>
   . refine qw (by simpa[AF.enc,AF.flat]using hc) ?_;simp[go_sem,b1,AC,AS,AD _ _ hpm,AD _ _ hpj];have:=pk (some m1) (m1+1) (m1+1) hpush (λg=>by simp[hMe]at g);simp only[AN,AM,jm,qt,qd]at this;have hBj:B j=none:=by
      cases hB1:B j with
      | none=>rfl
      | some y=>have:=hBb j y hB1;omega
     have e:hset (hset (hset (hset B q (some (.cells [.sl j 0 2 A.length false]))) j none) m1 (some (.cells (A.flatMap SV.cells++(M.map B5).flatMap SV.cells)))) q (some (.cells [.sl m1 0 2 (A.length+M.length) false]))=hset (hset B q (some (.cells [.sl m1 0 2 (A.length+M.length) false]))) m1 (some (.cells (A.flatMap SV.cells++(M.map B5).flatMap SV.cells))):=by
      funext i;simp only[hset];grind
     rw[e];exact fin _ _ this
def Vj:Tr:=.pure 0<|.pure 1<|.pure 2<|.pure 3<|.pure 4<|.pure 6<|.pure 7<|.pure 8<|.two 5 9 (.one 9<|.one 10<|.one 11<|.pure 12<|.pure 13<|.one 14 .nil) (.one 5<|.one 10<|.one 11<|.pure 12<|.pure 13<|.one 14 .nil)
def VI:Tr:=.pure 0<|.pure 1<|.pure 2<|.pure 3<|.pure 4<|.pure 5<|.one 6<|.pure 7<|.pure 8<|.pure 9<|.pure 10<|.pure 11<|.pure 12<|.pure 13<|.pure 14<|.pure 15<|.pure 16<|.pure 17<|.pure 18<|.one 19<|.pure 20<|.pure 21<|.pure 22<|.pure 23<|.pure 24<|.pure 25<|.pure 26<|.pure 27<|.pure 28<|.pure 29<|.pure 30<|.pure 31<|.pure 32<|.pure 33<|.pure 34 .nil
def Y5:Tr:=.pure 0<|.pure 1<|.pure 2<|.pure 3<|.pure 4<|.pure 5<|.one 6<|.pure 7<|.pure 8<|.pure 9<|.pure 10<|.pure 11<|.pure 12<|.pure 14<|.pure 15<|.one 13<|.pure 16<|.pure 17<|.one 18<|.one 19<|.pure 20<|.pure 21<|.pure 22<|.pure 23<|.pure 24<|.pure 25<|.pure 26<|.pure 27<|.pure 28<|.pure 29<|.pure 30<|.pure 31<|.pure 32<|.pure 33<|.pure 34 .nil
def Y6:Tr:=.pure 0<|.pure 1<|.pure 2<|.pure 3<|.pure 4<|.pure 5<|.one 6<|.pure 7<|.pure 8<|.pure 9<|.pure 10<|.pure 11<|.pure 12<|.pure 14<|.pure 15<|.one 13<|.pure 16<|.pure 17<|.one 18<|.one 19<|.pure 20<|.pure 21<|.pure 22<|.pure 23<|.pure 24<|.pure 26<|.pure 27<|.pure 31<|.two 25 32 (.pure 28<|.pure 29<|.two 30 32 (.one 32<|.pure 33<|.pure 34 .nil) (.one 30<|.pure 33<|.pure 34 .nil)) (.one 25<|.pure 28<|.pure 29<|.one 30<|.pure 33<|.pure 34 .nil)
def U0 (l:List Int) (own:Bool) (ds:List Az):Prop:=(own&&ds.any (λd=>BV l d.rev))=false
def OJ:List SV:=[.imm 0 [] true,AA 0,AA 0,.imm 0 [] true,.imm 0 [] true]
set_option maxHeartbeats 4000000 in
theorem bP (l:List Int) (hl:l.length<=1073741824) (full:Bool) (L:List (Int×Int)) (x:AF) (hs:x.sized) (hd:x.dels.length<20) (to:Int) {H:Hp} {n k:Nat} (hk:H k=some (.map (Cy L 0))):
 BA Tryz.prog 103 [.imm 1 (l.map AA) full,x.enc,AA to,.map k] H n (λv h' n'=>v=.tup [(Ga l L to x).1.enc,.bool (Ga l L to x).2]/\h'=H/\n'=n):=by
 refine Db Tryz.func103 rfl λho=>?_;have hHb:=ho.lt;have hkn:=hHb k _ hk;have q1:n≠n+1:=by omega
 obtain⟨I,hI⟩:∃I:SV,I=.imm 1 (l.map AA) full:=⟨_,rfl⟩
 have kI:=λy=>ZN l hl y full;rw[<-hI]at kI ⊢;obtain⟨W,hW⟩:∃W:Int->SV->SV->Hp,∀mv ds ys,W mv ds ys=hset (hset H n (some (.cells [Af x.props,AA x.ins,AA mv,ds,ys]))) (n+1) (some (.cells OJ)):=⟨_,λ_ _ _=>rfl⟩
 have hWn:∀mv ds ys,W mv ds ys n=some (.cells [Af x.props,AA x.ins,AA mv,ds,ys]):=λmv ds ys=>by rw[hW,AD _ _ q1,AC]
 have hWz:∀mv ds ys,W mv ds ys (n+1)=some (.cells OJ):=λmv ds ys=>by rw[hW,AC]
 have hWk:∀mv ds ys,W mv ds ys k=some (.map (Cy L 0)):=λmv ds ys=>by rw[hW,AD _ _ (by omega),AD _ _ (by omega)];exact hk
 have hWs:∀mv ds ys mv' ds' ys',hset (W mv ds ys) n (some (.cells [Af x.props,AA x.ins,AA mv',ds',ys']))=W mv' ds' ys':=λmv ds ys mv' ds' ys'=>by
  rw[hW,hW];funext j;simp only[hset];grind
 have hWb:∀mv ds ys j y,W mv ds ys j=some y->j<n+2:=λmv ds ys j y e=>by
  rw[hW]at e;simp only[hset]at e;split at e;omega;split at e;omega;have:=hHb j y e;omega
 have hWH:∀mv ds ys j y,H j=some y->W mv ds ys j=some y:=λmv ds ys j y e=>by
  have:=hHb j y e;rw[hW,AD _ _ (by omega),AD _ _ (by omega)];exact e
 refine BP 0 [(0,I),(2,AA to),(3,.map k),(5,.ptr n 0),(8,.ptr (n+1) 0)] (W x.move (AP x.dels) (AL x.layers)) (λm=>n+2=m) ?_ (λm hm=>?_);rw[hW];simp[go_sem,AF.enc,AF.flat,IO,OJ];subst hm;refine BP 0 [(0,I),(2,AA to),(3,.map k),(5,.ptr n 0),(8,.ptr (n+1) 0)] (W x.move (AP x.dels) (AL x.layers)) (λm=>n+2<=m) ?_ (λm hm=>?_);simp[go_sem,hWn];refine qw (by simpa[AF.enc,AF.flat]using Ob x hs) ?_;simp[go_sem,hWn,hWs,IO];refine BP 0 [(0,I),(2,AA to),(3,.map k),(5,.ptr n 0),(8,.ptr (n+1) 0),(10,.ptr n 1)] (W x.move (AP x.dels) (AL x.layers)) (λm=>n+2<=m) ?_ (λm hm=>?_);simp[go_sem,IO,hm];obtain⟨own,hown⟩:∃own,own=BV l x.ins:=⟨_,rfl⟩
 refine BP 0 [(0,I),(2,AA to),(3,.map k),(5,.ptr n 0),(8,.ptr (n+1) 0),(10,.ptr n 1),(11,.bool own)] (W x.move (AP x.dels) (AL x.layers)) (λm=>n+2<=m) ?_ (λm hm=>?_);simp[go_sem,hWn];refine qw (kI x.ins) ?_;rw[<-hown];simp[go_sem,IO,hm];obtain⟨mv,hmv⟩:∃mv,mv=if own then E4 L (x.ins,x.move) 0 else x.move:=⟨_,rfl⟩
 refine Bo 0 [(0,I),(2,AA to),(3,.map k),(5,.ptr n 0),(8,.ptr (n+1) 0),(10,.ptr n 1),(11,.bool own)] (W mv (AP x.dels) (AL x.layers)) (λm=>n+2<=m) ?_ (λm hm=>?_);cases ho1:own with
 | false=>
  rw[ho1]at hmv;refine AH ?_;simp[go_sem,IO,hm,hmv]
 | true=>
  rw[ho1]at hmv;obtain⟨r,hr1,hr2⟩:=KA (x.ins,x.move) L 0 0;refine BP 0 [(0,I),(2,AA to),(3,.map k),(5,.ptr n 0),(8,.ptr (n+1) 0),(10,.ptr n 1),(11,.bool true),(28,.bool true)] (W x.move (AP x.dels) (AL x.layers)) (λm=>n+2<=m) ?_ (λm hm=>?_);simp[go_sem,IO,hm];refine Ah (b:=true) (by simp[go_sem]) ?_;rw[if_pos rfl];refine BX Vj rfl (by kernel_rfl) (by kernel_rfl) ?_;simp[go_sem,Vj,hWn,CK];rw[if_pos rfl]at hmv;refine⟨?_,?_⟩ <;>
  . refine Iq (q:=k) (a:=x.ins) (b:=x.move) rfl (by simp[go_sem]) (hWk _ _ _) (by simp[go_sem]) hr2 hr1 ?_;rw[<-hmv];simp[go_sem,hWn,hWs,IO];omega
 obtain⟨S,hS⟩:∃S:Nat->List Az×Bool,∀i,S i=(x.dels.take i).foldl (Hf l L) ([],true):=⟨_,λ_=>rfl⟩
 have hS0:S 0=([],true):=by rw[hS];rfl
 have hSs:∀i d,(h:i<x.dels.length)->x.dels[i]=d->S (i+1)=Hf l L (S i) d:=λi d h hd=>by rw[hS,hS,DE _ _ _ _ _ h hd]
 have hSl:(S x.dels.length).1=Dn l L x.dels:=by rw[hS,qi];rfl
 have hSn:∀i,(S i).1.length<=i:=λi=>by
  rw[hS];have h1:=IU l L (x.dels.take i) ([],true);have h2:(x.dels.take i).length<=i:=ki _ _;simp at h1;omega
 clear hS;refine BP 0 [(0,I),(2,AA to),(3,.map k),(5,.ptr n 0),(8,.ptr (n+1) 0),(10,.ptr n 1),(11,.bool own),(12,.imm 0 [] true)] (W mv (AP x.dels) (AL x.layers)) (λm=>n+2<=m) ?_ (λm hm=>?_);simp[go_sem,IO,hm];refine BP 0 [(0,I),(2,AA to),(3,.map k),(5,.ptr n 0),(8,.ptr (n+1) 0),(10,.ptr n 1),(11,.bool own),(12,.imm 0 [] true),(13,.bool true)] (W mv (AP x.dels) (AL x.layers)) (λm=>n+2<=m) ?_ (λm hm=>?_);simp[go_sem,IO,hm];refine Bo 1 [(0,I),(2,AA to),(5,.ptr n 0),(8,.ptr (n+1) 0),(10,.ptr n 1),(12,AP (Dn l L x.dels))] (W mv (AP x.dels) (AL x.layers)) (λm=>n+2<=m/\U0 l own x.dels) ?_ (λm hm=>?_);refine BP 0 [(0,I),(2,AA to),(3,.map k),(5,.ptr n 0),(8,.ptr (n+1) 0),(10,.ptr n 1),(11,.bool own),(12,.imm 0 [] true),(13,.bool true),(46,AP x.dels),(47,AA x.dels.length),(48,AA 0)] (W mv (AP x.dels) (AL x.layers)) (λm=>n+2<=m) ?_ (λm hm=>?_);simp[go_sem,hWn,IO,hm];refine AR (BG 0 (α:=Nat×Option Nat) (λq=>[(0,I),(2,AA to),(3,.map k),(5,.ptr n 0),(8,.ptr (n+1) 0),(10,.ptr n 1),(11,.bool own),(12,AM 2 q.2 ((S q.1).1.map Az.enc)),(13,.bool (S q.1).2),(46,AP x.dels),(47,AA x.dels.length),(48,AA q.1)])
  (λq=>AN q.2 ((S q.1).1.map Az.enc) (W mv (AP x.dels) (AL x.layers))) (λq m=>q.1<=x.dels.length/\n+2<=m/\Ar (n+2) m 2 q.2 ((S q.1).1.map Az.enc)/\U0 l own (x.dels.take q.1)) (λq=>x.dels.length-q.1) (0,none) ⟨by omega,hm,by simp only[hS0];exact jK _ _ _,by simp[U0]⟩ ?_ ?_ ?_)
 simp[Ai,hS0,AM,IO];simp only[hS0];exact AB;clear hm m;rintro⟨i,o⟩ m ⟨hi,hm,hA,hno⟩;dsimp only at hi hA hno ⊢;have hEn:((S i).1.map Az.enc).length<=i:=by rw[qd];exact hSn i
 by_cases hlt:i<x.dels.length;have w1:=wS i (by omega);obtain⟨d,hd'⟩:∃d,x.dels[i]=d:=⟨_,rfl⟩
 have hst:=hSs i d hlt hd';have htk:(x.dels.take (i+1)).any (λd=>BV l d.rev)=((x.dels.take i).any (λd=>BV l d.rev)||BV l d.rev):=by
  rw[qb hlt,hd'];simp
 generalize hSi:(S i).1.map Az.enc=E at hA hEn ⊢;have hXb:∀j y,AN o E (W mv (AP x.dels) (AL x.layers)) j=some y->j<m:=Dm (hWb _ _ _) hm hA;refine Bp 0 [(0,I),(2,AA to),(3,.map k),(5,.ptr n 0),(8,.ptr (n+1) 0),(10,.ptr n 1),(11,.bool own),(12,AM 2 o E),(13,.bool (S i).2),(46,AP x.dels),(47,AA x.dels.length),(48,AA i),(49,.bool true)] (AN o E (W mv (AP x.dels) (AL x.layers))) m ?_ (λm' hm'=>?_);simp[go_sem,IO,hlt];subst hm';refine Bp 0 [(0,I),(2,AA to),(3,.map k),(5,.ptr n 0),(8,.ptr (n+1) 0),(10,.ptr n 1),(11,.bool own),(12,AM 2 o E),(13,.bool (S i).2),(46,AP x.dels),(47,AA x.dels.length),(48,AA i)] (AN o E (W mv (AP x.dels) (AL x.layers))) m ?_ (λm' hm'=>?_);simp[go_sem,IO];subst hm';refine AT 0 (α:=Option Nat) (λo=>[(0,I),(2,AA to),(3,.map k),(5,.ptr n 0),(8,.ptr (n+1) 0),(10,.ptr n 1),(11,.bool own),(12,AM 2 o ((S (i+1)).1.map Az.enc)),(13,.bool (S (i+1)).2),(46,AP x.dels),(47,AA x.dels.length),(48,AA i)]) (λo=>AN o ((S (i+1)).1.map Az.enc) (W mv (AP x.dels) (AL x.layers)))
  (λo m=>n+2<=m/\Ar (n+2) m 2 o ((S (i+1)).1.map Az.enc)/\U0 l own (x.dels.take (i+1))) ?_ (λo m hm=>?_)
 refine AR ?_;refine BM 0 (α:=Nat) (λp=>[(0,I),(2,AA to),(3,.map k),(5,.ptr n 0),(8,.ptr (n+1) 0),(10,.ptr n 1),(11,.bool own),(12,AM 2 o E),(13,.bool (S i).2),(46,AP x.dels),(47,AA x.dels.length),(48,AA i),(15,.ptr p 0)]) (λp=>hset (AN o E (W mv (AP x.dels) (AL x.layers))) p (some (.cells [AA d.rev,AA d.move]))) (λp m'=>m<=p/\p+1=m') ?_ (λp m' hm'=>?_);simp[go_sem,IO,hlt,hd',Az.enc,AC,AS];exact⟨m,by omega,rfl,AB⟩;obtain⟨hmp,rfl⟩:=hm';have push:∀(e:Az) (q r:Nat) (X:Hp),m<=q->q<r->(∀j y,AN o E (W mv (AP x.dels) (AL x.layers)) j=some y->X j=some y)->X q=some (.cells e.enc.cells)->
  ∃out,AU Tryz.prog X r .append [24,24] [AM 2 o E,.sl q 0 2 1 true]=some out/\∃o',Ar (n+2) (if out.new.isSome=true then r+1 else r) 2 o' (E++[e.enc])/\out.val=AM 2 o' (E++[e.enc])/\∀(j:Nat) (y:BT),AN o' (E++[e.enc]) (W mv (AP x.dels) (AL x.layers)) j=some y->(Cs.app X r out) j=some y:=λe q r X h1 h2 h3 h4=>by
  refine⟨_,Dp (P:=Tryz.prog) (es:=E) (e:=e.enc) (o:=o) (t:=24) (t2:=24) (el:=166) (z:=2) (by simp[go_sem]) (by simp[go_sem]) (by simp[go_sem]) (by simp) (by simp[go_sem]) (by simp[go_sem]) (by simp[go_sem]) (by omega) hA rfl h4 (λj e=>h3 j _ (Cu j e)) r,some r,?_,?_,?_⟩;simpa using hA.push (j:=r) (m':=r+1) (e:=e.enc) (by rfl) (by rfl) (by omega) (by omega);simp[AM];exact CY (p:=r) (v:=.sl r 0 2 (E.length+1) false) (e:=e.enc) (hWb mv (AP x.dels) (AL x.layers)) (by omega) hA (H:=X) (λj y e=>h3 j y (Be (hWb _ _ _) hA j y e))
 cases e:BV l d.rev with
 | false=>
  have hst1:S (i+1)=((S i).1++[d],(S i).2):=by rw[hst,Hf,e];rfl
  simp only[hst1,qc,hSi,qu,qS];refine AH ?_;simp[go_sem,AC];refine qw (kI d.rev) ?_;rw[e];simp[go_sem,AC];have hno1:U0 l own (x.dels.take (i+1)):=by unfold U0 at hno ⊢;rw[htk,e,Bool.or_false];exact hno
  have kp:∀y z,∀j w,AN o E (W mv (AP x.dels) (AL x.layers)) j=some w->hset (hset (AN o E (W mv (AP x.dels) (AL x.layers))) p y) (p+1) z j=some w:=λy z j w e=>by have:=hXb j w e;rw[AD _ _ (by omega),AD _ _ (by omega)];exact e
  obtain⟨out,b1,o',b2,b3,b4⟩:=push d (p+1) (p+1+1) (hset (hset (AN o E (W mv (AP x.dels) (AL x.layers))) p (some (.cells [AA d.rev,AA d.move]))) (p+1) (some (.cells [AA d.rev,AA d.move]))) (by omega) (by omega) (kp _ _) (by simp[AC,Az.enc,SV.cells]);simp[go_sem,b1,b3];exact⟨o',⟨by split<;>omega,b2,hno1⟩,rfl,b4⟩
 | true =>
  have hrd:BV l d.rev=true:=e;refine Bo 0 [(0,I),(2,AA to),(3,.map k),(5,.ptr n 0),(8,.ptr (n+1) 0),(10,.ptr n 1),(11,.bool own),(12,AM 2 o E),(13,.bool (S i).2),(46,AP x.dels),(47,AA x.dels.length),(48,AA i),(15,.ptr p 0)] (hset (AN o E (W mv (AP x.dels) (AL x.layers))) p (some (.cells [AA d.rev,AA d.move]))) (λm'=>p+1<=m') (AH ?_) (λm1 hm1=>?_);simp[go_sem,AC];refine qw (kI d.rev) ?_;rw[e];simp[go_sem,IO];refine Bo 0 [(0,I),(2,AA to),(3,.map k),(5,.ptr n 0),(8,.ptr (n+1) 0),(10,.ptr n 1),(11,.bool own),(12,AM 2 o E),(13,.bool (S i).2),(46,AP x.dels),(47,AA x.dels.length),(48,AA i),(15,.ptr p 0)] (hset (AN o E (W mv (AP x.dels) (AL x.layers))) p (some (.cells [AA d.rev,AA d.move]))) (λm'=>p+1<=m'/\own=false) (AH ?_) (λm1 hm1=>?_);cases ho1:own with
  | false=>simp[go_sem,IO,hm1]
  | true =>
   have hz:hset (AN o E (W mv (AP x.dels) (AL x.layers))) p (some (.cells [AA d.rev,AA d.move])) (n+1)=some (.cells OJ):=by
    rw[AD _ _ (by omega)];exact Be (hWb _ _ _) hA _ _ (hWz _ _ _)
   simp[go_sem,hz,OJ,AC];have hc:Ga l L to x=(Fo,false):=by
    have hx:x.dels.any (λd=>BV l d.rev)=true:=List.any_eq_true.2 ⟨d,by rw[<-hd'];exact ql hlt,hrd⟩;unfold Ga;rw[<-hown,ho1,hx];rfl
   rw[hc];refine RQ (h:=H) (r:=.tup [Fo.enc,.bool false]) 3 ho (.inr ⟨.inr ⟨BC (by simp),IO,IO,BC (by simp),BC (by simp),trivial⟩,IO,trivial⟩) (by simp[closed,closedL,AF.enc,AF.flat,Fo]) (λj y e=>?_);have:=hHb j y e;rw[AD _ _ (by omega),AD _ _ (by omega)];exact Be (hWb _ _ _) hA _ _ (hWH _ _ _ j y e)
  obtain⟨hm1,ho1⟩:=hm1;have hno1:U0 l own (x.dels.take (i+1)):=by rw[U0,ho1];rfl
  cases hf:(S i).2 with
  | false=>
   have hst1:S (i+1)=((S i).1,false):=by rw[hst,Hf,e,if_pos rfl,hf];rfl
   simp only[hst1,hSi];refine AH ?_;simp[go_sem,IO];exact⟨o,⟨by omega,hA.mono (by omega),hno1⟩,IO,AJ (λj y e=>by have:=hXb j y e;omega) AB⟩
  | true =>
   have hst1:S (i+1)=((S i).1++[⟨d.rev,E4 L (d.rev,d.move) 0⟩],false):=by rw[hst,Hf,e,if_pos rfl,hf];rfl
   simp only[hst1,qc,hSi,qu,qS];obtain⟨r,hr1,hr2⟩:=KA (d.rev,d.move) L 0 0;have hmk:hset (AN o E (W mv (AP x.dels) (AL x.layers))) p (some (.cells [AA d.rev,AA d.move])) k=some (.map (Cy L 0)):=by
    rw[AD _ _ (by omega)];exact Be (hWb _ _ _) hA _ _ (hWk _ _ _)
   refine AH ?_;simp[go_sem,AC,CK];refine Iq (q:=k) (a:=d.rev) (b:=d.move) rfl (by simp[go_sem]) hmk (by simp[go_sem]) hr2 hr1 ?_;simp[go_sem,AC,AS];have kp:∀y z,∀j w,AN o E (W mv (AP x.dels) (AL x.layers)) j=some w->hset (hset (AN o E (W mv (AP x.dels) (AL x.layers))) p y) m1 z j=some w:=λy z j w e=>by have:=hXb j w e;rw[AD _ _ (by omega),AD _ _ (by omega)];exact e
   obtain⟨out,b1,o',b2,b3,b4⟩:=push ⟨d.rev,E4 L (d.rev,d.move) 0⟩ m1 (m1+1) (hset (hset (AN o E (W mv (AP x.dels) (AL x.layers))) p (some (.cells [AA d.rev,AA (E4 L (d.rev,d.move) 0)]))) m1 (some (.cells [AA d.rev,AA (E4 L (d.rev,d.move) 0)]))) (by omega) (by omega) (kp _ _) (by simp[AC,Az.enc,SV.cells]);simp[go_sem,b1,b3];exact⟨o',⟨by split<;>omega,b2,hno1⟩,rfl,b4⟩
 refine AH ?_;simp[go_sem,w1,IO,-Int.natCast_add];exact⟨i+1,by omega,o,⟨by omega,hm.1,hm.2.1,hm.2.2⟩,⟨rfl,rfl,rfl⟩,AB⟩;have:i=x.dels.length:=by omega
 subst this;rw[qi]at hno;rw[hSl]at hA ⊢;refine AH ?_;simp[go_sem,IO];exact⟨⟨hm,hno⟩,vb (λj hj=>AW (hWb _ _ _) hj) hA AB,Be (hWb _ _ _) hA⟩;obtain⟨hm,hno⟩:=hm;obtain⟨ds,hds⟩:∃ds,ds=Dn l L x.dels:=⟨_,rfl⟩
 rw[<-hds];refine BP 0 [(0,I),(2,AA to),(5,.ptr n 0),(8,.ptr (n+1) 0),(10,.ptr n 1)] (W mv (AP ds) (AL x.layers)) (λm=>n+2<=m) ?_ (λm hm=>?_);simp[go_sem,hWn,hWs,IO,hm];refine BP 0 [(0,I),(2,AA to),(5,.ptr n 0),(8,.ptr (n+1) 0),(10,.ptr n 1),(16,.imm 0 [] true)] (W mv (AP ds) (AL x.layers)) (λm=>n+2<=m) ?_ (λm hm=>?_);simp[go_sem,IO,hm];have hYn:=IV l x.layers;refine Bo 1 [(0,I),(2,AA to),(5,.ptr n 0),(8,.ptr (n+1) 0),(10,.ptr n 1),(16,AL (Cf l x.layers x.layers.length))] (W mv (AP ds) (AL x.layers)) (λm=>n+2<=m) ?_ (λm hm=>?_);refine BP 0 [(0,I),(2,AA to),(5,.ptr n 0),(8,.ptr (n+1) 0),(10,.ptr n 1),(16,.imm 0 [] true),(84,AL x.layers),(85,AA x.layers.length),(86,AA 0)] (W mv (AP ds) (AL x.layers)) (λm=>n+2<=m) ?_ (λm hm=>?_);simp[go_sem,hWn,IO,hm];refine AR (BG 0 (α:=Nat×Option Nat) (λq=>[(0,I),(2,AA to),(5,.ptr n 0),(8,.ptr (n+1) 0),(10,.ptr n 1),(16,AM 4 q.2 ((Cf l x.layers q.1).map Am.enc)),(84,AL x.layers),(85,AA x.layers.length),(86,AA q.1)])
  (λq=>AN q.2 ((Cf l x.layers q.1).map Am.enc) (W mv (AP ds) (AL x.layers))) (λq m=>q.1<=x.layers.length/\n+2<=m/\Ar (n+2) m 4 q.2 ((Cf l x.layers q.1).map Am.enc)) (λq=>x.layers.length-q.1) (0,none) ⟨by omega,hm,jK _ _ _⟩ ?_ ?_ ?_)
 simp[Ai,AM,Cf,IO];exact AB;clear hm m;rintro⟨i,o⟩ m ⟨hi,hm,hA⟩;dsimp only at hi hA ⊢;have hEn:((Cf l x.layers i).map Am.enc).length<=i:=by rw[qd];exact hYn i
 have hly:=hs.layers;by_cases hlt:i<x.layers.length;have w1:=wS i (by omega);have w2:0<i->IntKind.i64.wrap ((i:Int)-1)=((i-1:Nat):Int):=λ_=>by rw[Cl]<;>omega
 obtain⟨y,hy⟩:∃y,x.layers[i]=y:=⟨_,rfl⟩
 obtain⟨c,hc⟩:∃c:Bool,c=decide (0<i/\BV l y.rev=true/\(∀z,x.layers[i-1]? = some z->BV l z.rev=true/\z.key=y.key)):=⟨_,rfl⟩
 have hst:Cf l x.layers (i+1)=if c then Cf l x.layers i else Cf l x.layers i++[y]:=by
  rw[Cf,qf hlt,hy,hc];simp only[decide_eq_true_eq]
 generalize hSi:(Cf l x.layers i).map Am.enc=E at hA hEn ⊢;have hXb:∀j y,AN o E (W mv (AP ds) (AL x.layers)) j=some y->j<m:=Dm (hWb _ _ _) hm hA;have hXn:AN o E (W mv (AP ds) (AL x.layers)) n=some (.cells [Af x.props,AA x.ins,AA mv,AP ds,AL x.layers]):=Be (hWb _ _ _) hA _ _ (hWn _ _ _);generalize hX:AN o E (W mv (AP ds) (AL x.layers))=X at hXb hXn ⊢;refine Bp 0 [(0,I),(2,AA to),(5,.ptr n 0),(8,.ptr (n+1) 0),(10,.ptr n 1),(16,AM 4 o E),(84,AL x.layers),(85,AA x.layers.length),(86,AA i),(87,.bool true)] X m ?_ (λm' hm'=>?_);simp[go_sem,IO,hlt];subst hm';refine Bp 0 [(0,I),(2,AA to),(5,.ptr n 0),(8,.ptr (n+1) 0),(10,.ptr n 1),(16,AM 4 o E),(84,AL x.layers),(85,AA x.layers.length),(86,AA i)] X m ?_ (λm' hm'=>?_);simp[go_sem,IO];subst hm';refine AT 0 (α:=Option Nat) (λo=>[(0,I),(2,AA to),(5,.ptr n 0),(8,.ptr (n+1) 0),(10,.ptr n 1),(16,AM 4 o ((Cf l x.layers (i+1)).map Am.enc)),(84,AL x.layers),(85,AA x.layers.length),(86,AA i)]) (λo=>AN o ((Cf l x.layers (i+1)).map Am.enc) (W mv (AP ds) (AL x.layers)))
  (λo m=>n+2<=m/\Ar (n+2) m 4 o ((Cf l x.layers (i+1)).map Am.enc)) ?_ (λo m hm=>?_)
 refine AR ?_;refine AY 1 [(0,I),(2,AA to),(5,.ptr n 0),(8,.ptr (n+1) 0),(10,.ptr n 1),(16,AM 4 o E),(84,AL x.layers),(85,AA x.layers.length),(86,AA i),(17,AA i),(18,.iptr [AA y.rev,AA y.key,AA y.before,.bool y.had])] X m ?_ (λm1 hm1=>?_);simp[go_sem,IO,hlt,hy,Am.enc,AC,AS];exact⟨AV (AW hXb (qa _)) (AC _ _ _),AJ hXb AB⟩;refine GI ?_;refine Bc 0 [(0,I),(2,AA to),(5,.ptr n 0),(8,.ptr (n+1) 0),(10,.ptr n 1),(16,AM 4 o E),(84,AL x.layers),(85,AA x.layers.length),(86,AA i),(18,.iptr [AA y.rev,AA y.key,AA y.before,.bool y.had]),(125,.bool c)] X m ?_ (λm2 hm2=>?_);by_cases i0:i=0;refine BX VI rfl (by kernel_rfl) (by kernel_rfl) ?_;have hc0:c=false:=by rw[hc,i0];simp
 rw[hc0];simp[go_sem,VI,i0,IO,hm1];have i1:0<i:=by omega
 have i2:=w2 (by omega);obtain⟨z,hz⟩:∃z,x.layers[i-1]=z:=⟨_,rfl⟩
 have hz':x.layers[i-1]? = some z:=by rw[qf (by omega),hz]
 have hzl:i-1<x.layers.length:=by omega
 cases hy1:BV l y.rev with
 | false=>
  refine BX VI rfl (by kernel_rfl) (by kernel_rfl) ?_;have hc0:c=false:=by rw[hc,hy1];simp
  rw[hc0];simp[go_sem,VI,i1];refine qw (kI y.rev) ?_;rw[hy1];simp[go_sem,IO,hm1]
 | true =>
  cases hz1:BV l z.rev with
  | false=>
   refine BX Y5 rfl (by kernel_rfl) (by kernel_rfl) ?_;have hc0:c=false:=by rw[hc,hz'];simp[hz1]
   rw[hc0];simp[go_sem,Y5,i1];refine qw (kI y.rev) ?_;rw[hy1];simp[go_sem,hXn,i2,hzl,hz,Am.enc];refine qw (kI z.rev) ?_;rw[hz1];simp[go_sem,IO,hm1]
  | true=>
   refine BX Y6 rfl (by kernel_rfl) (by kernel_rfl) ?_;have hc0:c=decide (z.key=y.key):=by rw[hc,hz',hy1];simp[hz1];omega
   rw[hc0];simp[go_sem,Y6,i1];refine qw (kI y.rev) ?_;rw[hy1];simp[go_sem,hXn,i2,hzl,hz,Am.enc];refine qw (kI z.rev) ?_;rw[hz1];simp[go_sem,hXn,i2,hzl,hz,Am.enc,IO,hm1];rw[show(z.key==y.key)=decide (z.key=y.key)from rfl];exact IO
 cases hcb:c with
 | true=>
  have hst1:Cf l x.layers (i+1)=Cf l x.layers i:=by rw[hst,hcb,if_pos rfl]
  simp only[hst1,hSi];refine Ah (b:=true) (by simp[go_sem]) (AH ?_);simp[go_sem,IO];exact⟨o,⟨by omega,hA.mono (by omega)⟩,rfl,by rw[hX];exact AB⟩
 | false=>
  have hst1:Cf l x.layers (i+1)=Cf l x.layers i++[y]:=by rw[hst,hcb];rfl
  simp only[hst1,qc,hSi,qu,qS];refine Ah (b:=false) (by simp[go_sem]) ?_;simp only[qj,if_false];refine Gv ?_;rw[FB];refine AH ?_;simp[go_sem];have h4:hset X m2 (some (.cells [AA y.rev,AA y.key,AA y.before,.bool y.had])) m2=some (.cells y.enc.cells):=by simp[AC,Am.enc,SV.cells]
  have h3:∀j w,X j=some w->hset X m2 (some (.cells [AA y.rev,AA y.key,AA y.before,.bool y.had])) j=some w:=λj w e=>by have:=hXb j w e;rw[AD _ _ (by omega)];exact e
  have b1:=Dp (P:=Tryz.prog) (es:=E) (e:=y.enc) (o:=o) (t:=25) (t2:=25) (el:=164) (z:=4) (by simp[go_sem]) (by simp[go_sem]) (by simp[go_sem]) (by simp) (by simp[go_sem]) (by simp[go_sem]) (by simp[go_sem]) (by omega) hA rfl h4 (λj e=>h3 j _ (by rw[<-hX];exact Cu j e)) (m2+1);have b4:=CY (p:=m2+1) (v:=.sl (m2+1) 0 4 (E.length+1) false) (e:=y.enc) (hWb mv (AP ds) (AL x.layers)) (by omega) hA (H:=hset X m2 (some (.cells [AA y.rev,AA y.key,AA y.before,.bool y.had]))) (λj w e=>h3 j w (by rw[<-hX];exact Be (hWb _ _ _) hA j w e));have b2:=hA.push (j:=m2+1) (m':=m2+1+1) (e:=y.enc) (by rfl) (by rfl) (by omega) (by omega);rw[b1];have hvv:AM 4 (some (m2+1)) (E++[y.enc])=.sl (m2+1) 0 4 (E.length+1) false:=by simp[AM]
  refine⟨some (m2+1),⟨by simp;omega,by simpa using b2⟩,by rw[hvv];exact IO,b4⟩
 refine AH ?_;simp[go_sem,w1,IO,-Int.natCast_add];exact⟨i+1,by omega,o,⟨by omega,hm.1,hm.2⟩,⟨rfl,rfl⟩,AB⟩;have:i=x.layers.length:=by omega
 subst this;refine AH ?_;simp[go_sem,IO];exact⟨hm,vb (λj hj=>AW (hWb _ _ _) hj) hA AB,Be (hWb _ _ _) hA⟩;obtain⟨ys,hys⟩:∃ys,ys=Cf l x.layers x.layers.length:=⟨_,rfl⟩
 rw[<-hys];refine BP 0 [(0,I),(2,AA to),(5,.ptr n 0),(8,.ptr (n+1) 0)] (W mv (AP ds) (AL ys)) (λm=>n+2<=m) ?_ (λm hm=>?_);simp[go_sem,hWn,hWs,IO,hm];obtain⟨G,hG⟩:∃G:AF,G=Hr l L x:=⟨_,rfl⟩
 have hGe:G.enc=.agg [Af x.props,AA x.ins,AA mv,AP ds,AL ys]:=by
  rw[hG,hmv,hds,hys,hown];rfl
 have hc:Ga l L to x=(Ji (BV l) to G,true):=by
  unfold U0 at hno;unfold Ga;rw[<-hown,hno,hG];rfl
 have kG:PC 47 [G.enc,AA to,.fn (.func 92) [I] []] (Ji (BV l) to G).enc:=by
  have h1:=IU l L x.dels ([],true);have h2:=hYn x.layers.length;have h3:(Dn l L x.dels).length<=x.dels.length:=by simpa[Dn]using h1
  refine Xn G ⟨by rw[hG];exact hs.props,by rw[hG];show(Dn l L x.dels).length<=_;omega,by rw[hG];show(Cf l x.layers x.layers.length).length<=_;have:=hs.layers;omega⟩ (by rw[hG];show(Dn l L x.dels).length<20;omega) (λy=>by simpa using kI y) to
 rw[hGe]at kG;rw[hc];refine AH ?_;simp[go_sem,hWn];refine qw kG ?_;simp[go_sem,AF.enc,AF.flat,hWz,OJ,AC];exact B9 ho (by simp[closed,closedL,Er.E.closedL,Az.E.closedL,Am.E.closedL]) (λj y e=>by have:=hHb j y e;rw[AD _ _ (by omega)];exact hWH _ _ _ j y e)
end Go.Proofs.YtgakninlhfkkmaaGreat.Sh
