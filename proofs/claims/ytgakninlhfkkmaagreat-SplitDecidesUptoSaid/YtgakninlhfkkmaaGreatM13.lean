/- A part of the proof (part 13 of 17). -/
import Derived.Test.YtgakninlhfkkmaaGreatM12
namespace Go.Proofs.YtgakninlhfkkmaaGreat.Sh
abbrev vP:=@AP.nrm_eq
abbrev vQ:=@AB.nrm_eq
abbrev vW:=@AH.nrm_eq
abbrev wg:=@AB.nrm_mk
abbrev wi:=@AB.dcL_eq
abbrev wo:=@AB.mh_eq
open Proofs
set_option maxRecDepth 10000
def K4 (l:List Bs):Prop:=l.Pairwise λa b=>a.rev<b.rev
theorem TG:∀{a b:List Bs},K4 a->K4 b->(∀y,y∈a↔y∈b)->a=b
 | [],[],_,_,_=>rfl
 | [],y::_,_,_,h=>absurd ((h y).2 (by simp)) (by simp)
 | x::_,[],_,_,h=>absurd ((h x).1 (by simp)) (by simp)
 | x :: a, y :: b, ha, hb, h => by
  obtain⟨a1,a2⟩:=ve.1 ha;obtain⟨b1,d⟩:=ve.1 hb;have e:x=y:=by
   rcases qt.1 ((h x).1 (by simp))with e|e;exact e;rcases qt.1 ((h y).2 (by simp))with g|g;exact g.symm;have:=b1 x e;have:=a1 y g;omega
  subst e;rw[TG a2 d λz=>?_];constructor;intro c;rcases qt.1 ((h z).1 (by simp[c]))with e|e;subst e;have:=a1 z c;omega;exact e;intro c;rcases qt.1 ((h z).2 (by simp[c]))with e|e;subst e;have:=b1 z c;omega;exact e
def IW:List Bs->Bs->List Bs
 | [],x=>[x]
 | a::A,x=>if x.rev<a.rev then a::IW A x else x::a::A
theorem PN:∀(A:List Bs) (x:Bs),(IW A x).length=A.length+1
 | [],_=>rfl
 | a::A,x=>by rw[IW];split<;>simp[PN A x]
theorem Lj:∀{A:List Bs} {x y:Bs},y∈IW A x↔y=x\/y∈A
 | [],x,y=>by simp[IW]
 | a::A,x,y=>by
  rw[IW];split;rw[qt,Lj,qt];exact⟨λg=>g.elim (λe=>.inr (.inl e)) λg=>g.elim .inl λe=>.inr (.inr e),λg=>g.elim (λe=>.inr (.inl e)) λg=>g.elim .inl λe=>.inr (.inr e)⟩;simp
theorem PM:∀{A:List Bs} {x:Bs},A.Pairwise (λa b=>b.rev<a.rev)->(∀y∈A,y.rev≠x.rev)->(IW A x).Pairwise λa b=>b.rev<a.rev
 | [],x,_,_=>by simp[IW]
 | a::A,x,h,g=>by
  obtain⟨h1,h2⟩:=ve.1 h;rw[IW];split;rename_i e;refine ve.2 ⟨λy c=>?_,PM h2 λy c=>g y (by simp[c])⟩;rcases Lj.1 c with rfl|c;exact e;exact h1 y c;refine ve.2 ⟨λy c=>?_,h⟩;have:=g a (by simp);rcases qt.1 c with rfl|c;omega;have:=h1 y c;omega
theorem UA (A B:List Bs) (x:Bs):H3 (A++x::B) A.length=x:=by simp[H3,List.getD]
theorem Rv:∀(A:List Bs) (x:Bs) (B:List Bs),Fj (A.reverse++x::B) A.length=(IW A x).reverse++B
 | [],x,B=>rfl
 | a :: A, x, B => by
  have d:(a::A).reverse++x::B=A.reverse++a::x::B:=by simp
  have b:H3 (A.reverse++a::x::B) (A.length+1)=x:=by
   have:=UA (A.reverse++[a]) B x;simpa using this
  have c:H3 (A.reverse++a::x::B) A.length=a:=by
   have:=UA A.reverse (x::B) a;simpa using this
  rw[d,qJ,Fj,b,c,IW];split;have e:JG (A.reverse++a::x::B) A.length=A.reverse++x::a::B:=by
   unfold JG;rw[b,c];have h1:(A.reverse++a::x::B).set (A.length+1) a=A.reverse++a::a::B:=by
    rw[List.set_append_right _ _ (by simp)];simp
   rw[h1,List.set_append_right _ _ (by simp)];simp
  rw[e,Rv A x (a::B)];simp;simp
theorem Pf:∀(i:Nat) (l:List Bs),i<=l.length->l.Pairwise (λa b=>a.rev≠b.rev)->∃A:List Bs,Co l i=A.reverse++l.drop i/\A.length=i/\A.Pairwise (λa b=>b.rev<a.rev)/\∀y,y∈A↔y∈l.take i
 | 0,l,_,_=>⟨[],by simp[Co],rfl,List.Pairwise.nil,by simp⟩
 | i+1,l,hi,hp=>by
  obtain⟨A,h1,h2,f,d⟩:=Pf i l (by omega) hp;have c:i<l.length:=by omega
  refine⟨IW A l[i],?_,by rw[PN,h2],PM f λy h=>?_,λy=>?_⟩;rw[Co,h1,qQ c];have:=Rv A l[i] (l.drop (i+1));rw[h2]at this;exact this;obtain⟨j,g,e⟩:=kW.1 ((d y).1 h);rw[List.getElem_take]at e;rw[vD]at g;rw[<-e];exact kG.1 hp j i (by omega) c (by omega);rw[Lj,d,qb c,qd,qy];exact Or.comm
theorem L3 {l:List Bs} (hp:l.Pairwise (λa b=>a.rev≠b.rev)):K4 (Co l l.length):=by
 obtain⟨A,h1,_,c,_⟩:=Pf l.length l (qa _) hp;rw[h1,List.drop_length,kv,K4,List.pairwise_reverse];exact c
theorem TH {l:List Bs} (h:K4 l):l.Pairwise λa b=>a.rev≠b.rev:=
 List.Pairwise.imp (R:=λa b:Bs=>a.rev<b.rev) (S:=λa b:Bs=>a.rev≠b.rev) (fun {a b} g=>by have:a.rev<b.rev:=g;omega) h
theorem VX {l:List Bs} (h:K4 l):Co l l.length=l:=
 TG (L3 (TH h)) h λy=>FP l _ (qa _) y
section
variable {a id : Int}
theorem XI {l:List Bs} (h:l.Pairwise λa b=>a.rev≠b.rev) (hn:id=a\/∀d∈l,d.rev≠id):(l.map (Ba (P1 a) id)).Pairwise λa b=>a.rev≠b.rev:=by
 rw[List.pairwise_map]
 induction h with
 | nil=>exact List.Pairwise.nil
 | @cons x l h1 h2 ih=>
  refine List.Pairwise.cons (λy f=>?_) (ih (hn.imp_right λg d i=>g d (by simp[i])));have e:=h1 y f;have j:=λg:id≠a=>(hn.resolve_left g) x (by simp);have k:=λg:id≠a=>(hn.resolve_left g) y (by simp[f]);simp only[Ba,ED,P1,beq_iff_eq];by_cases c:id=a;subst c;split<;>split<;>omega;have:=j c;have:=k c;split<;>split<;>omega
structure Vs (a id:Int) (h:AF):Prop where
 inc:K4 h.dels
 dels:id=a\/∀d∈h.dels,d.rev≠id
 ins:id=a\/h.ins≠id
 lays:id=a\/∀d∈h.layers,d.rev≠id
theorem Yo {h:AF} (H:Vs a id h):K4 (E3 (P1 a) id h).dels:=by
 have:=L3 (XI (TH H.inc) H.dels)
 rwa [qf]at this
end
theorem Z3 {a b:AG} (h1:a.flow=b.flow) (h2:a.«end» = b.«end») (c:a.revs=b.revs) (d:a.settings=b.settings):a=b:=by
 cases a;cases b;simp only at h1 h2 c d;subst h1 h2 c d;rfl
mutual
theorem dd {g:AF->AF} {f:Int->Int} (hg:∀h y,y∈h.all->f y∈(g h).all):∀(x:AB) (y:Int),y∈x.us->f y∈(AB.mh g x).us
 | .mk k c i t h l r,y,a=>by
  rw[AB.mh,AB.us];rw[AB.us]at a;rcases qd.1 a with a|a;exact qD _ (hg h y a);refine qB _ ?_;by_cases k6:k=6;rw[if_pos k6]at a ⊢;exact Tp hg l y a;rw[if_neg k6]at a ⊢;by_cases k7:k=7;rw[if_pos k7]at a ⊢;exact Ul hg r y a;rw[if_neg k7]at a;cases a
theorem Tp {g:AF->AF} {f:Int->Int} (hg:∀h y,y∈h.all->f y∈(g h).all):∀(l:List AB) (y:Int),y∈AB.usL l->f y∈AB.usL (AB.mhL g l)
 | [],y,a=>by rw[AB.usL]at a;cases a
 | x::l,y,a=>by
  rw[AB.mhL,AB.usL];rw[AB.usL]at a;rcases qd.1 a with a|a;exact qD _ (dd hg x y a);exact qB _ (Tp hg l y a)
theorem al {g:AF->AF} {f:Int->Int} (hg:∀h y,y∈h.all->f y∈(g h).all):∀(x:AP) (y:Int),y∈x.us->f y∈(AP.mh g x).us
 | .mk h c,y,a=>by
  rw[AP.mh,AP.us];rw[AP.us]at a;rcases qd.1 a with a|a;exact qD _ (hg h y a);exact qB _ (Uk hg c y a)
theorem Ul {g:AF->AF} {f:Int->Int} (hg:∀h y,y∈h.all->f y∈(g h).all):∀(l:List AP) (y:Int),y∈AP.usL l->f y∈AP.usL (AP.mhL g l)
 | [],y,a=>by rw[AP.usL]at a;cases a
 | x::l,y,a=>by
  rw[AP.mhL,AP.usL];rw[AP.usL]at a;rcases qd.1 a with a|a;exact qD _ (al hg x y a);exact qB _ (Ul hg l y a)
theorem ak {g:AF->AF} {f:Int->Int} (hg:∀h y,y∈h.all->f y∈(g h).all):∀(x:AH) (y:Int),y∈x.us->f y∈(AH.mh g x).us
 | .mk i h l,y,a=>by
  rw[AH.mh,AH.us];rw[AH.us]at a;rcases qd.1 a with a|a;exact qD _ (hg h y a);exact qB _ (Tp hg l y a)
theorem Uk {g:AF->AF} {f:Int->Int} (hg:∀h y,y∈h.all->f y∈(g h).all):∀(l:List AH) (y:Int),y∈AH.usL l->f y∈AH.usL (AH.mhL g l)
 | [],y,a=>by rw[AH.usL]at a;cases a
 | x::l,y,a=>by
  rw[AH.mhL,AH.usL];rw[AH.usL]at a;rcases qd.1 a with a|a;exact qD _ (ak hg x y a);exact qB _ (Uk hg l y a)
end
theorem JZ {h:AF} {y:Int}:y∈h.all↔y=h.ins\/(∃d∈h.dels,d.rev=y)\/∃d∈h.layers,d.rev=y:=by
 unfold AF.all;simp only[qt,qd,ql]
theorem Wo {l:List Bs} (h:∀i (hi:i<l.length),0<i->l[i-1].rev<l[i].rev):K4 l:=by
 refine kG.2 λi j hi a hij=>?_
 induction j with
 | zero=>omega
 | succ j ih=>
  have h1:=h (j+1) a (by omega);simp only[Nat.add_sub_cancel]at h1;rcases kh i j with c|c;have:=ih (by omega) c;omega;have:i=j:=by omega
  subst this;exact h1
theorem OA {m2:List Int} {a id:Int} (b:id=a\/id∉m2) (h0:id≠0) {h:AF} (H:Hd m2 h):Vs a id h where
 inc:=Wo H.inc
 dels:=b.imp_right λg d c e=>g (e▸H.dels d c)
 ins:=b.imp_right λg e=>H.ins.elim (λz=>h0 (by rw[<-e,z])) λz=>g (e▸z)
 lays:=b.imp_right λg d c e=>g (e▸H.layers d c)
def jJ (m2:List Int) (h:AF):Prop:=HK m2 h/\Hd m2 h
section
variable {N K : Nat} {d : AG} {m2 : List Int}
theorem Rf (a:m2=BU [] (d.revs.map (·.id))) (b:Re N d) (hl:Dq (HK m2) K N d.flow):wf (jJ m2) (λi=>i ≠ -1) N d.flow:=
 Um (a▸b.flow) hl λi hi=>by have:=(b.ids i hi).1;omega
theorem Jb (a:Re N d):SK d.revs:=af (OB a.revs)
theorem Wz (a:m2=BU [] (d.revs.map (·.id))) {id:Int}:id∈m2↔∃r∈d.revs,r.id=id:=by
 rw[a,Id];simp
theorem Tl {l:List BC} (h:SK l) {r:BC} (a:r∈l):r.id≠0:=by have:=OC (h.2.1 r a);omega
end
theorem aK {h' h:Hp} {k o:Nat} {x:Int} {full full':Bool} (hn:h o=none) (a:full'=true->full=true) (b:h' o=some (.cells [AA x])):Fz h' h (k+1) (.sl o 0 1 1 full) (.imm 1 [AA x] full'):=by
 have:=Cz (h':=h') (h:=h) (k:=k) (z:=1) (o:=o) (full:=full) (full':=full') (es:=[AA x]) hn a (by rw[b];simp[SV.cells]) (by simp[SV.storable,SV.cells]);exact this
section
variable {σ τ : Type}
end
section
variable {σ τ : Type} {hp : AF → Prop} {T : Int → Prop} {f1 : σ → CI → AF × Bool × σ} {f2 : τ → CI → AF × Bool × τ} {sc : BH}
end
section
variable {E : CC} {P : Program} {N : Nat} {code : Code} {Q : Cu} {sa : SA} {h : Hp} {n : Nat}
end
section
variable {P : Program}
end
section
variable (l : List Int) (L : List (Int × Int)) (to : Int)
end
section
variable {E : CC} {evs : Operand → SV} {o : Oper} {h : Hp} {n : Nat} {K : SV → Hp → Nat → Prop}
end
section
variable (l : List Int) (L : List (Int × Int))
end
section
variable {l : List Int} {L : List (Int × Int)} {to : Int}
end
section
variable {N K : Nat} {d : AG} {m2 : List Int}
open Classical in
end
section
variable {hp hp' : AF → Prop} {T : Int → Prop}
theorem Qb {N:Nat} (H:wf hp T N []):wf hp' T N []:=by
 cases N with
 | zero=>exact H.elim
 | succ N=>exact Ts N
theorem LO {g:Bool->AF->AF} (hg:∀mid h,hp h->hp' (g mid h)) (sc:BH):∀(N:Nat) (id:Int) (l:List AB) (mid:Bool),wf hp T N l->wf hp' T N (AT (gF g) sc N id l mid ()).1
 | 0,_,_,_,h=>h.elim
 | N + 1, id, l, mid, W => by
  have P:∀(mid:Bool) (l:List AB),wf hp T (N+1) l->wf hp' T (N+1) (A8 (gF g) (AT (gF g) sc N) mid l ()).1:=λmid l W=>by
   rw[Ej];refine DR.2 λy s=>?_;obtain⟨x,i,rfl⟩:=ql.1 s;obtain⟨a,b,c,d,e,f,q⟩:=DR.1 W x i;have j:(NA g (AT (gF g) sc N) mid x).kind=x.kind/\(NA g (AT (gF g) sc N) mid x).id=x.id:=⟨rfl,rfl⟩
   have p:(NA g (AT (gF g) sc N) mid x).flow=if x.kind=6 then(AT (gF g) sc N x.id x.flow mid ()).1 else x.flow:=rfl
   have n:(NA g (AT (gF g) sc N) mid x).rows=if x.kind=7 then x.rows.map (Sb g (AT (gF g) sc N) mid)else x.rows:=rfl
   refine⟨hg _ _ a,λk=>?_,λk=>?_,λk=>?_,λk=>?_,?_,λr m=>?_⟩;rw[j.1]at k;rw[p,if_neg k];exact b k;rw[j.1]at k;rw[n,if_neg k];exact c k;rw[j.1]at k;rw[n,if_pos k];simpa using d k;rw[j.1]at k;rw[j.2];exact e k;rw[p];split;exact LO hg sc N _ _ _ f;rename_i k;rw[b k]at f ⊢;exact Qb f;rw[n]at m;by_cases k:x.kind=7;rw[if_pos k]at m;obtain⟨r0,h0,rfl⟩:=ql.1 m;obtain⟨u,v,w⟩:=q r0 h0;refine⟨hg _ _ u,by show r0.cells.map _≠[];simpa using v,λz t=>?_⟩;obtain⟨z0,o,rfl⟩:=ql.1 (show z∈r0.cells.map (Vk g (AT (gF g) sc N) mid)from t);obtain⟨w1,w2,w3⟩:=w z0 o;exact⟨w1,hg _ _ w2,LO hg sc N _ _ _ w3⟩;rw[if_neg k,c k]at m;cases m
  rw[AT];split;have q:∀(mid:Bool) (a b:Int),wf hp' T (N+1) (A8 (gF g) (AT (gF g) sc N) mid (Ab l a b).1 ()).1:=λmid a b=>P mid _ (Oa a b W);intro x i;rcases qd.1 i with i|i;rcases qd.1 i with i|i;exact q _ _ _ x i;exact q _ _ _ x i;exact q _ _ _ x i;exact P mid l W
theorem QZ:∀{N:Nat} {l:List AB},wf hp T N l->GJ T N l
 | 0,_,h=>h.elim
 | N+1,l,W=>λx j=>by
  obtain⟨a,b,c,d,e,f,q⟩:=DR.1 W x j;exact⟨c,e,QZ f,λr g z i=>⟨((q r g).2.2 z i).1,QZ ((q r g).2.2 z i).2.2⟩⟩
end
section
variable {hp : AF → Prop} {T : Int → Prop}
variable {g : Bool → AF → AF}
end
section
variable {hp : AF → Prop} {T : Int → Prop} {σ : Type} {f : σ → CI → AF × Bool × σ}
end
theorem MA {hp:AF->Prop} {T:Int->Prop} {y:Int}:∀{N:Nat} {l:List AB},wf hp T N l->y∈AB.usL (AO l)->y∈AB.usL l
 | 0,_,h,_=>h.elim
 | N + 1, l, W, hy => by
  have e:∀x∈l,y∈(AB.nrm x).us->y∈x.us:=λx j h=>by
   obtain⟨a,b,c,d,e,w,v⟩:=DR.1 W x j;have i:=HE (x:=x) λr i=>(v r i).2.1;obtain⟨f1,_,_,_,f5,f6,_⟩:=kB x;have us:∀z:AB,z.us=z.head.all++(if z.kind=6 then AB.usL z.flow else if z.kind=7 then AP.usL z.rows else[]):=λz=>by cases z;rw[AB.us];rfl
   rw[us]at h ⊢;rw[f1,f5,f6,i]at h;rcases qd.1 h with h|h;exact qD _ h;refine qB _ ?_;split at h;rename_i k;rw[if_pos k];exact MA w h;rename_i k;rw[if_neg k];split at h;rename_i k7;rw[if_pos k7];rw[Ji,km]at h ⊢;obtain⟨r',h1,h2⟩:=h;obtain⟨r,i,rfl⟩:=ql.1 h1;refine⟨r,i,?_⟩;have o:∀z:AP,z.us=z.head.all++AH.usL z.cells:=λz=>by cases z;rw[AP.us];rfl
   rw[o]at h2 ⊢;rw[(wb r).1,(wb r).2]at h2;rcases qd.1 h2 with h2|h2;exact qD _ h2;refine qB _ ?_;rw[LN,km]at h2 ⊢;obtain⟨c',m,g⟩:=h2;obtain⟨z,f,rfl⟩:=ql.1 m;refine⟨z,f,?_⟩;have n:∀z:AH,z.us=z.head.all++AB.usL z.flow:=λz=>by cases z;rw[AH.us];rfl
   rw[n]at g ⊢;rw[(wj z).1,(wj z).2.2]at g;rcases qd.1 g with g|g;exact qD _ g;exact qB _ (MA ((v r i).2.2 z f).2.2 g);cases h
  rw[L9,km]at hy ⊢;obtain⟨z,f,h⟩:=hy;have:=Gr (p:=λz:AB=>y∈z.us->∃x∈l,y∈x.us) (λx t h=>by cases x;rw[AB.us]at h ⊢;exact h) (l.map AB.nrm) [] (λz f=>by cases f) λz f=>by
   obtain⟨x,j,rfl⟩:=ql.1 f;exact λh=>⟨x,j,e x j h⟩
  refine this z ?_ h;unfold AO Cy at f
  rwa [kM]at f
section
variable {c : AF → AF} {y : Int} (hc : ∀ h, y ∈ (c h).all → y ∈ h.all)
include hc
mutual
theorem Y1:∀x:AB,y∈(AB.mh c x).us->y∈x.us
 | .mk k cc i t h f r=>by
  rw[AB.mh,AB.us,AB.us];intro g;rcases qd.1 g with g|g;exact qD _ (hc _ g);refine qB _ ?_;split at g;rename_i k;rw[if_pos k];exact OY f g;rename_i k;rw[if_neg k];split at g;rename_i k7;rw[if_pos k7];exact Pm r g;cases g
theorem OY:∀l:List AB,y∈AB.usL (AB.mhL c l)->y∈AB.usL l
 | []=>by rw[AB.mhL];exact id
 | x::l=>by
  have _:=hc;rw[AB.mhL,AB.usL,AB.usL];intro g;rcases qd.1 g with g|g;exact qD _ (Y1 x g);exact qB _ (OY l g)
theorem Xg:∀x:AP,y∈(AP.mh c x).us->y∈x.us
 | .mk h z=>by
  rw[AP.mh,AP.us,AP.us];intro g;rcases qd.1 g with g|g;exact qD _ (hc _ g);exact qB _ (Pl z g)
theorem Pm:∀l:List AP,y∈AP.usL (AP.mhL c l)->y∈AP.usL l
 | []=>by rw[AP.mhL];exact id
 | x::l=>by
  have _:=hc;rw[AP.mhL,AP.usL,AP.usL];intro g;rcases qd.1 g with g|g;exact qD _ (Xg x g);exact qB _ (Pm l g)
theorem Xf:∀x:AH,y∈(AH.mh c x).us->y∈x.us
 | .mk i h f=>by
  rw[AH.mh,AH.us,AH.us];intro g;rcases qd.1 g with g|g;exact qD _ (hc _ g);exact qB _ (OY f g)
theorem Pl:∀l:List AH,y∈AH.usL (AH.mhL c l)->y∈AH.usL l
 | []=>by rw[AH.mhL];exact id
 | x::l=>by
  have _:=hc;rw[AH.mhL,AH.usL,AH.usL];intro g;rcases qd.1 g with g|g;exact qD _ (Xf x g);exact qB _ (Pl l g)
end
end
mutual
def AB.rl (δ:AF->Option AF):AB->Option AB
 | .mk k c i t h f r=>(δ h).bind λh'=>if k=6 then some (.mk k c i t h' (AB.rlL δ f) r)else if k=7 then(if(AP.rlL δ r).length=0 then none else some (.mk k c i t h' f (AP.rlL δ r)))else some (.mk k c i t h' f r)
def AB.rlL (δ:AF->Option AF):List AB->List AB
 | []=>[]
 | x::l=>(AB.rl δ x).toList++AB.rlL δ l
def AP.rl (δ:AF->Option AF):AP->Option AP
 | .mk h c=>(δ h).bind λh'=>if(AH.rlL δ c).length=0 then none else some (.mk h' (AH.rlL δ c))
def AP.rlL (δ:AF->Option AF):List AP->List AP
 | []=>[]
 | x::l=>(AP.rl δ x).toList++AP.rlL δ l
def AH.rl (δ:AF->Option AF):AH->Option AH
 | .mk i h f=>(δ h).map λh'=>.mk i h' (AB.rlL δ f)
def AH.rlL (δ:AF->Option AF):List AH->List AH
 | []=>[]
 | x::l=>(AH.rl δ x).toList++AH.rlL δ l
end
section
variable (δ : AF → Option AF)
theorem AB.rlL_eq:∀l:List AB,AB.rlL δ l=l.filterMap (AB.rl δ)
 | []=>by rw[AB.rlL];rfl
 | x::l=>by rw[AB.rlL,AB.rlL_eq l,CN]
theorem AP.rlL_eq:∀l:List AP,AP.rlL δ l=l.filterMap (AP.rl δ)
 | []=>by rw[AP.rlL];rfl
 | x::l=>by rw[AP.rlL,AP.rlL_eq l,CN]
theorem AH.rlL_eq:∀l:List AH,AH.rlL δ l=l.filterMap (AH.rl δ)
 | []=>by rw[AH.rlL];rfl
 | x::l=>by rw[AH.rlL,AH.rlL_eq l,CN]
theorem AB.rl_eq (x:AB):AB.rl δ x=(δ x.head).bind λh'=>if x.kind=6 then some (.mk x.kind x.code x.id x.text h' (AB.rlL δ x.flow) x.rows)else if x.kind=7 then(if(x.rows.filterMap (AP.rl δ)).length=0 then none else some (.mk x.kind x.code x.id x.text h' x.flow (x.rows.filterMap (AP.rl δ))))else some (.mk x.kind x.code x.id x.text h' x.flow x.rows):=by
 cases x;rw[AB.rl,AP.rlL_eq];rfl
theorem AP.rl_eq (x:AP):AP.rl δ x=(δ x.head).bind λh'=>if(x.cells.filterMap (AH.rl δ)).length=0 then none else some (.mk h' (x.cells.filterMap (AH.rl δ))):=by cases x;rw[AP.rl,AH.rlL_eq];rfl
theorem AH.rl_eq (x:AH):AH.rl δ x=(δ x.head).map λh=>.mk x.id h (AB.rlL δ x.flow):=by cases x;rw[AH.rl];rfl
end
section
variable {δ : AF → Option AF} {hp : AF → Prop} {T : Int → Prop}
theorem toList_map {α β:Type} (f:α->β) (o:Option α):o.toList.map f=(o.map f).toList:=by cases o<;>rfl
theorem Ub:∀{N:Nat} {l:List AB},wf hp T N l->F3 (AB.rlL δ l) (AB.dcL δ l)
 | 0,_,h=>h.elim
 | N + 1, l, W => by
  rw[AB.rlL_eq,wi];refine F3.fm λx o=>?_;obtain⟨a,b,c,d,e,w,q⟩:=DR.1 W x o;have i:∀r∈x.rows,Cs ((AP.rl δ r).toList.map AP.nrm)=Cs ((AP.dc δ r).toList.map AP.nrm):=λr n=>by
   obtain⟨u1,u2,t⟩:=q r n;have hc:(r.cells.filterMap (AH.rl δ)).map AH.nrm=(r.cells.filterMap (AH.dc δ)).map AH.nrm:=by
    rw[He,He];refine GI λz s=>?_;rw[AH.rl_eq,AH.dc_eq];cases δ z.head with
    | none=>rfl
    | some h'=>
     simp only[qO];rw[vW,vW];show some (AH.mk z.id h' (AO (AB.rlL δ z.flow)))=some (AH.mk z.id h' (AO (AB.dcL δ z.flow)));rw[(Ub (t z s).2.2).normal]
   have g:(r.cells.filterMap (AH.rl δ)).length=(r.cells.filterMap (AH.dc δ)).length:=by
    have:=congrArg List.length hc
    rwa [qf,qf]at this
   rw[AP.rl_eq,AP.dc_eq];cases δ r.head with
   | none=>rfl
   | some h'=>
    simp only[qK,qO];by_cases z:(r.cells.filterMap (AH.rl δ)).length=0;rw[if_pos z];show[]=Cs [AP.nrm (AP.mk h' (r.cells.filterMap (AH.dc δ)))];unfold Cs;rw[List.filter_cons_of_neg];rfl;rw[IN];show ¬(!decide ((r.cells.filterMap (AH.dc δ)).length=0))=true;rw[<-g,z];simp;rw[if_neg z];show Cs [AP.nrm (AP.mk h' (r.cells.filterMap (AH.rl δ)))]=Cs [AP.nrm (AP.mk h' (r.cells.filterMap (AH.dc δ)))];rw[vP,vP];show Cs [AP.mk h' ((r.cells.filterMap (AH.rl δ)).map AH.nrm)]=Cs [AP.mk h' ((r.cells.filterMap (AH.dc δ)).map AH.nrm)];rw[hc]
  have f:∀l:List AP,(∀r∈l,Cs ((AP.rl δ r).toList.map AP.nrm)=Cs ((AP.dc δ r).toList.map AP.nrm))->Cs ((l.filterMap (AP.rl δ)).map AP.nrm)=Cs ((l.filterMap (AP.dc δ)).map AP.nrm):=λl=>by
   induction l with
   | nil=>intro _;rfl
   | cons r l ih=>
    intro h;rw[CN,CN,qc,qc,Hr,Hr,h r (qV ..),ih λy p=>h y (qC _ p)]
  have k:=f x.rows i;have m:AO (AB.rlL δ x.flow)=AO (AB.dcL δ x.flow):=(Ub w).normal;rw[AB.rl_eq,AB.dc_eq];cases δ x.head with
  | none=>exact .refl _
  | some h'=>
   simp only[qK,qO];by_cases k6:x.kind=6;rw[if_pos k6];refine F3.one ?_;simp only[qO];rw[wg,wg,m,c (by rw[k6];decide)];rfl;rw[if_neg k6];have f0:x.flow=[]:=b k6;have j:AB.dcL δ x.flow=[]:=by rw[f0,AB.dcL]
   by_cases k7:x.kind=7;rw[if_pos k7];by_cases z:(x.rows.filterMap (AP.rl δ)).length=0;rw[if_pos z];intro Z;show Z=AQ Z (AB.nrm _);rw[wg,<-k,vu z];unfold AQ;rw[if_pos (.inl ⟨k7,rfl⟩)];rw[if_neg z];refine F3.one ?_;simp only[qO];rw[wg,wg,k,j,f0];rw[if_neg k7];refine F3.one ?_;simp only[qO];rw[wg,wg,j,f0,c k7];rfl
theorem Xi {hp':AF->Prop} (j:∀h h',hp h->δ h=some h'->hp' h'):∀{N:Nat} {l:List AB},wf hp T N l->wf hp' T N (AB.rlL δ l)
 | 0,_,h=>h.elim
 | N+1,l,W=>by
  rw[AB.rlL_eq];refine DR.2 λy B=>?_;obtain⟨x,A,e⟩:=kV.1 B;obtain⟨a,b,c,d,u,w,q⟩:=DR.1 W x A;rw[AB.rl_eq,kF]at e;obtain⟨h',t,e⟩:=e;have a':=j _ _ a t;have w':=Xi j w;by_cases k6:x.kind=6;rw[if_pos k6]at e;cases e;refine⟨a',λk=>absurd k6 k,c,d,u,w',λr f=>?_⟩;have:x.rows=[]:=c (by rw[k6];decide);have f:r∈x.rows:=f;rw[this]at f;cases f;rw[if_neg k6]at e;by_cases k7:x.kind=7;rw[if_pos k7]at e;split at e;cases e;rename_i z;cases e;refine⟨a',b,λk=>absurd k7 k,λ_ g=>z ?_,λk=>absurd k k6,?_,λr f=>?_⟩;have g:x.rows.filterMap (AP.rl δ)=[]:=g;rw[g];rfl;show wf hp' T N x.flow;rw[b k6]at w ⊢;exact Qb w;obtain⟨r0,h0,i⟩:=kV.1 (show r∈x.rows.filterMap (AP.rl δ)from f);obtain⟨C,u2,D⟩:=q r0 h0;rw[AP.rl_eq,kF]at i;obtain⟨h2,m,i⟩:=i;split at i;cases i;rename_i G;cases i;refine⟨j _ _ C m,λg=>G ?_,λs v=>?_⟩;have g:r0.cells.filterMap (AH.rl δ)=[]:=g;rw[g];rfl;obtain⟨s0,n,o⟩:=kV.1 (show s∈r0.cells.filterMap (AH.rl δ)from v);obtain⟨E,F,v3⟩:=D s0 n;rw[AH.rl_eq,qN]at o;obtain⟨h4,p,rfl⟩:=o;exact⟨E,j _ _ F p,Xi j v3⟩;rw[if_neg k7]at e;cases e;refine⟨a',b,c,λk=>absurd k k7,λk=>absurd k k6,?_,λr f=>?_⟩;show wf hp' T N x.flow;rw[b k6]at w ⊢;exact Qb w;have f:r∈x.rows:=f;rw[c k7]at f;cases f
theorem Xh {y:Int} (i:∀h h',δ h=some h'->y∈h'.all->y∈h.all):∀{N:Nat} {l:List AB},wf hp T N l->y∈AB.usL (AB.rlL δ l)->y∈AB.usL l
 | 0,_,h,_=>h.elim
 | N+1,l,W,g=>by
  rw[AB.rlL_eq,L9,km]at g;rw[L9,km];obtain⟨z,A,f⟩:=g;obtain⟨x,p,e⟩:=kV.1 A;refine⟨x,p,?_⟩;obtain⟨a,b,c,d,ei,w,q⟩:=DR.1 W x p;have us:∀z:AB,z.us=z.head.all++(if z.kind=6 then AB.usL z.flow else if z.kind=7 then AP.usL z.rows else[]):=λz=>by cases z;rw[AB.us];rfl
  rw[us]at f ⊢;rw[AB.rl_eq,kF]at e;obtain⟨h',m,e⟩:=e;by_cases k6:x.kind=6;rw[if_pos k6]at e;cases e;rcases qd.1 f with f|f;exact qD _ (i _ _ m f);refine qB _ ?_;rw[if_pos k6];have f:y∈(if x.kind=6 then AB.usL (AB.rlL δ x.flow)else if x.kind=7 then AP.usL x.rows else[]):=f;rw[if_pos k6]at f;exact Xh i w f;rw[if_neg k6]at e;by_cases k7:x.kind=7;rw[if_pos k7]at e;split at e;cases e;cases e;rcases qd.1 f with f|f;exact qD _ (i _ _ m f);refine qB _ ?_;rw[if_neg k6,if_pos k7];have f:y∈(if x.kind=6 then AB.usL x.flow else if x.kind=7 then AP.usL (x.rows.filterMap (AP.rl δ))else[]):=f;rw[if_neg k6,if_pos k7,Ji,km]at f;rw[Ji,km];obtain⟨r,u,f⟩:=f;obtain⟨r0,h0,j⟩:=kV.1 u;refine⟨r0,h0,?_⟩;have C:∀z:AP,z.us=z.head.all++AH.usL z.cells:=λz=>by cases z;rw[AP.us];rfl
  rw[C]at f ⊢;rw[AP.rl_eq,kF]at j;obtain⟨h2,n,j⟩:=j;split at j;cases j;cases j;rcases qd.1 f with f|f;exact qD _ (i _ _ n f);refine qB _ ?_;have f:y∈AH.usL (r0.cells.filterMap (AH.rl δ)):=f;rw[LN,km]at f ⊢;obtain⟨s,v,f⟩:=f;obtain⟨s0,k,o⟩:=kV.1 v;refine⟨s0,k,?_⟩;rw[AH.rl_eq,qN]at o;obtain⟨h4,t,rfl⟩:=o;have B:∀z:AH,z.us=z.head.all++AB.usL z.flow:=λz=>by cases z;rw[AH.us];rfl
  rw[B]at f ⊢;rcases qd.1 f with f|f;exact qD _ (i _ _ t f);exact qB _ (Xh i ((q r0 h0).2.2 s0 k).2.2 f);rw[if_neg k7]at e;cases e;rcases qd.1 f with f|f;exact qD _ (i _ _ m f);have f:y∈(if x.kind=6 then AB.usL x.flow else if x.kind=7 then AP.usL x.rows else[]):=f;rw[if_neg k6,if_neg k7]at f;cases f
theorem QY {y:Int} {P:Prop} (f:∀h,hp h->y∈h.all->P):∀{N:Nat} {l:List AB},wf hp T N l->y∈AB.usL l->P
 | 0,_,h,_=>h.elim
 | N+1,l,W,g=>by
  rw[L9,km]at g;obtain⟨x,m,e⟩:=g;obtain⟨a,b,c,d,ei,w,q⟩:=DR.1 W x m;have us:∀z:AB,z.us=z.head.all++(if z.kind=6 then AB.usL z.flow else if z.kind=7 then AP.usL z.rows else[]):=λz=>by cases z;rw[AB.us];rfl
  rw[us]at e;rcases qd.1 e with e|e;exact f _ a e;split at e;exact QY f w e;split at e;rw[Ji,km]at e;obtain⟨r,k,e⟩:=e;have p:∀z:AP,z.us=z.head.all++AH.usL z.cells:=λz=>by cases z;rw[AP.us];rfl
  obtain⟨n,_,j⟩:=q r k;rw[p]at e;rcases qd.1 e with e|e;exact f _ n e;rw[LN,km]at e;obtain⟨s,i,e⟩:=e;have o:∀z:AH,z.us=z.head.all++AB.usL z.flow:=λz=>by cases z;rw[AH.us];rfl
  rw[o]at e;rcases qd.1 e with e|e;exact f _ (j s i).2.1 e;exact QY f (j s i).2.2 e;cases e
end
def Xu (g:FuncId) (a b:List SV) (δ:AF->Option AF) (ok:AF->Prop):Prop:=∀h,ok h->PC g (a++[h.enc]++b) (.tup [((δ h).getD DN).enc,.bool (δ h).isSome])
def dW:Tr:=.pure 0<|.pure 1<|.pure 2<|.pure 3<|.pure 4<|.pure 5<|.pure 6<|.one 7<|.one 8<|.one 9<|.one 10<|.pure 11 .nil
theorem P7 {α β:Type} (f:α->Option β) {l:List α} {i:Nat} (h:i<l.length) {x:α} (a:l[i]=x):(l.take (i+1)).filterMap f=(l.take i).filterMap f++(f x).toList:=by
 rw[qb h,Le,a,CN,List.filterMap_nil,kv]
theorem KC {α β:Type} (f:α->Option β):∀l:List α,(l.filterMap f).length<=l.length
 | []=>qa _
 | x::l=>by
  rw[CN,qq,qJ];have:=KC f l;have:(f x).toList.length<=1:=by cases f x<;>simp
  omega
section
variable {g : FuncId} {a b : List SV} {δ : AF → Option AF} {ok : AF → Prop} {P : List AB → Prop}
set_option maxHeartbeats 4000000 in
theorem iW (hR:Xu g a b δ ok) (hit:∀l,P l->PC 164 [.fn (.func g) a b,AK l] (AK (AB.rlL δ l))) (l:List AP) (hl:l.length<=1048576) (hr:∀r∈l,ok r.head/\r.cells.length<=1048576/\∀c∈r.cells,ok c.head/\P c.flow):
 PC 235 [.fn (.func g) a b,Aw l] (Aw (l.filterMap (AP.rl δ))):=by
 intro h n;refine DO Tryz.func235 rfl λho=>?_;have hHb:=ho.lt;obtain⟨FN,hFN⟩:∃FN:SV,FN=.fn (.func g) a b:=⟨_,rfl⟩
 rw[<-hFN]at hit ⊢;obtain⟨R,hR'⟩:∃R:Nat->List AP,∀i,R i=(l.take i).filterMap (AP.rl δ):=⟨_,λ_=>rfl⟩
 have hR0:R 0=[]:=by rw[hR'];rfl
 have hRs:∀i x,(h:i<l.length)->l[i]=x->R (i+1)=R i++(AP.rl δ x).toList:=λi x h hx=>by rw[hR',hR',P7 _ h hx]
 have hRl:R l.length=l.filterMap (AP.rl δ):=by rw[hR',qm]
 have hRn:∀i,(R i).length<=i:=λi=>by rw[hR'];exact qI (KC _ _) (vz _ _)
 clear hR';refine Aa 0 [(0,FN),(1,Aw l)] h n ?_ (λm hm=>?_);simp[go_sem,IO];refine Aa 0 [(0,FN),(1,Aw l),(5,.imm 0 [] true)] h n ?_ (λm hm=>?_);simp[go_sem,IO,hm];refine AX 0 (α:=Option Nat) (λo=>[(5,AW 6 o ((R l.length).map AP.enc))]) (λo=>AV o ((R l.length).map AP.enc) h) (λo m=>n<=m/\BR n m 6 o ((R l.length).map AP.enc)) ?_ (λo m hm=>?_)
 . refine Aa 0 [(0,FN),(5,.imm 0 [] true),(15,Aw l),(16,AA l.length),(17,AA 0)] h n ?_ (λm hm=>?_);simp[go_sem,IO,hm];refine AY (BT 0 (α:=Nat×Option Nat) (λq=>[(0,FN),(5,AW 6 q.2 ((R q.1).map AP.enc)),(15,Aw l),(16,AA l.length),(17,AA q.1)])
    (λq=>AV q.2 ((R q.1).map AP.enc) h) (λq m=>q.1<=l.length/\n<=m/\BR n m 6 q.2 ((R q.1).map AP.enc)) (λq=>l.length-q.1) (0,none) ⟨qg _,hm,by simp only[hR0];exact vA _ _ _⟩ ?_ ?_ ?_)
   simp[go_sem,Ao,AW,IO];simp only[hR0];exact AC;clear hm m;rintro⟨i,o⟩ m ⟨hi,hnm,hA⟩;dsimp only at hi hA ⊢;have hEn:((R i).map AP.enc).length<=i:=by rw[qf];exact hRn i
   by_cases hlt:i<l.length
   . obtain⟨x,hx⟩:∃x,l[i]=x:=⟨_,rfl⟩
     have hxm:x∈l:=by rw[<-hx];exact qi hlt
     obtain⟨x1,x2,x3⟩:=hr x hxm;have hst:=hRs i x hlt hx;have w1:=wS i (by omega);generalize hEi:(R i).map AP.enc=E at hA hEn ⊢;have hE2:(R (i+1)).map AP.enc=E++(AP.rl δ x).toList.map AP.enc:=by rw[hst,qc,hEi]
     have hXb:∀j y,AV o E h j=some y->j<m:=G0 hHb hnm hA;refine B5 0 [(0,FN),(5,AW 6 o E),(15,Aw l),(16,AA l.length),(17,AA i),(18,.bool true)] (AV o E h) m ?_ (λm' hm'=>?_);simp[go_sem,IO,hlt];subst hm';refine B5 0 [(0,FN),(5,AW 6 o E),(15,Aw l),(16,AA l.length),(17,AA i)] (AV o E h) m ?_ (λm2 hm2=>?_);simp[go_sem,IO];subst hm2;refine AX 0 (α:=Option Nat) (λo=>[(0,FN),(5,AW 6 o ((R (i+1)).map AP.enc)),(15,Aw l),(16,AA l.length),(17,AA i)]) (λo=>AV o ((R (i+1)).map AP.enc) h) (λo m=>n<=m/\BR n m 6 o ((R (i+1)).map AP.enc)) ?_ (λo m hm=>?_)
     . rw[hE2];refine AY ?_;refine Aa 1 [(0,FN),(5,AW 6 o E),(15,Aw l),(16,AA l.length),(17,AA i),(7,.iptr (x.head.flat++[BZ x.cells]))] (AV o E h) m ?_ (λm2 hm2=>?_);simp[go_sem,IO,hlt,hx,kl,AF.flat,AD];refine⟨AZ (AS hXb (qa m)) (AD _ _ _),AL hXb (AL hXb AC)⟩;have hXb2:∀j y,AV o E h j=some y->j<m2:=λj y e=>by have:=hXb j y e;omega
       have hcall:=hR x.head x1;rw[AP.rl_eq];obtain⟨d,hd⟩:∃d,δ x.head=d:=⟨_,rfl⟩
       rw[hd]at hcall ⊢;refine Aa 1 [(0,FN),(5,AW 6 o E),(15,Aw l),(16,AA l.length),(17,AA i),(7,.iptr (x.head.flat++[BZ x.cells])),(8,.iptr (d.getD DN).flat),(9,.bool d.isSome)] (AV o E h) m2 ?_ (λm3 hm3=>?_);rw[hFN];simp only[AF.enc,AF.flat,qx,qE,qj]at hcall;simp[go_sem,AF.flat];refine qz hcall ?_;simp[go_sem,IO,AD];exact⟨AZ (AS hXb2 (qa _)) (AD _ _ _),AL hXb2 (AL hXb2 AC)⟩;cases d with
       | none=>
        refine AJ ?_;simp[go_sem,IO];exact⟨o,⟨by omega,hA.mono (by omega)⟩,rfl,AC⟩
       | some h'=>
        simp only[qK,vR,vG];clear hcall hd;refine CG 0 [(0,FN),(5,AW 6 o E),(15,Aw l),(16,AA l.length),(17,AA i),(7,.iptr (x.head.flat++[BZ x.cells])),(8,.iptr h'.flat)] (AV o E h) m3 (AJ ?_) (λm4 hm4=>?_);simp[go_sem,IO];subst hm4;refine B5 0 [(0,FN),(5,AW 6 o E),(15,Aw l),(16,AA l.length),(17,AA i),(7,.iptr (x.head.flat++[BZ x.cells])),(8,.iptr h'.flat),(10,.imm 0 [] true)] (AV o E h) m3 ?_ (λm4 hm4=>?_);simp[go_sem,IO];subst hm4;refine CW 1 [(0,FN),(5,AW 6 o E),(15,Aw l),(16,AA l.length),(17,AA i),(8,.iptr h'.flat),(10,BZ (x.cells.filterMap (AH.rl δ)))] (AV o E h) m3 ?_ (λm4 hm4=>?_)
        . refine B5 0 [(0,FN),(5,AW 6 o E),(15,Aw l),(16,AA l.length),(17,AA i),(8,.iptr h'.flat),(10,.imm 0 [] true),(31,BZ x.cells),(32,AA x.cells.length),(33,AA 0)] (AV o E h) m3 ?_ (λm4 hm4=>?_);simp[go_sem,IO,AF.flat];subst hm4;obtain⟨Q,hQ⟩:∃Q:Nat->List AH,∀i,Q i=(x.cells.take i).filterMap (AH.rl δ):=⟨_,λ_=>rfl⟩
          have hQ0:Q 0=[]:=by rw[hQ];rfl
          have hQs:∀i y,(h:i<x.cells.length)->x.cells[i]=y->Q (i+1)=Q i++(AH.rl δ y).toList:=λi y h hy=>by rw[hQ,hQ,P7 _ h hy]
          have hQl:Q x.cells.length=x.cells.filterMap (AH.rl δ):=by rw[hQ,qm]
          have hQn:∀i,(Q i).length<=i:=λi=>by rw[hQ];exact qI (KC _ _) (vz _ _)
          clear hQ;have hBb:∀j y,AV o E h j=some y->j<m3:=λj y e=>by have:=hXb j y e;omega
          refine AY (BT 0 (α:=Nat×Option Nat) (λq=>[(0,FN),(5,AW 6 o E),(15,Aw l),(16,AA l.length),(17,AA i),(8,.iptr h'.flat),(10,AW 7 q.2 ((Q q.1).map AH.enc)),(31,BZ x.cells),(32,AA x.cells.length),(33,AA q.1)])
           (λq=>AV q.2 ((Q q.1).map AH.enc) (AV o E h)) (λq m=>q.1<=x.cells.length/\m3<=m/\BR m3 m 7 q.2 ((Q q.1).map AH.enc)) (λq=>x.cells.length-q.1) (0,none) ⟨qg _,qa _,by simp only[hQ0];exact vA _ _ _⟩ ?_ ?_ ?_)
          simp[go_sem,Ao,AW,IO];simp only[hQ0];exact AC;rintro⟨j,o2⟩ m4 ⟨hj,hm4,hA2⟩;dsimp only at hj hA2 ⊢;have hCn:((Q j).map AH.enc).length<=j:=by rw[qf];exact hQn j
          by_cases hjt:j<x.cells.length
          . obtain⟨y,hy⟩:∃y,x.cells[j]=y:=⟨_,rfl⟩
            have hym:y∈x.cells:=by rw[<-hy];exact qi hjt
            obtain⟨y1,y2⟩:=x3 y hym;have hqt:=hQs j y hjt hy;have w2:=wS j (by omega);generalize hGj:(Q j).map AH.enc=G at hA2 hCn ⊢;have hG2:(Q (j+1)).map AH.enc=G++(AH.rl δ y).toList.map AH.enc:=by rw[hqt,qc,hGj]
            have hYb:∀j y,AV o2 G (AV o E h) j=some y->j<m4:=G0 hBb hm4 hA2;refine B5 0 [(0,FN),(5,AW 6 o E),(15,Aw l),(16,AA l.length),(17,AA i),(8,.iptr h'.flat),(10,AW 7 o2 G),(31,BZ x.cells),(32,AA x.cells.length),(33,AA j),(34,.bool true)] (AV o2 G (AV o E h)) m4 ?_ (λm' hm'=>?_);simp[go_sem,IO,hjt];subst hm';refine B5 0 [(0,FN),(5,AW 6 o E),(15,Aw l),(16,AA l.length),(17,AA i),(8,.iptr h'.flat),(10,AW 7 o2 G),(31,BZ x.cells),(32,AA x.cells.length),(33,AA j)] (AV o2 G (AV o E h)) m4 ?_ (λm' hm'=>?_);simp[go_sem,IO];subst hm';refine AX 0 (α:=Option Nat) (λo2=>[(0,FN),(5,AW 6 o E),(15,Aw l),(16,AA l.length),(17,AA i),(8,.iptr h'.flat),(10,AW 7 o2 ((Q (j+1)).map AH.enc)),(31,BZ x.cells),(32,AA x.cells.length),(33,AA j)]) (λo2=>AV o2 ((Q (j+1)).map AH.enc) (AV o E h)) (λo2 m=>m3<=m/\BR m3 m 7 o2 ((Q (j+1)).map AH.enc)) ?_ (λo2 m hm=>?_)
            . rw[hG2];refine AY ?_;refine Aa 1 [(0,FN),(5,AW 6 o E),(15,Aw l),(16,AA l.length),(17,AA i),(8,.iptr h'.flat),(10,AW 7 o2 G),(31,BZ x.cells),(32,AA x.cells.length),(33,AA j),(12,.iptr ([AA y.id]++y.head.flat++[AK y.flow]))] (AV o2 G (AV o E h)) m4 ?_ (λm5 hm5=>?_);simp[go_sem,IO,hjt,hy,kO,AF.flat,AD];refine⟨AZ (AS hYb (qa m4)) (AD _ _ _),AL hYb (AL hYb AC)⟩;have hYb2:∀j y,AV o2 G (AV o E h) j=some y->j<m5:=λj y e=>by have:=hYb j y e;omega
              have hcall2:=hR y.head y1;rw[AH.rl_eq];obtain⟨d2,hd2⟩:∃d,δ y.head=d:=⟨_,rfl⟩
              rw[hd2]at hcall2 ⊢;refine Aa 1 [(0,FN),(5,AW 6 o E),(15,Aw l),(16,AA l.length),(17,AA i),(8,.iptr h'.flat),(10,AW 7 o2 G),(31,BZ x.cells),(32,AA x.cells.length),(33,AA j),(12,.iptr ([AA y.id]++y.head.flat++[AK y.flow])),(13,.iptr (d2.getD DN).flat),(14,.bool d2.isSome)] (AV o2 G (AV o E h)) m5 ?_ (λm6 hm6=>?_);rw[hFN];simp only[AF.enc,AF.flat,qx,qE,qj]at hcall2;simp[go_sem,AF.flat];refine qz hcall2 ?_;simp[go_sem,IO,AD];exact⟨AZ (AS hYb2 (qa _)) (AD _ _ _),AL hYb2 (AL hYb2 AC)⟩;cases d2 with
              | none=>
               refine AJ ?_;simp[go_sem,IO];exact⟨o2,⟨by omega,hA2.mono (by omega)⟩,rfl,AC⟩
              | some h2 =>
               simp only[qO,vR,vG,Option.toList_some,qr,kE];clear hcall2 hd2;refine B5 0 [(0,FN),(5,AW 6 o E),(15,Aw l),(16,AA l.length),(17,AA i),(8,.iptr h'.flat),(10,AW 7 o2 G),(31,BZ x.cells),(32,AA x.cells.length),(33,AA j),(12,.iptr ([AA y.id]++y.head.flat++[AK y.flow])),(13,.iptr h2.flat),(44,.bool true)] (AV o2 G (AV o E h)) m6 ?_ (λm7 hm7=>?_);simp[go_sem,IO];subst hm7;refine Au (b:=true) (by simp[go_sem]) ?_;rw[if_pos rfl];have hc3:=hit y.flow y2;generalize AB.rlL δ y.flow=q3 at hc3 ⊢;refine CK dW rfl (by kernel_rfl) (by kernel_rfl) ?_;simp[go_sem,dW,AF.flat];refine qz hc3 ?_;simp[go_sem];have hpush:=hA2.push (j:=m6+1) (m':=m6+1+1) (e:=(AH.mk y.id h2 q3).enc) (AH.E.st _) (AH.E.len _) (by omega) (by omega);rw[Fa (es:=G) (e:=(AH.mk y.id h2 q3).enc) (o:=o2) (t:=167) (t2:=167) (el:=171) (z:=7) (by simp[go_sem]) (by simp[go_sem]) (by simp[go_sem]) (by simp) (by simp[go_sem]) (by simp[go_sem]) (by simp[go_sem]) (by omega) hA2 (AH.E.len _) ?a1 ?a2]
               case a1=>simp[AD,kO,SV.cells,AH.id,AH.head,AH.flow]
               case a2=>
                intro j e;have:=(hA2.lt j e).2;rw[AE _ _ (by omega)];exact FX j e
               have hlive:=D7 (p:=m6+1) (v:=.sl (m6+1) 0 7 (G.length+1) false) (e:=(AH.mk y.id h2 q3).enc) hBb (by omega) hA2 (H:=hset (AV o2 G (AV o E h)) m6 (some (.cells [AA y.id,AU h2.props,AA h2.ins,AA h2.move,Ax h2.dels,Ai h2.layers,AK q3]))) (AL (λj z e=>by have:=hBb j z e;omega) (Eb hBb hA2));have hvv:AW 7 (some (m6+1)) (G++[(AH.mk y.id h2 q3).enc])=.sl (m6+1) 0 7 (G.length+1) false:=by simp[AW]
               simp[go_sem];exact⟨some (m6+1),⟨by omega,hpush⟩,hvv.symm,by simpa[C5.app,SV.cells]using hlive⟩
            refine AJ ?_;simp[go_sem,w2,IO,-Int.natCast_add];exact⟨j+1,by omega,o2,⟨by omega,hm.1,hm.2⟩,⟨rfl,rfl⟩,AC⟩
          have:j=x.cells.length:=by omega
          subst this;rw[hQl]at hA2 ⊢;refine AJ ?_;simp[go_sem,IO];exact⟨by omega,AW.fz' (λj hj=>AS hBb hj) hA2 AC,Eb hBb hA2⟩
        . generalize x.cells.filterMap (AH.rl δ)=q2;by_cases z:q2=[];subst z;refine AJ ?_;simp[go_sem,IO];exact⟨o,⟨by omega,hA.mono (by omega)⟩,rfl,AC⟩
          . have z1:0<q2.length:=qH.2 z;have z2:(0:Int)<q2.length:=by omega
            rw[if_neg (by omega)];simp only[Option.toList_some,qr,kE];refine B5 0 [(0,FN),(5,AW 6 o E),(15,Aw l),(16,AA l.length),(17,AA i),(8,.iptr h'.flat),(10,BZ q2),(59,.bool true)] (AV o E h) m4 ?_ (λm5 hm5=>?_);simp[go_sem,IO,z1];subst hm5;refine AJ ?_;simp[go_sem,AF.flat];have hpush:=hA.push (j:=m4+1) (m':=m4+1+1) (e:=(AP.mk h' q2).enc) (AP.E.st _) (AP.E.len _) (by omega) (by omega);rw[Fa (es:=E) (e:=(AP.mk h' q2).enc) (o:=o) (t:=68) (t2:=68) (el:=169) (z:=6) (by simp[go_sem]) (by simp[go_sem]) (by simp[go_sem]) (by simp) (by simp[go_sem]) (by simp[go_sem]) (by simp[go_sem]) (by omega) hA (AP.E.len _) ?a1 ?a2]
            case a1=>simp[AD,kl,SV.cells,AP.head,AP.cells]
            case a2=>
             intro j e;have:=(hA.lt j e).2;rw[AE _ _ (by omega)];exact FX j e
            have hlive:=D7 (p:=m4+1) (v:=.sl (m4+1) 0 6 (E.length+1) false) (e:=(AP.mk h' q2).enc) hHb (by omega) hA (H:=hset (AV o E h) m4 (some (.cells [AU h'.props,AA h'.ins,AA h'.move,Ax h'.dels,Ai h'.layers,BZ q2]))) (AL (λj z e=>by have:=hHb j z e;omega) (Eb hHb hA));have hvv:AW 6 (some (m4+1)) (E++[(AP.mk h' q2).enc])=.sl (m4+1) 0 6 (E.length+1) false:=by simp[AW]
            simp[go_sem];exact⟨some (m4+1),⟨by omega,hpush⟩,hvv.symm,by simpa[C5.app,SV.cells]using hlive⟩
     refine AJ ?_;simp[go_sem,w1,IO,-Int.natCast_add];exact⟨i+1,by omega,o,⟨by omega,hm.1,hm.2⟩,⟨rfl,rfl⟩,AC⟩
   have:i=l.length:=by omega
   subst this;refine AJ ?_;simp[go_sem];exact⟨o,⟨hnm,hA⟩,rfl,AC⟩
 refine AJ ?_;simp[go_sem];rw[hRl]at hm ⊢;exact I1 ho hm.2 (λe he=>by obtain⟨x,_,rfl⟩:=ql.1 he;exact AP.cl n x)
end
section
variable {g : FuncId} {a b : List SV} {δ : AF → Option AF} {ok : AF → Prop} {P : List AB → Prop}
def okR (ok:AF->Prop) (P:List AB->Prop) (x:AB):Prop:=ok x.head/\P x.flow/\x.rows.length<=1048576/\∀r∈x.rows,ok r.head/\r.cells.length<=1048576/\∀c∈r.cells,ok c.head/\P c.flow
set_option maxHeartbeats 4000000 in
theorem iR (hR:Xu g a b δ ok) (hit:∀l,P l->PC 164 [.fn (.func g) a b,AK l] (AK (AB.rlL δ l))) (l:List AB) (hl:l.length<=1048576) (hr:∀x∈l,okR ok P x):
 PC 164 [.fn (.func g) a b,AK l] (AK (AB.rlL δ l)):=by
 intro h n;refine DO Tryz.func164 rfl λho=>?_;have hHb:=ho.lt;have hrow:=λ(rs:List AP) h1 h2=>iW (P:=P) hR hit rs h1 h2;obtain⟨FN,hFN⟩:∃FN:SV,FN=.fn (.func g) a b:=⟨_,rfl⟩
 rw[<-hFN]at hit hrow ⊢;rw[AB.rlL_eq];obtain⟨R,hR'⟩:∃R:Nat->List AB,∀i,R i=(l.take i).filterMap (AB.rl δ):=⟨_,λ_=>rfl⟩
 have hR0:R 0=[]:=by rw[hR'];rfl
 have hRs:∀i x,(h:i<l.length)->l[i]=x->R (i+1)=R i++(AB.rl δ x).toList:=λi x h hx=>by rw[hR',hR',P7 _ h hx]
 have hRl:R l.length=l.filterMap (AB.rl δ):=by rw[hR',qm]
 have hRn:∀i,(R i).length<=i:=λi=>by rw[hR'];exact qI (KC _ _) (vz _ _)
 clear hR';refine Aa 0 [(0,FN),(1,AK l)] h n ?_ (λm hm=>?_);simp[go_sem,IO];refine Aa 0 [(0,FN),(1,AK l),(5,.imm 0 [] true)] h n ?_ (λm hm=>?_);simp[go_sem,IO,hm];refine AX 0 (α:=Option Nat) (λo=>[(5,AW 11 o ((R l.length).map AB.enc))]) (λo=>AV o ((R l.length).map AB.enc) h) (λo m=>n<=m/\BR n m 11 o ((R l.length).map AB.enc)) ?_ (λo m hm=>?_)
 . refine Aa 0 [(0,FN),(5,.imm 0 [] true),(10,AK l),(11,AA l.length),(12,AA 0)] h n ?_ (λm hm=>?_);simp[go_sem,IO,hm];refine AY (BT 0 (α:=Nat×Option Nat) (λq=>[(0,FN),(5,AW 11 q.2 ((R q.1).map AB.enc)),(10,AK l),(11,AA l.length),(12,AA q.1)])
    (λq=>AV q.2 ((R q.1).map AB.enc) h) (λq m=>q.1<=l.length/\n<=m/\BR n m 11 q.2 ((R q.1).map AB.enc)) (λq=>l.length-q.1) (0,none) ⟨qg _,hm,by simp only[hR0];exact vA _ _ _⟩ ?_ ?_ ?_)
   simp[go_sem,Ao,AW,IO];simp only[hR0];exact AC;clear hm m;rintro⟨i,o⟩ m ⟨hi,hnm,hA⟩;dsimp only at hi hA ⊢;have hEn:((R i).map AB.enc).length<=i:=by rw[qf];exact hRn i
   by_cases hlt:i<l.length
   . obtain⟨x,hx⟩:∃x,l[i]=x:=⟨_,rfl⟩
     have hxm:x∈l:=by rw[<-hx];exact qi hlt
     obtain⟨x1,x3,x4,x5⟩:=hr x hxm;have hst:=hRs i x hlt hx;have w1:=wS i (by omega);generalize hEi:(R i).map AB.enc=E at hA hEn ⊢;have hE2:(R (i+1)).map AB.enc=E++(AB.rl δ x).toList.map AB.enc:=by rw[hst,qc,hEi]
     have hXb:∀j y,AV o E h j=some y->j<m:=G0 hHb hnm hA;refine B5 0 [(0,FN),(5,AW 11 o E),(10,AK l),(11,AA l.length),(12,AA i),(13,.bool true)] (AV o E h) m ?_ (λm' hm'=>?_);simp[go_sem,IO,hlt];subst hm';refine B5 0 [(0,FN),(5,AW 11 o E),(10,AK l),(11,AA l.length),(12,AA i)] (AV o E h) m ?_ (λm2 hm2=>?_);simp[go_sem,IO];subst hm2;refine AX 0 (α:=Option Nat) (λo=>[(0,FN),(5,AW 11 o ((R (i+1)).map AB.enc)),(10,AK l),(11,AA l.length),(12,AA i)]) (λo=>AV o ((R (i+1)).map AB.enc) h) (λo m=>n<=m/\BR n m 11 o ((R (i+1)).map AB.enc)) ?_ (λo m hm=>?_)
     . rw[hE2];refine AY ?_;refine B8 0 (α:=Nat) (λp=>[(0,FN),(5,AW 11 o E),(10,AK l),(11,AA l.length),(12,AA i),(7,.ptr p 0)]) (λp=>hset (AV o E h) p (some (.cells [AA x.kind,AA x.code,AA x.id,.str x.text,AU x.head.props,AA x.head.ins,AA x.head.move,Ax x.head.dels,Ai x.head.layers,AK x.flow,Aw x.rows]))) (λp m2=>m<=p/\p<m2) ?_ (λp m2 hm2=>?_);simp[go_sem,IO,hlt,hx,qw,AD,Ah];exact⟨m,by omega,rfl,AC⟩;have hXb2:∀j y,AV o E h j=some y->j<p:=λj y e=>by have:=hXb j y e;omega
       have hYb:∀y j z,hset (AV o E h) p y j=some z->j<m2:=λy j z e=>by
        by_cases h:j=p;omega;rw[AE _ _ h]at e;have:=hXb2 j z e;omega
       have hcall:=hR x.head x1;rw[AB.rl_eq];obtain⟨d,hd⟩:∃d,δ x.head=d:=⟨_,rfl⟩
       rw[hd]at hcall ⊢;refine Aa 1 [(0,FN),(5,AW 11 o E),(10,AK l),(11,AA l.length),(12,AA i),(7,.ptr p 0),(8,.iptr (d.getD DN).flat),(9,.bool d.isSome)] (hset (AV o E h) p (some (.cells [AA x.kind,AA x.code,AA x.id,.str x.text,AU x.head.props,AA x.head.ins,AA x.head.move,Ax x.head.dels,Ai x.head.layers,AK x.flow,Aw x.rows]))) m2 ?_ (λm3 hm3=>?_);rw[hFN];simp only[AF.enc,AF.flat,qx,qE,qj]at hcall;simp[go_sem,AF.flat,AD];refine qz hcall ?_;simp[go_sem,IO,AD];exact⟨AZ (AS (hYb _) (qa _)) (AD _ _ _),AL (hYb _) (AL (hYb _) AC)⟩;cases d with
       | none=>
        refine AJ ?_;simp[go_sem,IO];exact⟨o,⟨by omega,hA.mono (by omega)⟩,rfl,AL hXb2 AC⟩
       | some h'=>
        simp only[qK,vR,vG];clear hcall hd;refine CG 0 [(0,FN),(5,AW 11 o E),(10,AK l),(11,AA l.length),(12,AA i),(7,.ptr p 0),(8,.iptr h'.flat)] (hset (AV o E h) p (some (.cells [AA x.kind,AA x.code,AA x.id,.str x.text,AU x.head.props,AA x.head.ins,AA x.head.move,Ax x.head.dels,Ai x.head.layers,AK x.flow,Aw x.rows]))) m3 (AJ ?_) (λm4 hm4=>?_);simp[go_sem,IO];subst hm4;refine B5 0 [(0,FN),(5,AW 11 o E),(10,AK l),(11,AA l.length),(12,AA i),(7,.ptr p 0)] (hset (AV o E h) p (some (.cells [AA x.kind,AA x.code,AA x.id,.str x.text,AU h'.props,AA h'.ins,AA h'.move,Ax h'.dels,Ai h'.layers,AK x.flow,Aw x.rows]))) m3 ?_ (λm4 hm4=>?_);simp[go_sem,IO,AF.flat,AD,Ah];subst hm4;obtain⟨r2,hr2⟩:∃r,r=(if x.kind=6 then some (AB.mk x.kind x.code x.id x.text h' (AB.rlL δ x.flow) x.rows)else if x.kind=7 then(if(x.rows.filterMap (AP.rl δ)).length=0 then none else some (.mk x.kind x.code x.id x.text h' x.flow (x.rows.filterMap (AP.rl δ))))else some (.mk x.kind x.code x.id x.text h' x.flow x.rows)):=⟨_,rfl⟩
        rw[<-hr2];refine AX 1 (α:=AB) (λz=>[(0,FN),(5,AW 11 o E),(10,AK l),(11,AA l.length),(12,AA i),(7,.iptr [AA z.kind,AA z.code,AA z.id,.str z.text,AU z.head.props,AA z.head.ins,AA z.head.move,Ax z.head.dels,Ai z.head.layers,AK z.flow,Aw z.rows])]) (λ_=>AV o E h) (λz m5=>m3<=m5/\r2=some z) ?_ (λz m5 hm5=>?_);refine B5 0 [(0,FN),(5,AW 11 o E),(10,AK l),(11,AA l.length),(12,AA i),(7,.ptr p 0),(28,AA x.kind)] (hset (AV o E h) p (some (.cells [AA x.kind,AA x.code,AA x.id,.str x.text,AU h'.props,AA h'.ins,AA h'.move,Ax h'.dels,Ai h'.layers,AK x.flow,Aw x.rows]))) m3 ?_ (λm4 hm4=>?_);simp[go_sem,IO,AD];subst hm4;by_cases k6:x.kind=6;rw[if_pos k6]at hr2;have hc3:=hit x.flow x3;generalize AB.rlL δ x.flow=q3 at hc3 hr2;refine AJ ?_;simp[go_sem,AD,k6];refine qz hc3 ?_;simp[go_sem,IO,AD,Ah,hr2];simp[AB.kind,AB.code,AB.id,AB.text,AB.head,AB.flow,AB.rows];exact⟨AZ (AS hXb2 (qa _)) (by rw[AD];cases x;simp only[AB.kind]at k6;subst k6;rfl),AL hXb2 AC⟩;rw[if_neg k6]at hr2;by_cases k7:x.kind=7;rw[if_pos k7]at hr2;have hc3:=hrow x.rows x4 x5;generalize x.rows.filterMap (AP.rl δ)=q3 at hc3 hr2;by_cases z:q3=[];subst z;have hr2:r2=none:=by rw[hr2];rfl
        refine AJ ?_;simp[go_sem,AD,k7];refine qz hc3 ?_;simp[go_sem,IO,AD,Ah,hr2];exact⟨o,⟨by omega,hA.mono (by omega)⟩,rfl,AL hXb2 AC⟩;have z1:q3.length≠0:=λe=>z (vu e);rw[if_neg z1]at hr2;refine AJ ?_;simp[go_sem,AD,k7];refine qz hc3 ?_;simp[go_sem,IO,AD,Ah,hr2,z];simp[AB.kind,AB.code,AB.id,AB.text,AB.head,AB.flow,AB.rows];exact⟨AZ (AS hXb2 (qa _)) (by rw[AD];cases x;simp only[AB.kind]at k7;subst k7;rfl),AL hXb2 AC⟩;rw[if_neg k7]at hr2;refine AJ ?_;simp[go_sem,IO,k6,k7,hr2];simp[AB.kind,AB.code,AB.id,AB.text,AB.head,AB.flow,AB.rows];exact⟨AZ (AS hXb2 (qa _)) (by rw[AD]),AL hXb2 AC⟩
        . obtain⟨hm5,hz⟩:=hm5;rw[hz];simp only[Option.toList_some,qr,kE];refine AJ ?_;simp[go_sem];have hpush:=hA.push (j:=m5+1) (m':=m5+1+1) (e:=z.enc) (AB.E.st _) (AB.E.len _) (by omega) (by omega);rw[Fa (es:=E) (e:=z.enc) (o:=o) (t:=22) (t2:=22) (el:=70) (z:=11) (by simp[go_sem]) (by simp[go_sem]) (by simp[go_sem]) (by simp) (by simp[go_sem]) (by simp[go_sem]) (by simp[go_sem]) (by omega) hA (AB.E.len _) ?a1 ?a2]
          case a1=>simp[AD,qw,SV.cells]
          case a2=>
           intro j e;have:=(hA.lt j e).2;rw[AE _ _ (by omega)];exact FX j e
          have hlive:=D7 (p:=m5+1) (v:=.sl (m5+1) 0 11 (E.length+1) false) (e:=z.enc) hHb (by omega) hA (H:=hset (AV o E h) m5 (some (.cells z.enc.cells))) (AL (λj z e=>by have:=hHb j z e;omega) (Eb hHb hA));have hvv:AW 11 (some (m5+1)) (E++[z.enc])=.sl (m5+1) 0 11 (E.length+1) false:=by simp[AW]
          simp[go_sem];exact⟨some (m5+1),⟨by omega,hpush⟩,hvv.symm,by simpa[C5.app,qw,SV.cells]using hlive⟩
     refine AJ ?_;simp[go_sem,w1,IO,-Int.natCast_add];exact⟨i+1,by omega,o,⟨by omega,hm.1,hm.2⟩,⟨rfl,rfl⟩,AC⟩
   have:i=l.length:=by omega
   subst this;refine AJ ?_;simp[go_sem];exact⟨o,⟨hnm,hA⟩,rfl,AC⟩
 refine AJ ?_;simp[go_sem];rw[hRl]at hm ⊢;exact I1 ho hm.2 (λe he=>by obtain⟨x,_,rfl⟩:=ql.1 he;exact AB.cl n x)
theorem bZ (d:Xu g a b δ ok) {K:Nat} (f:K<=1048576):∀(N:Nat) (l:List AB),Dq ok K N l->PC 164 [.fn (.func g) a b,AK l] (AK (AB.rlL δ l))
 | 0,_,h=>h.elim
 | N+1,l,H=>by
  obtain⟨h1,_,e⟩:=Ci.1 H;refine iR (P:=Dq ok K N) d (λl hl=>bZ d f N l hl) l (by omega) λx i=>?_;obtain⟨a1,a2,a3,a4⟩:=e x i;exact⟨a1,a2,by omega,λr c=>⟨(a4 r c).1,by have:=(a4 r c).2.1;omega,(a4 r c).2.2⟩⟩
end
def EC (f:FuncId) (args:List SV):Prop:=∃e:Int,PC f args (AA e)
theorem EC.fam {f:FuncId} {A:Nat->List SV} {N:Nat} (h:∀j,j<N->EC f (A j)):∃F:Nat->Int,∀j,j<N->PC f (A j) (AA (F j)):=by
 have h2:∀j,∃e:Int,j<N->PC f (A j) (AA e):=λj=>by
  by_cases g:j<N;obtain⟨e,a⟩:=h j g;exact⟨e,λ_=>a⟩;exact⟨0,λk=>absurd k g⟩
 exact⟨λj=>(h2 j).choose,λj g=>(h2 j).choose_spec g⟩
theorem e83 (s:AI) (h1:EC 146 [Aj s.styles]) (h2:EC 147 [Dg s.lists]) (i:EC 148 [Bd s.comments]) (k:EC 149 [Fs s.vars]):EC 83 [s.enc]:=by
 obtain⟨c,h1⟩:=h1;obtain⟨d,h2⟩:=h2;obtain⟨f,i⟩:=i;obtain⟨g,k⟩:=k;refine⟨Bc [c,d,f,g],?_⟩;intro h n;refine DO Tryz.func83 rfl λl=>?_;have a:=l.lt;refine Aa 1 [(1,.iptr s.flat)] h n ?_ (λm o=>?_);simp[go_sem,AI.enc,AI.flat];exact⟨AZ (AS a (qa _)) (AD _ _ _),AL a AC⟩;refine AX 0 (α:=Unit) (λ_=>[(2,AA (Bc [c,d,f,g]))]) (λ_=>h) (λ_ m=>n<=m) (CK trS rfl (by kernel_rfl) (by kernel_rfl) ?_) (λ_ m o=>?_);have b:∀j y,h j=some y->j<m:=λj y e=>by have:=a j y e;omega
 simp[go_sem,trS,AI.flat];refine qz h1 ?_;simp[go_sem];refine qz h2 ?_;simp[go_sem];refine qz i ?_;simp[go_sem];refine qz k ?_;simp[go_sem];refine wn (bs:=[.imm 1 ([c,d,f,g].map AA) false]) (h2:=h) 1 (AL b AC) ⟨?_,trivial⟩ ?_;exact Cz (es:=[AA c,AA d,AA f,AA g]) (AS b (qa _)) (by simp) (by rw[AD];simp[SV.cells]) (by simp[SV.storable,SV.cells]);refine(Sa _ (by simp)).use ?_;simp[go_sem,IO];omega;refine AJ ?_;simp[go_sem];exact As l rfl rfl
theorem iu (l:List GQ) (hl:l.length<=1048576) (hc:∀i,i<l.length->EC 210 [AA i,.iptr [Dg l]]):EC 147 [Dg l]:=by
 obtain⟨F,d⟩:=EC.fam (A:=λi=>[AA i,.iptr [Dg l]]) hc;refine⟨Bc [if(64:Int)<l.length then 9 else 0,CD F (min l.length 64)],?_⟩;intro h n;refine DO Tryz.func147 rfl λc=>?_;have a:=c.lt;refine Aa 1 [(1,.iptr [Dg l])] h n ?_ (λm g=>?_);simp[go_sem];exact⟨AZ (AS a (qa _)) (AD _ _ _),AL a AC⟩;refine AX 0 (α:=Unit) (λ_=>[(2,AA (Bc [if(64:Int)<l.length then 9 else 0,CD F (min l.length 64)]))]) (λ_=>h) (λ_ m=>n<=m) (CK bE rfl (by kernel_rfl) (by kernel_rfl) ?_) (λ_ m g=>?_);have b:∀j y,h j=some y->j<m:=λj y e=>by have:=a j y e;omega
 have f:(if(64:Int)<l.length then(64:Int)else l.length)=((min l.length 64:Nat):Int):=by split<;>omega
 simp[go_sem,bE];refine(Ki _ _).use ?_;simp[go_sem,f];refine(X9 (min l.length 64) (by omega) 210 [] [.iptr [Dg l]] F (λj hj=>d j (by omega))).use ?_;simp[go_sem];generalize CD F (min l.length 64)=e2;generalize(if 64<(l.length:Int)then(9:Int)else 0)=e1;refine wn (bs:=[.imm 1 ([e1,e2].map AA) false]) (h2:=h) 1 (AL b AC) ⟨?_,trivial⟩ ?_;exact Cz (es:=[AA e1,AA e2]) (AS b (qa _)) (by simp) (by rw[AD];simp[SV.cells]) (by simp[SV.storable,SV.cells]);refine(Sa _ (by simp)).use ?_;simp[go_sem,IO];omega;refine AJ ?_;simp[go_sem];exact As c rfl rfl
theorem iv (l:List A9) (hl:l.length<=1048576) (hc:∀i,i<l.length->EC 213 [AA i,.iptr [Bd l]]):EC 148 [Bd l]:=by
 obtain⟨F,d⟩:=EC.fam (A:=λi=>[AA i,.iptr [Bd l]]) hc;refine⟨Bc [if(1024:Int)<l.length then 9 else 0,CD F (min l.length 1024)],?_⟩;intro h n;refine DO Tryz.func148 rfl λc=>?_;have a:=c.lt;refine Aa 1 [(1,.iptr [Bd l])] h n ?_ (λm g=>?_);simp[go_sem];exact⟨AZ (AS a (qa _)) (AD _ _ _),AL a AC⟩;refine AX 0 (α:=Unit) (λ_=>[(2,AA (Bc [if(1024:Int)<l.length then 9 else 0,CD F (min l.length 1024)]))]) (λ_=>h) (λ_ m=>n<=m) (CK bE rfl (by kernel_rfl) (by kernel_rfl) ?_) (λ_ m g=>?_);have b:∀j y,h j=some y->j<m:=λj y e=>by have:=a j y e;omega
 have f:(if(1024:Int)<l.length then(1024:Int)else l.length)=((min l.length 1024:Nat):Int):=by split<;>omega
 simp[go_sem,bE];refine(Ki _ _).use ?_;simp[go_sem,f];refine(X9 (min l.length 1024) (by omega) 213 [] [.iptr [Bd l]] F (λj hj=>d j (by omega))).use ?_;simp[go_sem];generalize CD F (min l.length 1024)=e2;generalize(if 1024<(l.length:Int)then(9:Int)else 0)=e1;refine wn (bs:=[.imm 1 ([e1,e2].map AA) false]) (h2:=h) 1 (AL b AC) ⟨?_,trivial⟩ ?_;exact Cz (es:=[AA e1,AA e2]) (AS b (qa _)) (by simp) (by rw[AD];simp[SV.cells]) (by simp[SV.storable,SV.cells]);refine(Sa _ (by simp)).use ?_;simp[go_sem,IO];omega;refine AJ ?_;simp[go_sem];exact As c rfl rfl
theorem iw (l:List GY) (hl:l.length<=1048576) (hc:∀i,i<l.length->EC 218 [AA i,.iptr [Fs l]]):EC 149 [Fs l]:=by
 obtain⟨F,d⟩:=EC.fam (A:=λi=>[AA i,.iptr [Fs l]]) hc;refine⟨Bc [if(128:Int)<l.length then 9 else 0,CD F (min l.length 128)],?_⟩;intro h n;refine DO Tryz.func149 rfl λc=>?_;have a:=c.lt;refine Aa 1 [(1,.iptr [Fs l])] h n ?_ (λm g=>?_);simp[go_sem];exact⟨AZ (AS a (qa _)) (AD _ _ _),AL a AC⟩;refine AX 0 (α:=Unit) (λ_=>[(2,AA (Bc [if(128:Int)<l.length then 9 else 0,CD F (min l.length 128)]))]) (λ_=>h) (λ_ m=>n<=m) (CK bE rfl (by kernel_rfl) (by kernel_rfl) ?_) (λ_ m g=>?_);have b:∀j y,h j=some y->j<m:=λj y e=>by have:=a j y e;omega
 have f:(if(128:Int)<l.length then(128:Int)else l.length)=((min l.length 128:Nat):Int):=by split<;>omega
 simp[go_sem,bE];refine(Ki _ _).use ?_;simp[go_sem,f];refine(X9 (min l.length 128) (by omega) 218 [] [.iptr [Fs l]] F (λj hj=>d j (by omega))).use ?_;simp[go_sem];generalize CD F (min l.length 128)=e2;generalize(if 128<(l.length:Int)then(9:Int)else 0)=e1;refine wn (bs:=[.imm 1 ([e1,e2].map AA) false]) (h2:=h) 1 (AL b AC) ⟨?_,trivial⟩ ?_;exact Cz (es:=[AA e1,AA e2]) (AS b (qa _)) (by simp) (by rw[AD];simp[SV.cells]) (by simp[SV.storable,SV.cells]);refine(Sa _ (by simp)).use ?_;simp[go_sem,IO];omega;refine AJ ?_;simp[go_sem];exact As c rfl rfl
theorem iz (l:List GQ) (hl:l.length<=1048576) (i:Nat) (hi:i<l.length) (hc:EC 212 [DV (l[i]).levels]):EC 210 [AA i,.iptr [Dg l]]:=by
 obtain⟨d,hc⟩:=hc;obtain⟨a,g⟩:∃a,a=Gb (λj=>match l[j]? with|some r=>r.id|none=>0) i:=⟨_,rfl⟩
 refine⟨Bc [a,d],?_⟩;intro h n;refine DO Tryz.func210 rfl λk=>?_;have f:=k.lt;obtain⟨x,o⟩:∃x,l[i]=x:=⟨_,rfl⟩
 rw[o]at hc;refine Aa 0 [(0,AA i),(1,.iptr [Dg l])] h n ?_ (λm q=>?_);simp[go_sem,IO];refine AX 0 (α:=Unit) (λ_=>[(3,AA (Bc [a,d]))]) (λ_=>h) (λ_ m=>n<=m) (CK trO rfl (by kernel_rfl) (by kernel_rfl) ?_) (λ_ m q=>?_);have b:∀j y,h j=some y->j<m:=λj y e=>by have:=f j y e;omega
 simp[go_sem,trO,hi,o,GQ.enc];have p:∀j,j<=i->PC 211 ([]++[AA j]++[.iptr [Dg l]]) (AA (match l[j]? with|some r=>r.id|none=>0)):=λj hj=>by
  have c:j<l.length:=by omega
  simpa[c]using ff l j c
 refine(Zo i (by omega) 211 [] [.iptr [Dg l]] (λj=>match l[j]? with|some r=>r.id|none=>0) p).use ?_;rw[<-g];simp[go_sem];refine hc.use ?_;simp[go_sem];refine wn (bs:=[.imm 1 ([a,d].map AA) false]) (h2:=h) 1 (AL b AC) ⟨?_,trivial⟩ ?_;exact Cz (es:=[AA a,AA d]) (AS b (qa _)) (by simp) (by rw[AD];simp[SV.cells]) (by simp[SV.storable,SV.cells]);refine(Sa _ (by simp)).use ?_;simp[go_sem,IO];omega;refine AJ ?_;simp[go_sem];exact As k rfl rfl
theorem i7 (l:List A9) (hl:l.length<=1048576) (H:∀x∈l,x.author.size<=1048576/\x.text.size<=1048576) (i:Nat) (hi:i<l.length):EC 213 [AA i,.iptr [Bd l]]:=by
 obtain⟨x,E⟩:∃x,l[i]=x:=⟨_,rfl⟩
 obtain⟨b,hb⟩:∃b:Bool,b=(decide (x.parent=0)||Jo (λj=>match(l.take i)[j]? with|some y=>decide (y.id=x.parent)|none=>false) (l.take i).length):=⟨_,rfl⟩
 obtain⟨d,A⟩:∃d,d=Gb (λj=>match l[j]? with|some r=>r.id|none=>0) i:=⟨_,rfl⟩
 obtain⟨e,G⟩:∃e,e=Bc [d,if b=false then 8 else 0,if Dc x.author=false then 39 else 0,if x.time<0\/1099511627776<x.time then 40 else 0,Jg x.text]:=⟨_,rfl⟩
 refine⟨e,?_⟩;intro h n;refine DO Tryz.func213 rfl λD=>?_;have a:=D.lt;have hxs:=H x (by rw[<-E];exact qi hi);obtain⟨X,z⟩:∃X:SV,X=.iptr [AA x.id,AA x.parent,.str x.author,AA x.time,.str x.text,.bool x.done]:=⟨_,rfl⟩
 refine B5 0 [(0,AA i),(1,.iptr [Bd l])] h n ?_ (λm c=>?_);simp[go_sem,IO];subst c;refine Aa 1 [(0,AA i),(1,.iptr [Bd l]),(4,X)] h n ?_ (λm c=>?_);rw[z];simp[go_sem,IO,hi,E,A9.enc,AD];exact⟨AZ (AS a (qa _)) (AD _ _ _),AL a (AL a AC)⟩;refine Aa 0 [(0,AA i),(1,.iptr [Bd l]),(4,X),(5,.bool b)] h n ?_ (λm c=>?_)
 . rw[z];by_cases s:x.parent=0;have:b=true:=by rw[hb];simp[s]
   simp[go_sem,s,IO,c,this]
   . have B:i<=l.length:=by omega
     have hc:=fg (l.take i) (by simp;omega) 215 [] [.iptr [AA x.id,AA x.parent,.str x.author,AA x.time,.str x.text,.bool x.done]] (λj=>match(l.take i)[j]? with|some y=>decide (y.id=x.parent)|none=>false) (λj C=>by rw[qe C];exact fh x _);have F8:Jo (λj=>match(l.take i)[j]? with|some y=>decide (y.id=x.parent)|none=>false) (l.take i).length=b:=by rw[hb];simp[s]
     rw[F8]at hc;rw[vp]at hc;simp[go_sem,s,B,-List.map_take];refine qz hc ?_;simp[go_sem,IO,c,s]
 refine AX 0 (α:=Unit) (λ_=>[(3,AA e)]) (λ_=>h) (λ_ m=>n<=m) (CK trT rfl (by kernel_rfl) (by kernel_rfl) ?_) (λ_ m c=>?_);have f:∀j y,h j=some y->j<m:=λj y e=>by have:=a j y e;omega
 rw[z];simp[go_sem,trT];have F:∀j,j<=i->PC 216 ([]++[AA j]++[.iptr [Bd l]]) (AA (match l[j]? with|some r=>r.id|none=>0)):=λj C=>by
  have q:j<l.length:=by omega
  simpa[q]using fi l j q
 refine(Zo i (by omega) 216 [] [.iptr [Bd l]] (λj=>match l[j]? with|some r=>r.id|none=>0) F).use ?_;rw[<-A];simp[go_sem];refine(Ki _ _).use ?_;simp[go_sem];refine(bW x.author (by omega)).use ?_;simp[go_sem];refine(Ki _ _).use ?_;simp[go_sem];refine(LW _ _ _).use ?_;simp[go_sem];refine(Ki _ _).use ?_;simp[go_sem];refine(Zs x.text (by omega)).use ?_;simp[go_sem];obtain⟨t,g⟩:∃t,t=(if b=false then(8:Int)else 0):=⟨_,rfl⟩
 obtain⟨u,k⟩:∃u,u=(if Dc x.author=false then(39:Int)else 0):=⟨_,rfl⟩
 obtain⟨v,o⟩:∃v,v=(if x.time<0\/1099511627776<x.time then(40:Int)else 0):=⟨_,rfl⟩
 obtain⟨w,p⟩:∃w,w=Jg x.text:=⟨_,rfl⟩
 rw[<-g,<-k,<-o,<-p];refine wn (bs:=[.imm 1 ([d,t,u,v,w].map AA) false]) (h2:=h) 1 (AL f AC) ⟨?_,trivial⟩ ?_;exact Cz (es:=[AA d,AA t,AA u,AA v,AA w]) (AS f (qa _)) (by simp) (by rw[AD];simp[SV.cells]) (by simp[SV.storable,SV.cells]);refine(Sa _ (by simp)).use ?_;simp[go_sem];exact⟨by omega,by rw[G,<-g,<-k,<-o,<-p];exact IO⟩;refine AJ ?_;simp[go_sem];exact As D rfl rfl
def U2 (x:AB):Bool:=decide (x.kind=8)&&decide (x.code=1)
def cX (x:AB):Bool:=decide (x.kind=1)||decide (x.kind=5)||U2 x
def ZJ (x:AB):Bool:=decide (x.kind=6)||decide (x.kind=7)||decide (x.kind=8)
def Wa (x:AB):Bool:=if x.kind=4 then decide (1<=x.code/\x.code<=3)else if x.kind=6 then decide (1<=x.code/\x.code<=2)else if x.kind=8 then decide (1<=x.code/\x.code<=4)else true
def ZK (x:AB):Bool:=decide (x.kind=4)||decide (x.kind=6)||decide (x.kind=8)
def P6 (x:AB):Bool:=!decide (1<=x.kind/\x.kind<=8) || !Wa x
def Ni (x:AB):Bool:=(!ZK x&&decide (x.code≠0))||(!ZJ x&&decide (x.id≠0))||(!cX x&&decide (x.text.toList≠[]))||(decide (x.kind≠6)&&decide (0<x.flow.length))||(decide (x.kind≠7)&&decide (0<x.rows.length))
def IU (x:AB):Bool:=(decide (x.kind=1)||decide (x.kind=5))&&decide (x.text.toList=[])
def Kv (x:AB):Bool:=decide (x.kind=5)&&decide ((1024:Int)<x.text.size)
def G7 (x:AB):Int:=if P6 x then 3 else if Ni x then 15 else if A5 x.text=false then 12 else if IU x then 11 else if Kv x then 10 else if U2 x && !Fb x.text then 13 else 0
set_option maxHeartbeats 2000000 in
theorem fj (x:AB) (S:x.sized):PC 222 [x.enc] (AA (G7 x)):=by
 obtain⟨u,KL⟩:∃b,b=U2 x:=⟨_,rfl⟩
 obtain⟨w,TD⟩:∃b,b=cX x:=⟨_,rfl⟩
 obtain⟨G,Xn⟩:∃b,b=ZJ x:=⟨_,rfl⟩
 obtain⟨P,Qh⟩:∃b,b=Wa x:=⟨_,rfl⟩
 obtain⟨L,v⟩:∃b,b=ZK x:=⟨_,rfl⟩
 obtain⟨A,E⟩:∃b,b=P6 x:=⟨_,rfl⟩
 obtain⟨B,F⟩:∃b,b=Ni x:=⟨_,rfl⟩
 obtain⟨s,i⟩:∃b,b=IU x:=⟨_,rfl⟩
 obtain⟨t,q⟩:∃b,b=Kv x:=⟨_,rfl⟩
 obtain⟨r,C⟩:∃b,b = !A5 x.text:=⟨_,rfl⟩
 obtain⟨l,D⟩:∃b,b=(U2 x && !Fb x.text):=⟨_,rfl⟩
 obtain⟨V,p⟩:∃V:Int,V=if A then 3 else if B then 15 else if r then 12 else if s then 11 else if t then 10 else if l then 13 else 0:=⟨_,rfl⟩
 have J:V=G7 x:=by
  rw[p,G7,E,F,C,i,q,D];cases A5 x.text<;>rfl
 rw[<-J];have a:B=((!L&&decide (x.code≠0))||(!G&&decide (x.id≠0))||(!w&&decide (x.text.toList≠[]))||(decide (x.kind≠6)&&decide (0<x.flow.length))||(decide (x.kind≠7)&&decide (0<x.rows.length))):=by rw[F,Ni,v,Xn,TD]
 have N:w=(decide (x.kind=1)||decide (x.kind=5)||u):=by rw[TD,cX,KL]
 have I:A=(!decide (1<=x.kind/\x.kind<=8) || !P):=by rw[E,P6,Qh]
 have H:l=(u && !Fb x.text):=by rw[D,KL]
 intro h n;refine DO Tryz.func222 rfl λQ=>?_;obtain⟨X,y⟩:∃X:SV,X=.iptr [AA x.kind,AA x.code,AA x.id,.str x.text,AU x.head.props,AA x.head.ins,AA x.head.move,Ax x.head.dels,Ai x.head.layers,AK x.flow,Aw x.rows]:=⟨_,rfl⟩
 refine Aa 1 [(1,X)] h n ?_ (λm d=>?_);rw[y];simp[go_sem,qw];exact⟨AZ (Q.none (qa n)) (AD _ _ _),AL (λj z e=>(Q j z e).1) AC⟩;refine Aa 0 [(1,X),(3,.bool u)] h n ?_ (λm d=>?_);rw[y];by_cases k:x.kind=8;by_cases c:x.code=1;simp[go_sem,IO,k,c,d,KL,U2];simp[go_sem,IO,k,c,beq_eq_false_iff_ne.2 c,d,KL,U2];simp[go_sem,IO,k,d,KL,U2];refine Aa 0 [(1,X),(3,.bool u),(4,.bool w)] h n ?_ (λm d=>?_);rw[y];by_cases k:x.kind=1;simp[go_sem,IO,k,d,N];by_cases o:x.kind=5;simp[go_sem,IO,o,d,N];simp[go_sem,IO,k,o,d,N];refine Aa 0 [(1,X),(3,.bool u),(4,.bool w),(5,.bool G)] h n ?_ (λm d=>?_);rw[y];by_cases k:x.kind=6;simp[go_sem,IO,k,d,Xn,ZJ];by_cases o:x.kind=7;simp[go_sem,IO,o,d,Xn,ZJ];by_cases k8:x.kind=8;simp[go_sem,IO,k8,d,Xn,ZJ];simp[go_sem,IO,k,o,k8,beq_eq_false_iff_ne.2 k8,d,Xn,ZJ];refine Aa 0 [(1,X),(3,.bool u),(4,.bool w),(5,.bool G),(6,.bool true)] h n ?_ (λm d=>?_);simp[go_sem,IO,d];refine Aa 0 [(1,X),(3,.bool u),(4,.bool w),(5,.bool G),(6,.bool P)] h n ?_ (λm d=>?_);rw[y];by_cases k:x.kind=4;simp[go_sem,k];refine qz (LW _ _ _) ?_;by_cases c:1<=x.code/\x.code<=3;simp[go_sem,IO,k,d,Qh,Wa,c];simp[go_sem,IO,k,d,Qh,Wa,c];by_cases M:x.kind=6;simp[go_sem,M];refine qz (LW _ _ _) ?_;by_cases c:1<=x.code/\x.code<=2;simp[go_sem,IO,M,d,Qh,Wa,c];simp[go_sem,IO,M,d,Qh,Wa,c];by_cases k3:x.kind=8;simp[go_sem,k3];refine qz (LW _ _ _) ?_;by_cases c:1<=x.code/\x.code<=4;simp[go_sem,IO,k3,d,Qh,Wa,c];simp[go_sem,IO,k3,d,Qh,Wa,c];simp[go_sem,IO,k,M,k3,d,Qh,Wa];refine Aa 0 [(1,X),(3,.bool u),(4,.bool w),(5,.bool G),(6,.bool P),(7,.bool L)] h n ?_ (λm d=>?_);rw[y];by_cases k:x.kind=4;simp[go_sem,IO,k,d,v,ZK];by_cases o:x.kind=6;simp[go_sem,IO,o,d,v,ZK];by_cases k8:x.kind=8;simp[go_sem,IO,k8,d,v,ZK];simp[go_sem,IO,k,o,k8,beq_eq_false_iff_ne.2 k8,d,v,ZK];have out:∀(e:Int) (m:Nat),V=e->CO n h m (AA e) (Is (AA V) h n):=λe m R=>As Q rfl (by rw[R]);refine Bg 0 [] h (λm=>n<=m/\V=0) ?_ (λm d=>?_)
 . refine AY ?_;refine Aa 0 [(1,X),(3,.bool u),(4,.bool w),(5,.bool G),(7,.bool L),(70,.bool A)] h n ?_ (λm d=>?_);rw[y];simp[go_sem];refine qz (LW _ _ _) ?_;by_cases c:1<=x.kind/\x.kind<=8;simp[go_sem,IO,c,d,I];simp[go_sem,IO,c,d,I];refine Au (b:=A) (by simp[go_sem]) ?_;cases A with
   | true=>exact AJ (by simp[go_sem];exact out 3 _ (by rw[p];rfl))
   | false=>
   simp only[qn,if_false]at p ⊢;clear F v Xn TD N E I J;refine Aa 0 [(1,X),(3,.bool u),(79,.bool B)] h n ?_ (λm d=>?_);rw[y];clear out p;cases L with
   | true =>
    cases G with
    | true =>
     cases w with
     | true=>
      by_cases k6:x.kind=6;by_cases r0:x.rows=[];simp[go_sem,IO,d,k6,r0,a];have f:0<x.rows.length:=qH.2 r0;simp[go_sem,IO,d,k6,f,a];by_cases f0:x.flow=[];by_cases k7:x.kind=7;simp[go_sem,IO,d,f0,k7,a];by_cases r0:x.rows=[];simp[go_sem,IO,d,k6,f0,k7,r0,a];have f:0<x.rows.length:=qH.2 r0;simp[go_sem,IO,d,k6,f0,k7,f,a];have f1:0<x.flow.length:=qH.2 f0;simp[go_sem,IO,d,k6,f1,a]
     | false=>
      by_cases t0:x.text.toList=[];by_cases k6:x.kind=6;by_cases r0:x.rows=[];simp[go_sem,IO,d,t0,k6,r0,a];have f:0<x.rows.length:=qH.2 r0;simp[go_sem,IO,d,t0,k6,f,a];by_cases f0:x.flow=[];by_cases k7:x.kind=7;simp[go_sem,IO,d,t0,f0,k7,a];by_cases r0:x.rows=[];simp[go_sem,IO,d,t0,k6,f0,k7,r0,a];have f:0<x.rows.length:=qH.2 r0;simp[go_sem,IO,d,t0,k6,f0,k7,f,a];have f1:0<x.flow.length:=qH.2 f0;simp[go_sem,IO,d,t0,k6,f1,a];simp[go_sem,IO,d,t0,a]
    | false=>
     by_cases g:x.id=0;cases w with
     | true=>
      by_cases k6:x.kind=6;by_cases r0:x.rows=[];simp[go_sem,IO,d,g,k6,r0,a];have f:0<x.rows.length:=qH.2 r0;simp[go_sem,IO,d,g,k6,f,a];by_cases f0:x.flow=[];by_cases k7:x.kind=7;simp[go_sem,IO,d,g,f0,k7,a];by_cases r0:x.rows=[];simp[go_sem,IO,d,g,k6,f0,k7,r0,a];have f:0<x.rows.length:=qH.2 r0;simp[go_sem,IO,d,g,k6,f0,k7,f,a];have f1:0<x.flow.length:=qH.2 f0;simp[go_sem,IO,d,g,k6,f1,a]
     | false=>
      by_cases t0:x.text.toList=[];by_cases k6:x.kind=6;by_cases r0:x.rows=[];simp[go_sem,IO,d,g,t0,k6,r0,a];have f:0<x.rows.length:=qH.2 r0;simp[go_sem,IO,d,g,t0,k6,f,a];by_cases f0:x.flow=[];by_cases k7:x.kind=7;simp[go_sem,IO,d,g,t0,f0,k7,a];by_cases r0:x.rows=[];simp[go_sem,IO,d,g,t0,k6,f0,k7,r0,a];have f:0<x.rows.length:=qH.2 r0;simp[go_sem,IO,d,g,t0,k6,f0,k7,f,a];have f1:0<x.flow.length:=qH.2 f0;simp[go_sem,IO,d,g,t0,k6,f1,a];simp[go_sem,IO,d,g,t0,a]
     simp[go_sem,IO,d,g,a]
   | false=>
    by_cases c0:x.code=0;cases G with
    | true =>
     cases w with
     | true=>
      by_cases k6:x.kind=6;by_cases r0:x.rows=[];simp[go_sem,IO,d,c0,k6,r0,a];have f:0<x.rows.length:=qH.2 r0;simp[go_sem,IO,d,c0,k6,f,a];by_cases f0:x.flow=[];by_cases k7:x.kind=7;simp[go_sem,IO,d,c0,f0,k7,a];by_cases r0:x.rows=[];simp[go_sem,IO,d,c0,k6,f0,k7,r0,a];have f:0<x.rows.length:=qH.2 r0;simp[go_sem,IO,d,c0,k6,f0,k7,f,a];have f1:0<x.flow.length:=qH.2 f0;simp[go_sem,IO,d,c0,k6,f1,a]
     | false=>
      by_cases t0:x.text.toList=[];by_cases k6:x.kind=6;by_cases r0:x.rows=[];simp[go_sem,IO,d,c0,t0,k6,r0,a];have f:0<x.rows.length:=qH.2 r0;simp[go_sem,IO,d,c0,t0,k6,f,a];by_cases f0:x.flow=[];by_cases k7:x.kind=7;simp[go_sem,IO,d,c0,t0,f0,k7,a];by_cases r0:x.rows=[];simp[go_sem,IO,d,c0,t0,k6,f0,k7,r0,a];have f:0<x.rows.length:=qH.2 r0;simp[go_sem,IO,d,c0,t0,k6,f0,k7,f,a];have f1:0<x.flow.length:=qH.2 f0;simp[go_sem,IO,d,c0,t0,k6,f1,a];simp[go_sem,IO,d,c0,t0,a]
    | false=>
     by_cases g:x.id=0;cases w with
     | true=>
      by_cases k6:x.kind=6;by_cases r0:x.rows=[];simp[go_sem,IO,d,c0,g,k6,r0,a];have f:0<x.rows.length:=qH.2 r0;simp[go_sem,IO,d,c0,g,k6,f,a];by_cases f0:x.flow=[];by_cases k7:x.kind=7;simp[go_sem,IO,d,c0,g,f0,k7,a];by_cases r0:x.rows=[];simp[go_sem,IO,d,c0,g,k6,f0,k7,r0,a];have f:0<x.rows.length:=qH.2 r0;simp[go_sem,IO,d,c0,g,k6,f0,k7,f,a];have f1:0<x.flow.length:=qH.2 f0;simp[go_sem,IO,d,c0,g,k6,f1,a]
     | false=>
      by_cases t0:x.text.toList=[];by_cases k6:x.kind=6;by_cases r0:x.rows=[];simp[go_sem,IO,d,c0,g,t0,k6,r0,a];have f:0<x.rows.length:=qH.2 r0;simp[go_sem,IO,d,c0,g,t0,k6,f,a];by_cases f0:x.flow=[];by_cases k7:x.kind=7;simp[go_sem,IO,d,c0,g,t0,f0,k7,a];by_cases r0:x.rows=[];simp[go_sem,IO,d,c0,g,t0,k6,f0,k7,r0,a];have f:0<x.rows.length:=qH.2 r0;simp[go_sem,IO,d,c0,g,t0,k6,f0,k7,f,a];have f1:0<x.flow.length:=qH.2 f0;simp[go_sem,IO,d,c0,g,t0,k6,f1,a];simp[go_sem,IO,d,c0,g,t0,a]
     simp[go_sem,IO,d,c0,g,a]
    simp[go_sem,IO,d,c0,a]
   refine Au (b:=B) (by simp[go_sem]) ?_;cases B with
   | true=>exact AJ (by simp[go_sem];exact out 15 _ (by rw[p];rfl))
   | false=>
   simp only[qn,if_false]at p ⊢;refine Aa 0 [(1,X),(3,.bool u),(127,.bool r)] h n ?_ (λm d=>?_);rw[y];simp[go_sem];refine qz (Sn x.text (by have:=(EY S).2.1;omega)) ?_;simp[go_sem,IO,d,C];refine Au (b:=r) (by simp[go_sem]) ?_;cases r with
   | true=>exact AJ (by simp[go_sem];exact out 12 _ (by rw[p];rfl))
   | false=>
   simp only[qn,if_false]at p ⊢;refine Aa 0 [(1,X),(3,.bool u),(132,.bool s)] h n ?_ (λm d=>?_);rw[y];by_cases t0:x.text.toList=[];by_cases K:x.kind=1;simp[go_sem,IO,K,t0,d,i,IU];by_cases o:x.kind=5<;>simp[go_sem,IO,K,o,t0,d,i,IU];have O:x.text.toList.isEmpty=false:=by simpa using t0
   by_cases K:x.kind=1;simp[go_sem,IO,K,t0,O,d,i,IU];by_cases o:x.kind=5<;>simp[go_sem,IO,K,o,t0,O,d,i,IU];refine Au (b:=s) (by simp[go_sem]) ?_;cases s with
   | true=>exact AJ (by simp[go_sem];exact out 11 _ (by rw[p];rfl))
   | false=>
   simp only[qn,if_false]at p ⊢;refine Aa 0 [(1,X),(3,.bool u),(146,.bool t)] h n ?_ (λm d=>?_);rw[y];by_cases o:x.kind=5;by_cases O:(1024:Int)<x.text.size<;>simp[go_sem,IO,o,O,d,q,Kv];simp[go_sem,IO,o,d,q,Kv];refine Au (b:=t) (by simp[go_sem]) ?_;cases t with
   | true=>exact AJ (by simp[go_sem];exact out 10 _ (by rw[p];rfl))
   | false=>
   simp only[qn,if_false]at p ⊢;refine Aa 0 [(156,.bool l)] h n ?_ (λm d=>?_);rw[y];cases u with
   | false=>simp[go_sem,IO,d,H]
   | true=>
    simp[go_sem];refine qz (Zt x.text) ?_;simp[go_sem,IO,d,H]
   refine Au (b:=l) (by simp[go_sem]) ?_;cases l with
   | true=>exact AJ (by simp[go_sem];exact out 13 _ (by rw[p];rfl))
   | false=>
   simp only[qn,if_false]at p;refine AJ ?_;simp[go_sem];exact⟨d,p⟩
 refine AJ ?_;simp[go_sem];exact out _ _ d.2
def SE (l:List Bi):Bool:=l.any λp=>decide (p.key=20)||decide (p.key=1)
set_option maxHeartbeats 2000000 in
theorem iy (l:List A7) (hl:l.length<=1048576) (hs:∀x∈l,x.props.length<=1048576) (i:Nat) (hi:i<l.length):EC 207 [Aj l,AA i]:=by
 obtain⟨s,hx⟩:∃s,l[i]=s:=⟨_,rfl⟩
 obtain⟨b1,Me⟩:∃b1:Bool,b1=(decide (s.id<1)||decide (1073741824<s.id)):=⟨_,rfl⟩
 obtain⟨b2,F8⟩:∃b2:Bool,b2=(decide (0<i)&&decide (s.id=(l.getD (i-1) s).id)):=⟨_,rfl⟩
 obtain⟨b3,KL⟩:∃b3:Bool,b3=(decide (0<i)&&decide (s.id<(l.getD (i-1) s).id)):=⟨_,rfl⟩
 obtain⟨b4,TD⟩:∃b4:Bool,b4=(decide (s.kind≠1)&&decide (s.kind≠2)):=⟨_,rfl⟩
 obtain⟨b5,Xn⟩:∃b5:Bool,b5 = !GO s.name:=⟨_,rfl⟩
 obtain⟨b6,Qh⟩:∃b6:Bool,b6=decide (0<=Cd (l.take i) s.kind s.name):=⟨_,rfl⟩
 obtain⟨b7,hb7⟩:∃b7:Bool,b7=SE s.props:=⟨_,rfl⟩
 obtain⟨V,hV⟩:∃V:Int,V=if b1 then 18 else if b2 then 7 else if b3 then 6 else if b4 then 3 else if b5 then 13 else if b6 then 7 else if b7 then 4 else CY (if s.kind=1 then 2 else 1) s.props:=⟨_,rfl⟩
 refine⟨V,?_⟩;intro h n;refine DO Tryz.func207 rfl λho=>?_;have hHb:=ho.lt;have hps:=hs s (by rw[<-hx];exact qi hi);have out:∀(e:Int) (m:Nat),V=e->CO n h m (AA e) (Is (AA V) h n):=λe m he=>As ho rfl (by rw[he]);obtain⟨X,hX⟩:∃X:SV,X=.iptr [AA s.id,AA s.kind,.str s.name,AA s.base,AA s.next,AU s.props]:=⟨_,rfl⟩
 refine Aa 0 [(0,Aj l),(1,AA i)] h n ?_ (λm hm=>?_);simp[go_sem,IO];refine Aa 1 [(0,Aj l),(1,AA i),(5,X)] h n ?_ (λm hm=>?_);have hHm:∀j y,h j=some y->j<m:=λj y e=>by have:=hHb j y e;omega
 rw[hX];simp[go_sem,IO,hi,hx,A7.enc,AD];exact⟨by omega,AZ (AS hHm (qa _)) (AD _ _ _),AL hHm (AL hHm AC)⟩;have w1:0<i->IntKind.i64.wrap ((i:Int)-1)=((i-1:Nat):Int):=λg=>by rw[DA]<;>omega
 refine AX 0 (α:=Unit) (λ_=>[(0,Aj l),(1,AA i),(5,X)]) (λ_=>h) (λ_ m=>n<=m/\(b1=false/\b2=false/\b3=false/\b4=false/\b5=false)) (AY ?_) (λ_ m hm=>?_)
 . refine Aa 0 [(0,Aj l),(1,AA i),(5,X),(14,.bool b1)] h n ?_ (λm hm=>?_);rw[hX];by_cases a1:s.id<1;have e:b1=true:=by rw[Me];simp[a1]
   simp[go_sem,IO,a1,hm,e];have e:b1=decide (1073741824<s.id):=by rw[Me];simp[a1]
   simp[go_sem,IO,a1,hm,e];cases b1 with
   | true=>exact AJ (by simp[go_sem];exact out 18 _ (by rw[hV];rfl))
   | false=>
   refine Au (b:=false) (by simp[go_sem]) ?_;simp only[qn,if_false];refine AX 0 (α:=Unit) (λ_=>[(0,Aj l),(1,AA i),(5,X),(23,.bool b2)]) (λ_=>h) (λ_ m=>n<=m) (CK Vd rfl (by kernel_rfl) (by kernel_rfl) ?_) (λ_ m hm=>?_);rw[hX];by_cases a1:0<i;have hi1:i-1<l.length:=by omega
   have e:b2=(s.id==l[i-1].id):=by rw[F8,Bool.eq_iff_iff];simp[a1,List.getD,hi1]
   simp[go_sem,Vd,IO,a1,w1,hm,hi1,A7.enc,e];have e:b2=false:=by rw[F8];simp[a1]
   simp[go_sem,Vd,IO,a1,hm,e];cases b2 with
   | true=>exact AJ (by simp[go_sem];exact out 7 _ (by rw[hV];rfl))
   | false=>
   refine Au (b:=false) (by simp[go_sem]) ?_;simp only[qn,if_false];refine AX 0 (α:=Unit) (λ_=>[(0,Aj l),(1,AA i),(5,X),(37,.bool b3)]) (λ_=>h) (λ_ m=>n<=m) (CK Vd rfl (by kernel_rfl) (by kernel_rfl) ?_) (λ_ m hm=>?_);rw[hX];by_cases a1:0<i;have hi1:i-1<l.length:=by omega
   have e:b3=(decide (s.id<l[i-1].id)):=by rw[KL,Bool.eq_iff_iff];simp[a1,List.getD,hi1]
   simp[go_sem,Vd,IO,a1,w1,hm,hi1,A7.enc,e];have e:b3=false:=by rw[KL];simp[a1]
   simp[go_sem,Vd,IO,a1,hm,e];cases b3 with
   | true=>exact AJ (by simp[go_sem];exact out 6 _ (by rw[hV];rfl))
   | false=>
   refine Au (b:=false) (by simp[go_sem]) ?_;simp only[qn,if_false];refine Aa 0 [(0,Aj l),(1,AA i),(5,X),(51,.bool b4)] h n ?_ (λm hm=>?_);rw[hX];by_cases a1:s.kind=1;have e:b4=false:=by rw[TD];simp[a1]
   simp[go_sem,IO,a1,hm,e];have a2:(s.kind !=1)=true:=by simpa using a1
   have e:b4=(s.kind !=2):=by rw[TD];by_cases c:s.kind=2<;>simp[a1,c]
   simp[go_sem,IO,a2,hm,e];cases b4 with
   | true=>exact AJ (by simp[go_sem];exact out 3 _ (by rw[hV];rfl))
   | false=>
   refine Au (b:=false) (by simp[go_sem]) ?_;simp only[qn,if_false];refine Aa 0 [(0,Aj l),(1,AA i),(5,X),(60,.bool b5)] h n ?_ (λm hm=>?_);rw[hX];simp[go_sem];refine(gO s.name).use ?_;simp[go_sem,IO,hm,Xn];cases b5 with
   | true=>exact AJ (by simp[go_sem];exact out 13 _ (by rw[hV];rfl))
   | false=>exact AJ (by simp[go_sem,IO,hm])
 obtain⟨hm,z1,z2,z3,z4,z5⟩:=hm;rw[z1,z2,z3,z4,z5]at hV;refine Bg 0 [(0,Aj l),(1,AA i),(5,X)] h (λm=>n<=m/\b6=false) ?_ (λm hm=>?_);refine AX 0 (α:=Unit) (λ_=>[(0,Aj l),(1,AA i),(5,X),(7,.bool b6)]) (λ_=>h) (λ_ m=>n<=m) (CK dR rfl (by kernel_rfl) (by kernel_rfl) ?_) (λ_ m hm=>?_);have hle:i<=l.length:=by omega
 have hc:=gP (l.take i) s.kind s.name (by simp;omega);rw[<-Qh]at hc;generalize(if 0<=Cd (l.take i) s.kind s.name then Cd (l.take i) s.kind s.name else 0)=k1 at hc;simp only[Aj,vp]at hc;rw[hX];simp[go_sem,dR,hle,-List.map_take];refine qz hc ?_;simp[go_sem,IO,hm];cases b6 with
 | true=>exact AJ (by simp[go_sem];exact out 7 _ (by rw[hV];rfl))
 | false=>exact AJ (by simp[go_sem,IO,hm])
 obtain⟨hm,z6⟩:=hm;rw[z6]at hV;refine Bg 0 [(5,X)] h (λm=>n<=m/\b7=false) ?_ (λm hm=>?_);refine Aa 0 [(5,X),(78,AU s.props),(79,AA s.props.length),(80,AA 0)] h n ?_ (λm hm=>?_);rw[hX];simp[go_sem,IO,hm];refine AY (BT 0 (α:=Nat) (λk=>[(5,X),(78,AU s.props),(79,AA s.props.length),(80,AA k)]) (λ_=>h) (λk m=>k<=s.props.length/\n<=m/\SE (s.props.take k)=false) (λk=>s.props.length-k) 0 ⟨qg _,hm,rfl⟩ ?_ AC ?_);simp[go_sem,Ao,IO];rintro k m ⟨hk,hm,hI⟩;by_cases hlt:k<s.props.length;have w2:=wS k (by omega);obtain⟨p,hp⟩:∃p,s.props[k]=p:=⟨_,rfl⟩
 have hst:SE (s.props.take (k+1))=(decide (p.key=20)||decide (p.key=1)):=by
  unfold SE at hI ⊢;rw[qb hlt,hp,List.any_append,hI];simp
 have bad:∀m:Nat,(decide (p.key=20)||decide (p.key=1))=true->CO n h m (AA 4) (Is (AA V) h n):=λm g=>out 4 m (by
  have:b7=true:=by unfold SE at hb7;rw[hb7,vo];exact⟨p,by rw[<-hp];exact qi hlt,g⟩
  rw[hV,this];rfl)
 refine Aa 0 [(5,X),(78,AU s.props),(79,AA s.props.length),(80,AA k),(81,.bool true)] h n ?_ (λm hm=>?_);simp[go_sem,IO,hm,hlt];refine Aa 0 [(5,X),(78,AU s.props),(79,AA s.props.length),(80,AA k)] h n ?_ (λm hm=>?_);simp[go_sem,IO,hm];refine AX 0 (α:=Unit) (λ_=>[(5,X),(78,AU s.props),(79,AA s.props.length),(80,AA k)]) (λ_=>h) (λ_ m=>n<=m/\(decide (p.key=20)||decide (p.key=1))=false) (AY ?_) (λ_ m hm=>?_);refine Aa 1 [(5,X),(78,AU s.props),(79,AA s.props.length),(80,AA k),(9,.iptr [AA p.key,AA p.value])] h n ?_ (λm hm=>?_);have hHm:∀j y,h j=some y->j<m:=λj y e=>by have:=hHb j y e;omega
 simp[go_sem,IO,hlt,hp,Bi.enc,AD];exact⟨by omega,AZ (AS hHm (qa _)) (AD _ _ _),AL hHm (AL hHm AC)⟩;refine AJ ?_;by_cases a1:p.key=20;simp[go_sem,a1];exact bad _ (by simp[a1]);by_cases a2:p.key=1;simp[go_sem,a2];exact bad _ (by simp[a2]);have a3:(p.key==20)=false:=by simpa using a1
 have a4:(p.key==1)=false:=by simpa using a2
 simp[go_sem,a1,a2,a3,a4,IO,hm];refine AJ ?_;simp[go_sem,w2,IO,-Int.natCast_add];exact⟨k+1,by omega,⟨by omega,hm.1,by rw[hst];exact hm.2⟩,rfl⟩;refine AJ ?_;have e:k=s.props.length:=by omega
 simp[go_sem,hlt,IO,hm];rw[hb7];rw[e,qm]at hI;exact hI;obtain⟨hm,h7⟩:=hm;refine AX 0 (α:=Unit) (λ_=>[(4,AA V)]) (λ_=>h) (λ_ m=>n<=m) (CK dS rfl (by kernel_rfl) (by kernel_rfl) ?_) (λ_ m hm=>?_);rw[hX];simp[go_sem,dS];refine(gQ s.kind).use ?_;have hVV:V=CY (if s.kind=1 then(2:Int)else 1) s.props:=by rw[hV,h7];rfl
 generalize(if s.kind=1 then(2:Int)else 1)=el at hVV;simp[go_sem];refine(bX el s.props hps).use ?_;simp[go_sem,IO,hm,hVV];refine AJ ?_;simp[go_sem];exact out _ _ rfl
def Ky:List (Int×Int)->Int->Option Int
 | [],_=>none
 | a::l,x=>if a.1=x then some a.2 else Ky l x
def LM:List (Int×Int)->Int->Int->List (Int×Int)
 | [],x,v=>[(x,v)]
 | a::l,x,v=>if a.1=x then(x,v)::l else a::LM l x v
theorem JU (x:Int):∀(l:List (Int×Int)) (i:Nat),(DT (AA x) (H4 l) i=some none/\Ky l x=none)\/∃j v,DT (AA x) (H4 l) i=some (some (j,AA v))/\Ky l x=some v
 | [],i=>.inl ⟨rfl,rfl⟩
 | a::l,i=>by
  by_cases e:x=a.1;exact .inr ⟨i,a.2,by simp[H4,DT,Ht,e],by rw[Ky,if_pos e.symm]⟩;have h:(x==a.1)=false:=by simpa using e
  rw[Ky,if_neg λg=>e g.symm];rcases JU x l (i+1)with⟨g,k⟩|⟨j,v,g,k⟩
  left;refine⟨?_,k⟩;simp only[H4,qr,DT,Ht,if_true,h];exact g;right;refine⟨j,v,?_,k⟩;simp only[H4,qr,DT,Ht,if_true,h];exact g
theorem L8 (x v:Int):∀(l:List (Int×Int)) (i:Nat),(DT (AA x) (H4 l) i=some none/\H4 l++[(AA x,AA v)]=H4 (LM l x v))\/∃j w,DT (AA x) (H4 l) i=some (some (i+j,AA w))/\(H4 l).modify j (λ_=>(AA x,AA v))=H4 (LM l x v)
 | [],i=>.inl ⟨rfl,rfl⟩
 | a::l,i=>by
  by_cases e:x=a.1;exact .inr ⟨0,a.2,by simp[H4,DT,Ht,e],by rw[LM,if_pos e.symm];simp[H4]⟩;have h:(x==a.1)=false:=by simpa using e
  rw[LM,if_neg λg=>e g.symm];rcases L8 x v l (i+1)with⟨g,k⟩|⟨j,w,g,k⟩
  left;refine⟨?_,?_⟩;simp only[H4,qr,DT,Ht,if_true,h];exact g;simp only[H4,qr,qx]at k ⊢;rw[k];right;refine⟨j+1,w,?_,?_⟩;simp only[H4,qr,DT,Ht,if_true,h];rw[show i+(j+1)=i+1+j by omega];exact g;simp only[H4,qr,List.modify_succ_cons]at k ⊢;rw[k]
def KO (l:List A7):Nat->List (Int×Int)
 | 0=>[]
 | i+1=>match l[i]? with
  | some s=>LM (KO l i) s.id i
  | none=>KO l i
theorem SS {x v:Int}:∀{l:List (Int×Int)} {p:Int×Int},p∈LM l x v->p∈l\/p.2=v
 | [],p,h=>by rw[LM,qy]at h;rw[h];exact .inr rfl
 | a::l,p,h=>by
  rw[LM]at h;split at h;rcases qt.1 h with e|e;rw[e];exact .inr rfl;exact .inl (qC _ e);rcases qt.1 h with e|e;rw[e];exact .inl (qV ..);exact(SS e).imp_left (qC _)
theorem P9 (l:List A7):∀i,i<=l.length->dt l (KO l i)
 | 0,_=>λp hp=>by cases hp
 | i+1,h=>λp hp=>by
  rw[KO,qe (by omega:i<l.length)]at hp;rcases SS hp with g|g;exact P9 l i (by omega) p g;omega
theorem UL {l:List A7} {x v:Int}:∀{a:List (Int×Int)},dt l a->Ky a x=some v->0<=v/\v<l.length
 | [],_,h=>by cases h
 | p::a,H,h=>by
  rw[Ky]at h;split at h;cases h;exact H p (qV ..);exact UL (λq b=>H q (qC _ b)) h
def Qg (l:List A7):Nat->Int->Bool
 | 0,id=>if id=0 then false else(Ky (KO l l.length) id).isSome
 | f + 1, id => if id = 0 then false else match Ky (KO l l.length) id with
  | none=>false
  | some v=>match l[v.toNat]? with
   | some x=>Qg l f x.base
   | none=>false
theorem WC (l:List A7) (f:Nat):Qg l f 0=false:=by cases f<;>simp[Qg]
theorem WB {l:List A7} {f:Nat} {id:Int} (h:¬id=0) (g:Ky (KO l l.length) id=none):Qg l f id=false:=by cases f<;>simp[Qg,h,g]
theorem V9 {l:List A7} {id v:Int} (h:¬id=0) (g:Ky (KO l l.length) id=some v):Qg l 0 id=true:=by simp[Qg,h,g]
theorem WA {l:List A7} {f:Nat} {id v:Int} {x:A7} (h:¬id=0) (g:Ky (KO l l.length) id=some v) (a:v.toNat<l.length) (b:l[v.toNat]=x):Qg l (f+1) id=Qg l f x.base:=by simp[Qg,h,g,a,b]
structure YX (E:CC) (yl:Nat) (N:Nat) (J:Nat->Hp->Nat->Prop) (Jx:Hp->Nat->Prop) (D:Nat->Prop):Prop where
 step:∀c (x:A7) h m,J c h m->FV E Tryz.prog yl [x.enc] h m (λv h' m'=>m<=m'/\(∀o,¬D o->o<m->h' o=h o)/\((v=.bool true/\c+1<=N/\J (c+1) h' m')\/(v=.bool false/\¬(c+1<=N)/\Jx h' m')))
 keep:∀c h m h' m',J c h m->m<=m'->(∀o,D o->h' o=h o)->J c h' m'
 lt:∀c h m,J c h m->∀o,D o->o<m
section
variable {E : CC} {yl N : Nat} {J : Nat → Hp → Nat → Prop} {Jx : Hp → Nat → Prop} {D : Nat → Prop}
set_option maxHeartbeats 2000000 in
theorem cK (Y:YX E yl N J Jx D) (l:List A7) (hl:l.length<=1048576) {H:Hp} {n k:Nat} {id:Int} (hk:H k=some (.cells [AA id])) (hkD:¬D k) (hJ:J 0 H n):
 Ap E Tryz.prog 270 [.fn (.yield yl) [] [],.iptr [Aj l],.ptr k 0] H n (λ_ h' m'=>n<=m'/\(∀o,¬D o->o≠k->o<n->h' o=H o)/\((Qg l N id=false/\∃c,J c h' m')\/(Qg l N id=true/\Jx h' m'))):=by
 refine DO Tryz.func270 rfl λho=>?_;have hHb:=ho.lt;have hkn:k<n:=hHb k _ hk;have hDn:=Y.lt _ _ _ hJ;have nk:k≠n:=by omega
 refine By 0 [(0,.fn (.yield yl) [] []),(1,.iptr [Aj l]),(2,.ptr k 0),(4,.map n)] (hset H n (some (.map (H4 [])))) (λm=>n<m) ?_ (λm hm=>?_);simp[go_sem,IO,H4];refine Bg 0 [(0,.fn (.yield yl) [] []),(1,.iptr [Aj l]),(2,.ptr k 0),(4,.map n)] (hset H n (some (.map (H4 (KO l l.length))))) (λm=>n<m) ?_ (λm hm=>?_)
 . refine By 0 [(0,.fn (.yield yl) [] []),(1,.iptr [Aj l]),(2,.ptr k 0),(4,.map n),(10,Aj l),(11,AA l.length),(12,AA 0)] (hset H n (some (.map (H4 [])))) (λm=>n<m) ?_ (λm hm=>?_);simp[go_sem,IO,hm];refine AY (BT 0 (α:=Nat) (λi=>[(0,.fn (.yield yl) [] []),(1,.iptr [Aj l]),(2,.ptr k 0),(4,.map n),(10,Aj l),(11,AA l.length),(12,AA i)]) (λi=>hset H n (some (.map (H4 (KO l i))))) (λi m=>i<=l.length/\n<m) (λi=>l.length-i) 0 ⟨qg _,hm⟩ ?_ AC ?_);simp[go_sem,Ao,IO];rintro i m ⟨hi,hm⟩;obtain⟨a,haa⟩:∃a,a=KO l i:=⟨_,rfl⟩
   have ha:dt l a:=by rw[haa];exact P9 l i hi
   rw[<-haa];by_cases hlt:i<l.length
   . have w1:=wS i (by omega);obtain⟨x,hx⟩:∃x,l[i]=x:=⟨_,rfl⟩
     refine By 0 [(0,.fn (.yield yl) [] []),(1,.iptr [Aj l]),(2,.ptr k 0),(4,.map n),(10,Aj l),(11,AA l.length),(12,AA i),(13,.bool true)] (hset H n (some (.map (H4 a)))) (λm=>n<m) ?_ (λm hm=>?_);simp[go_sem,IO,hm,hlt];refine By 0 [(0,.fn (.yield yl) [] []),(1,.iptr [Aj l]),(2,.ptr k 0),(4,.map n),(10,Aj l),(11,AA l.length),(12,AA i)] (hset H n (some (.map (H4 a)))) (λm=>n<m) ?_ (λm hm=>?_);simp[go_sem,IO,hm];refine AX 0 (α:=Unit) (λ_=>[(0,.fn (.yield yl) [] []),(1,.iptr [Aj l]),(2,.ptr k 0),(4,.map n),(10,Aj l),(11,AA l.length),(12,AA i)]) (λ_=>hset H n (some (.map (H4 (LM a x.id i))))) (λ_ m=>n<m) (AY ?_) (λ_ m hm=>?_)
     . refine By 1 [(0,.fn (.yield yl) [] []),(1,.iptr [Aj l]),(2,.ptr k 0),(4,.map n),(10,Aj l),(11,AA l.length),(12,AA i),(5,AA i),(6,.iptr [AA x.id,AA x.kind,.str x.name,AA x.base,AA x.next,AU x.props])] (hset H n (some (.map (H4 a)))) (λm=>n<m) ?_ (λm hm=>?_);have hHm:∀j y,hset H n (some (.map (H4 a))) j=some y->j<m:=λj y e=>by
        simp only[hset]at e;split at e;omega;have:=hHb j y e;omega
       simp[go_sem,IO,hlt,hx,A7.enc,AD];exact⟨by omega,AZ (AS hHm (qa _)) (AD _ _ _),AL hHm (AL hHm AC)⟩;refine AJ ?_;rcases L8 x.id i a 0 with⟨hf,hpush⟩|⟨j,v,hf,hset'⟩
       simp[go_sem,AD,hf,Cc,hpush,IO,Ah];exact hm;have hset':(H4 a).modify j (λ_=>(AA x.id,AA i))=H4 (LM a x.id i):=hset';simp[go_sem,AD,hf,Cc,hset',IO,Ah];exact hm
     refine AJ ?_;have hst:KO l (i+1)=LM a x.id i:=by rw[KO,qe hlt,hx,haa]
     simp[go_sem,w1,IO,-Int.natCast_add];exact⟨i+1,by omega,⟨by omega,hm⟩,rfl,by rw[hst];exact AC⟩
   refine AJ ?_;have e:i=l.length:=by omega
   simp[go_sem,IO,hm,haa,e]
 obtain⟨a,haa⟩:∃a,a=KO l l.length:=⟨_,rfl⟩
 have ha:dt l a:=by rw[haa];exact P9 l _ (qa _)
 rw[<-haa];have hnD:¬D n:=λg=>by have:=hDn n g;omega
 refine AJ ?_;simp[go_sem];refine Av 0 (α:=Nat×Int×Hp) (λ_=>[(0,.fn (.yield yl) [] []),(1,.iptr [Aj l]),(2,.ptr k 0),(4,.map n)]) (λq=>q.2.2) (λq m=>n<m/\J q.1 q.2.2 m/\q.2.2 k=some (.cells [AA q.2.1])/\q.2.2 n=some (.map (H4 a))/\(∀o,¬D o->o≠k->o<n->q.2.2 o=H o)/\q.1<=N/\Qg l (N-q.1) q.2.1=Qg l N id) (λq=>N-q.1)
  (0,id,hset H n (some (.map (H4 a)))) ⟨hm,Y.keep _ _ _ _ _ hJ (by omega) λo g=>AE _ _ (by have:=hDn o g;omega),(AE _ _ nk).trans hk,AD _ _ _,λo _ _ g=>AE _ _ (by omega),qg _,rfl⟩ ?_ AC ?_
 simp[Ao,IO];obtain⟨id0,hid0⟩:∃id0,id0=id:=⟨_,rfl⟩
 rw[<-hid0];rintro⟨c,id,G⟩ m ⟨hm,hJ,hGk,hGn,BV,hcN0,hch⟩;dsimp only at hJ hGk hGn BV hcN0 hch ⊢;by_cases h0:id=0;simp[go_sem,hGk,h0];exact .inl ⟨by omega,BV,.inl ⟨by rw[<-hch,h0];exact WC _ _,c,hJ⟩⟩;have h0':(id !=0)=true:=by simpa using h0
 rcases JU id a 0 with⟨hf,hg⟩|⟨j,v,hf,hg⟩
 simp[go_sem,hGk,hGn,h0',hf,Cc];exact .inl ⟨by omega,BV,.inl ⟨by rw[<-hch,WB h0 (by rw[<-haa];exact hg)],c,hJ⟩⟩;obtain⟨hv1,hv2⟩:0<=v/\v<l.length:=UL ha hg;have hvl:v.toNat<l.length:=by omega
 obtain⟨x,hx⟩:∃x,l[v.toNat]'hvl=x:=⟨_,rfl⟩
 simp[go_sem,hGk,hGn,h0',hf,Cc,hv1,hvl,hx,A7.enc];have hy:=Y.step c x G m hJ;simp only[A7.enc]at hy;refine FV.mono hy ?_;rintro w G3 m3 ⟨hm3,hfr,⟨rfl,hcN,hj⟩|⟨rfl,hcN,hj⟩⟩;have g3k:G3 k=some (.cells [AA id]):=by rw[hfr k hkD (by omega)];exact hGk
 have g3n:G3 n=some (.map (H4 a)):=by rw[hfr n hnD (by omega)];exact hGn
 simp[go_sem,hv1,hvl,hx,A7.enc,g3k];refine⟨c+1,by omega,x.base,hset G3 k (some (.cells [AA x.base])),⟨by omega,Y.keep _ _ _ _ _ hj (qa _) λo g=>AE _ _ (by rintro rfl;exact hkD g),AD _ _ _,by rw[AE _ _ (Ne.symm nk)];exact g3n,λo g1 g2 g3=>?_,hcN,by rw[<-hch,show N-c=(N-(c+1))+1 by omega];exact(WA h0 (by rw[<-haa];exact hg) hvl hx).symm⟩,AC⟩;rw[AE _ _ g2,hfr o g1 (by omega)];exact BV o g1 g2 g3;simp[go_sem];exact .inl ⟨by omega,λo g1 g2 g3=>by rw[hfr o g1 (by omega)];exact BV o g1 g2 g3,.inr ⟨by rw[<-hch,show N-c=0 by omega];exact V9 h0 (by rw[<-haa];exact hg),hj⟩⟩
end
def Gg (K:Ck) (key id:Int):Int:=
 if key=20 then(if id=0\/Ky K.m0 id=some 1 then 0 else 25)
 else if key=1 then(if id=0\/Ky K.m0 id=some 2 then 0 else 25)
 else if key=33 then(if id=0\/id∈K.m1 then 0 else 26)else 0
section
variable {K : Ck} {n0 : Nat}
set_option maxHeartbeats 1000000 in
theorem bY (i:K.ok n0) (s:GR) (kind id:Int) {H:Hp} {n:Nat} (r:∀o y,K.st s o=some y->H o=some y):
 BL Tryz.prog 157 [.ptr K.p 0,AA kind,AA id] H n (Is (AA (Gg K kind id)) H n):=by
 obtain⟨V,b⟩:∃V,V=Gg K kind id:=⟨_,rfl⟩
 rw[<-b];refine gq Tryz.func157 rfl λq=>?_;obtain⟨hp,h0,h1,h2,h3,h4⟩:=i.has r;have fin:∀(e:Int) (m:Nat),e=V->CO n H m (AA e) (Is (AA V) H n):=λe m l=>As q rfl (by rw[l]);simp only[Ck.cells]at hp;have d:kind=20\/kind=1\/(kind≠20/\kind≠1):=by omega
 rcases d with e|e|⟨e,e'⟩
 by_cases a:id=0;simp[go_sem,e,a];refine(Ki _ _).use ?_;simp[go_sem];refine fin _ _ ?_;rw[b];simp[Gg,e,a];rcases JU id K.m0 0 with⟨f,g⟩|⟨j,k,f,g⟩
 simp[go_sem,e,a,hp,h0,f,Cc];refine(Ki _ _).use ?_;simp[go_sem];refine fin _ _ ?_;rw[b];simp[Gg,e,a,g];simp[go_sem,e,a,hp,h0,f,Cc];refine(Ki _ _).use ?_;simp[go_sem];refine fin _ _ ?_;rw[b];simp[Gg,e,a,g];by_cases a:id=0;simp[go_sem,e,a];refine(Ki _ _).use ?_;simp[go_sem];refine fin _ _ ?_;rw[b];simp[Gg,e,a];rcases JU id K.m0 0 with⟨f,g⟩|⟨j,k,f,g⟩
 simp[go_sem,e,a,hp,h0,f,Cc];refine(Ki _ _).use ?_;simp[go_sem];refine fin _ _ ?_;rw[b];simp[Gg,e,a,g];simp[go_sem,e,a,hp,h0,f,Cc];refine(Ki _ _).use ?_;simp[go_sem];refine fin _ _ ?_;rw[b];simp[Gg,e,a,g];by_cases c:kind=33;by_cases a:id=0;simp[go_sem,c,a];refine(Ki _ _).use ?_;simp[go_sem];refine fin _ _ ?_;rw[b];simp[Gg,c,a];by_cases h:id∈K.m1;obtain⟨j,f,_⟩:=Da 0 h;simp[go_sem,c,a,hp,h1,f,Cc];refine(Ki _ _).use ?_;simp[go_sem];refine fin _ _ ?_;rw[b];simp[Gg,c,a,h];have f:=ET 0 h;simp[go_sem,c,a,hp,h1,f,Cc];refine(Ki _ _).use ?_;simp[go_sem];refine fin _ _ ?_;rw[b];simp[Gg,c,a,h];simp[go_sem,e,e',c];refine fin _ _ ?_;rw[b];simp[Gg,e,e',c]
end
end Go.Proofs.YtgakninlhfkkmaaGreat.Sh
