/- A part of the proof (part 6 of 17). -/
import Derived.Test.YtgakninlhfkkmaaGreatM5
namespace Go.Proofs.YtgakninlhfkkmaaGreat.Sh
abbrev kM:=@AE.nrmL_eq
abbrev kX:=@Cell.nrmL_eq
open Proofs
set_option maxRecDepth 10000
def Ed (l:List Int):List (SV×SV):=l.map λx=>(AA x,.bool true)
theorem Du {x:Int}:∀{l:List Int} (i:Nat),x∉l->DH (AA x) (Ed l) i=some none
 | [],i,_=>rfl
 | a::l,i,h=>by
  simp only[qk,not_or]at h;have:(x==a)=false:=by simpa using h.1
  simp only[Ed,qu,DH,G5,if_true,this];exact Du (i+1) h.2
theorem DS {x:Int}:∀{l:List Int} (i:Nat),x∈l->∃j,DH (AA x) (Ed l) i=some (some (i+j,.bool true))/\l[j]? = some x
 | a::l,i,h=>by
  by_cases e:x=a;subst e;exact⟨0,by simp[Ed,DH,G5],by simp⟩;have h':x∈l:=by rcases qk.1 h with h|h;exact absurd h e;exact h
  obtain⟨j,h1,h2⟩:=DS (i+1) h';have:(x==a)=false:=by simpa using e
  refine⟨j+1,?_,by simpa using h2⟩;simp only[Ed,qu,DH,G5,if_true,this];rw[show i+(j+1)=i+1+j by omega];exact h1
theorem JD {x:Int} {l:List Int} {j:Nat} (h:l[j]? = some x):HF (Ed l) j (AA x) (.bool true)=Ed l:=by
 unfold HF Ed;apply List.ext_getElem?;intro i;simp only[List.getElem?_modify,qO];by_cases e:j=i;subst e;simp[h];cases l[i]? <;> simp[e]
def Ca (l:List Int):List Int:=l.foldl (λout x=>if x∈out then out else out++[x]) []
theorem Iz (l:List Int) (k:Nat) (h:k<l.length):Ca (l.take (k+1))=if l[k]∈Ca (l.take k)then Ca (l.take k)else Ca (l.take k)++[l[k]]:=by
 unfold Ca;rw[qb h,kg];rfl
theorem IX (l:List Int):∀k,k<=l.length->(Ca (l.take k)).length<=k
 | 0,_=>by simp[Ca]
 | k+1,h=>by
  rw[Iz l k h];have:=IX l k (by omega);split;omega;simp;omega
theorem Ri (l:List Int) (x:Int):x∈Ca l↔x∈l:=by
 have gen:∀k,k<=l.length->(x∈Ca (l.take k)↔x∈l.take k):=by
  intro k
  induction k with
  | zero=>simp[Ca]
  | succ k ih=>
   intro h;have ih:=ih (by omega);rw[Iz l k h,qb h];split;rename_i hm;simp only[qe,qv];constructor;intro g;exact .inl (ih.1 g);rintro(g|rfl);exact ih.2 g;exact hm;simp only[qe,qv,ih]
 have:=gen l.length (qa _);simpa using this
theorem SC.use {E:B6} {f:FuncId} {args:List SV} {h:Hp} {n:Nat} {Q K:SV->Hp->Nat->Prop} (H:BA Tryz.prog f args h n Q) (hk:∀v h' n',Q v h' n'->K v h' n'):Ak E Tryz.prog f args h n K:=Ak.lift (H.mono hk)
theorem Dv:∀l:List Int,(l.map AA).flatMap SV.cells=l.map AA
 | []=>rfl
 | a::l=>by simp[SV.cells,Dv l]
theorem Xc (l:List Int) (hl:l.length<=1048576):PC 179 [.imm 1 [.imm 1 (l.map AA) false] false] (.imm 1 ((DI (Ca l)).map AA) false):=by
 intro h n;refine gq Tryz.func179 rfl λho=>?_;simp[go_sem];have hn0:h n=none:=ho.none (qa n);refine An 1 (α:=Nat×Option Nat) (λq=>[(3,.map n),(4,AM 1 q.2 ((Ca (l.take (if q.1=0 then 0 else l.length))).map AA)),(10,.imm 1 [.imm 1 (l.map AA) false] false),(11,AA 1),(12,AA q.1)])
  (λq=>AN q.2 ((Ca (l.take (if q.1=0 then 0 else l.length))).map AA) (hset h n (some (.map (Ed (Ca (l.take (if q.1=0 then 0 else l.length))))))))
  (λq m=>q.1<=1/\n<m/\Ar (n+1) m 1 q.2 ((Ca (l.take (if q.1=0 then 0 else l.length))).map AA)) (λq=>1-q.1) (0,none) ?_ ?_ ?_ ?_
 simp[Ca];exact jK _ _ _;simp[Ai,Ca,AM];simp[Ca,Ed,AN];rintro⟨k,o⟩ m ⟨hk,hnm,hA⟩;dsimp only at hk hA ⊢;by_cases k0:k=0;subst k0;simp only[if_true,km]at hA ⊢;simp[go_sem];refine An 1 (α:=Nat×Option Nat) (λq=>[(3,.map n),(4,AM 1 q.2 ((Ca (l.take q.1)).map AA)),(10,.imm 1 [.imm 1 (l.map AA) false] false),(11,AA 1),(12,AA 0),(16,.imm 1 (l.map AA) false),(17,AA l.length),(18,AA q.1)])
  (λq=>AN q.2 ((Ca (l.take q.1)).map AA) (hset h n (some (.map (Ed (Ca (l.take q.1)))))))
  (λq m=>q.1<=l.length/\n<m/\Ar (n+1) m 1 q.2 ((Ca (l.take q.1)).map AA)) (λq=>l.length-q.1) (0,o) ?_ ?_ ?_ ?_
 exact⟨qg _,hnm,by simpa using hA⟩;simp[Ai];exact AB;rintro⟨i,o⟩ m ⟨hi,hnm,hA⟩;dsimp only at hi hA ⊢;have hdl:=IX l i hi;have hon:∀j,o=some j->n<j/\j<m:=λj e=>by have:=hA.lt j e;omega
 by_cases hlt:i<l.length;have w1:=wS i (by omega);have hsn:=Iz l i hlt;obtain⟨x,hx⟩:∃x,l[i]=x:=⟨_,rfl⟩
 rw[hx]at hsn;generalize hout:Ca (l.take i)=out at hA hsn hdl ⊢;have hmap:AN o (out.map AA) (hset h n (some (.map (Ed out)))) n=some (.map (Ed out)):=by
  cases o with
  | none=>simp[AN,hset]
  | some j=>have:=hon j rfl;simp[AN,hset];omega
 by_cases hmem:x∈out;obtain⟨j,h1,h2⟩:=DS 0 hmem;rw[if_pos hmem]at hsn;simp[go_sem,hlt,hx,hmap,h1,CK,w1,-Int.natCast_add];exact⟨i+1,by omega,o,⟨⟨by omega,hnm,by rw[hsn];exact hA⟩,by rw[hsn];exact⟨IO,IO⟩,by rw[hsn];exact AB⟩⟩;have h1:=Du 0 hmem;rw[if_neg hmem]at hsn;have hap:=λ(H:Hp) (k p:Nat) (e1:H k=some (.cells (AA x).cells)) (e2:∀j,o=some j->H j=some (.cells ((out.map AA).flatMap SV.cells)))=>
  Dp (P:=Tryz.prog) (H:=H) (t:=61) (t2:=61) (el:=3) (by simp[go_sem]) (by simp[go_sem]) (by simp[go_sem]) (by simp) (by simp[go_sem]) (by simp[go_sem]) (by simp[go_sem]) (by simp;omega) hA (e:=AA x) rfl e1 e2 p
 simp[go_sem,hlt,hx,hmap,h1,CK,w1,-Int.natCast_add];rw[hap _ _ _ (by simp[AC,SV.cells]) (by
  intro j e;have:=hon j e;subst e;simp only[hset,AN];grind)]
 simp[go_sem,-Int.natCast_add];refine⟨i+1,by omega,some (m+1),⟨⟨by omega,by omega,?_⟩,⟨?_,?_⟩,?_⟩⟩;rw[hsn,qc];exact hA.push rfl rfl (by omega) (by omega);rw[hsn];simp[AM,IO];exact IO;rw[hsn];intro j y;have hoj:=ho j y;cases o with
 | none=>simp only[AN,hset,Ed,qc,qu,qS,kh,jm,qK,jY,jq,Dv,SV.cells];grind
 | some q=>have:=hon q rfl;simp only[AN,hset,Ed,qc,qu,qS,jk,jm,qK,jY,jq,Dv,SV.cells];grind
 have:i=l.length:=by omega
 subst this;simp[go_sem];have w1:IntKind.i64.wrap 1=1:=by decide
 exact⟨1,by omega,o,⟨by omega,hnm,by simpa using hA⟩,⟨by simp[IO],by simp[w1,IO]⟩,by simp⟩;have:k=1:=by omega
 subst this;simp[go_sem];simp only[Nat.one_ne_zero,if_false,qi]at hA;cases o with
 | none=>
  have he:=hA.none rfl;simp only[List.map_eq_nil_iff]at he;simp only[AM];refine(VT 0 true).use ?_;simp[go_sem,AN];have hs:DI (Ca l)=[]:=by rw[he];simp[DI]
  rw[hs];exact Jj ho (AQ ho (qa _) AB) (by simp) rfl
 | some j=>
  have hj:=hA.lt j rfl;simp only[AM,qd];have hdl:(Ca l).length<=l.length:=by have:=IX l l.length (qa _);simpa using this
  refine SC.use (Xu (Ca l) (by omega) (by simp[AN,hset,Dv])) ?_;rintro v h' n' ⟨rfl,rfl,rfl⟩;simp[go_sem];have hlen:(DI (Ca l)).length=(Ca l).length:=jW _;refine T2 Hz (l:=DI (Ca l)) (full:=false) ho (λo x e=>?_) (show n<=j by omega) (by rw[hlen]) (by simp[hset,Dv]);have:=ho o x e;simp only[hset,AN];grind
theorem FJ.mono {E:B6} {P:Program} {l:Nat} {args:List SV} {h:Hp} {n:Nat} {Q Q':SV->Hp->Nat->Prop} (H:FJ E P l args h n Q) (hq:∀v h' n',Q v h' n'->Q' v h' n'):FJ E P l args h n Q':=λc vs I R F A=>by
 obtain⟨a,b,c',d,e,g⟩:=H c vs I R F A;exact⟨a,b,c',d,e,g.mono λ_ _ ⟨u,v,h',n',c',e,q,r⟩=>⟨u,v,h',n',c',e,hq _ _ _ q,r⟩⟩
def He (J:(Nat->Prop)->Hp->Nat->Prop) (Jx:(Nat->Prop)->Hp->Nat->Prop) (D:Nat->Prop) (h:Hp) (m:Nat):SV->Hp->Nat->Prop:=λv h' m'=>
 m<=m'/\∃D',(∀o,D' o->D o\/(m<=o/\o<m'))/\(∀o,¬D o->o<m->h' o=h o)/\((v=.bool true/\J D' h' m')\/(v=.bool false/\Jx D' h' m'))
structure YJ (E:B6) (l:Nat) {X:Type} (enc:X->List SV) (xs:List X) (J:Nat->(Nat->Prop)->Hp->Nat->Prop) (Jx:(Nat->Prop)->Hp->Nat->Prop):Prop where
 step:∀k x D h m,xs[k]? = some x->J k D h m->FJ E Tryz.prog l (enc x) h m (He (J (k+1)) Jx D h m)
 keep:∀k D h m h' m',J k D h m->m<=m'->(∀o,D o->h' o=h o)->J k D h' m'
 lt:∀k D h m,J k D h m->∀o,D o->o<m
def Sc {X:Type} (xs:List X) (k:Nat) (L:List X):Prop:=∃rest,xs.drop k=L++rest
theorem Sc.app {X:Type} {xs A B:List X} {k:Nat} (H:Sc xs k (A++B)):Sc xs k A/\Sc xs (k+A.length) B:=by
 obtain⟨r,h⟩:=H;refine⟨⟨B++r,by rw[h,qn]⟩,⟨r,?_⟩⟩;rw[<-kP,h,qn,List.drop_left]
theorem Sc.head {X:Type} {xs L:List X} {x:X} {k:Nat} (H:Sc xs k (x::L)):xs[k]? = some x/\Sc xs (k+1) L:=by
 obtain⟨r,h⟩:=H;have h1:(xs.drop k)[0]? = some x:=by rw[h];rfl
 refine⟨by simpa using h1,r,?_⟩;rw[<-kP,h];rfl
section
variable {E : B6} {yl : Nat} {X : Type} {enc : X → List SV} {xs : List X} {J : Nat → (Nat → Prop) → Hp → Nat → Prop} {Jx : (Nat → Prop) → Hp → Nat → Prop}
structure Jq (J:Nat->(Nat->Prop)->Hp->Nat->Prop) (D:Nat->Prop) (h:Hp) (m:Nat) (own:List (Nat×BT)) (cnt:Nat) (D2:Nat->Prop) (h2:Hp) (m2:Nat):Prop where
 lt:m<=m2
 j:J cnt D2 h2 m2
 own:∀p∈own,h2 p.1=some p.2/\m<=p.1/\p.1<m2/\¬D2 p.1
 sub:∀o,D2 o->D o\/(m<=o/\o<m2)
 old:∀o,¬D o->o<m->h2 o=h o
theorem Jq.keep (Y:YJ E yl enc xs J Jx) {D:Nat->Prop} {h:Hp} {m:Nat} {own:List (Nat×BT)} {cnt:Nat} {D2:Nat->Prop} {h2:Hp} {m2:Nat} (M:Jq J D h m own cnt D2 h2 m2) {hb:Hp} {mb:Nat} (hm:m2<=mb) (hh:∀o,o<m2->hb o=h2 o):J cnt D2 hb mb:=
 Y.keep _ _ _ _ _ _ M.j hm λo g=>hh o (Y.lt _ _ _ _ M.j o g)
theorem Jq.step {D:Nat->Prop} {h:Hp} {m:Nat} {own:List (Nat×BT)} {cnt cnt':Nat} {D2:Nat->Prop} {h2:Hp} {m2:Nat} (M:Jq J D h m own cnt D2 h2 m2) {hb:Hp} {mb:Nat} (hm:m2<=mb) (hh:∀o,o<m2->hb o=h2 o)
 {v:SV} {h3:Hp} {m3:Nat} (W:He (J cnt') Jx D2 hb mb v h3 m3):(v=.bool true/\∃D3,Jq J D h m own cnt' D3 h3 m3)\/(v=.bool false/\He (J cnt') Jx D h m v h3 m3):=by
 obtain⟨hm3,D3,hDD,BE,hv⟩:=W;have h1:∀o,D3 o->D o\/(m<=o/\o<m3):=λo g=>by
  rcases hDD o g with g|g;rcases M.sub o g with g|g;exact .inl g;exact .inr (by omega);have:=M.lt;exact .inr (by omega)
 have h4:∀o,¬D o->o<m->h3 o=h o:=λo g1 g2=>by
  have hn:¬D2 o:=λg=>by rcases M.sub o g with g|g;exact g1 g;omega
  have:=M.lt;rw[BE o hn (by omega),hh o (by omega),M.old o g1 g2]
 have:=M.lt;rcases hv with⟨rfl,hj⟩|⟨rfl,hj⟩
 refine .inl ⟨rfl,D3,by omega,hj,λp hp=>?_,h1,h4⟩;obtain⟨g1,g2,g3,g4⟩:=M.own p hp;refine⟨by rw[BE _ g4 (by omega),hh _ g3,g1],g2,by omega,λg=>?_⟩;rcases hDD _ g with g|g;exact g4 g;omega;exact .inr ⟨rfl,by omega,D3,h1,h4,.inr ⟨rfl,hj⟩⟩
theorem Jq.done {D:Nat->Prop} {h:Hp} {m:Nat} {own:List (Nat×BT)} {cnt:Nat} {D2:Nat->Prop} {h2:Hp} {m2:Nat} (M:Jq J D h m own cnt D2 h2 m2):He (J cnt) Jx D h m (.bool true) h2 m2:=
 ⟨M.lt,D2,M.sub,M.old,.inl ⟨rfl,M.j⟩⟩
theorem Jq.more (Y:YJ E yl enc xs J Jx) {D:Nat->Prop} {h:Hp} {m:Nat} {own:List (Nat×BT)} {cnt:Nat} {D2:Nat->Prop} {h2:Hp} {m2:Nat} (M:Jq J D h m own cnt D2 h2 m2) {hb:Hp} {mb:Nat} (hm:m2<=mb) (hh:∀o,o<m2->hb o=h2 o):Jq J D h m own cnt D2 hb mb:=
 ⟨qr M.lt hm,M.keep Y hm hh,λp hp=>by obtain⟨g1,g2,g3,g4⟩:=M.own p hp;exact⟨by rw[hh _ g3,g1],g2,by omega,g4⟩,λo g=>by rcases M.sub o g with g|g;exact .inl g;exact .inr (by omega),λo g1 g2=>by have:=M.lt;rw[hh o (by omega),M.old o g1 g2]⟩
theorem Jq.add {D:Nat->Prop} {h:Hp} {m:Nat} {own:List (Nat×BT)} {cnt:Nat} {D2:Nat->Prop} {h2:Hp} {m2:Nat} (M:Jq J D h m own cnt D2 h2 m2) {j:Nat} {y:BT} (h1:h2 j=some y) (h3:m<=j) (h4:j<m2) (h5:¬D2 j):Jq J D h m ((j,y)::own) cnt D2 h2 m2:=
 ⟨M.lt,M.j,λp hp=>by rcases qk.1 hp with rfl|hp;exact⟨h1,h3,h4,h5⟩;exact M.own p hp,M.sub,M.old⟩
theorem Jq.drop {D:Nat->Prop} {h:Hp} {m:Nat} {own:List (Nat×BT)} {p:Nat×BT} {cnt:Nat} {D2:Nat->Prop} {h2:Hp} {m2:Nat} (M:Jq J D h m (p::own) cnt D2 h2 m2):Jq J D h m own cnt D2 h2 m2:=
 ⟨M.lt,M.j,λq hq=>M.own q (qL _ hq),M.sub,M.old⟩
theorem Jq.any {cnt cnt':Nat} {D:Nat->Prop} {h:Hp} {m:Nat} {h2:Hp} {m2:Nat} (H:He (J cnt) Jx D h m (.bool false) h2 m2):He (J cnt') Jx D h m (.bool false) h2 m2:=by
 obtain⟨a,D',b,c,d|d⟩:=H;exact absurd d.1 (by simp);exact⟨a,D',b,c,.inr d⟩
end
structure Bl where
 body:Bool
 note:Bool
 tables:Int
def Bl.enc (p:Bl):SV:=.agg [.bool p.body,.bool p.note,AA p.tables]
structure Fl where
 id:Int
 items:List AE
 at_:Bl
def Fl.enc (f:Fl):List SV:=[AA f.id,.agg [AG f.items,.bool f.at_.body,.bool f.at_.note,AA f.at_.tables]]
def Bl.inNote (p:Bl):Bl:=⟨false,true,p.tables⟩
def Bl.inTable (p:Bl):Bl:=⟨false,p.note,IntKind.i64.wrap (p.tables+1)⟩
mutual
def AE.fl (p:Bl):AE->List Fl
 | .mk k _ i _ _ f r=>if k=6 then⟨i,f,p.inNote⟩::AE.flL p.inNote f else if k=7 then Aa.flL p.inTable r else[]
def AE.flL (p:Bl):List AE->List Fl
 | []=>[]
 | x::l=>AE.fl p x++AE.flL p l
def Aa.fl (p:Bl):Aa->List Fl
 | .mk _ c=>Cell.flL p c
def Aa.flL (p:Bl):List Aa->List Fl
 | []=>[]
 | x::l=>Aa.fl p x++Aa.flL p l
def Cell.fl (p:Bl):Cell->List Fl
 | .mk i _ f=>⟨i,f,p⟩::AE.flL p f
def Cell.flL (p:Bl):List Cell->List Fl
 | []=>[]
 | x::l=>Cell.fl p x++Cell.flL p l
end
def Df (id:Int) (l:List AE) (p:Bl):List Fl:=⟨id,l,p⟩::AE.flL p l
theorem AE.flL_take (p:Bl):∀(l:List AE) (i:Nat) (h:i<l.length),∃r,AE.flL p l=AE.flL p (l.take i)++(AE.fl p l[i]++r)/\AE.flL p (l.take (i+1))=AE.flL p (l.take i)++AE.fl p l[i]
 | x::l,0,_=>⟨AE.flL p l,by simp[AE.flL]⟩
 | x::l,i+1,h=>by
  obtain⟨r,h1,h2⟩:=AE.flL_take p l i (by simpa using h);exact⟨r,by simp only[AE.flL,jl,ju];rw[h1,h2];simp⟩
theorem Aa.flL_take (p:Bl):∀(l:List Aa) (i:Nat) (h:i<l.length),∃r,Aa.flL p l=Aa.flL p (l.take i)++(Aa.fl p l[i]++r)/\Aa.flL p (l.take (i+1))=Aa.flL p (l.take i)++Aa.fl p l[i]
 | x::l,0,_=>⟨Aa.flL p l,by simp[Aa.flL]⟩
 | x::l,i+1,h=>by
  obtain⟨r,h1,h2⟩:=Aa.flL_take p l i (by simpa using h);exact⟨r,by simp only[Aa.flL,jl,ju];rw[h1,h2];simp⟩
theorem Cell.flL_take (p:Bl):∀(l:List Cell) (i:Nat) (h:i<l.length),∃r,Cell.flL p l=Cell.flL p (l.take i)++(Cell.fl p l[i]++r)/\Cell.flL p (l.take (i+1))=Cell.flL p (l.take i)++Cell.fl p l[i]
 | x::l,0,_=>⟨Cell.flL p l,by simp[Cell.flL]⟩
 | x::l,i+1,h=>by
  obtain⟨r,h1,h2⟩:=Cell.flL_take p l i (by simpa using h);exact⟨r,by simp only[Cell.flL,jl,ju];rw[h1,h2];simp⟩
theorem Mn {l:List AE} {x:AE} (h:x∈l):SizeOf.sizeOf x.flow<SizeOf.sizeOf l:=by
 have:=List.sizeOf_lt_of_mem h;cases x;simp only[AE.flow,AE.mk.sizeOf_spec]at *;omega
theorem Me {l:List AE} {x:AE} {r:Aa} {c:Cell} (h:x∈l) (hr:r∈x.rows) (hc:c∈r.cells):SizeOf.sizeOf c.flow<SizeOf.sizeOf l:=by
 have h1:=List.sizeOf_lt_of_mem h;have h2:=List.sizeOf_lt_of_mem hr;have h3:=List.sizeOf_lt_of_mem hc;cases x;cases r;cases c;simp only[AE.rows,Aa.cells,Cell.flow,AE.mk.sizeOf_spec,Aa.mk.sizeOf_spec,Cell.mk.sizeOf_spec]at *;omega
section
variable {E : B6} {yl : Nat} {xs : List Fl} {J : Nat → (Nat → Prop) → Hp → Nat → Prop} {Jx : (Nat → Prop) → Hp → Nat → Prop}
theorem aV (Y:YJ E yl Fl.enc xs J Jx):∀(N:Nat) (l:List AE),SizeOf.sizeOf l<N->l.length<=1048576->AE.sizedL l->∀(id:Int) (p:Bl) (k:Nat) (D:Nat->Prop) (h:Hp) (m:Nat),J k D h m->Sc xs k (Df id l p)->
 Ak E Tryz.prog 248 [AA id,AG l,p.enc,.fn (.yield yl) [] []] h m (He (J (k+(Df id l p).length)) Jx D h m):=by
 intro N
 induction N with
 | zero=>intro l h;omega
 | succ N ih=>
 intro l hN hl hs id p k D h m hJ hseg;obtain⟨hx0,hseg'⟩:=hseg.head;refine gq Tryz.func248 rfl λho=>?_;simp[go_sem,Bl.enc,AC];have hD:∀o,D o->o<m:=Y.lt k D h m hJ;have hJ1:J k D (hset h m (some (.cells [.bool p.body,.bool p.note,AA p.tables]))) (m+1):=Y.keep k D h m _ _ hJ (by omega) λo hDo=>AD _ _ (by have:=hD o hDo;omega);have M0:Jq J D h m [(m,.cells [.bool p.body,.bool p.note,AA p.tables])] k D (hset h m (some (.cells [.bool p.body,.bool p.note,AA p.tables]))) (m+1):=
  ⟨by omega,hJ1,by simp[AC];exact λg=>absurd (hD m g) (by omega),λo g=>.inl g,λo _ g=>AD _ _ (by omega)⟩
 refine FJ.mono (Y.step k _ D _ _ hx0 hJ1) ?_;intro v h1 m1 W;rcases M0.step (qa _) (λ_ _=>rfl) W with⟨rfl,D1,M1⟩|⟨rfl,hX⟩
 . simp[go_sem];refine An 1 (α:=Nat×(Nat->Prop)×Hp) (λq=>[(3,.fn (.yield yl) [] []),(6,.ptr m 0),(22,AG l),(23,AA l.length),(24,AA q.1)]) (λq=>q.2.2)
    (λq m'=>q.1<=l.length/\Jq J D h m [(m,.cells [.bool p.body,.bool p.note,AA p.tables])] (k+1+(AE.flL p (l.take q.1)).length) q.2.1 q.2.2 m') (λq=>l.length-q.1) (0,D1,h1) ?_ ?_ AB ?_
   exact⟨qg _,by simpa[AE.flL]using M1⟩;simp[Ai];rintro⟨i,D2,h2⟩ m2 ⟨hi,M2⟩;dsimp only at hi M2 ⊢;obtain⟨hp2,_,hne,_⟩:=M2.own _ (qv.2 rfl);dsimp only at hp2 hne;have hne':m≠m2:=by omega
   by_cases hlt:i<l.length;have w1:=wS i (by omega);obtain⟨x,hx⟩:∃x,l[i]=x:=⟨_,rfl⟩
   have hxm:x∈l:=by rw[<-hx];exact ql hlt
   have hxs:=ka hs x hxm;obtain⟨r,hfl1,hfl2⟩:=AE.flL_take p l i hlt;rw[hx]at hfl1 hfl2;have hcnt:k+1+(AE.flL p (l.take (i+1))).length=k+1+(AE.flL p (l.take i)).length+(AE.fl p x).length:=by rw[hfl2];simp;omega
   have hsegx:Sc xs (k+1+(AE.flL p (l.take i)).length) (AE.fl p x):=by rw[hfl1]at hseg';exact(hseg'.app).2.app.1
   have Hn:∀y z,∀o,o<m2->(hset (hset h2 m2 y) m2 z) o=h2 o:=λy z o g=>by rw[AD _ _ (by omega),AD _ _ (by omega)]
   by_cases k6:x.kind=6;have hfx:AE.fl p x=Df x.id x.flow p.inNote:=by cases x;simp only[AE.kind]at k6;simp[AE.fl,k6,Df,AE.id,AE.flow]
   have hxf:x.flow.length<=1048576/\AE.sizedL x.flow:=by cases x;rw[AE.sized]at hxs;exact⟨hxs.2.2.1,hxs.2.2.2.2.1⟩
   simp[go_sem,hlt,hx,qx,AC,AD,k6,hp2,hne'];refine kS (ih x.flow (by have:=Mn hxm;omega) hxf.1 hxf.2 x.id p.inNote _ D2 _ _ (M2.keep Y (je m2) (Hn _ _)) (by rw[<-hfx];exact hsegx)) ?_;intro v h3 m3 W;rcases M2.step (je m2) (Hn _ _) W with⟨rfl,D3,M3⟩|⟨rfl,hX⟩
   simp[go_sem,w1,-Int.natCast_add];exact⟨i+1,by omega,D3,h3,⟨by omega,by rw[hcnt,hfx];exact M3⟩,IO,AB⟩;simp[go_sem];exact .inl (Jq.any hX);by_cases k7:x.kind=7;simp[go_sem,hlt,hx,qx,AC,k7];have hfx:AE.fl p x=Aa.flL p.inTable x.rows:=by cases x;simp only[AE.kind]at k6 k7;simp[AE.fl,k7,AE.rows]
   have hxr:x.rows.length<=1048576/\Aa.sizedL x.rows:=by cases x;rw[AE.sized]at hxs;exact⟨hxs.2.2.2.1,hxs.2.2.2.2.2⟩
   rw[hfx]at hsegx hcnt;generalize hk':k+1+(AE.flL p (l.take i)).length=k' at hsegx hcnt M2;refine An 1 (α:=Nat×(Nat->Prop)×Hp) (λq=>[(3,.fn (.yield yl) [] []),(6,.ptr m 0),(22,AG l),(23,AA l.length),(24,AA i),(45,A3 x.rows),(46,AA x.rows.length),(47,AA q.1)]) (λq=>q.2.2)
    (λq m'=>q.1<=x.rows.length/\Jq J D h m [(m,.cells [.bool p.body,.bool p.note,AA p.tables])] (k'+(Aa.flL p.inTable (x.rows.take q.1)).length) q.2.1 q.2.2 m') (λq=>x.rows.length-q.1) (0,D2,_) ?_ ?_ AB ?_
   exact⟨Nat.zero_le _,by dsimp only;rw[List.take_zero,Aa.flL];exact M2.more Y (Nat.le_succ m2) (Hn _ _)⟩;simp[Ai];clear Hn;rintro⟨j,D3,h3⟩ m3 ⟨hj,M3⟩;dsimp only at hj M3 ⊢;obtain⟨hp3,_,hne3,_⟩:=M3.own _ (qv.2 rfl);dsimp only at hp3 hne3;have hne3':m≠m3:=by omega
   by_cases hjt:j<x.rows.length;have w2:=wS j (by omega);obtain⟨y,hy⟩:∃y,x.rows[j]=y:=⟨_,rfl⟩
   have hym:y∈x.rows:=by rw[<-hy];exact ql hjt
   have hys:=Aa.sizedL_mem hxr.2 y hym;obtain⟨r2,hr1,hr2⟩:=Aa.flL_take p.inTable x.rows j hjt;rw[hy]at hr1 hr2;have hcnt2:k'+(Aa.flL p.inTable (x.rows.take (j+1))).length=k'+(Aa.flL p.inTable (x.rows.take j)).length+(Aa.fl p.inTable y).length:=by rw[hr2];simp;omega
   have hsegy:Sc xs (k'+(Aa.flL p.inTable (x.rows.take j)).length) (Aa.fl p.inTable y):=by rw[hr1]at hsegx;exact(hsegx.app).2.app.1
   have hfy:Aa.fl p.inTable y=Cell.flL p.inTable y.cells:=by cases y;simp[Aa.fl,Aa.cells]
   have hyc:y.cells.length<=1048576/\Cell.sizedL y.cells:=by cases y;rw[Aa.sized]at hys;exact⟨hys.2.1,hys.2.2⟩
   rw[hfy]at hsegy hcnt2;have TT:∀y z,∀o,o<m3->(hset (hset h3 m3 y) m3 z) o=h3 o:=λy z o g=>by rw[AD _ _ (by omega),AD _ _ (by omega)]
   simp[go_sem,hjt,hy,qQ,AC];generalize hk2:k'+(Aa.flL p.inTable (x.rows.take j)).length=k2 at hsegy hcnt2 M3;refine An 1 (α:=Nat×(Nat->Prop)×Hp) (λq=>[(3,.fn (.yield yl) [] []),(6,.ptr m 0),(22,AG l),(23,AA l.length),(24,AA i),(45,A3 x.rows),(46,AA x.rows.length),(47,AA j),(52,BS y.cells),(53,AA y.cells.length),(54,AA q.1)]) (λq=>q.2.2)
    (λq m'=>q.1<=y.cells.length/\Jq J D h m [(m,.cells [.bool p.body,.bool p.note,AA p.tables])] (k2+(Cell.flL p.inTable (y.cells.take q.1)).length) q.2.1 q.2.2 m') (λq=>y.cells.length-q.1) (0,D3,_) ?_ ?_ AB ?_
   exact⟨Nat.zero_le _,by dsimp only;rw[List.take_zero,Cell.flL];exact M3.more Y (Nat.le_succ m3) (TT _ _)⟩;simp[Ai];clear TT;rintro⟨q,D4,h4⟩ m4 ⟨hq,M4⟩;dsimp only at hq M4 ⊢;obtain⟨hp4,_,hne4,_⟩:=M4.own _ (qv.2 rfl);dsimp only at hp4 hne4;have hne4':m≠m4:=by omega
   by_cases hqt:q<y.cells.length;have w3:=wS q (by omega);obtain⟨z,hz⟩:∃z,y.cells[q]=z:=⟨_,rfl⟩
   have hzm:z∈y.cells:=by rw[<-hz];exact ql hqt
   have hzs:=ve hyc.2 z hzm;obtain⟨r3,hc1,hc2⟩:=Cell.flL_take p.inTable y.cells q hqt;rw[hz]at hc1 hc2;have hfz:Cell.fl p.inTable z=Df z.id z.flow p.inTable:=by cases z;simp[Cell.fl,Df,Cell.id,Cell.flow]
   have hcnt3:k2+(Cell.flL p.inTable (y.cells.take (q+1))).length=k2+(Cell.flL p.inTable (y.cells.take q)).length+(Df z.id z.flow p.inTable).length:=by rw[hc2,hfz];simp;omega
   have hsegz:Sc xs (k2+(Cell.flL p.inTable (y.cells.take q)).length) (Df z.id z.flow p.inTable):=by rw[hc1,hfz]at hsegy;exact(hsegy.app).2.app.1
   have hzf:z.flow.length<=1048576/\AE.sizedL z.flow:=by cases z;rw[Cell.sized]at hzs;exact⟨hzs.2.1,hzs.2.2⟩
   have ZP:∀y z,∀o,o<m4->(hset (hset h4 m4 y) m4 z) o=h4 o:=λy z o g=>by rw[AD _ _ (by omega),AD _ _ (by omega)]
   simp[go_sem,hqt,hz,jh,AC,AD,hp4,hne4'];refine kS (ih z.flow (by have:=Me hxm hym hzm;omega) hzf.1 hzf.2 z.id p.inTable _ D4 _ _ (M4.keep Y (je m4) (ZP _ _)) hsegz) ?_;intro v h5 m5 W;rcases M4.step (je m4) (ZP _ _) W with⟨rfl,D5,M5⟩|⟨rfl,hX⟩
   simp[go_sem,w3,-Int.natCast_add];exact⟨q+1,by omega,D5,h5,⟨by omega,by rw[hcnt3];exact M5⟩,IO,AB⟩;simp[go_sem];exact .inl (Jq.any hX);have:q=y.cells.length:=by omega
   subst this;rw[qi]at M4;simp[go_sem,w2,-Int.natCast_add];exact⟨j+1,by omega,D4,h4,⟨by omega,by rw[hcnt2];exact M4⟩,IO,AB⟩;have:j=x.rows.length:=by omega
   subst this;rw[qi]at M3;simp[go_sem,w1,-Int.natCast_add];exact⟨i+1,by omega,D3,h3,⟨by omega,by rw[hcnt];exact M3⟩,IO,AB⟩;have hfx:AE.fl p x=[]:=by cases x;simp only[AE.kind]at k6 k7;simp[AE.fl,k6,k7]
   simp[go_sem,hlt,hx,qx,AC,k6,k7,w1,-Int.natCast_add];exact⟨i+1,by omega,D2,_,⟨by omega,by rw[hcnt,hfx];exact M2.more Y (je m2) (Hn _ _)⟩,IO,AB⟩
   . have:i=l.length:=by omega
     subst this;simp[go_sem];rw[qi]at M2;exact .inl (by have:=M2.done (Jx:=Jx);simpa[Df,qD,Nat.add_comm 1]using this)
 simp[go_sem];exact .inl (Jq.any hX)
end
def Fl.ok (f:Fl):Prop:=f.items.length<=1048576/\AE.sizedL f.items
mutual
theorem AE.fl_ok (p:Bl):∀x:AE,x.sized->∀f∈AE.fl p x,f.ok
 | .mk k c i t hd f r,hs=>by
  rw[AE.sized]at hs;rw[AE.fl];split;intro g hg;rcases qk.1 hg with rfl|hg;exact⟨hs.2.2.1,hs.2.2.2.2.1⟩;exact AE.flL_ok p.inNote f hs.2.2.2.2.1 g hg;split;exact Aa.flL_ok p.inTable r hs.2.2.2.2.2;simp
theorem AE.flL_ok (p:Bl):∀l:List AE,AE.sizedL l->∀f∈AE.flL p l,f.ok
 | [],_=>by simp[AE.flL]
 | x::l,hs=>by
  rw[AE.sizedL]at hs;intro g hg;rw[AE.flL]at hg;rcases qe.1 hg with hg|hg;exact AE.fl_ok p x hs.1 g hg;exact AE.flL_ok p l hs.2 g hg
theorem Aa.fl_ok (p:Bl):∀x:Aa,x.sized->∀f∈Aa.fl p x,f.ok
 | .mk hd c,hs=>by rw[Aa.sized]at hs;rw[Aa.fl];exact Cell.flL_ok p c hs.2.2
theorem Aa.flL_ok (p:Bl):∀l:List Aa,Aa.sizedL l->∀f∈Aa.flL p l,f.ok
 | [],_=>by simp[Aa.flL]
 | x::l,hs=>by
  rw[Aa.sizedL]at hs;intro g hg;rw[Aa.flL]at hg;rcases qe.1 hg with hg|hg;exact Aa.fl_ok p x hs.1 g hg;exact Aa.flL_ok p l hs.2 g hg
theorem Cell.fl_ok (p:Bl):∀x:Cell,x.sized->∀f∈Cell.fl p x,f.ok
 | .mk i hd f,hs=>by
  rw[Cell.sized]at hs;rw[Cell.fl];intro g hg;rcases qk.1 hg with rfl|hg;exact⟨hs.2.1,hs.2.2⟩;exact AE.flL_ok p f hs.2.2 g hg
theorem Cell.flL_ok (p:Bl):∀l:List Cell,Cell.sizedL l->∀f∈Cell.flL p l,f.ok
 | [],_=>by simp[Cell.flL]
 | x::l,hs=>by
  rw[Cell.sizedL]at hs;intro g hg;rw[Cell.flL]at hg;rcases qe.1 hg with hg|hg;exact Cell.fl_ok p x hs.1 g hg;exact Cell.flL_ok p l hs.2 g hg
end
theorem LU {id:Int} {l:List AE} {p:Bl} (hl:l.length<=1048576) (hs:AE.sizedL l):∀f∈Df id l p,f.ok:=by
 intro g hg;rcases qk.1 hg with rfl|hg;exact⟨hl,hs⟩;exact AE.flL_ok p l hs g hg
section
variable {E : B6} {yl : Nat} {xs : List Fl} {J : Nat → (Nat → Prop) → Hp → Nat → Prop} {Jx : (Nat → Prop) → Hp → Nat → Prop}
theorem aU (Y:YJ E yl Fl.enc xs J Jx) (l:List AE) (hl:l.length<=1048576) (hs:AE.sizedL l) (id:Int) (p:Bl) (k:Nat) (D:Nat->Prop) (h:Hp) (m:Nat) (hJ:J k D h m) (hseg:Sc xs k (Df id l p)):
 Ak E Tryz.prog 247 [.fn (.yield yl) [] [],.iptr [AA id],.iptr [AG l],.iptr [.bool p.body,.bool p.note,AA p.tables]] h m (λ_ h' m'=>∃v,He (J (k+(Df id l p).length)) Jx D h m v h' m'):=by
 refine gq Tryz.func247 rfl λho=>?_;simp[go_sem];refine kS (aV Y (SizeOf.sizeOf l+1) l (qP _) hl hs id p k D h m hJ hseg) ?_;intro v h' m' W;simp[go_sem];exact .inl ⟨v,W⟩
end
theorem AV {h' h:Hp} {k o:Nat} {cs:List SV} (hn:h o=none) (hh:h' o=some (.cells cs)):Fz h' h (k+1) (.ptr o 0) (.iptr cs):=by
 refine .inr ⟨hn,cs,hh,by simp,?_⟩;have:∀l:List SV,AZ (Fz h' h k) l l:=by
  intro l;induction l with
  | nil=>trivial
  | cons a l ih=>exact⟨IO,ih⟩
 simpa using this cs
theorem Z7 (id:Int) (l:List AE) (p:Bl):PC 173 [AA id,AG l,p.enc] (.fn (.func 247) [] [.iptr [AA id],.iptr [AG l],.iptr [.bool p.body,.bool p.note,AA p.tables]]):=by
 intro h n;refine gq Tryz.func173 rfl λho=>?_;simp[go_sem,Bl.enc];refine Dy 3 ho (by repeat(first|exact AB|refine AQ ho (by omega) ?_)) ?_ (by simp[closed,closedL,AE.E.closedL]);have h0:=ho.none (qa n);have h1:=ho.none (je n);have h2:=ho.none (show n<=n+1+1 by omega);exact .inr ⟨rfl,trivial,AV h0 (by simp[hset,qD]),AV h1 (by simp[hset,qD]),AV h2 (by simp[hset,qD]),trivial⟩
def GN:Bl:=⟨true,false,0⟩
theorem Zo (d:AI):PC 109 [d.enc] (.fn (.func 247) [] [.iptr [AA 0],.iptr [AG d.flow],.iptr [.bool true,.bool false,AA 0]]):=by
 intro h n;refine gq Tryz.func109 rfl λho=>?_;simp[go_sem,AI.enc,AF.flat,AK.flat,AC];refine(Z7 0 d.flow GN).use ?_;simp[go_sem];exact Ay ho (by repeat(first|exact AB|refine AQ ho (by omega) ?_)) rfl (by simp[closed,closedL,AE.E.closedL])
def Dt (d:AI):List Fl:=Df 0 d.flow GN
def D9 (d:AI) (id:Int):Option Fl:=(Dt d).find? λf=>decide (f.id=id)
theorem c34 (d:AI) (id:Int) (hl:d.flow.length<=1048576) (hs:AE.sizedL d.flow):PC 34 [d.enc,AA id] (.tup [AG (((D9 d id).map Fl.items).getD []),.bool (D9 d id).isSome]):=by
 intro h n;refine cA Tryz.func34 rfl (by kernel_rfl) (by kernel_rfl) (by simp[go_sem]) λho B=>?_;simp[go_sem,AI.enc,AF.flat,AK.flat,AC,AD,qD];refine qw (by simpa[AI.enc,AF.flat,AK.flat]using Zo d) ?_;simp[go_sem];generalize hH:hset (hset (hset (hset h n _) (n+1) _) (n+2) _) (n+3) _=H;refine Fa rfl rfl rfl λE1 l R hY=>?_;have h1:H (n+1)=some (.cells [AA id]):=by rw[<-hH];simp[hset]
 have h2:H (n+2)=some (.cells [.imm 0 [] true]):=by rw[<-hH];simp[hset]
 have h3:H (n+3)=some (.cells [.bool false]):=by rw[<-hH];simp[hset]
 have BE:∀o,o<n->H o=h o:=λo g=>by rw[<-hH];rw[AD _ _ (by omega),AD _ _ (by omega),AD _ _ (by omega),AD _ _ (by omega)]
 clear hH;let D0:Nat->Prop:=λo=>n<=o/\o<=n+4;let J:Nat->(Nat->Prop)->Hp->Nat->Prop:=λk D hh m=>D=D0/\n+4<m/\hh (n+1)=some (.cells [AA id])/\hh (n+2)=some (.cells [.imm 0 [] true])/\hh (n+3)=some (.cells [.bool false])/\hh (n+4)=some (.loop (R .ready none))/\∀x∈(Dt d).take k,x.id≠id;let Jx:(Nat->Prop)->Hp->Nat->Prop:=λD hh m=>D=D0/\n+4<m/\∃x,D9 d id=some x/\hh (n+2)=some (.cells [AG x.items])/\hh (n+3)=some (.cells [.bool true])/\hh (n+4)=some (.loop (R .done (some .ret)));have Y:YJ E1 l Fl.enc (Dt d) J Jx:=by
  refine⟨λk x D hh m hx hJ=>?_,?_,?_⟩;obtain⟨rfl,g0,g1,g2,g3,g4,g5⟩:=hJ;refine hY _ _ _ _ g4 rfl (Ii ?_);have hxm:x∈Dt d:=jb hx;have hxo:x.ok:=LU hl hs x hxm;have e1:n+1≠m:=by omega
  have e2:n+2≠m:=by omega
  have e3:n+3≠m:=by omega
  have e4:n+4≠m:=by omega
  have e4':=e4.symm;simp[go_sem,Jp,Fl.enc,AC,AD,g4,e4,g1,e1];by_cases hid:x.id=id;have hfind:D9 d id=some x:=by
   obtain⟨hlt,hxx⟩:=qo.1 hx;have hsplit:Dt d=(Dt d).take k++x::(Dt d).drop (k+1):=by rw[<-hxx,List.getElem_cons_drop,ja]
   rw[D9,hsplit,List.find?_append];have:((Dt d).take k).find? (λf=>decide (f.id=id))=none:=List.find?_eq_none.2 λy hy=>by simpa using g5 y hy
   rw[this];simp[hid]
  simp[go_sem,hid,AC,AD,e4'];refine(XS _ hxo.1 hxo.2).use ?_;simp[go_sem,AC,AD,g2,e2,g3,e3,ID];refine⟨by omega,D0,λo g=>.inl g,λo g1 g2=>?_,.inr ⟨rfl,rfl,by omega,x,hfind,?_⟩⟩;have:¬(n<=o/\o<=n+4):=g1;simp only[hset];rw[if_neg (by omega),if_neg (by omega),if_neg (by omega),if_neg (by omega),if_neg (by omega),if_neg (by omega)];simp[hset];simp[go_sem,hid,ID,AC];refine⟨by omega,D0,λo g=>.inl g,λo g1 g2=>?_,.inl ⟨rfl,rfl,by omega,?_,?_,?_,?_,λy hy=>?_⟩⟩;have:¬(n<=o/\o<=n+4):=g1;simp only[hset];rw[if_neg (by omega),if_neg (by omega),if_neg (by omega),if_neg (by omega)];simp[hset,e1,g1];simp[hset,e2,g2];simp[hset,e3,g3];simp[hset];obtain⟨hlt,hxx⟩:=qo.1 hx;rw[qb hlt,hxx]at hy;rcases qe.1 hy with hy|hy;exact g5 y hy;rw[qv.1 hy];exact hid;rintro k D hh m h' m' ⟨rfl,g0,g1,g2,g3,g4,g5⟩ hm hD;exact⟨rfl,by omega,by rw[hD _ ⟨by omega,by omega⟩];exact g1,by rw[hD _ ⟨by omega,by omega⟩];exact g2,by rw[hD _ ⟨by omega,by omega⟩];exact g3,by rw[hD _ ⟨by omega,by omega⟩];exact g4,g5⟩;rintro k D hh m ⟨rfl,g0,_⟩ o ⟨a,b⟩;omega
 refine kS (aU Y d.flow hl hs 0 GN 0 D0 _ _ ⟨rfl,by omega,?_,?_,?_,?_,by simp⟩ ⟨[],by simp[Dt]⟩) ?_;rw[AD _ _ (by omega)];exact h1;rw[AD _ _ (by omega)];exact h2;rw[AD _ _ (by omega)];exact h3;exact AC _ _ _;rintro _ h' m' ⟨v,hm,D',hDD,hh,hv⟩;rcases hv with⟨rfl,rfl,g0,g1,g2,g3,g4,g5⟩|⟨rfl,rfl,g0,x,hx,g2,g3,g4⟩
 refine⟨_,_,g4,by simp,?_⟩;simp[go_sem,AC,AD,g2,g3];have hnone:D9 d id=none:=List.find?_eq_none.2 λy hy=>by simpa using g5 y (by simpa[Dt,GN]using hy)
 refine Dy 2 ho (λo y e=>?_) (by rw[hnone];exact .inr ⟨BC (by simp),IO,trivial⟩) (by rw[hnone];rfl);have g:=(ho o y e).1;rw[AD _ _ (by omega),AD _ _ (by omega),AD _ _ (by omega),hh o (λg'=>by have:n<=o/\o<=n+4:=g';omega) (by omega),AD _ _ (by omega),BE o g,e];refine⟨_,_,g4,by simp,?_⟩;simp[go_sem,AD,g2,g3];refine Ay ho (λo y e=>?_) (by rw[hx];rfl) (by rw[hx];simp[closed,closedL,AE.E.closedL]);have g:=(ho o y e).1;rw[AD _ _ (by omega),hh o (λg'=>by have:n<=o/\o<=n+4:=g';omega) (by omega),AD _ _ (by omega),BE o g,e]
def F8:Int->List AE->List (Int×AE)
 | _,[]=>[]
 | a,x::l=>(a,x)::F8 (a+x.units) l
def ZL (p:Int×AE):List SV:=[AA p.1,p.2.enc]
theorem KV:∀(a:Int) (l:List AE),(F8 a l).length=l.length
 | _,[]=>rfl
 | a,x::l=>by simp[F8,KV _ l]
theorem Ge:∀(a:Int) (l:List AE) (k:Nat) (h:k<l.length),(F8 a l)[k]? = some (a+CI (l.take k),l[k])
 | a,x::l,0,_=>by simp[F8,CI]
 | a,x::l,k+1,h=>by
  simp only[F8,List.getElem?_cons_succ,jl,CI,ju];rw[Ge _ l k (by simpa using h),Int.add_assoc]
section
variable {E : B6} {yl : Nat} {J : Nat → (Nat → Prop) → Hp → Nat → Prop} {Jx : (Nat → Prop) → Hp → Nat → Prop}
theorem az (l:List AE) (Y:YJ E yl ZL (F8 0 l) J Jx) (hl:l.length<=1048576) (hs:∀x∈l,x.text.size<=1048576) (D:Nat->Prop) (h:Hp) (m:Nat) (hJ:J 0 D h m):
 Ak E Tryz.prog 312 [.fn (.yield yl) [] [],.iptr [AG l]] h m (λ_ h' m'=>∃v,He (J l.length) Jx D h m v h' m'):=by
 refine gq Tryz.func312 rfl λho=>?_;simp[go_sem];have M0:Jq J D h m [] 0 D h m:=⟨qa _,hJ,by simp,λo g=>.inl g,λ_ _ _=>rfl⟩
 refine An 1 (α:=Nat×(Nat->Prop)×Hp) (λq=>[(0,.fn (.yield yl) [] []),(3,AA (CI (l.take q.1))),(8,AG l),(9,AA l.length),(10,AA q.1)]) (λq=>q.2.2)
  (λq m'=>q.1<=l.length/\Jq J D h m [] q.1 q.2.1 q.2.2 m') (λq=>l.length-q.1) (0,D,h) ?_ ?_ AB ?_
 exact⟨qg _,M0⟩;simp[Ai,CI];rintro⟨i,D2,h2⟩ m2 ⟨hi,M2⟩;dsimp only at hi M2 ⊢;by_cases hlt:i<l.length;have w1:=wS i (by omega);obtain⟨x,hx⟩:∃x,l[i]=x:=⟨_,rfl⟩
 have hxm:x∈l:=by rw[<-hx];exact ql hlt
 have WI:=Ik (l.take i) λy hy=>hs y (qH hy);have Hn:=x.units_le (hs x hxm);have hlk:((l.take i).length:Int)<=1048576:=by simp;omega
 have htk:l.take (i+1)=l.take i++[x]:=by rw[qb hlt,hx]
 have w2:IntKind.i64.wrap (CI (l.take i)+x.units)=CI (l.take (i+1)):=by
  rw[Cl,htk,Gt];simp[CI];omega;have:((l.take i).length:Int)*1048576<=1048576*1048576:=by omega
  omega
 have hget:=Ge 0 l i hlt;rw[hx,Int.zero_add]at hget;have hb:∀y z,∀o,o<m2->(hset (hset h2 m2 y) m2 z) o=h2 o:=λy z o g=>by rw[AD _ _ (by omega),AD _ _ (by omega)]
 have hee:ZL (CI (l.take i),x)=[AA (CI (l.take i)),x.enc]:=rfl;rw[qx]at hee;simp[go_sem,hlt,hx,qx,AC];have hst:=λhb mb g=>Y.step i _ D2 hb mb hget g;rw[hee]at hst;have hDm:¬D2 m2:=λg=>by have:=Y.lt _ _ _ _ M2.j _ g;omega
 generalize hH:hset (hset h2 m2 _) m2 _=H2;have M3:Jq J D h m [(m2,.cells [AA x.kind,AA x.code,AA x.id,.str x.text,Af x.head.props,AA x.head.ins,AA x.head.move,AP x.head.dels,AL x.head.layers,AG x.flow,A3 x.rows])] i D2 H2 (m2+1):=
  (M2.more Y (je m2) (by rw[<-hH];exact hb _ _)).add (by rw[<-hH];exact AC _ _ _) M2.lt (qP m2) hDm
 refine FJ.mono (hst _ _ M3.j) ?_;intro v h3 m3 W;rcases M3.step (qa _) (λ_ _=>rfl) W with⟨rfl,D3,M4⟩|⟨rfl,hX⟩
 obtain⟨g1,_,_,_⟩:=M4.own _ (qv.2 rfl);simp[go_sem,g1];refine qw (by simpa[qx]using Vy x (hs x hxm)) ?_;simp[go_sem,w1,w2,-Int.natCast_add];exact⟨i+1,by omega,D3,h3,⟨by omega,M4.drop⟩,⟨IO,IO⟩,AB⟩;simp[go_sem];exact .inl ⟨_,Jq.any hX⟩
 . have:i=l.length:=by omega
   subst this;simp[go_sem];exact .inl ⟨_,M2.done⟩
end
def AE.setText (y:AE) (t:ByteArray):AE:=.mk y.kind y.code y.id t y.head y.flow y.rows
def Cb (cu:Int) (s:List AE×List AE) (p:Int×AE):List AE×List AE:=
 if p.1+p.2.units<=cu then(s.1++[p.2],s.2)else if cu<=p.1 then(s.1,s.2++[p.2])else
  (s.1++[p.2.setText (p.2.text.extract 0 (Cv p.2.text (cu-p.1)).1.toNat)],s.2++[p.2.setText (p.2.text.extract (Cv p.2.text (cu-p.1)).1.toNat p.2.text.size)])
def DJ (l:List AE) (cu:Int) (k:Nat):List AE×List AE:=((F8 0 l).take k).foldl (Cb cu) ([],[])
def Bj (l:List AE) (cu:Int):List AE×List AE:=DJ l cu l.length
theorem Hv (s:ByteArray):∀k,∀x∈Bm s k,0<=x/\x<k
 | 0,x,h=>by simp[Bm]at h
 | k+1,x,h=>by
  unfold Bm at h;split at h;rcases qe.1 h with h|h;have:=Hv s k x h;omega;have:=qv.1 h;omega;have:=Hv s k x h;omega
theorem Ok (s:ByteArray) (u:Int):0<=(Cv s u).1/\(Cv s u).1<=s.size:=by
 unfold Cv;split;simp;split;simp;simp only;rw[List.getD_eq_getElem?_getD];cases h:(Bm s s.size++[(s.size:Int)])[u.toNat]? with
 | none=>simp
 | some x=>
  have:=jb h;rcases qe.1 this with h|h;have:=Hv s _ x h;simp;omega;have:=qv.1 h;simp;omega
theorem Gw (l:List AE) (cu:Int) (k:Nat) (h:k<l.length):DJ l cu (k+1)=Cb cu (DJ l cu k) (CI (l.take k),l[k]):=by
 have hg:=Ge 0 l k h;obtain⟨hlt,he⟩:=qo.1 hg;unfold DJ;rw[qb hlt,kg,he,Int.zero_add];rfl
theorem Oo (cu:Int) (s:List AE×List AE) (p:Int×AE):(Cb cu s p).1.length<=s.1.length+1/\(Cb cu s p).2.length<=s.2.length+1:=by
 unfold Cb;split;simp;split<;>simp
theorem LO (l:List AE) (cu:Int):∀k,k<=l.length->(DJ l cu k).1.length<=k/\(DJ l cu k).2.length<=k
 | 0,_=>by simp[DJ]
 | k+1,h=>by
  rw[Gw l cu k h];have h1:=Oo cu (DJ l cu k) (CI (l.take k),l[k]);have h2:=LO l cu k (by omega);omega
structure NZ (l:List AE) (cu:Int) (n:Nat) (R:LoopState->Option Code->Loop) (k:Nat) (D:Nat->Prop) (hh:Hp) (m:Nat) (oL oR:Option Nat):Prop where
 lt:n+3<m
 cell:hh n=some (.cells [AA cu])
 left:hh (n+1)=some (.cells [AM 11 oL ((DJ l cu k).1.map AE.enc)])
 right:hh (n+2)=some (.cells [AM 11 oR ((DJ l cu k).2.map AE.enc)])
 loop:hh (n+3)=some (.loop (R .ready none))
 accL:Ar (n+4) m 11 oL ((DJ l cu k).1.map AE.enc)
 accR:Ar (n+4) m 11 oR ((DJ l cu k).2.map AE.enc)
 ne:∀j,oL=some j->oR≠some j
 objL:∀j,oL=some j->hh j=some (.cells (((DJ l cu k).1.map AE.enc).flatMap SV.cells))
 objR:∀j,oR=some j->hh j=some (.cells (((DJ l cu k).2.map AE.enc).flatMap SV.cells))
 dom:D=λo=>(n<=o/\o<=n+3)\/oL=some o\/oR=some o
theorem NZ.keep {l:List AE} {cu:Int} {n:Nat} {R:LoopState->Option Code->Loop} {k:Nat} {D:Nat->Prop} {hh:Hp} {m:Nat} {oL oR:Option Nat} (H:NZ l cu n R k D hh m oL oR) {h':Hp} {m':Nat} (hm:m<=m') (hD:∀o,D o->h' o=hh o):NZ l cu n R k D h' m' oL oR:=by
 have hd:∀o,(n<=o/\o<=n+3)\/oL=some o\/oR=some o->h' o=hh o:=λo g=>hD o (by rw[H.dom];exact g);exact⟨by have:=H.lt;omega,by rw[hd _ (.inl ⟨by omega,by omega⟩)];exact H.cell,by rw[hd _ (.inl ⟨by omega,by omega⟩)];exact H.left,by rw[hd _ (.inl ⟨by omega,by omega⟩)];exact H.right,by rw[hd _ (.inl ⟨by omega,by omega⟩)];exact H.loop,H.accL.mono hm,H.accR.mono hm,H.ne,
  λj e=>by rw[hd j (.inr (.inl e))];exact H.objL j e,λj e=>by rw[hd j (.inr (.inr e))];exact H.objR j e,H.dom⟩
theorem NZ.dlt {l:List AE} {cu:Int} {n:Nat} {R:LoopState->Option Code->Loop} {k:Nat} {D:Nat->Prop} {hh:Hp} {m:Nat} {oL oR:Option Nat} (H:NZ l cu n R k D hh m oL oR):∀o,D o->o<m:=λo g=>by
 rw[H.dom]at g;have:=H.lt;rcases g with⟨_,g⟩|g|g;omega;exact(H.accL.lt o g).2;exact(H.accR.lt o g).2
theorem NZ.fin {l:List AE} {cu:Int} {n:Nat} {R:LoopState->Option Code->Loop} {k:Nat} {D:Nat->Prop} {hh:Hp} {m:Nat} {oL oR:Option Nat} (hJ:NZ l cu n R k D hh m oL oR) {sa:SA} {H2:Hp} {m':Nat} {L' R':List AE} (hs:DJ l cu (k+1)=(L',R')) (oL' oR':Option Nat) (hm:m<=m')
 (hc:H2 n=some (.cells [AA cu])) (hl:H2 (n+1)=some (.cells [AM 11 oL' (L'.map AE.enc)])) (hr:H2 (n+2)=some (.cells [AM 11 oR' (R'.map AE.enc)])) (hb:H2 (n+3)=some (.loop (R .busy none)))
 (aL:Ar (n+4) m' 11 oL' (L'.map AE.enc)) (aR:Ar (n+4) m' 11 oR' (R'.map AE.enc))
 (nL:∀j,oL'=some j->oL=some j\/m<=j) (nR:∀j,oR'=some j->oR=some j\/m<=j) (ne:∀j,oL'=some j->oR'≠some j)
 (obL:∀j,oL'=some j->H2 j=some (.cells ((L'.map AE.enc).flatMap SV.cells))) (obR:∀j,oR'=some j->H2 j=some (.cells ((R'.map AE.enc).flatMap SV.cells)))
 (fr:∀o,¬D o->o<m->H2 o=hh o) (Jx:(Nat->Prop)->Hp->Nat->Prop):
 ID (n+3) R (He (λD hh m=>∃oL oR,NZ l cu n R (k+1) D hh m oL oR) Jx D hh m) .normal sa H2 m':=by
 have hlt:=hJ.lt;have nd3:∀o,¬D o->o≠n+3:=λo g e=>g (by rw[hJ.dom];exact .inl (by omega));refine⟨hb,hm,λo=>(n<=o/\o<=n+3)\/oL'=some o\/oR'=some o,λo g=>?_,λo g1 g2=>by rw[AD _ _ (nd3 o g1)];exact fr o g1 g2,.inl ⟨rfl,oL',oR',?_⟩⟩;rcases g with g|g|g;exact .inl (by rw[hJ.dom];exact .inl g);rcases nL o g with g'|g';exact .inl (by rw[hJ.dom];exact .inr (.inl g'));exact .inr ⟨g',(aL.lt o g).2⟩;rcases nR o g with g'|g';exact .inl (by rw[hJ.dom];exact .inr (.inr g'));exact .inr ⟨g',(aR.lt o g).2⟩;refine⟨by omega,by rw[AD _ _ (by omega)];exact hc,by rw[AD _ _ (by omega),hs];exact hl,by rw[AD _ _ (by omega),hs];exact hr,AC _ _ _,by rw[hs];exact aL,by rw[hs];exact aR,ne,λj e=>?_,λj e=>?_,rfl⟩;have:=(aL.lt j e).1;rw[AD _ _ (by omega),hs];exact obL j e;have:=(aR.lt j e).1;rw[AD _ _ (by omega),hs];exact obR j e
theorem aj (l:List AE):PC 285 [AG l] (.fn (.func 312) [] [.iptr [AG l]]):=by
 intro h n;refine gq Tryz.func285 rfl λho=>?_;simp[go_sem];exact Dy 3 ho (AQ ho (qa _) AB) (.inr ⟨rfl,trivial,AV (ho.none (qa n)) (by simp[hset]),trivial⟩) (by simp[closed,closedL,AE.E.closedL])
theorem Ab {α β:Type} (f:α->β) (a:α) (l:List α):List.map f (List.toArray (a::l)).toList=f a::List.map f (List.toArray l).toList:=rfl
theorem Ag {α β:Type} (f:α->β):List.map f (List.toArray ([]:List α)).toList=[]:=rfl
theorem CO:ofValue (.agg #[.int .i64 0,.int .i64 0,.int .i64 0,.string { data:=#[] },.slice none 0 0,.int .i64 0,.int .i64 0,.slice none 0 0,.slice none 0 0,.slice none 0 0,.slice none 0 0])=.agg [.int .i64 0,.int .i64 0,.int .i64 0,.str .empty,.imm 0 [] true,.int .i64 0,.int .i64 0,.imm 0 [] true,.imm 0 [] true,.imm 0 [] true,.imm 0 [] true]:=rfl
end Go.Proofs.YtgakninlhfkkmaaGreat.Sh
