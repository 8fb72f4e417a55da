/- A part of the proof (part 6 of 15). -/
import Derived.Test.YtgakninlhfkkmaaGreatM5
namespace Go.Proofs.YtgakninlhfkkmaaGreat.Sh
abbrev Xj:=@AL.nrmL_eq
abbrev ZT:=@AE.nrmL_eq
open Proofs
set_option maxRecDepth 10000
def EU (l:List Int):List (SV×SV):=l.map λx=>(AA x,.bool true)
theorem Dn {x:Int}:∀{l:List Int} (i:Nat),x∉l->C5 (AA x) (EU l) i=some none
 | [],i,_=>rfl
 | a::l,i,h=>by
  simp only[Yg,not_or]at h
  have:(x==a)=false:=by simpa using h.1
  simp only[EU,Yf,C5,Gp,if_true,this]
  exact Dn (i+1) h.2
theorem DI {x:Int}:∀{l:List Int} (i:Nat),x∈l->∃j,C5 (AA x) (EU l) i=some (some (i+j,.bool true))/\l[j]? = some x
 | a::l,i,h=>by
  by_cases e:x=a
  . subst e
    exact⟨0,by simp[EU,C5,Gp],by simp⟩
  . have h':x∈l:=by rcases Yg.1 h with h|h;exact absurd h e;exact h
    obtain⟨j,h1,h2⟩:=DI (i+1) h'
    have:(x==a)=false:=by simpa using e
    refine⟨j+1,?_,by simpa using h2⟩
    simp only[EU,Yf,C5,Gp,if_true,this]
    rw[show i+(j+1)=i+1+j by omega]
    exact h1
theorem Ir {x:Int} {l:List Int} {j:Nat} (h:l[j]? = some x):Fj (EU l) j (AA x) (.bool true)=EU l:=by
 unfold Fj EU
 apply List.ext_getElem?
 intro i
 simp only[ZY,Yz]
 by_cases e:j=i
 . subst e;simp[h]
 . cases l[i]? <;> simp[e]
def CX (l:List Int):List Int:=l.foldl (λout x=>if x∈out then out else out++[x]) []
theorem Ib (l:List Int) (k:Nat) (h:k<l.length):CX (l.take (k+1))=if l[k]∈CX (l.take k)then CX (l.take k)else CX (l.take k)++[l[k]]:=by
 unfold CX
 rw[Y2 h,Zw];rfl
theorem IA (l:List Int):∀k,k<=l.length->(CX (l.take k)).length<=k
 | 0,_=>by simp[CX]
 | k+1,h=>by
  rw[Ib l k h]
  have:=IA l k (by omega)
  split
  . omega
  . simp;omega
theorem Qb (l:List Int) (x:Int):x∈CX l↔x∈l:=by
 have gen:∀k,k<=l.length->(x∈CX (l.take k)↔x∈l.take k):=by
  intro k
  induction k with
  | zero=>simp[CX]
  | succ k ih=>
   intro h
   have ih:=ih (by omega)
   rw[Ib l k h,Y2 h]
   split
   . rename_i hm
     simp only[Y8,Yk]
     constructor
     . intro g;exact .inl (ih.1 g)
     . rintro(g|rfl)
       . exact ih.2 g
       . exact hm
   . simp only[Y8,Yk,ih]
 have:=gen l.length (Y1 _)
 simpa using this
theorem SC.use {E:Br} {f:FuncId} {args:List SV} {h:Hp} {n:Nat} {Q K:SV->Hp->Nat->Prop} (H:BM Tryz.prog f args h n Q) (hk:∀v h' n',Q v h' n'->K v h' n'):Ak E Tryz.prog f args h n K:=Ak.lift (H.mono hk)
theorem Do:∀l:List Int,(l.map AA).flatMap SV.cells=l.map AA
 | []=>rfl
 | a::l=>by simp[SV.cells,Do l]
theorem c179 (l:List Int) (hl:l.length<=1048576):PC 179 [.imm 1 [.imm 1 (l.map AA) false] false] (.imm 1 ((C6 (CX l)).map AA) false):=by
 intro h n
 refine gq Tryz.func179 rfl λho=>?_
 simp[go_sem]
 have hn0:h n=none:=ho.none (Y1 n)
 refine Am 1 (α:=Nat×Option Nat) (λq=>[(3,.map n),(4,AN 1 q.2 ((CX (l.take (if q.1=0 then 0 else l.length))).map AA)),(10,.imm 1 [.imm 1 (l.map AA) false] false),(11,AA 1),(12,AA q.1)])
  (λq=>AO q.2 ((CX (l.take (if q.1=0 then 0 else l.length))).map AA) (hset h n (some (.map (EU (CX (l.take (if q.1=0 then 0 else l.length))))))))
  (λq m=>q.1<=1/\n<m/\A7 (n+1) m 1 q.2 ((CX (l.take (if q.1=0 then 0 else l.length))).map AA)) (λq=>1-q.1) (0,none) ?_ ?_ ?_ ?_
 . simp[CX];exact Zs _ _ _
 . simp[Aj,CX,AN]
 . simp[CX,EU,AO]
 rintro⟨k,o⟩ m ⟨hk,hnm,hA⟩
 dsimp only at hk hA ⊢
 by_cases k0:k=0
 . subst k0
   simp only[if_true,ZI]at hA ⊢
   simp[go_sem]
   refine Am 1 (α:=Nat×Option Nat) (λq=>[(3,.map n),(4,AN 1 q.2 ((CX (l.take q.1)).map AA)),(10,.imm 1 [.imm 1 (l.map AA) false] false),(11,AA 1),(12,AA 0),(16,.imm 1 (l.map AA) false),(17,AA l.length),(18,AA q.1)])
    (λq=>AO q.2 ((CX (l.take q.1)).map AA) (hset h n (some (.map (EU (CX (l.take q.1)))))))
    (λq m=>q.1<=l.length/\n<m/\A7 (n+1) m 1 q.2 ((CX (l.take q.1)).map AA)) (λq=>l.length-q.1) (0,o) ?_ ?_ ?_ ?_
   . exact⟨Y4 _,hnm,by simpa using hA⟩
   . simp[Aj]
   . exact AB
   rintro⟨i,o⟩ m ⟨hi,hnm,hA⟩
   dsimp only at hi hA ⊢
   have hdl:=IA l i hi
   have hon:∀j,o=some j->n<j/\j<m:=λj e=>by have:=hA.lt j e;omega
   by_cases hlt:i<l.length
   . have w1:=wS i (by omega)
     have hsn:=Ib l i hlt
     obtain⟨x,hx⟩:∃x,l[i]=x:=⟨_,rfl⟩
     rw[hx]at hsn
     generalize hout:CX (l.take i)=out at hA hsn hdl ⊢
     have hmap:AO o (out.map AA) (hset h n (some (.map (EU out)))) n=some (.map (EU out)):=by
      cases o with
      | none=>simp[AO,hset]
      | some j=>have:=hon j rfl;simp[AO,hset];omega
     by_cases hmem:x∈out
     . obtain⟨j,h1,h2⟩:=DI 0 hmem
       rw[if_pos hmem]at hsn
       simp[go_sem,hlt,hx,hmap,h1,CJ,w1,-Int.natCast_add]
       exact⟨i+1,by omega,o,⟨⟨by omega,hnm,by rw[hsn];exact hA⟩,by rw[hsn];exact⟨Y0,Y0⟩,by rw[hsn];exact AB⟩⟩
     . have h1:=Dn 0 hmem
       rw[if_neg hmem]at hsn
       have hap:=λ(H:Hp) (k p:Nat) (e1:H k=some (.cells (AA x).cells)) (e2:∀j,o=some j->H j=some (.cells ((out.map AA).flatMap SV.cells)))=>
        FU (P:=Tryz.prog) (H:=H) (t:=61) (t2:=61) (el:=3) (by simp[go_sem]) (by simp[go_sem]) (by simp[go_sem]) (by simp) (by simp[go_sem]) (by simp[go_sem]) (by simp[go_sem]) (by simp;omega) hA (e:=AA x) rfl e1 e2 p
       simp[go_sem,hlt,hx,hmap,h1,CJ,w1,-Int.natCast_add]
       rw[hap _ _ _ (by simp[AC,SV.cells]) (by
        intro j e
        have:=hon j e
        subst e
        simp only[hset,AO]
        grind)]
       simp[go_sem,-Int.natCast_add]
       refine⟨i+1,by omega,some (m+1),⟨⟨by omega,by omega,?_⟩,⟨?_,?_⟩,?_⟩⟩
       . rw[hsn,Y3];exact hA.push rfl rfl (by omega) (by omega)
       . rw[hsn];simp[AN,Y0]
       . exact Y0
       . rw[hsn]
         intro j y
         have hoj:=ho j y
         cases o with
         | none=>simp only[AO,hset,EU,Y3,Yf,YF,Zy,Z7,YC,Zo,Zi,Do,SV.cells];grind
         | some q=>have:=hon q rfl;simp only[AO,hset,EU,Y3,Yf,YF,YN,Z7,YC,Zo,Zi,Do,SV.cells];grind
   . have:i=l.length:=by omega
     subst this
     simp[go_sem]
     have w1:IntKind.i64.wrap 1=1:=by decide
     exact⟨1,by omega,o,⟨by omega,hnm,by simpa using hA⟩,⟨by simp[Y0],by simp[w1,Y0]⟩,by simp⟩
 . have:k=1:=by omega
   subst this
   simp[go_sem]
   simp only[Nat.one_ne_zero,if_false,Ya]at hA
   cases o with
   | none=>
    have he:=hA.none rfl
    simp only[List.map_eq_nil_iff]at he
    simp only[AN]
    refine(Tx 0 true).use ?_
    simp[go_sem,AO]
    have hs:C6 (CX l)=[]:=by rw[he];simp[C6]
    rw[hs]
    exact JL ho (AP ho (Y1 _) AB) (by simp) rfl
   | some j=>
    have hj:=hA.lt j rfl
    simp only[AN,Y5]
    have hdl:(CX l).length<=l.length:=by have:=IA l l.length (Y1 _);simpa using this
    refine SC.use (d197 (CX l) (by omega) (by simp[AO,hset,Do])) ?_
    rintro v h' n' ⟨rfl,rfl,rfl⟩
    simp[go_sem]
    have hlen:(C6 (CX l)).length=(CX l).length:=ZQ _
    refine SW GI (l:=C6 (CX l)) (full:=false) ho (λo x e=>?_) (show n<=j by omega) (by rw[hlen]) (by simp[hset,Do])
    have:=ho o x e
    simp only[hset,AO]
    grind
theorem FB.mono {E:Br} {P:Program} {l:Nat} {args:List SV} {h:Hp} {n:Nat} {Q Q':SV->Hp->Nat->Prop} (H:FB E P l args h n Q) (hq:∀v h' n',Q v h' n'->Q' v h' n'):FB E P l args h n Q':=λc vs I R F A=>by
 obtain⟨a,b,c',d,e,g⟩:=H c vs I R F A
 exact⟨a,b,c',d,e,g.mono λ_ _ ⟨u,v,h',n',c',e,q,r⟩=>⟨u,v,h',n',c',e,hq _ _ _ q,r⟩⟩
def HT (J:(Nat->Prop)->Hp->Nat->Prop) (Jx:(Nat->Prop)->Hp->Nat->Prop) (D:Nat->Prop) (h:Hp) (m:Nat):SV->Hp->Nat->Prop:=λv h' m'=>
 m<=m'/\∃D',(∀o,D' o->D o\/(m<=o/\o<m'))/\(∀o,¬D o->o<m->h' o=h o)/\((v=.bool true/\J D' h' m')\/(v=.bool false/\Jx D' h' m'))
structure YJ (E:Br) (l:Nat) {X:Type} (enc:X->List SV) (xs:List X) (J:Nat->(Nat->Prop)->Hp->Nat->Prop) (Jx:(Nat->Prop)->Hp->Nat->Prop):Prop where
 step:∀k x D h m,xs[k]? = some x->J k D h m->FB E Tryz.prog l (enc x) h m (HT (J (k+1)) Jx D h m)
 keep:∀k D h m h' m',J k D h m->m<=m'->(∀o,D o->h' o=h o)->J k D h' m'
 lt:∀k D h m,J k D h m->∀o,D o->o<m
def RH {X:Type} (xs:List X) (k:Nat) (L:List X):Prop:=∃rest,xs.drop k=L++rest
theorem RH.app {X:Type} {xs A B:List X} {k:Nat} (H:RH xs k (A++B)):RH xs k A/\RH xs (k+A.length) B:=by
 obtain⟨r,h⟩:=H
 refine⟨⟨B++r,by rw[h,Ye]⟩,⟨r,?_⟩⟩
 rw[<-ZW,h,Ye,List.drop_left]
theorem RH.head {X:Type} {xs L:List X} {x:X} {k:Nat} (H:RH xs k (x::L)):xs[k]? = some x/\RH xs (k+1) L:=by
 obtain⟨r,h⟩:=H
 have h1:(xs.drop k)[0]? = some x:=by rw[h];rfl
 refine⟨by simpa using h1,r,?_⟩
 rw[<-ZW,h];rfl
section
variable {E : Br} {yl : Nat} {X : Type} {enc : X → List SV} {xs : List X} {J : Nat → (Nat → Prop) → Hp → Nat → Prop} {Jx : (Nat → Prop) → Hp → Nat → Prop}
structure JU (J:Nat->(Nat->Prop)->Hp->Nat->Prop) (D:Nat->Prop) (h:Hp) (m:Nat) (own:List (Nat×BT)) (cnt:Nat) (D2:Nat->Prop) (h2:Hp) (m2:Nat):Prop where
 lt:m<=m2
 j:J cnt D2 h2 m2
 own:∀p∈own,h2 p.1=some p.2/\m<=p.1/\p.1<m2/\¬D2 p.1
 sub:∀o,D2 o->D o\/(m<=o/\o<m2)
 old:∀o,¬D o->o<m->h2 o=h o
theorem JU.keep (Y:YJ E yl enc xs J Jx) {D:Nat->Prop} {h:Hp} {m:Nat} {own:List (Nat×BT)} {cnt:Nat} {D2:Nat->Prop} {h2:Hp} {m2:Nat} (M:JU J D h m own cnt D2 h2 m2) {hb:Hp} {mb:Nat} (hm:m2<=mb) (hh:∀o,o<m2->hb o=h2 o):J cnt D2 hb mb:=
 Y.keep _ _ _ _ _ _ M.j hm λo g=>hh o (Y.lt _ _ _ _ M.j o g)
theorem JU.step {D:Nat->Prop} {h:Hp} {m:Nat} {own:List (Nat×BT)} {cnt cnt':Nat} {D2:Nat->Prop} {h2:Hp} {m2:Nat} (M:JU J D h m own cnt D2 h2 m2) {hb:Hp} {mb:Nat} (hm:m2<=mb) (hh:∀o,o<m2->hb o=h2 o)
 {v:SV} {h3:Hp} {m3:Nat} (W:HT (J cnt') Jx D2 hb mb v h3 m3):(v=.bool true/\∃D3,JU J D h m own cnt' D3 h3 m3)\/(v=.bool false/\HT (J cnt') Jx D h m v h3 m3):=by
 obtain⟨hm3,D3,hDD,A8,hv⟩:=W
 have h1:∀o,D3 o->D o\/(m<=o/\o<m3):=λo g=>by
  rcases hDD o g with g|g
  . rcases M.sub o g with g|g
    . exact .inl g
    . exact .inr (by omega)
  . have:=M.lt;exact .inr (by omega)
 have h4:∀o,¬D o->o<m->h3 o=h o:=λo g1 g2=>by
  have hn:¬D2 o:=λg=>by rcases M.sub o g with g|g;exact g1 g;omega
  have:=M.lt
  rw[A8 o hn (by omega),hh o (by omega),M.old o g1 g2]
 have:=M.lt
 rcases hv with⟨rfl,hj⟩|⟨rfl,hj⟩
 . refine .inl ⟨rfl,D3,by omega,hj,λp hp=>?_,h1,h4⟩
   obtain⟨g1,g2,g3,g4⟩:=M.own p hp
   refine⟨by rw[A8 _ g4 (by omega),hh _ g3,g1],g2,by omega,λg=>?_⟩
   rcases hDD _ g with g|g
   . exact g4 g
   . omega
 . exact .inr ⟨rfl,by omega,D3,h1,h4,.inr ⟨rfl,hj⟩⟩
theorem JU.done {D:Nat->Prop} {h:Hp} {m:Nat} {own:List (Nat×BT)} {cnt:Nat} {D2:Nat->Prop} {h2:Hp} {m2:Nat} (M:JU J D h m own cnt D2 h2 m2):HT (J cnt) Jx D h m (.bool true) h2 m2:=
 ⟨M.lt,D2,M.sub,M.old,.inl ⟨rfl,M.j⟩⟩
theorem JU.more (Y:YJ E yl enc xs J Jx) {D:Nat->Prop} {h:Hp} {m:Nat} {own:List (Nat×BT)} {cnt:Nat} {D2:Nat->Prop} {h2:Hp} {m2:Nat} (M:JU J D h m own cnt D2 h2 m2) {hb:Hp} {mb:Nat} (hm:m2<=mb) (hh:∀o,o<m2->hb o=h2 o):JU J D h m own cnt D2 hb mb:=
 ⟨Yo M.lt hm,M.keep Y hm hh,λp hp=>by obtain⟨g1,g2,g3,g4⟩:=M.own p hp;exact⟨by rw[hh _ g3,g1],g2,by omega,g4⟩,λo g=>by rcases M.sub o g with g|g;exact .inl g;exact .inr (by omega),λo g1 g2=>by have:=M.lt;rw[hh o (by omega),M.old o g1 g2]⟩
theorem JU.add {D:Nat->Prop} {h:Hp} {m:Nat} {own:List (Nat×BT)} {cnt:Nat} {D2:Nat->Prop} {h2:Hp} {m2:Nat} (M:JU J D h m own cnt D2 h2 m2) {j:Nat} {y:BT} (h1:h2 j=some y) (h3:m<=j) (h4:j<m2) (h5:¬D2 j):JU J D h m ((j,y)::own) cnt D2 h2 m2:=
 ⟨M.lt,M.j,λp hp=>by rcases Yg.1 hp with rfl|hp;exact⟨h1,h3,h4,h5⟩;exact M.own p hp,M.sub,M.old⟩
theorem JU.drop {D:Nat->Prop} {h:Hp} {m:Nat} {own:List (Nat×BT)} {p:Nat×BT} {cnt:Nat} {D2:Nat->Prop} {h2:Hp} {m2:Nat} (M:JU J D h m (p::own) cnt D2 h2 m2):JU J D h m own cnt D2 h2 m2:=
 ⟨M.lt,M.j,λq hq=>M.own q (Yx _ hq),M.sub,M.old⟩
theorem JU.any {cnt cnt':Nat} {D:Nat->Prop} {h:Hp} {m:Nat} {h2:Hp} {m2:Nat} (H:HT (J cnt) Jx D h m (.bool false) h2 m2):HT (J cnt') Jx D h m (.bool false) h2 m2:=by
 obtain⟨a,D',b,c,d|d⟩:=H
 . exact absurd d.1 (by simp)
 . exact⟨a,D',b,c,.inr d⟩
end
structure Bb where
 body:Bool
 note:Bool
 tables:Int
def Bb.enc (p:Bb):SV:=.agg [.bool p.body,.bool p.note,AA p.tables]
structure Fl where
 id:Int
 items:List AE
 at_:Bb
def Fl.enc (f:Fl):List SV:=[AA f.id,.agg [AG f.items,.bool f.at_.body,.bool f.at_.note,AA f.at_.tables]]
def Bb.inNote (p:Bb):Bb:=⟨false,true,p.tables⟩
def Bb.inTable (p:Bb):Bb:=⟨false,p.note,IntKind.i64.wrap (p.tables+1)⟩
mutual
def AE.fl (p:Bb):AE->List Fl
 | .mk k _ i _ _ f r=>if k=6 then⟨i,f,p.inNote⟩::AE.flL p.inNote f else if k=7 then AW.flL p.inTable r else[]
def AE.flL (p:Bb):List AE->List Fl
 | []=>[]
 | x::l=>AE.fl p x++AE.flL p l
def AW.fl (p:Bb):AW->List Fl
 | .mk _ c=>AL.flL p c
def AW.flL (p:Bb):List AW->List Fl
 | []=>[]
 | x::l=>AW.fl p x++AW.flL p l
def AL.fl (p:Bb):AL->List Fl
 | .mk i _ f=>⟨i,f,p⟩::AE.flL p f
def AL.flL (p:Bb):List AL->List Fl
 | []=>[]
 | x::l=>AL.fl p x++AL.flL p l
end
def DA (id:Int) (l:List AE) (p:Bb):List Fl:=⟨id,l,p⟩::AE.flL p l
theorem AE.flL_take (p:Bb):∀(l:List AE) (i:Nat) (h:i<l.length),∃r,AE.flL p l=AE.flL p (l.take i)++(AE.fl p l[i]++r)/\AE.flL p (l.take (i+1))=AE.flL p (l.take i)++AE.fl p l[i]
 | x::l,0,_=>⟨AE.flL p l,by simp[AE.flL]⟩
 | x::l,i+1,h=>by
  obtain⟨r,h1,h2⟩:=AE.flL_take p l i (by simpa using h)
  exact⟨r,by simp only[AE.flL,YY,Zc];rw[h1,h2];simp⟩
theorem AW.flL_take (p:Bb):∀(l:List AW) (i:Nat) (h:i<l.length),∃r,AW.flL p l=AW.flL p (l.take i)++(AW.fl p l[i]++r)/\AW.flL p (l.take (i+1))=AW.flL p (l.take i)++AW.fl p l[i]
 | x::l,0,_=>⟨AW.flL p l,by simp[AW.flL]⟩
 | x::l,i+1,h=>by
  obtain⟨r,h1,h2⟩:=AW.flL_take p l i (by simpa using h)
  exact⟨r,by simp only[AW.flL,YY,Zc];rw[h1,h2];simp⟩
theorem AL.flL_take (p:Bb):∀(l:List AL) (i:Nat) (h:i<l.length),∃r,AL.flL p l=AL.flL p (l.take i)++(AL.fl p l[i]++r)/\AL.flL p (l.take (i+1))=AL.flL p (l.take i)++AL.fl p l[i]
 | x::l,0,_=>⟨AL.flL p l,by simp[AL.flL]⟩
 | x::l,i+1,h=>by
  obtain⟨r,h1,h2⟩:=AL.flL_take p l i (by simpa using h)
  exact⟨r,by simp only[AL.flL,YY,Zc];rw[h1,h2];simp⟩
theorem MW {l:List AE} {x:AE} (h:x∈l):SizeOf.sizeOf x.flow<SizeOf.sizeOf l:=by
 have:=List.sizeOf_lt_of_mem h
 cases x;simp only[AE.flow,AE.mk.sizeOf_spec]at *;omega
theorem ML {l:List AE} {x:AE} {r:AW} {c:AL} (h:x∈l) (hr:r∈x.rows) (hc:c∈r.cells):SizeOf.sizeOf c.flow<SizeOf.sizeOf l:=by
 have h1:=List.sizeOf_lt_of_mem h
 have h2:=List.sizeOf_lt_of_mem hr
 have h3:=List.sizeOf_lt_of_mem hc
 cases x;cases r;cases c
 simp only[AE.rows,AW.cells,AL.flow,AE.mk.sizeOf_spec,AW.mk.sizeOf_spec,AL.mk.sizeOf_spec]at *;omega
section
variable {E : Br} {yl : Nat} {xs : List Fl} {J : Nat → (Nat → Prop) → Hp → Nat → Prop} {Jx : (Nat → Prop) → Hp → Nat → Prop}
theorem c248 (Y:YJ E yl Fl.enc xs J Jx):∀(N:Nat) (l:List AE),SizeOf.sizeOf l<N->l.length<=1048576->AE.sizedL l->∀(id:Int) (p:Bb) (k:Nat) (D:Nat->Prop) (h:Hp) (m:Nat),J k D h m->RH xs k (DA id l p)->
 Ak E Tryz.prog 248 [AA id,AG l,p.enc,.fn (.yield yl) [] []] h m (HT (J (k+(DA id l p).length)) Jx D h m):=by
 intro N
 induction N with
 | zero=>intro l h;omega
 | succ N ih=>
 intro l hN hl hs id p k D h m hJ hseg
 obtain⟨hx0,hseg'⟩:=hseg.head
 refine gq Tryz.func248 rfl λho=>?_
 simp[go_sem,Bb.enc,AC]
 have hD:∀o,D o->o<m:=Y.lt k D h m hJ
 have hJ1:J k D (hset h m (some (.cells [.bool p.body,.bool p.note,AA p.tables]))) (m+1):=Y.keep k D h m _ _ hJ (by omega) λo hDo=>AD _ _ (by have:=hD o hDo;omega)
 have M0:JU J D h m [(m,.cells [.bool p.body,.bool p.note,AA p.tables])] k D (hset h m (some (.cells [.bool p.body,.bool p.note,AA p.tables]))) (m+1):=
  ⟨by omega,hJ1,by simp[AC];exact λg=>absurd (hD m g) (by omega),λo g=>.inl g,λo _ g=>AD _ _ (by omega)⟩
 refine FB.mono (Y.step k _ D _ _ hx0 hJ1) ?_
 intro v h1 m1 W
 rcases M0.step (Y1 _) (λ_ _=>rfl) W with⟨rfl,D1,M1⟩|⟨rfl,hX⟩
 . simp[go_sem]
   refine Am 1 (α:=Nat×(Nat->Prop)×Hp) (λq=>[(3,.fn (.yield yl) [] []),(6,.ptr m 0),(22,AG l),(23,AA l.length),(24,AA q.1)]) (λq=>q.2.2)
    (λq m'=>q.1<=l.length/\JU J D h m [(m,.cells [.bool p.body,.bool p.note,AA p.tables])] (k+1+(AE.flL p (l.take q.1)).length) q.2.1 q.2.2 m') (λq=>l.length-q.1) (0,D1,h1) ?_ ?_ AB ?_
   . exact⟨Y4 _,by simpa[AE.flL]using M1⟩
   . simp[Aj]
   rintro⟨i,D2,h2⟩ m2 ⟨hi,M2⟩
   dsimp only at hi M2 ⊢
   obtain⟨hp2,_,hne,_⟩:=M2.own _ (Yk.2 rfl)
   dsimp only at hp2 hne
   have hne':m≠m2:=by omega
   by_cases hlt:i<l.length
   . have w1:=wS i (by omega)
     obtain⟨x,hx⟩:∃x,l[i]=x:=⟨_,rfl⟩
     have hxm:x∈l:=by rw[<-hx];exact Yc hlt
     have hxs:=Zu hs x hxm
     obtain⟨r,hfl1,hfl2⟩:=AE.flL_take p l i hlt
     rw[hx]at hfl1 hfl2
     have hcnt:k+1+(AE.flL p (l.take (i+1))).length=k+1+(AE.flL p (l.take i)).length+(AE.fl p x).length:=by rw[hfl2];simp;omega
     have hsegx:RH xs (k+1+(AE.flL p (l.take i)).length) (AE.fl p x):=by rw[hfl1]at hseg';exact(hseg'.app).2.app.1
     have HZ:∀y z,∀o,o<m2->(hset (hset h2 m2 y) m2 z) o=h2 o:=λy z o g=>by rw[AD _ _ (by omega),AD _ _ (by omega)]
     by_cases k6:x.kind=6
     . have hfx:AE.fl p x=DA x.id x.flow p.inNote:=by cases x;simp only[AE.kind]at k6;simp[AE.fl,k6,DA,AE.id,AE.flow]
       have hxf:x.flow.length<=1048576/\AE.sizedL x.flow:=by cases x;rw[AE.sized]at hxs;exact⟨hxs.2.2.1,hxs.2.2.2.2.1⟩
       simp[go_sem,hlt,hx,Yh,AC,AD,k6,hp2,hne']
       refine Xc (ih x.flow (by have:=MW hxm;omega) hxf.1 hxf.2 x.id p.inNote _ D2 _ _ (M2.keep Y (YO m2) (HZ _ _)) (by rw[<-hfx];exact hsegx)) ?_
       intro v h3 m3 W
       rcases M2.step (YO m2) (HZ _ _) W with⟨rfl,D3,M3⟩|⟨rfl,hX⟩
       . simp[go_sem,w1,-Int.natCast_add]
         exact⟨i+1,by omega,D3,h3,⟨by omega,by rw[hcnt,hfx];exact M3⟩,Y0,AB⟩
       . simp[go_sem]
         exact .inl (JU.any hX)
     . by_cases k7:x.kind=7
       . simp[go_sem,hlt,hx,Yh,AC,k7]
         have hfx:AE.fl p x=AW.flL p.inTable x.rows:=by cases x;simp only[AE.kind]at k6 k7;simp[AE.fl,k7,AE.rows]
         have hxr:x.rows.length<=1048576/\AW.sizedL x.rows:=by cases x;rw[AE.sized]at hxs;exact⟨hxs.2.2.2.1,hxs.2.2.2.2.2⟩
         rw[hfx]at hsegx hcnt
         generalize hk':k+1+(AE.flL p (l.take i)).length=k' at hsegx hcnt M2
         refine Am 1 (α:=Nat×(Nat->Prop)×Hp) (λq=>[(3,.fn (.yield yl) [] []),(6,.ptr m 0),(22,AG l),(23,AA l.length),(24,AA i),(45,Av x.rows),(46,AA x.rows.length),(47,AA q.1)]) (λq=>q.2.2)
          (λq m'=>q.1<=x.rows.length/\JU J D h m [(m,.cells [.bool p.body,.bool p.note,AA p.tables])] (k'+(AW.flL p.inTable (x.rows.take q.1)).length) q.2.1 q.2.2 m') (λq=>x.rows.length-q.1) (0,D2,_) ?_ ?_ AB ?_
         . exact⟨Nat.zero_le _,by dsimp only;rw[List.take_zero,AW.flL];exact M2.more Y (Nat.le_succ m2) (HZ _ _)⟩
         . simp[Aj]
         clear HZ
         rintro⟨j,D3,h3⟩ m3 ⟨hj,M3⟩
         dsimp only at hj M3 ⊢
         obtain⟨hp3,_,hne3,_⟩:=M3.own _ (Yk.2 rfl)
         dsimp only at hp3 hne3
         have hne3':m≠m3:=by omega
         by_cases hjt:j<x.rows.length
         . have w2:=wS j (by omega)
           obtain⟨y,hy⟩:∃y,x.rows[j]=y:=⟨_,rfl⟩
           have hym:y∈x.rows:=by rw[<-hy];exact Yc hjt
           have hys:=AW.sizedL_mem hxr.2 y hym
           obtain⟨r2,hr1,hr2⟩:=AW.flL_take p.inTable x.rows j hjt
           rw[hy]at hr1 hr2
           have hcnt2:k'+(AW.flL p.inTable (x.rows.take (j+1))).length=k'+(AW.flL p.inTable (x.rows.take j)).length+(AW.fl p.inTable y).length:=by rw[hr2];simp;omega
           have hsegy:RH xs (k'+(AW.flL p.inTable (x.rows.take j)).length) (AW.fl p.inTable y):=by rw[hr1]at hsegx;exact(hsegx.app).2.app.1
           have hfy:AW.fl p.inTable y=AL.flL p.inTable y.cells:=by cases y;simp[AW.fl,AW.cells]
           have hyc:y.cells.length<=1048576/\AL.sizedL y.cells:=by cases y;rw[AW.sized]at hys;exact⟨hys.2.1,hys.2.2⟩
           rw[hfy]at hsegy hcnt2
           have Rx:∀y z,∀o,o<m3->(hset (hset h3 m3 y) m3 z) o=h3 o:=λy z o g=>by rw[AD _ _ (by omega),AD _ _ (by omega)]
           simp[go_sem,hjt,hy,YB,AC]
           generalize hk2:k'+(AW.flL p.inTable (x.rows.take j)).length=k2 at hsegy hcnt2 M3
           refine Am 1 (α:=Nat×(Nat->Prop)×Hp) (λq=>[(3,.fn (.yield yl) [] []),(6,.ptr m 0),(22,AG l),(23,AA l.length),(24,AA i),(45,Av x.rows),(46,AA x.rows.length),(47,AA j),(52,BQ y.cells),(53,AA y.cells.length),(54,AA q.1)]) (λq=>q.2.2)
            (λq m'=>q.1<=y.cells.length/\JU J D h m [(m,.cells [.bool p.body,.bool p.note,AA p.tables])] (k2+(AL.flL p.inTable (y.cells.take q.1)).length) q.2.1 q.2.2 m') (λq=>y.cells.length-q.1) (0,D3,_) ?_ ?_ AB ?_
           . exact⟨Nat.zero_le _,by dsimp only;rw[List.take_zero,AL.flL];exact M3.more Y (Nat.le_succ m3) (Rx _ _)⟩
           . simp[Aj]
           clear Rx
           rintro⟨q,D4,h4⟩ m4 ⟨hq,M4⟩
           dsimp only at hq M4 ⊢
           obtain⟨hp4,_,hne4,_⟩:=M4.own _ (Yk.2 rfl)
           dsimp only at hp4 hne4
           have hne4':m≠m4:=by omega
           by_cases hqt:q<y.cells.length
           . have w3:=wS q (by omega)
             obtain⟨z,hz⟩:∃z,y.cells[q]=z:=⟨_,rfl⟩
             have hzm:z∈y.cells:=by rw[<-hz];exact Yc hqt
             have hzs:=AL.sizedL_mem hyc.2 z hzm
             obtain⟨r3,hc1,hc2⟩:=AL.flL_take p.inTable y.cells q hqt
             rw[hz]at hc1 hc2
             have hfz:AL.fl p.inTable z=DA z.id z.flow p.inTable:=by cases z;simp[AL.fl,DA,AL.id,AL.flow]
             have hcnt3:k2+(AL.flL p.inTable (y.cells.take (q+1))).length=k2+(AL.flL p.inTable (y.cells.take q)).length+(DA z.id z.flow p.inTable).length:=by rw[hc2,hfz];simp;omega
             have hsegz:RH xs (k2+(AL.flL p.inTable (y.cells.take q)).length) (DA z.id z.flow p.inTable):=by rw[hc1,hfz]at hsegy;exact(hsegy.app).2.app.1
             have hzf:z.flow.length<=1048576/\AE.sizedL z.flow:=by cases z;rw[AL.sized]at hzs;exact⟨hzs.2.1,hzs.2.2⟩
             have hb4:∀y z,∀o,o<m4->(hset (hset h4 m4 y) m4 z) o=h4 o:=λy z o g=>by rw[AD _ _ (by omega),AD _ _ (by omega)]
             simp[go_sem,hqt,hz,Z9,AC,AD,hp4,hne4']
             refine Xc (ih z.flow (by have:=ML hxm hym hzm;omega) hzf.1 hzf.2 z.id p.inTable _ D4 _ _ (M4.keep Y (YO m4) (hb4 _ _)) hsegz) ?_
             intro v h5 m5 W
             rcases M4.step (YO m4) (hb4 _ _) W with⟨rfl,D5,M5⟩|⟨rfl,hX⟩
             . simp[go_sem,w3,-Int.natCast_add]
               exact⟨q+1,by omega,D5,h5,⟨by omega,by rw[hcnt3];exact M5⟩,Y0,AB⟩
             . simp[go_sem]
               exact .inl (JU.any hX)
           . have:q=y.cells.length:=by omega
             subst this
             rw[Ya]at M4
             simp[go_sem,w2,-Int.natCast_add]
             exact⟨j+1,by omega,D4,h4,⟨by omega,by rw[hcnt2];exact M4⟩,Y0,AB⟩
         . have:j=x.rows.length:=by omega
           subst this
           rw[Ya]at M3
           simp[go_sem,w1,-Int.natCast_add]
           exact⟨i+1,by omega,D3,h3,⟨by omega,by rw[hcnt];exact M3⟩,Y0,AB⟩
       . have hfx:AE.fl p x=[]:=by cases x;simp only[AE.kind]at k6 k7;simp[AE.fl,k6,k7]
         simp[go_sem,hlt,hx,Yh,AC,k6,k7,w1,-Int.natCast_add]
         exact⟨i+1,by omega,D2,_,⟨by omega,by rw[hcnt,hfx];exact M2.more Y (YO m2) (HZ _ _)⟩,Y0,AB⟩
   . have:i=l.length:=by omega
     subst this
     simp[go_sem]
     rw[Ya]at M2
     exact .inl (by have:=M2.done (Jx:=Jx);simpa[DA,Yn,Nat.add_comm 1]using this)
 . simp[go_sem]
   exact .inl (JU.any hX)
end
def Fl.ok (f:Fl):Prop:=f.items.length<=1048576/\AE.sizedL f.items
mutual
theorem AE.fl_ok (p:Bb):∀x:AE,x.sized->∀f∈AE.fl p x,f.ok
 | .mk k c i t hd f r,hs=>by
  rw[AE.sized]at hs
  rw[AE.fl]
  split
  . intro g hg
    rcases Yg.1 hg with rfl|hg
    . exact⟨hs.2.2.1,hs.2.2.2.2.1⟩
    . exact AE.flL_ok p.inNote f hs.2.2.2.2.1 g hg
  . split
    . exact AW.flL_ok p.inTable r hs.2.2.2.2.2
    . simp
theorem AE.flL_ok (p:Bb):∀l:List AE,AE.sizedL l->∀f∈AE.flL p l,f.ok
 | [],_=>by simp[AE.flL]
 | x::l,hs=>by
  rw[AE.sizedL]at hs
  intro g hg
  rw[AE.flL]at hg
  rcases Y8.1 hg with hg|hg
  . exact AE.fl_ok p x hs.1 g hg
  . exact AE.flL_ok p l hs.2 g hg
theorem AW.fl_ok (p:Bb):∀x:AW,x.sized->∀f∈AW.fl p x,f.ok
 | .mk hd c,hs=>by rw[AW.sized]at hs;rw[AW.fl];exact AL.flL_ok p c hs.2.2
theorem AW.flL_ok (p:Bb):∀l:List AW,AW.sizedL l->∀f∈AW.flL p l,f.ok
 | [],_=>by simp[AW.flL]
 | x::l,hs=>by
  rw[AW.sizedL]at hs
  intro g hg
  rw[AW.flL]at hg
  rcases Y8.1 hg with hg|hg
  . exact AW.fl_ok p x hs.1 g hg
  . exact AW.flL_ok p l hs.2 g hg
theorem AL.fl_ok (p:Bb):∀x:AL,x.sized->∀f∈AL.fl p x,f.ok
 | .mk i hd f,hs=>by
  rw[AL.sized]at hs
  rw[AL.fl]
  intro g hg
  rcases Yg.1 hg with rfl|hg
  . exact⟨hs.2.1,hs.2.2⟩
  . exact AE.flL_ok p f hs.2.2 g hg
theorem AL.flL_ok (p:Bb):∀l:List AL,AL.sizedL l->∀f∈AL.flL p l,f.ok
 | [],_=>by simp[AL.flL]
 | x::l,hs=>by
  rw[AL.sizedL]at hs
  intro g hg
  rw[AL.flL]at hg
  rcases Y8.1 hg with hg|hg
  . exact AL.fl_ok p x hs.1 g hg
  . exact AL.flL_ok p l hs.2 g hg
end
theorem Ig {id:Int} {l:List AE} {p:Bb} (hl:l.length<=1048576) (hs:AE.sizedL l):∀f∈DA id l p,f.ok:=by
 intro g hg
 rcases Yg.1 hg with rfl|hg
 . exact⟨hl,hs⟩
 . exact AE.flL_ok p l hs g hg
section
variable {E : Br} {yl : Nat} {xs : List Fl} {J : Nat → (Nat → Prop) → Hp → Nat → Prop} {Jx : (Nat → Prop) → Hp → Nat → Prop}
theorem c247 (Y:YJ E yl Fl.enc xs J Jx) (l:List AE) (hl:l.length<=1048576) (hs:AE.sizedL l) (id:Int) (p:Bb) (k:Nat) (D:Nat->Prop) (h:Hp) (m:Nat) (hJ:J k D h m) (hseg:RH xs k (DA id l p)):
 Ak E Tryz.prog 247 [.fn (.yield yl) [] [],.iptr [AA id],.iptr [AG l],.iptr [.bool p.body,.bool p.note,AA p.tables]] h m (λ_ h' m'=>∃v,HT (J (k+(DA id l p).length)) Jx D h m v h' m'):=by
 refine gq Tryz.func247 rfl λho=>?_
 simp[go_sem]
 refine Xc (c248 Y (SizeOf.sizeOf l+1) l (YD _) hl hs id p k D h m hJ hseg) ?_
 intro v h' m' W
 simp[go_sem]
 exact .inl ⟨v,W⟩
end
theorem AT {h' h:Hp} {k o:Nat} {cs:List SV} (hn:h o=none) (hh:h' o=some (.cells cs)):Fz h' h (k+1) (.ptr o 0) (.iptr cs):=by
 refine .inr ⟨hn,cs,hh,by simp,?_⟩
 have:∀l:List SV,AZ (Fz h' h k) l l:=by
  intro l;induction l with
  | nil=>trivial
  | cons a l ih=>exact⟨Y0,ih⟩
 simpa using this cs
theorem c173 (id:Int) (l:List AE) (p:Bb):PC 173 [AA id,AG l,p.enc] (.fn (.func 247) [] [.iptr [AA id],.iptr [AG l],.iptr [.bool p.body,.bool p.note,AA p.tables]]):=by
 intro h n
 refine gq Tryz.func173 rfl λho=>?_
 simp[go_sem,Bb.enc]
 refine Dh 3 ho (by repeat(first|exact AB|refine AP ho (by omega) ?_)) ?_ (by simp[closed,closedL,AE.E.closedL])
 have h0:=ho.none (Y1 n)
 have h1:=ho.none (YO n)
 have h2:=ho.none (show n<=n+1+1 by omega)
 exact .inr ⟨rfl,trivial,AT h0 (by simp[hset,Yn]),AT h1 (by simp[hset,Yn]),AT h2 (by simp[hset,Yn]),trivial⟩
def ED:Bb:=⟨true,false,0⟩
theorem c109 (d:AH):PC 109 [d.enc] (.fn (.func 247) [] [.iptr [AA 0],.iptr [AG d.flow],.iptr [.bool true,.bool false,AA 0]]):=by
 intro h n
 refine gq Tryz.func109 rfl λho=>?_
 simp[go_sem,AH.enc,AF.flat,AJ.flat,AC]
 refine(c173 0 d.flow ED).use ?_
 simp[go_sem]
 exact Au ho (by repeat(first|exact AB|refine AP ho (by omega) ?_)) rfl (by simp[closed,closedL,AE.E.closedL])
def C0 (d:AH):List Fl:=DA 0 d.flow ED
def CG (d:AH) (id:Int):Option Fl:=(C0 d).find? λf=>decide (f.id=id)
theorem c34 (d:AH) (id:Int) (hl:d.flow.length<=1048576) (hs:AE.sizedL d.flow):PC 34 [d.enc,AA id] (.tup [AG (((CG d id).map Fl.items).getD []),.bool (CG d id).isSome]):=by
 intro h n
 refine goM Tryz.func34 rfl (by kernel_rfl) (by kernel_rfl) (by simp[go_sem]) λho B=>?_
 simp[go_sem,AH.enc,AF.flat,AJ.flat,AC,AD,Yn]
 refine Yj (by simpa[AH.enc,AF.flat,AJ.flat]using c109 d) ?_
 simp[go_sem]
 generalize hH:hset (hset (hset (hset h n _) (n+1) _) (n+2) _) (n+3) _=H
 refine FP rfl rfl rfl λE1 l R hY=>?_
 have h1:H (n+1)=some (.cells [AA id]):=by rw[<-hH];simp[hset]
 have h2:H (n+2)=some (.cells [.imm 0 [] true]):=by rw[<-hH];simp[hset]
 have h3:H (n+3)=some (.cells [.bool false]):=by rw[<-hH];simp[hset]
 have A8:∀o,o<n->H o=h o:=λo g=>by rw[<-hH];rw[AD _ _ (by omega),AD _ _ (by omega),AD _ _ (by omega),AD _ _ (by omega)]
 clear hH
 let D0:Nat->Prop:=λo=>n<=o/\o<=n+4
 let J:Nat->(Nat->Prop)->Hp->Nat->Prop:=λk D hh m=>D=D0/\n+4<m/\hh (n+1)=some (.cells [AA id])/\hh (n+2)=some (.cells [.imm 0 [] true])/\hh (n+3)=some (.cells [.bool false])/\hh (n+4)=some (.loop (R .ready none))/\∀x∈(C0 d).take k,x.id≠id
 let Jx:(Nat->Prop)->Hp->Nat->Prop:=λD hh m=>D=D0/\n+4<m/\∃x,CG d id=some x/\hh (n+2)=some (.cells [AG x.items])/\hh (n+3)=some (.cells [.bool true])/\hh (n+4)=some (.loop (R .done (some .ret)))
 have Y:YJ E1 l Fl.enc (C0 d) J Jx:=by
  refine⟨λk x D hh m hx hJ=>?_,?_,?_⟩
  . obtain⟨rfl,g0,g1,g2,g3,g4,g5⟩:=hJ
    refine hY _ _ _ _ g4 rfl (IJ ?_)
    have hxm:x∈C0 d:=YQ hx
    have hxo:x.ok:=Ig hl hs x hxm
    have e1:n+1≠m:=by omega
    have e2:n+2≠m:=by omega
    have e3:n+3≠m:=by omega
    have e4:n+4≠m:=by omega
    have e4':=e4.symm
    simp[go_sem,JT,Fl.enc,AC,AD,g4,e4,g1,e1]
    by_cases hid:x.id=id
    . have hfind:CG d id=some x:=by
       obtain⟨hlt,hxx⟩:=Y9.1 hx
       have hsplit:C0 d=(C0 d).take k++x::(C0 d).drop (k+1):=by rw[<-hxx,List.getElem_cons_drop,Z4]
       rw[CG,hsplit,List.find?_append]
       have:((C0 d).take k).find? (λf=>decide (f.id=id))=none:=List.find?_eq_none.2 λy hy=>by simpa using g5 y hy
       rw[this];simp[hid]
      simp[go_sem,hid,AC,AD,e4']
      refine(c110 _ hxo.1 hxo.2).use ?_
      simp[go_sem,AC,AD,g2,e2,g3,e3,Hv]
      refine⟨by omega,D0,λo g=>.inl g,λo g1 g2=>?_,.inr ⟨rfl,rfl,by omega,x,hfind,?_⟩⟩
      . have:¬(n<=o/\o<=n+4):=g1
        simp only[hset]
        rw[if_neg (by omega),if_neg (by omega),if_neg (by omega),if_neg (by omega),if_neg (by omega),if_neg (by omega)]
      . simp[hset]
    . simp[go_sem,hid,Hv,AC]
      refine⟨by omega,D0,λo g=>.inl g,λo g1 g2=>?_,.inl ⟨rfl,rfl,by omega,?_,?_,?_,?_,λy hy=>?_⟩⟩
      . have:¬(n<=o/\o<=n+4):=g1
        simp only[hset]
        rw[if_neg (by omega),if_neg (by omega),if_neg (by omega),if_neg (by omega)]
      . simp[hset,e1,g1]
      . simp[hset,e2,g2]
      . simp[hset,e3,g3]
      . simp[hset]
      . obtain⟨hlt,hxx⟩:=Y9.1 hx
        rw[Y2 hlt,hxx]at hy
        rcases Y8.1 hy with hy|hy
        . exact g5 y hy
        . rw[Yk.1 hy];exact hid
  . rintro k D hh m h' m' ⟨rfl,g0,g1,g2,g3,g4,g5⟩ hm hD
    exact⟨rfl,by omega,by rw[hD _ ⟨by omega,by omega⟩];exact g1,by rw[hD _ ⟨by omega,by omega⟩];exact g2,by rw[hD _ ⟨by omega,by omega⟩];exact g3,by rw[hD _ ⟨by omega,by omega⟩];exact g4,g5⟩
  . rintro k D hh m ⟨rfl,g0,_⟩ o ⟨a,b⟩;omega
 refine Xc (c247 Y d.flow hl hs 0 ED 0 D0 _ _ ⟨rfl,by omega,?_,?_,?_,?_,by simp⟩ ⟨[],by simp[C0]⟩) ?_
 . rw[AD _ _ (by omega)];exact h1
 . rw[AD _ _ (by omega)];exact h2
 . rw[AD _ _ (by omega)];exact h3
 . exact AC _ _ _
 rintro _ h' m' ⟨v,hm,D',hDD,hh,hv⟩
 rcases hv with⟨rfl,rfl,g0,g1,g2,g3,g4,g5⟩|⟨rfl,rfl,g0,x,hx,g2,g3,g4⟩
 . refine⟨_,_,g4,by simp,?_⟩
   simp[go_sem,AC,AD,g2,g3]
   have hnone:CG d id=none:=List.find?_eq_none.2 λy hy=>by simpa using g5 y (by simpa[C0,ED]using hy)
   refine Dh 2 ho (λo y e=>?_) (by rw[hnone];exact .inr ⟨A9 (by simp),Y0,trivial⟩) (by rw[hnone];rfl)
   have g:=(ho o y e).1
   rw[AD _ _ (by omega),AD _ _ (by omega),AD _ _ (by omega),hh o (λg'=>by have:n<=o/\o<=n+4:=g';omega) (by omega),AD _ _ (by omega),A8 o g,e]
 . refine⟨_,_,g4,by simp,?_⟩
   simp[go_sem,AD,g2,g3]
   refine Au ho (λo y e=>?_) (by rw[hx];rfl) (by rw[hx];simp[closed,closedL,AE.E.closedL])
   have g:=(ho o y e).1
   rw[AD _ _ (by omega),hh o (λg'=>by have:n<=o/\o<=n+4:=g';omega) (by omega),AD _ _ (by omega),A8 o g,e]
def Fo:Int->List AE->List (Int×AE)
 | _,[]=>[]
 | a,x::l=>(a,x)::Fo (a+x.units) l
def atE (p:Int×AE):List SV:=[AA p.1,p.2.enc]
theorem J8:∀(a:Int) (l:List AE),(Fo a l).length=l.length
 | _,[]=>rfl
 | a,x::l=>by simp[Fo,J8 _ l]
theorem GW:∀(a:Int) (l:List AE) (k:Nat) (h:k<l.length),(Fo a l)[k]? = some (a+CA (l.take k),l[k])
 | a,x::l,0,_=>by simp[Fo,CA]
 | a,x::l,k+1,h=>by
  simp only[Fo,List.getElem?_cons_succ,YY,CA,Zc]
  rw[GW _ l k (by simpa using h),Int.add_assoc]
section
variable {E : Br} {yl : Nat} {J : Nat → (Nat → Prop) → Hp → Nat → Prop} {Jx : (Nat → Prop) → Hp → Nat → Prop}
theorem c312 (l:List AE) (Y:YJ E yl atE (Fo 0 l) J Jx) (hl:l.length<=1048576) (hs:∀x∈l,x.text.size<=1048576) (D:Nat->Prop) (h:Hp) (m:Nat) (hJ:J 0 D h m):
 Ak E Tryz.prog 312 [.fn (.yield yl) [] [],.iptr [AG l]] h m (λ_ h' m'=>∃v,HT (J l.length) Jx D h m v h' m'):=by
 refine gq Tryz.func312 rfl λho=>?_
 simp[go_sem]
 have M0:JU J D h m [] 0 D h m:=⟨Y1 _,hJ,by simp,λo g=>.inl g,λ_ _ _=>rfl⟩
 refine Am 1 (α:=Nat×(Nat->Prop)×Hp) (λq=>[(0,.fn (.yield yl) [] []),(3,AA (CA (l.take q.1))),(8,AG l),(9,AA l.length),(10,AA q.1)]) (λq=>q.2.2)
  (λq m'=>q.1<=l.length/\JU J D h m [] q.1 q.2.1 q.2.2 m') (λq=>l.length-q.1) (0,D,h) ?_ ?_ AB ?_
 . exact⟨Y4 _,M0⟩
 . simp[Aj,CA]
 rintro⟨i,D2,h2⟩ m2 ⟨hi,M2⟩
 dsimp only at hi M2 ⊢
 by_cases hlt:i<l.length
 . have w1:=wS i (by omega)
   obtain⟨x,hx⟩:∃x,l[i]=x:=⟨_,rfl⟩
   have hxm:x∈l:=by rw[<-hx];exact Yc hlt
   have Ud:=IM (l.take i) λy hy=>hs y (Yw hy)
   have HZ:=x.units_le (hs x hxm)
   have hlk:((l.take i).length:Int)<=1048576:=by simp;omega
   have htk:l.take (i+1)=l.take i++[x]:=by rw[Y2 hlt,hx]
   have w2:IntKind.i64.wrap (CA (l.take i)+x.units)=CA (l.take (i+1)):=by
    rw[DR,htk,Gi]
    . simp[CA]
    . omega
    . have:((l.take i).length:Int)*1048576<=1048576*1048576:=by omega
      omega
   have hget:=GW 0 l i hlt
   rw[hx,Int.zero_add]at hget
   have hb:∀y z,∀o,o<m2->(hset (hset h2 m2 y) m2 z) o=h2 o:=λy z o g=>by rw[AD _ _ (by omega),AD _ _ (by omega)]
   have hee:atE (CA (l.take i),x)=[AA (CA (l.take i)),x.enc]:=rfl
   rw[Yh]at hee
   simp[go_sem,hlt,hx,Yh,AC]
   have hst:=λhb mb g=>Y.step i _ D2 hb mb hget g
   rw[hee]at hst
   have hDm:¬D2 m2:=λg=>by have:=Y.lt _ _ _ _ M2.j _ g;omega
   generalize hH:hset (hset h2 m2 _) m2 _=H2
   have M3:JU J D h m [(m2,.cells [AA x.kind,AA x.code,AA x.id,.str x.text,Af x.head.props,AA x.head.ins,AA x.head.move,Aa x.head.dels,AQ x.head.layers,AG x.flow,Av x.rows])] i D2 H2 (m2+1):=
    (M2.more Y (YO m2) (by rw[<-hH];exact hb _ _)).add (by rw[<-hH];exact AC _ _ _) M2.lt (YD m2) hDm
   refine FB.mono (hst _ _ M3.j) ?_
   intro v h3 m3 W
   rcases M3.step (Y1 _) (λ_ _=>rfl) W with⟨rfl,D3,M4⟩|⟨rfl,hX⟩
   . obtain⟨g1,_,_,_⟩:=M4.own _ (Yk.2 rfl)
     simp[go_sem,g1]
     refine Yj (by simpa[Yh]using UN x (hs x hxm)) ?_
     simp[go_sem,w1,w2,-Int.natCast_add]
     exact⟨i+1,by omega,D3,h3,⟨by omega,M4.drop⟩,⟨Y0,Y0⟩,AB⟩
   . simp[go_sem]
     exact .inl ⟨_,JU.any hX⟩
 . have:i=l.length:=by omega
   subst this
   simp[go_sem]
   exact .inl ⟨_,M2.done⟩
end
def AE.setText (y:AE) (t:ByteArray):AE:=.mk y.kind y.code y.id t y.head y.flow y.rows
def CN (cu:Int) (s:List AE×List AE) (p:Int×AE):List AE×List AE:=
 if p.1+p.2.units<=cu then(s.1++[p.2],s.2)else if cu<=p.1 then(s.1,s.2++[p.2])else
  (s.1++[p.2.setText (p.2.text.extract 0 (Cl p.2.text (cu-p.1)).1.toNat)],s.2++[p.2.setText (p.2.text.extract (Cl p.2.text (cu-p.1)).1.toNat p.2.text.size)])
def Cq (l:List AE) (cu:Int) (k:Nat):List AE×List AE:=((Fo 0 l).take k).foldl (CN cu) ([],[])
def BS (l:List AE) (cu:Int):List AE×List AE:=Cq l cu l.length
theorem Hf (s:ByteArray):∀k,∀x∈Bj s k,0<=x/\x<k
 | 0,x,h=>by simp[Bj]at h
 | k+1,x,h=>by
  unfold Bj at h
  split at h
  . rcases Y8.1 h with h|h
    . have:=Hf s k x h;omega
    . have:=Yk.1 h;omega
  . have:=Hf s k x h;omega
theorem OD (s:ByteArray) (u:Int):0<=(Cl s u).1/\(Cl s u).1<=s.size:=by
 unfold Cl
 split
 . simp
 . split
   . simp
   . simp only
     rw[List.getD_eq_getElem?_getD]
     cases h:(Bj s s.size++[(s.size:Int)])[u.toNat]? with
     | none=>simp
     | some x=>
      have:=YQ h
      rcases Y8.1 this with h|h
      . have:=Hf s _ x h;simp;omega
      . have:=Yk.1 h;simp;omega
theorem F3 (l:List AE) (cu:Int) (k:Nat) (h:k<l.length):Cq l cu (k+1)=CN cu (Cq l cu k) (CA (l.take k),l[k]):=by
 have hg:=GW 0 l k h
 obtain⟨hlt,he⟩:=Y9.1 hg
 unfold Cq
 rw[Y2 hlt,Zw,he,Int.zero_add];rfl
theorem OH (cu:Int) (s:List AE×List AE) (p:Int×AE):(CN cu s p).1.length<=s.1.length+1/\(CN cu s p).2.length<=s.2.length+1:=by
 unfold CN;split
 . simp
 . split<;>simp
theorem K1 (l:List AE) (cu:Int):∀k,k<=l.length->(Cq l cu k).1.length<=k/\(Cq l cu k).2.length<=k
 | 0,_=>by simp[Cq]
 | k+1,h=>by
  rw[F3 l cu k h]
  have h1:=OH cu (Cq l cu k) (CA (l.take k),l[k])
  have h2:=K1 l cu k (by omega)
  omega
structure NC (l:List AE) (cu:Int) (n:Nat) (R:LoopState->Option Code->Loop) (k:Nat) (D:Nat->Prop) (hh:Hp) (m:Nat) (oL oR:Option Nat):Prop where
 lt:n+3<m
 cell:hh n=some (.cells [AA cu])
 left:hh (n+1)=some (.cells [AN 11 oL ((Cq l cu k).1.map AE.enc)])
 right:hh (n+2)=some (.cells [AN 11 oR ((Cq l cu k).2.map AE.enc)])
 loop:hh (n+3)=some (.loop (R .ready none))
 accL:A7 (n+4) m 11 oL ((Cq l cu k).1.map AE.enc)
 accR:A7 (n+4) m 11 oR ((Cq l cu k).2.map AE.enc)
 ne:∀j,oL=some j->oR≠some j
 objL:∀j,oL=some j->hh j=some (.cells (((Cq l cu k).1.map AE.enc).flatMap SV.cells))
 objR:∀j,oR=some j->hh j=some (.cells (((Cq l cu k).2.map AE.enc).flatMap SV.cells))
 dom:D=λo=>(n<=o/\o<=n+3)\/oL=some o\/oR=some o
theorem NC.keep {l:List AE} {cu:Int} {n:Nat} {R:LoopState->Option Code->Loop} {k:Nat} {D:Nat->Prop} {hh:Hp} {m:Nat} {oL oR:Option Nat} (H:NC l cu n R k D hh m oL oR) {h':Hp} {m':Nat} (hm:m<=m') (hD:∀o,D o->h' o=hh o):NC l cu n R k D h' m' oL oR:=by
 have hd:∀o,(n<=o/\o<=n+3)\/oL=some o\/oR=some o->h' o=hh o:=λo g=>hD o (by rw[H.dom];exact g)
 exact⟨by have:=H.lt;omega,by rw[hd _ (.inl ⟨by omega,by omega⟩)];exact H.cell,by rw[hd _ (.inl ⟨by omega,by omega⟩)];exact H.left,by rw[hd _ (.inl ⟨by omega,by omega⟩)];exact H.right,by rw[hd _ (.inl ⟨by omega,by omega⟩)];exact H.loop,H.accL.mono hm,H.accR.mono hm,H.ne,
  λj e=>by rw[hd j (.inr (.inl e))];exact H.objL j e,λj e=>by rw[hd j (.inr (.inr e))];exact H.objR j e,H.dom⟩
theorem NC.dlt {l:List AE} {cu:Int} {n:Nat} {R:LoopState->Option Code->Loop} {k:Nat} {D:Nat->Prop} {hh:Hp} {m:Nat} {oL oR:Option Nat} (H:NC l cu n R k D hh m oL oR):∀o,D o->o<m:=λo g=>by
 rw[H.dom]at g
 have:=H.lt
 rcases g with⟨_,g⟩|g|g
 . omega
 . exact(H.accL.lt o g).2
 . exact(H.accR.lt o g).2
theorem NC.fin {l:List AE} {cu:Int} {n:Nat} {R:LoopState->Option Code->Loop} {k:Nat} {D:Nat->Prop} {hh:Hp} {m:Nat} {oL oR:Option Nat} (hJ:NC l cu n R k D hh m oL oR) {sa:SA} {H2:Hp} {m':Nat} {L' R':List AE} (hs:Cq l cu (k+1)=(L',R')) (oL' oR':Option Nat) (hm:m<=m')
 (hc:H2 n=some (.cells [AA cu])) (hl:H2 (n+1)=some (.cells [AN 11 oL' (L'.map AE.enc)])) (hr:H2 (n+2)=some (.cells [AN 11 oR' (R'.map AE.enc)])) (hb:H2 (n+3)=some (.loop (R .busy none)))
 (aL:A7 (n+4) m' 11 oL' (L'.map AE.enc)) (aR:A7 (n+4) m' 11 oR' (R'.map AE.enc))
 (nL:∀j,oL'=some j->oL=some j\/m<=j) (nR:∀j,oR'=some j->oR=some j\/m<=j) (ne:∀j,oL'=some j->oR'≠some j)
 (obL:∀j,oL'=some j->H2 j=some (.cells ((L'.map AE.enc).flatMap SV.cells))) (obR:∀j,oR'=some j->H2 j=some (.cells ((R'.map AE.enc).flatMap SV.cells)))
 (fr:∀o,¬D o->o<m->H2 o=hh o) (Jx:(Nat->Prop)->Hp->Nat->Prop):
 Hv (n+3) R (HT (λD hh m=>∃oL oR,NC l cu n R (k+1) D hh m oL oR) Jx D hh m) .normal sa H2 m':=by
 have hlt:=hJ.lt
 have nd3:∀o,¬D o->o≠n+3:=λo g e=>g (by rw[hJ.dom];exact .inl (by omega))
 refine⟨hb,hm,λo=>(n<=o/\o<=n+3)\/oL'=some o\/oR'=some o,λo g=>?_,λo g1 g2=>by rw[AD _ _ (nd3 o g1)];exact fr o g1 g2,.inl ⟨rfl,oL',oR',?_⟩⟩
 . rcases g with g|g|g
   . exact .inl (by rw[hJ.dom];exact .inl g)
   . rcases nL o g with g'|g'
     . exact .inl (by rw[hJ.dom];exact .inr (.inl g'))
     . exact .inr ⟨g',(aL.lt o g).2⟩
   . rcases nR o g with g'|g'
     . exact .inl (by rw[hJ.dom];exact .inr (.inr g'))
     . exact .inr ⟨g',(aR.lt o g).2⟩
 . refine⟨by omega,by rw[AD _ _ (by omega)];exact hc,by rw[AD _ _ (by omega),hs];exact hl,by rw[AD _ _ (by omega),hs];exact hr,AC _ _ _,by rw[hs];exact aL,by rw[hs];exact aR,ne,λj e=>?_,λj e=>?_,rfl⟩
   . have:=(aL.lt j e).1;rw[AD _ _ (by omega),hs];exact obL j e
   . have:=(aR.lt j e).1;rw[AD _ _ (by omega),hs];exact obR j e
theorem A7.mv {n m m' z:Nat} {o:Option Nat} {es:List SV} (h:A7 n m z o es) (hm:m<=m'):A7 n m' z o es:=h.mono hm
theorem c285 (l:List AE):PC 285 [AG l] (.fn (.func 312) [] [.iptr [AG l]]):=by
 intro h n
 refine gq Tryz.func285 rfl λho=>?_
 simp[go_sem]
 exact Dh 3 ho (AP ho (Y1 _) AB) (.inr ⟨rfl,trivial,AT (ho.none (Y1 n)) (by simp[hset]),trivial⟩) (by simp[closed,closedL,AE.E.closedL])
theorem AX {α β:Type} (f:α->β) (a:α) (l:List α):List.map f (List.toArray (a::l)).toList=f a::List.map f (List.toArray l).toList:=rfl
theorem Ae {α β:Type} (f:α->β):List.map f (List.toArray ([]:List α)).toList=[]:=rfl
theorem CI:ofValue (.agg #[.int .i64 0,.int .i64 0,.int .i64 0,.string { data:=#[] },.slice none 0 0,.int .i64 0,.int .i64 0,.slice none 0 0,.slice none 0 0,.slice none 0 0,.slice none 0 0])=.agg [.int .i64 0,.int .i64 0,.int .i64 0,.str .empty,.imm 0 [] true,.int .i64 0,.int .i64 0,.imm 0 [] true,.imm 0 [] true,.imm 0 [] true,.imm 0 [] true]:=rfl
end Go.Proofs.YtgakninlhfkkmaaGreat.Sh
