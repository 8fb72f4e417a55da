/- A part of the proof (part 15 of 15). -/
import Derived.Test.YtgakninlhfkkmaaGreatM14
import Derived.Test.YtgakninlhfkkmaaGreatMF
namespace Go.Proofs.YtgakninlhfkkmaaGreat.Sh
section
variable {E : Br} {P : Program} {N : Nat} {code : Code} {Q : Cc} {sa : SA} {h h' : Hp} {n n' : Nat} {c : Cx}
theorem H9 (hn:n<=n') (hg:∀c,Bl h c->Fr n c->∃c':Cx,c'.w=c.w/\DD c c'/\Bl h' c'/\Fr n' c'/\∀j,j<n->c'.ρ j=c.ρ j) (H:Fk E P N code Q sa h' n'):Fk E P N code Q sa h n:=by
 intro hd c a I R F A
 obtain⟨c',hw,X,R',F',hρ⟩:=hg c R F
 rw[<-hw]
 refine wpIn_mono (H hd c' a (E.ext X I) R' F' (A.ext X)) ?_
 rintro e a' w' ⟨sa',h2,n2,c2,q,hw2,R2,Fr2,A2,X2⟩
 exact⟨sa',h2,n2,c2,q,hw2,R2,Fr2,A2,⟨X.trans X2.ext,Yo hn X2.le,λj hj=>(X2.same j (by omega)).trans (hρ j hj)⟩⟩
theorem Bl.pack {p q z:Nat} {es:List SV} {full:Bool} {ty ty2:Option TypeId} (R:Bl h c) (hp:h p=some (.cells [.sl q 0 z es.length full] ty)) (hq:h q=some (.cells (es.flatMap SV.cells) ty2)) (hne:es≠[]) (hpq:p≠q):
 ∃c':Cx,c'.w=c.w/\c'.ρ=c.ρ/\DD c c'/\Bl (hset (hset h p (some (.list z es))) q none) c':=by
 obtain⟨b,st,arr,e,vs,a1,a2,a3,a4,a5,_⟩:=R.obj p _ hp
 obtain⟨B,sB,arr2,e2,us,b1,b2,b3,b4,b5,_⟩:=R.obj q _ hq
 obtain⟨v,rfl,hv⟩:=a4.single
 rw[V]at hv
 obtain⟨B',st',cap,c1,c2,c3,_,c5⟩:=hv
 rw[b1]at c1;cases c1
 have hrm:rm c.w B=arr2.size:=by simp[rm,b2]
 rw[hrm]at c5
 obtain⟨c',hc'⟩:∃c':Cx,c'={ c with bk:=λj=>if j=p then some B else c.bk j }:=⟨_,rfl⟩
 have kw:c'.w=c.w:=by rw[hc']
 have kr:c'.ρ=c.ρ:=by rw[hc']
 have ko:c'.own=c.own:=by rw[hc']
 have kb:∀j,c'.bk j=if j=p then some B else c.bk j:=λj=>by rw[hc']
 have X:DD c c':=⟨λ_ _ e=>by rw[kr];exact e,by rw[kw];exact Y1 _,λb _ ho=>⟨by rw[ko];exact ho,by rw[kw]⟩,λ_=>by rw[kw];exact Y1 _,by rw[kw],by rw[kw]⟩
 have get:∀j y,hset (hset h p (some (.list z es))) q none j=some y->(j=p/\y=.list z es)\/(j≠p/\j≠q/\h j=some y):=λj y e=>by
  simp only[hset]at e
  split at e
  . cases e
  . split at e
    . cases e;exact .inl ⟨by assumption,rfl⟩
    . exact .inr ⟨by assumption,by assumption,e⟩
 have hne':∀j y b',j≠p->A8 c' j y b'->A8 c j y b':=λj y b' hj H=>by
  simp only[A8,kr,kb,hj,if_false]at H;exact H
 have hat:∀b',A8 c' p (.list z es) b'->b'=b\/b'=B:=λb' H=>by
  rcases H with⟨s,H⟩|⟨_,H⟩
  . rw[kr,a1]at H;cases H;exact .inl rfl
  . rw[kb,if_pos rfl]at H;cases H;exact .inr rfl
 have alone:∀j y b',j≠p->j≠q->h j=some y->A8 c j y b'->b'≠b/\b'≠B:=λj y b' h1 h2 e H=>
  ⟨λg=>h1 (R.inj2 j p y _ b' e hp H (.inl ⟨st,by rw[g];exact a1⟩)),λg=>h2 (R.inj2 j q y _ b' e hq H (.inl ⟨sB,by rw[g];exact b1⟩))⟩
 refine⟨c',kw,kr,X,⟨λj y e0=>?_,λi j y y' b' e1 e2 e3 e4=>?_,λb'=>?_⟩⟩
 . rcases get j y e0 with⟨rfl,rfl⟩|⟨hj,_,e0⟩
   . refine⟨b,st,arr,e,v,by rw[kr];exact a1,by rw[kw];exact a2,by simpa using a3 0 v rfl,a5 v (by simp),.inr ⟨B,sB+0,arr2,e2,us,cap,hne,λg=>hpq (R.inj j q _ _ b st sB hp hq a1 (by rw[<-g];exact b1)),by rw[kb,if_pos rfl],by rw[kw];exact b2,c2,c3,by omega,λi x hx=>by simpa using b3 i x hx,X6 X b4,b5⟩⟩
   . exact(R.obj j y e0).mono X (λ_ _=>by rw[kw]) (by rw[kb,if_neg hj])
 . rcases get i y e1 with⟨rfl,rfl⟩|⟨hi,hiq,f1⟩
   . rcases get j y' e2 with⟨rfl,rfl⟩|⟨hj,hjq,f2⟩
     . rfl
     . obtain⟨n1,n2⟩:=alone j y' b' hj hjq f2 (hne' j y' b' hj e4)
       rcases hat b' e3 with g|g
       . exact absurd g n1
       . exact absurd g n2
   . rcases get j y' e2 with⟨rfl,rfl⟩|⟨hj,hjq,f2⟩
     . obtain⟨n1,n2⟩:=alone i y b' hi hiq f1 (hne' i y b' hi e3)
       rcases hat b' e4 with g|g
       . exact absurd g n1
       . exact absurd g n2
     . exact R.inj2 i j y y' b' f1 f2 (hne' i y b' hi e3) (hne' j y' b' hj e4)
 . rw[ko,R.own2 b']
   constructor
   . rintro⟨j,y,e1,e2⟩
     by_cases hj:j=p
     . subst hj
       rw[hp]at e1;cases e1
       rcases e2 with⟨s,e2⟩|⟨e2,_⟩
       . exact⟨j,.list z es,by simp[hset,hpq],.inl ⟨s,by rw[kr];exact e2⟩⟩
       . cases e2
     . by_cases hjq:j=q
       . subst hjq
         rw[hq]at e1;cases e1
         rcases e2 with⟨s,e2⟩|⟨e2,_⟩
         . rw[b1]at e2;cases e2
           exact⟨p,.list z es,by simp[hset,hpq],.inr ⟨rfl,by rw[kb,if_pos rfl]⟩⟩
         . cases e2
       . exact⟨j,y,by simp[hset,hj,hjq,e1],by simpa only[A8,kr,kb,hj,if_false]using e2⟩
   . rintro⟨j,y,e1,e2⟩
     rcases get j y e1 with⟨rfl,rfl⟩|⟨hj,_,e1⟩
     . rcases hat b' e2 with rfl|rfl
       . exact⟨j,_,hp,.inl ⟨st,a1⟩⟩
       . exact⟨q,_,hq,.inl ⟨sB,b1⟩⟩
     . exact⟨j,y,e1,hne' j y b' hj e2⟩
theorem Bl.unpack {p k z:Nat} {es:List SV} (R:Bl h c) (hk:c.ρ k=none) (hp:h p=some (.list z es)) (hne:es≠[]):
 ∃c':Cx,c'.w=c.w/\(∀j,j≠k->c'.ρ j=c.ρ j)/\DD c c'/\Bl (hset (hset h p (some (.cells [.sl k 0 z es.length false]))) k (some (.cells (es.flatMap SV.cells)))) c':=by
 have hkn:=R.none_of hk
 have hpk:p≠k:=by rintro rfl;rw[hp]at hkn;cases hkn
 obtain⟨b,st,arr,e,v,a1,a2,a3,a4,⟨g,_⟩|⟨B,sB,arr2,e2,us,cap,_,hbB,b1,b2,c2,c3,c5,b3,b4,b5⟩⟩:=R.obj p _ hp
 . exact absurd g hne
 obtain⟨c',hc'⟩:∃c':Cx,c'={ c with ρ:=λj=>if j=k then some (B,sB)else c.ρ j,bk:=λj=>if j=p then none else c.bk j }:=⟨_,rfl⟩
 have kw:c'.w=c.w:=by rw[hc']
 have kr:∀j,c'.ρ j=if j=k then some (B,sB)else c.ρ j:=λj=>by rw[hc']
 have ko:c'.own=c.own:=by rw[hc']
 have kb:∀j,c'.bk j=if j=p then none else c.bk j:=λj=>by rw[hc']
 have X:DD c c':=⟨λj q e=>by rw[kr];split;(subst_vars;rw[hk]at e;cases e);exact e,by rw[kw];exact Y1 _,λb _ ho=>⟨by rw[ko];exact ho,by rw[kw]⟩,λ_=>by rw[kw];exact Y1 _,by rw[kw],by rw[kw]⟩
 have hrm:rm c'.w B=arr2.size:=by rw[kw];simp[rm,b2]
 have get:∀j y,hset (hset h p (some (.cells [.sl k 0 z es.length false]))) k (some (.cells (es.flatMap SV.cells))) j=some y->(j=k/\y=.cells (es.flatMap SV.cells))\/(j=p/\y=.cells [.sl k 0 z es.length false])\/(j≠p/\j≠k/\h j=some y):=λj y e=>by
  simp only[hset]at e
  split at e
  . cases e;exact .inl ⟨by assumption,rfl⟩
  . split at e
    . cases e;exact .inr (.inl ⟨by assumption,rfl⟩)
    . exact .inr (.inr ⟨by assumption,by assumption,e⟩)
 have hne':∀j y b',j≠p->j≠k->A8 c' j y b'->A8 c j y b':=λj y b' hj hk H=>by
  simp only[A8,kr,kb,hj,hk,if_false]at H;exact H
 have hatk:∀b',A8 c' k (.cells (es.flatMap SV.cells)) b'->A8 c p (.list z es) b'/\b'=B:=λb' H=>by
  rcases H with⟨s,H⟩|⟨H,_⟩
  . rw[kr,if_pos rfl]at H;cases H;exact⟨.inr ⟨rfl,b1⟩,rfl⟩
  . cases H
 have hatp:∀b',A8 c' p (.cells [.sl k 0 z es.length false]) b'->A8 c p (.list z es) b'/\b'=b:=λb' H=>by
  rcases H with⟨s,H⟩|⟨H,_⟩
  . rw[kr,if_neg hpk,a1]at H;cases H;exact⟨.inl ⟨st,a1⟩,rfl⟩
  . cases H
 have eqp:∀j y b',h j=some y->A8 c p (.list z es) b'->A8 c j y b'->j=p:=λj y b' e H1 H2=>R.inj2 j p y _ b' e hp H2 H1
 refine⟨c',kw,λj hj=>by rw[kr,if_neg hj],X,⟨λj y e0=>?_,λi j y y' b' e1 e2 e3 e4=>?_,λb'=>?_⟩⟩
 . rcases get j y e0 with⟨rfl,rfl⟩|⟨rfl,rfl⟩|⟨hj,hjk,e0⟩
   . exact⟨B,sB,arr2,e2,us,by rw[kr,if_pos rfl],by rw[kw];exact b2,b3,X6 X b4,b5,λt h=>by cases h⟩
   . refine⟨b,st,arr,e,[v],by rw[kr,if_neg hpk];exact a1,by rw[kw];exact a2,λi x hx=>?_,⟨?_,trivial⟩,λx hx=>?_,λt h=>by cases h⟩
     . cases i with
       | zero=>cases hx;exact a3
       | succ i=>simp at hx
     . rw[V];exact⟨B,sB,cap,by rw[kr,if_pos rfl],c2,c3,by simp,by rw[hrm];omega⟩
     . rw[Yk.1 hx];exact a4
   . exact(R.obj j y e0).mono X (λ_ _=>by rw[kw]) (by rw[kb,if_neg hj])
 . rcases get i y e1 with⟨rfl,rfl⟩|⟨rfl,rfl⟩|⟨hi,hik,f1⟩
   . obtain⟨H1,g1⟩:=hatk b' e3
     rcases get j y' e2 with⟨rfl,rfl⟩|⟨rfl,rfl⟩|⟨hj,hjk,f2⟩
     . rfl
     . exact absurd ((hatp b' e4).2.symm.trans g1).symm hbB
     . exact absurd (eqp j y' b' f2 H1 (hne' j y' b' hj hjk e4)) hj
   . obtain⟨H1,g1⟩:=hatp b' e3
     rcases get j y' e2 with⟨rfl,rfl⟩|⟨rfl,rfl⟩|⟨hj,hjk,f2⟩
     . exact absurd ((hatk b' e4).2.symm.trans g1) hbB
     . rfl
     . exact absurd (eqp j y' b' f2 H1 (hne' j y' b' hj hjk e4)) hj
   . rcases get j y' e2 with⟨rfl,rfl⟩|⟨rfl,rfl⟩|⟨hj,hjk,f2⟩
     . exact absurd (eqp i y b' f1 (hatk b' e4).1 (hne' i y b' hi hik e3)) hi
     . exact absurd (eqp i y b' f1 (hatp b' e4).1 (hne' i y b' hi hik e3)) hi
     . exact R.inj2 i j y y' b' f1 f2 (hne' i y b' hi hik e3) (hne' j y' b' hj hjk e4)
 . rw[ko,R.own2 b']
   constructor
   . rintro⟨j,y,e1,e2⟩
     have hjk:j≠k:=by rintro rfl;rw[hkn]at e1;cases e1
     by_cases hj:j=p
     . subst hj
       rw[hp]at e1;cases e1
       rcases e2 with⟨s,e2⟩|⟨_,e2⟩
       . exact⟨j,_,by simp only[hset,hjk,if_false,if_true];rfl,.inl ⟨s,by rw[kr,if_neg hjk];exact e2⟩⟩
       . rw[b1]at e2;cases e2
         exact⟨k,_,by simp only[hset,if_true];rfl,.inl ⟨sB,by rw[kr,if_pos rfl]⟩⟩
     . exact⟨j,y,by simp[hset,hj,hjk,e1],by simpa only[A8,kr,kb,hj,hjk,if_false]using e2⟩
   . rintro⟨j,y,e1,e2⟩
     rcases get j y e1 with⟨rfl,rfl⟩|⟨rfl,rfl⟩|⟨hj,hjk,e1⟩
     . exact⟨p,_,hp,(hatk b' e2).1⟩
     . exact⟨j,_,hp,(hatp b' e2).1⟩
     . exact⟨j,y,e1,hne' j y b' hj hjk e2⟩
theorem Bl.swap0 {p:Nat} {x y:BT} (R:Bl h c) (hp:h p=some x) (hx:∀b,A8 c p x b->∃st,c.ρ p=some (b,st)) (H:∀c':Cx,c'.w=c.w->c'.ρ=c.ρ->c'.bk p=none->DD c c'->Df c' p y):
 ∃c':Cx,c'.w=c.w/\c'.ρ=c.ρ/\DD c c'/\Bl (hset h p (some y)) c':=by
 obtain⟨c',hc'⟩:∃c':Cx,c'={ c with bk:=λj=>if j=p then none else c.bk j }:=⟨_,rfl⟩
 have kw:c'.w=c.w:=by rw[hc']
 have kr:c'.ρ=c.ρ:=by rw[hc']
 have ko:c'.own=c.own:=by rw[hc']
 have kb:∀j,c'.bk j=if j=p then none else c.bk j:=λj=>by rw[hc']
 have X:DD c c':=⟨λ_ _ e=>by rw[kr];exact e,by rw[kw];exact Y1 _,λb _ ho=>⟨by rw[ko];exact ho,by rw[kw]⟩,λ_=>by rw[kw];exact Y1 _,by rw[kw],by rw[kw]⟩
 have get:∀j z,hset h p (some y) j=some z->∃z0,h j=some z0/\(∀b,A8 c' j z b->A8 c j z0 b)/\(j=p/\z=y\/j≠p/\z=z0):=λj z e=>by
  simp only[hset]at e
  split at e
  . rename_i hj
    cases e;subst hj
    refine⟨x,hp,λb H=>?_,.inl ⟨rfl,rfl⟩⟩
    rcases H with⟨s,H⟩|⟨_,H⟩
    . exact .inl ⟨s,by rw[<-kr];exact H⟩
    . rw[kb,if_pos rfl]at H;cases H
  . rename_i hj
    exact⟨z,e,λb H=>by simpa only[A8,kr,kb,hj,if_false]using H,.inr ⟨hj,rfl⟩⟩
 refine⟨c',kw,kr,X,⟨λj z e=>?_,λi j z z' b e1 e2 e3 e4=>?_,λb=>?_⟩⟩
 . obtain⟨z0,g1,_,⟨rfl,rfl⟩|⟨hj,rfl⟩⟩:=get j z e
   . exact H c' kw kr (by rw[kb,if_pos rfl]) X
   . exact(R.obj j z g1).mono X (λ_ _=>by rw[kw]) (by rw[kb,if_neg hj])
 . obtain⟨z0,g1,k1,_⟩:=get i z e1
   obtain⟨z1,g2,k2,_⟩:=get j z' e2
   exact R.inj2 i j z0 z1 b g1 g2 (k1 b e3) (k2 b e4)
 . rw[ko,R.own2 b]
   constructor
   . rintro⟨j,z,e1,e2⟩
     by_cases hj:j=p
     . subst hj
       rw[hp]at e1;cases e1
       obtain⟨s,e3⟩:=hx b e2
       exact⟨j,y,by simp[hset],.inl ⟨s,by rw[kr];exact e3⟩⟩
     . exact⟨j,z,by simp[hset,hj,e1],by simpa only[A8,kr,kb,hj,if_false]using e2⟩
   . rintro⟨j,z,e1,e2⟩
     obtain⟨z0,g1,k1,_⟩:=get j z e1
     exact⟨j,z0,g1,k1 b e2⟩
theorem Bl.pack0 {p z:Nat} {ty:Option TypeId} (R:Bl h c) (hp:h p=some (.cells [.imm 0 [] true] ty)):∃c':Cx,c'.w=c.w/\c'.ρ=c.ρ/\DD c c'/\Bl (hset h p (some (.list z []))) c':=by
 refine R.swap0 hp (λb H=>H.elim id λg=>by cases g.1) λc' kw kr kb X=>?_
 obtain⟨b,st,arr,e,vs,a1,a2,a3,a4,a5,_⟩:=R.obj p _ hp
 obtain⟨v,rfl,hv⟩:=a4.single
 exact⟨b,st,arr,e,v,by rw[kr];exact a1,by rw[kw];exact a2,by simpa using a3 0 v rfl,a5 v (by simp),.inl ⟨rfl,kb,hv.mono X⟩⟩
theorem Bl.unpack0 {p z:Nat} (R:Bl h c) (hp:h p=some (.list z [])):∃c':Cx,c'.w=c.w/\c'.ρ=c.ρ/\DD c c'/\Bl (hset h p (some (.cells [.imm 0 [] true]))) c':=by
 obtain⟨b,st,arr,e,v,a1,a2,a3,a4,⟨_,b1,b2⟩|⟨B,sB,arr2,e2,us,cap,g,_⟩⟩:=R.obj p _ hp
 . refine R.swap0 hp (λb H=>H.elim id λg=>by rw[b1]at g;cases g.2) λc' kw kr kb X=>?_
   refine⟨b,st,arr,e,[v],by rw[kr];exact a1,by rw[kw];exact a2,λi x hx=>?_,⟨b2.mono X,trivial⟩,λx hx=>?_,λt h=>by cases h⟩
   . cases i with
     | zero=>cases hx;exact a3
     | succ i=>simp at hx
   . rw[Yk.1 hx];exact a4
 . exact absurd rfl g
theorem RS (p q z:Nat) (es:List SV) (full:Bool) (ty ty2:Option TypeId) (hp:h p=some (.cells [.sl q 0 z es.length full] ty)) (hq:h q=some (.cells (es.flatMap SV.cells) ty2)) (hne:es≠[]) (hpq:p≠q)
 (H:Fk E P N code Q sa (hset (hset h p (some (.list z es))) q none) n):Fk E P N code Q sa h n:=
 H9 (Y1 _) (λ_ R F=>let⟨c',e1,e2,X,R'⟩:=R.pack hp hq hne hpq;⟨c',e1,X,R',λj hj=>by rw[e2];exact F j hj,λj _=>by rw[e2]⟩) H
theorem JX (p z:Nat) (ty:Option TypeId) (hp:h p=some (.cells [.imm 0 [] true] ty)) (H:Fk E P N code Q sa (hset h p (some (.list z []))) n):Fk E P N code Q sa h n:=
 H9 (Y1 _) (λ_ R F=>let⟨c',e1,e2,X,R'⟩:=R.pack0 hp;⟨c',e1,X,R',λj hj=>by rw[e2];exact F j hj,λj _=>by rw[e2]⟩) H
theorem N2 (p z:Nat) (hp:h p=some (.list z [])) (H:Fk E P N code Q sa (hset h p (some (.cells [.imm 0 [] true]))) n):Fk E P N code Q sa h n:=
 H9 (Y1 _) (λ_ R F=>let⟨c',e1,e2,X,R'⟩:=R.unpack0 hp;⟨c',e1,X,R',λj hj=>by rw[e2];exact F j hj,λj _=>by rw[e2]⟩) H
theorem PH (p z:Nat) (es:List SV) (hp:h p=some (.list z es)) (hne:es≠[]) (H:Fk E P N code Q sa (hset (hset h p (some (.cells [.sl n 0 z es.length false]))) n (some (.cells (es.flatMap SV.cells)))) (n+1)):Fk E P N code Q sa h n:=
 H9 (YO _) (λ_ R F=>let⟨c',e1,e2,X,R'⟩:=R.unpack (F n (Y1 _)) hp hne;⟨c',e1,X,R',λj hj=>by rw[e2 j (by omega)];exact F j (by omega),λj hj=>e2 j (by omega)⟩) H
end
open Proofs
set_option maxRecDepth 10000
section
variable {E : Br} {P : Program} {N : Nat} {code : Code} {Q : Cc} {sa : SA} {G : Hp} {n m p z : Nat} {es : List SV}
theorem KZ (p:Nat) (hs:∀e∈es,e.storable=true/\e.cells.length=z) (hp:G p=some (.list z es)) (H:∀o m,n<=m->A7 n m z o es->(es=[]->o=none)->Fk E P N code Q sa (AO o es (hset G p (some (.cells [AN z o es])))) m):Fk E P N code Q sa G n:=by
 by_cases he:es=[]
 . subst he
   refine N2 p z hp ?_
   exact H none n (Y1 _) (Zs _ _ _) λ_=>rfl
 . refine PH p z es hp he ?_
   exact H (some n) (n+1) (YO _) ⟨by simp,λj e=>by cases e;omega,hs⟩ λg=>absurd g he
theorem Py (p:Nat) {o:Option Nat} {k m':Nat} (hA:A7 k m' z o es) (hG:∀j y,G j=some y->j<k) (hpk:p<k) (ho:es=[]->o=none) (H:Fk E P N code Q sa (hset G p (some (.list z es))) n):Fk E P N code Q sa (AO o es (hset G p (some (.cells [AN z o es])))) n:=by
 cases o with
 | none=>
  have he:=hA.none rfl
  subst he
  refine JX p z none (AC _ _ _) ?_
  simpa[AO,AY]using H
 | some j =>
  have hj:=(hA.lt j rfl).1
  have hne:es≠[]:=λg=>by cases ho g
  have hpj:p≠j:=by omega
  refine RS p j z es false none none (by simp only[AO];rw[AD _ _ hpj,AC];rfl) (AC _ _ _) hne hpj ?_
  have:hset (hset (AO (some j) es (hset G p (some (.cells [AN z (some j) es])))) p (some (.list z es))) j none=hset G p (some (.list z es)):=by
   funext q
   have hq:=hG q
   simp only[AO,hset]
   by_cases h1:q=j
   . have hp:q≠p:=by omega
     rw[if_pos h1,if_neg hp]
     cases hGq:G q with
     | none=>rfl
     | some y=>have:=hq y hGq;omega
   . rw[if_neg h1,if_neg h1]
     by_cases h2:q=p
     . rw[if_pos h2,if_pos h2]
     . rw[if_neg h2,if_neg h2,if_neg h2]
  rw[this];exact H
end
theorem N5 {X:Hp} {n m:Nat} {o:Option Nat} {es:List SV} (H:A7 n m 1 o es) (hX:∀j,o=some j->X j=some (.cells (es.flatMap SV.cells))) (xs:List Int) (hroom:es.length+xs.length<=1073741824) (p:Nat):
 (xs=[]/\AS Tryz.prog X p .append [61,61] [AN 1 o es,.imm 1 (xs.map AA) false]=some { val:=AN 1 o es })\/
 (xs≠[]/\AS Tryz.prog X p .append [61,61] [AN 1 o es,.imm 1 (xs.map AA) false]=some { val:=.sl p 0 1 (es.length+xs.length) false,upd:=o.map λj=>(j,none),new:=some (.cells (es.flatMap SV.cells++(xs.map AA).flatMap SV.cells)) }):=by
 have e1:A6 Tryz.prog 61=some 3:=by simp[go_sem]
 have e2:Bh Tryz.prog 3=1:=by simp[go_sem]
 have e3:(BH Tryz.prog 3).storable=true:=by simp[go_sem]
 have e4:(BH Tryz.prog 3).cells.length=1:=by simp[go_sem]
 have e5:Bg Tryz.prog 3<=65536:=by simp[go_sem]
 have e6:HM 3=none:=by rfl
 by_cases hx:xs=[]
 . subst hx
   refine .inl ⟨rfl,?_⟩
   simp only[AS,e1,Zb,if_true,Cw,e2,e3,e4]
   cases o<;>simp[AN,Ha,EF,flat,EA]
 . refine .inr ⟨hx,?_⟩
   have hxl:xs.length≠0:=by cases xs<;>simp at hx ⊢
   have hr:DU (es.length+xs.length) (Bg Tryz.prog 3)=true:=by simp only[DU,Yb,decide_eq_true_eq];exact⟨by omega,e5⟩
   simp only[AS,e1,Zb,if_true,Cw,e2,e3,e4]
   cases o with
   | none=>
    have he:=H.none rfl
    subst he
    simp only[Zh,YW]at hr
    simp[AN,Ha,EF,flat,hxl,hr,e6]
   | some j=>
    have hj:=hX j rfl
    have hl:=BE H.size
    simp[AN,Ha,EF,flat,hj,hxl,hr,HS e6,Bk,hl]
    rw[Yl (by omega)]
def P9 (rev:Int) (s:List Int×List Int) (x:BY):AF×Bool×(List Int×List Int):=(E3,true,if x.mid then(s.1++D6 rev x.head.moves,s.2)else(s.1,s.2++D6 rev x.head.moves))
def MF (p q:Nat) (s:List Int×List Int) (o:Nat):Option BT:=if o=p then some (.list 1 (s.1.map AA))else if o=q then some (.list 1 (s.2.map AA))else none
theorem Nj {p q n0:Nat} (hp:p<n0) (hq:q<n0) (s:List Int×List Int) {H:Hp} {n:Nat} (hn:n0<=n) (ho:E4 H n):E4 (Ai (MF p q) s H) n:=λo y e=>by
 have hc:∀l:List Int,BN n (.list 1 (l.map AA))=true:=λl=>by
  rw[BN,DS];intro e he
  obtain⟨x,hx,hx2⟩:=Z0.1 he
  obtain⟨i,_,rfl⟩:=Yp.1 hx
  rw[Yk.1 hx2];rfl
 simp only[Ai,MF]at e
 by_cases e1:o=p
 . rw[if_pos e1]at e;cases e;exact⟨by omega,hc _⟩
 . by_cases e2:o=q
   . rw[if_neg e1,if_pos e2]at e;cases e;exact⟨by omega,hc _⟩
   . rw[if_neg e1,if_neg e2]at e;exact ho o y e
def MG:Tr:=.pure 1<|.pure 2<|.two 0 3 (.one 3<|.one 4<|.one 5 .nil) (.one 0<|.one 4<|.one 5 .nil)
set_option maxHeartbeats 4000000 in
theorem v50 {p q n0:Nat} (hpq:p≠q) (hp:p<n0) (hq:q<n0) (rev:Int):Kk (MF p q) n0 50 [] [.ptr p 0,.iptr [AA rev],.ptr q 0] (P9 rev) (λh=>h.sized) (λs=>s.1.length+s.2.length) 1073741824 where
 up s x:=by simp only[P9];split<;>simp<;>omega
 lt s o h:=by simp only[MF];rw[if_neg (by omega),if_neg (by omega)]
 dom s s' o h:=by
  simp only[MF]at h ⊢
  by_cases e1:o=p
  . rw[if_pos e1]at h;cases h
  . by_cases e2:o=q
    . rw[if_neg e1,if_pos e2]at h;cases h
    . rw[if_neg e1,if_neg e2]
 cl s o y h:=by
  have:=Nj hp hq s (H:=λ_=>none) (Y1 n0) (λ_ _ e=>by cases e) o y (by simp only[Ai,h])
  exact this.2
 call s x H n hx ht hn hs:=by
  refine Dg Tryz.func50 rfl λho=>?_
  have hHb:=ho.lt
  obtain⟨X,hX⟩:∃X:SV,X=.iptr x.head.flat:=⟨_,rfl⟩
  obtain⟨B,hB⟩:∃B:Hp,B=hset H (n+1) (some (.cells [.imm 0 [] true,AA 0,AA 0,.imm 0 [] true,.imm 0 [] true])):=⟨_,rfl⟩
  have hBb:∀j y,B j=some y->j<n+2:=λj y e=>by
   rw[hB]at e
   by_cases h:j=n+1
   . omega
   . rw[AD _ _ h]at e;have:=hHb j y e;omega
  refine BV 1 [(2,.bool x.mid),(3,.ptr p 0),(4,.iptr [AA rev]),(5,.ptr q 0),(6,X),(9,.ptr (n+1) 0)] B (λm=>n+2=m) ?_ (λm hm=>?_)
  . rw[hX,hB]
    simp[go_sem,AF.enc,AF.flat,Y0]
    refine⟨AT (by rw[AD _ _ (by omega)];exact ho.none (Y1 n)) (by simp[hset]),λj y=>?_⟩
    have:=ho j y;simp only[hset];grind
  subst hm
  cases hmid:x.mid with
  | true =>
   obtain⟨A,hA0⟩:∃A:List SV,A=s.1.map AA:=⟨_,rfl⟩
   obtain⟨M,hM⟩:∃M:List Int,M=D6 rev x.head.moves:=⟨_,rfl⟩
   have hBp:B p=some (.list 1 A):=by rw[hB,AD _ _ (by omega),hA0];exact hs p _ (by simp[MF])
   have hlen:A.length+M.length<=1073741824:=by
    simp only[P9,hmid,if_true,Ym]at ht
    rw[hA0,hM,Y5];omega
   refine AV 0 (α:=Option Nat) (λ_=>[(9,.ptr (n+1) 0)]) (λo=>AO o (A++M.map AA) (hset B p (some (.cells [AN 1 o (A++M.map AA)])))) (λo m=>n+2<=m/\A7 (n+2) m 1 o (A++M.map AA)/\(A++M.map AA=[]->o=none)) ?_ (λo m hm=>?_)
   . refine BV 0 [(3,.ptr p 0),(4,.iptr [AA rev]),(5,.ptr q 0),(6,X),(9,.ptr (n+1) 0),(11,.bool true)] B (λm=>n+2=m) ?_ (λm hm=>?_)
     . simp[go_sem,Y0]
     subst hm
     refine Ag (b:=true) (by simp[go_sem]) ?_
     rw[if_pos rfl]
     refine KZ p (by rw[hA0];exact GI.size _) hBp λo m hm hA hoe=>?_
     have hpo:∀v,AO o A (hset B p (some (.cells [v]))) p=some (.cells [v]):=λv=>by
      cases o with
      | none=>exact AC _ _ _
      | some j=>have:=(hA.lt j rfl).1;simp only[AO];rw[AD _ _ (by omega)];exact AC _ _ _
     have hCb:∀v j y,hset B p (some (.cells [v])) j=some y->j<n+2:=λv j y e=>by
      by_cases h:j=p
      . omega
      . rw[AD _ _ h]at e;exact hBb j y e
     have hc:=c51 x.head hx rev
     rw[<-hM]at hc
     have hpj:∀j,o=some j->p≠j:=λj e=>by have:=(hA.lt j e).1;omega
     refine B7 MG rfl (by kernel_rfl) (by kernel_rfl) ?_
     rw[hX]
     rcases N5 hA (X:=AO o A (hset B p (some (.cells [AN 1 o A])))) (λj e=>Dz j e) M hlen m with⟨hMe,b1⟩|⟨hMe,b1⟩
     . cases o with
       | none=>
        simp only[AO,AN]at b1
        simp[go_sem,MG,AF.flat,AO,AN,AC]
        refine⟨?_,?_⟩ <;>
        . refine Yj (by simpa[AF.enc,AF.flat]using hc) ?_
          simp[go_sem,b1,AC,AY]
          exact⟨none,⟨hm,by simpa[hMe]using hA,λ_ _=>rfl⟩,AB⟩
       | some j=>
        have hpj:=hpj j rfl
        have hj:=(hA.lt j rfl).1
        simp only[AO,AN]at b1
        simp[go_sem,MG,AF.flat,AO,AN,AC,AD _ _ hpj]
        refine⟨?_,?_⟩ <;>
        . refine Yj (by simpa[AF.enc,AF.flat]using hc) ?_
          simp[go_sem,b1,AC,AD _ _ hpj]
          exact⟨some j,⟨hm,by simpa[hMe]using hA,λa _=>hoe a⟩,λq y e=>by simp only[hMe,Zh,Zj,YF,Zo,Zi,hset]at e ⊢;grind⟩
     . have hpm:p≠m:=by omega
       have hpush:A7 (n+2) (m+1) 1 (some m) (A++M.map AA):=⟨by simp,λj e=>by cases e;omega,λe he=>(Y8.1 he).elim (hA.size e) (GI.size M e)⟩
       cases o with
       | none=>
        simp only[AO,AN]at b1
        simp[go_sem,MG,AF.flat,AO,AN,AC]
        refine⟨?_,?_⟩ <;>
        . refine Yj (by simpa[AF.enc,AF.flat]using hc) ?_
          simp[go_sem,b1,AC,AD _ _ hpm]
          exact⟨some m,⟨by omega,hpush,by simp[hMe]⟩,λq y e=>by have:=hBb q y;simp only[hset]at e ⊢;grind⟩
       | some j=>
        have hpj:=hpj j rfl
        have hj:=(hA.lt j rfl).1
        simp only[AO,AN]at b1
        simp[go_sem,MG,AF.flat,AO,AN,AC,AD _ _ hpj]
        refine⟨?_,?_⟩ <;>
        . refine Yj (by simpa[AF.enc,AF.flat]using hc) ?_
          simp[go_sem,b1,AC,AY,AD _ _ hpm,AD _ _ hpj]
          exact⟨some m,⟨by omega,hpush,by simp[hMe]⟩,λq y e=>by have:=hBb q y;simp only[hset]at e ⊢;grind⟩
   obtain⟨hm,hA,hoe⟩:=hm
   refine Py p hA hBb (by omega) hoe ?_
   have n1:n+1≠p:=by omega
   rw[hB]
   refine AI ?_
   simp[go_sem,AC,AD _ _ n1]
   have hd:P9 rev s x=(E3,true,(s.1++M,s.2)):=by rw[hM];simp[P9,hmid]
   rw[hd]
   have hq':H q=some (.list 1 (s.2.map AA)):=hs q _ (by simp[MF,hpq.symm])
   refine Nb (v:=.tup [.agg [.imm 0 [] true,AA 0,AA 0,.imm 0 [] true,.imm 0 [] true],.bool true]) (r:=.tup [E3.enc,.bool true]) 3 (Nj hp hq (s.1++M,s.2) hn ho)
    (.inr ⟨.inr ⟨A9 (by simp),Y0,Y0,A9 (by simp),A9 (by simp),trivial⟩,Y0,trivial⟩) (by simp[closed,closedL,AF.enc,AF.flat,E3]) (λj y e=>?_)
   simp only[Ai,MF]at e
   by_cases c1:j=p
   . subst c1
     rw[if_pos rfl,Y3,<-hA0]at e;rw[AD _ _ (by omega),AC];exact e
   . by_cases c2:j=q
     . subst c2
       rw[if_neg c1,if_pos rfl]at e;rw[AD _ _ (by omega),AD _ _ c1,AD _ _ (by omega),hq'];exact e
     . rw[if_neg c1,if_neg c2]at e
       have:=hHb j y e
       rw[AD _ _ (by omega),AD _ _ c1,AD _ _ (by omega)];exact e
  | false =>
   obtain⟨A,hA0⟩:∃A:List SV,A=s.2.map AA:=⟨_,rfl⟩
   obtain⟨M,hM⟩:∃M:List Int,M=D6 rev x.head.moves:=⟨_,rfl⟩
   have hBq:B q=some (.list 1 A):=by rw[hB,AD _ _ (by omega),hA0];exact hs q _ (by simp[MF,hpq.symm])
   have hlen:A.length+M.length<=1073741824:=by
    simp only[P9,hmid,if_false,Y7,Ym]at ht
    rw[hA0,hM,Y5];omega
   refine AV 0 (α:=Option Nat) (λ_=>[(9,.ptr (n+1) 0)]) (λo=>AO o (A++M.map AA) (hset B q (some (.cells [AN 1 o (A++M.map AA)])))) (λo m=>n+2<=m/\A7 (n+2) m 1 o (A++M.map AA)/\(A++M.map AA=[]->o=none)) ?_ (λo m hm=>?_)
   . refine BV 0 [(3,.ptr p 0),(4,.iptr [AA rev]),(5,.ptr q 0),(6,X),(9,.ptr (n+1) 0),(11,.bool false)] B (λm=>n+2=m) ?_ (λm hm=>?_)
     . simp[go_sem,Y0]
     subst hm
     refine Ag (b:=false) (by simp[go_sem]) ?_
     simp only[Y7,if_false]
     refine KZ q (by rw[hA0];exact GI.size _) hBq λo m hm hA hoe=>?_
     have hpo:∀v,AO o A (hset B q (some (.cells [v]))) q=some (.cells [v]):=λv=>by
      cases o with
      | none=>exact AC _ _ _
      | some j=>have:=(hA.lt j rfl).1;simp only[AO];rw[AD _ _ (by omega)];exact AC _ _ _
     have hCb:∀v j y,hset B q (some (.cells [v])) j=some y->j<n+2:=λv j y e=>by
      by_cases h:j=q
      . omega
      . rw[AD _ _ h]at e;exact hBb j y e
     have hc:=c51 x.head hx rev
     rw[<-hM]at hc
     have hpj:∀j,o=some j->q≠j:=λj e=>by have:=(hA.lt j e).1;omega
     refine B7 MG rfl (by kernel_rfl) (by kernel_rfl) ?_
     rw[hX]
     rcases N5 hA (X:=AO o A (hset B q (some (.cells [AN 1 o A])))) (λj e=>Dz j e) M hlen m with⟨hMe,b1⟩|⟨hMe,b1⟩
     . cases o with
       | none=>
        simp only[AO,AN]at b1
        simp[go_sem,MG,AF.flat,AO,AN,AC]
        refine⟨?_,?_⟩ <;>
        . refine Yj (by simpa[AF.enc,AF.flat]using hc) ?_
          simp[go_sem,b1,AC,AY]
          exact⟨none,⟨hm,by simpa[hMe]using hA,λ_ _=>rfl⟩,AB⟩
       | some j=>
        have hpj:=hpj j rfl
        have hj:=(hA.lt j rfl).1
        simp only[AO,AN]at b1
        simp[go_sem,MG,AF.flat,AO,AN,AC,AD _ _ hpj]
        refine⟨?_,?_⟩ <;>
        . refine Yj (by simpa[AF.enc,AF.flat]using hc) ?_
          simp[go_sem,b1,AC,AD _ _ hpj]
          exact⟨some j,⟨hm,by simpa[hMe]using hA,λa _=>hoe a⟩,λq y e=>by simp only[hMe,Zh,Zj,YF,Zo,Zi,hset]at e ⊢;grind⟩
     . have hpm:q≠m:=by omega
       have hpush:A7 (n+2) (m+1) 1 (some m) (A++M.map AA):=⟨by simp,λj e=>by cases e;omega,λe he=>(Y8.1 he).elim (hA.size e) (GI.size M e)⟩
       cases o with
       | none=>
        simp only[AO,AN]at b1
        simp[go_sem,MG,AF.flat,AO,AN,AC]
        refine⟨?_,?_⟩ <;>
        . refine Yj (by simpa[AF.enc,AF.flat]using hc) ?_
          simp[go_sem,b1,AC,AD _ _ hpm]
          exact⟨some m,⟨by omega,hpush,by simp[hMe]⟩,λq y e=>by have:=hBb q y;simp only[hset]at e ⊢;grind⟩
       | some j=>
        have hpj:=hpj j rfl
        have hj:=(hA.lt j rfl).1
        simp only[AO,AN]at b1
        simp[go_sem,MG,AF.flat,AO,AN,AC,AD _ _ hpj]
        refine⟨?_,?_⟩ <;>
        . refine Yj (by simpa[AF.enc,AF.flat]using hc) ?_
          simp[go_sem,b1,AC,AY,AD _ _ hpm,AD _ _ hpj]
          exact⟨some m,⟨by omega,hpush,by simp[hMe]⟩,λq y e=>by have:=hBb q y;simp only[hset]at e ⊢;grind⟩
   obtain⟨hm,hA,hoe⟩:=hm
   refine Py q hA hBb (by omega) hoe ?_
   have n1:n+1≠q:=by omega
   rw[hB]
   refine AI ?_
   simp[go_sem,AC,AD _ _ n1]
   have hd:P9 rev s x=(E3,true,(s.1,s.2++M)):=by rw[hM];simp[P9,hmid]
   rw[hd]
   have hq':H p=some (.list 1 (s.1.map AA)):=hs p _ (by simp[MF])
   refine Nb (v:=.tup [.agg [.imm 0 [] true,AA 0,AA 0,.imm 0 [] true,.imm 0 [] true],.bool true]) (r:=.tup [E3.enc,.bool true]) 3 (Nj hp hq (s.1,s.2++M) hn ho)
    (.inr ⟨.inr ⟨A9 (by simp),Y0,Y0,A9 (by simp),A9 (by simp),trivial⟩,Y0,trivial⟩) (by simp[closed,closedL,AF.enc,AF.flat,E3]) (λj y e=>?_)
   simp only[Ai,MF]at e
   by_cases c1:j=p
   . subst c1
     rw[if_pos rfl]at e;rw[AD _ _ (by omega),AD _ _ hpq,AD _ _ (by omega),hq'];exact e
   . by_cases c2:j=q
     . subst c2
       rw[if_neg c1,if_pos rfl,Y3,<-hA0]at e;rw[AD _ _ (by omega),AC];exact e
     . rw[if_neg c1,if_neg c2]at e
       have:=hHb j y e
       rw[AD _ _ (by omega),AD _ _ c2,AD _ _ (by omega)];exact e
theorem J1 {α:Type} {f g:α->Nat}:∀{l:List α},(∀x∈l,f x<=g x)->(l.map f).sum<=(l.map g).sum
 | [],_=>by simp
 | a::l,h=>by
  have h1:=h a (by simp)
  have h2:=J1 (l:=l) λx hx=>h x (by simp[hx])
  simp only[Yf,Zm];omega
theorem Lg {α:Type} (p:α->Bool) (f:α->Nat):∀l:List α,((l.filter p).map f).sum<=(l.map f).sum
 | []=>by simp
 | a::l=>by
  have h:=Lg p f l
  rw[List.filter_cons]
  split<;>simp only[Yf,Zm]<;>omega
theorem Nq {α:Type} (f:α->Nat):∀l:List α,2*(l.map f).sum=(l.map λx=>2*f x).sum
 | []=>rfl
 | a::l=>by
  have:=Nq f l
  simp only[Yf,Zm];omega
def wN:Nat->List AE->Nat
 | 0,_=>0
 | N+1,l=>(l.map λx=>1+wN N x.flow+(x.rows.map λr=>1+(r.cells.map λc=>1+wN N c.flow).sum).sum).sum
def wC (N:Nat) (c:AL):Nat:=1+wN N c.flow
def wR (N:Nat) (r:AW):Nat:=1+(r.cells.map (wC N)).sum
def wI (N:Nat) (x:AE):Nat:=1+wN N x.flow+(x.rows.map (wR N)).sum
theorem Kj (N:Nat) (l:List AE):wN (N+1) l=(l.map (wI N)).sum:=rfl
theorem VH (N:Nat) (out:List AE) (x:AE):((BC out x).map (wI N)).sum<=(out.map (wI N)).sum+wI N x:=by
 unfold BC
 split
 . omega
 . split
   . rename_i y hy
     obtain⟨ys,rfl⟩:∃ys,out=ys++[y]:=by
      rcases List.eq_nil_or_concat out with rfl|⟨ys,z,rfl⟩
      . simp at hy
      . simp only[List.concat_eq_append]at hy ⊢;rw[ZX]at hy;cases hy;exact⟨ys,rfl⟩
     split
     . have e:wI N (y.addText x.text)=wI N y:=rfl
       simp[e]
     . simp;omega
   . simp
theorem Sn (N:Nat):∀l out:List AE,((l.foldl BC out).map (wI N)).sum<=(out.map (wI N)).sum+(l.map (wI N)).sum
 | [],out=>by simp
 | a::l,out=>by
  have h1:=Sn N l (BC out a)
  have h2:=VH N out a
  simp only[YT,Yf,Zm];omega
theorem Lp:∀(N:Nat) (l:List AE),wN N (An l)<=wN N l
 | 0,_=>Y1 _
 | N + 1, l => by
  rw[Kj,Kj]
  unfold An Dy
  rw[ZT]
  have h1:=Sn N (l.map AE.nrm) []
  have h2:((l.map AE.nrm).map (wI N)).sum<=(l.map (wI N)).sum:=by
   rw[List.map_map]
   refine J1 λx _=>?_
   rw[Function.comp_apply,AE.nrm_eq]
   have h3:=Lp N x.flow
   have h4:(((x.rows.map AW.nrm).filter λr=>!decide (r.cells.length=0)).map (wR N)).sum<=(x.rows.map (wR N)).sum:=by
    refine Yo (Lg _ _ _) ?_
    rw[List.map_map]
    refine J1 λr _=>?_
    rw[Function.comp_apply,AW.nrm_eq]
    unfold wR
    have:((r.cells.map AL.nrm).map (wC N)).sum<=(r.cells.map (wC N)).sum:=by
     rw[List.map_map]
     refine J1 λc _=>?_
     rw[Function.comp_apply,AL.nrm_eq]
     have:=Lp N c.flow
     show 1+wN N (An c.flow)<=1+wN N c.flow
     omega
    show 1+((r.cells.map AL.nrm).map (wC N)).sum<=_
    omega
   show 1+wN N (An x.flow)+(((x.rows.map AW.nrm).filter λr=>!decide (r.cells.length=0)).map (wR N)).sum<=1+wN N x.flow+(x.rows.map (wR N)).sum
   omega
  simp only[YF,List.sum_nil]at h1
  omega
theorem Sm (N:Nat) (l:List AE) (cu:Int):∀k,k<=l.length->((Cq l cu k).1.map (wI N)).sum<=((l.take k).map (wI N)).sum/\((Cq l cu k).2.map (wI N)).sum<=((l.take k).map (wI N)).sum
 | 0,_=>by simp[Cq]
 | k+1,h=>by
  rw[F3 l cu k h,Y2 h]
  have h1:=Sm N l cu k (by omega)
  have e:∀(x:AE) t,wI N (x.setText t)=wI N x:=λ_ _=>rfl
  unfold CN
  dsimp only
  split
  . simp only[Y3,List.sum_append,Yf,YF,Zm,List.sum_nil];omega
  . split
    . simp only[Y3,List.sum_append,Yf,YF,Zm,List.sum_nil];omega
    . simp only[Y3,List.sum_append,Yf,YF,Zm,List.sum_nil,e];omega
theorem Tm (N:Nat) (l:List AE) (a b:Int):wN (N+1) (AU l a b).1<=wN (N+1) l:=by
 have h:∀l cu,wN (N+1) (BS l cu).1<=wN (N+1) l/\wN (N+1) (BS l cu).2<=wN (N+1) l:=λl cu=>by
  have:=Sm N l cu l.length (Y1 _)
  rw[Ya]at this
  exact this
 unfold AU
 split
 . exact Yo (Lp _ _) (Yo (h _ _).2 (h _ _).1)
 . exact Y4 _
theorem So {hp:AF->Prop} {T:Int->Prop}:∀{N:Nat} {l:List AE},wf hp T N l->wN N l<=2*Lv N l
 | 0,_,h=>h.elim
 | N + 1, l, H => by
  have H:=EY.1 H
  have e:2*Lv (N+1) l=(l.map λx=>2*(1+Lv N x.flow+KW N x.rows)).sum:=Nq _ l
  rw[e,Kj]
  refine J1 λx hx=>?_
  have hx:=H x hx
  have h1:=So hx.flow
  have h2:(x.rows.map (wR N)).sum<=2*KW N x.rows:=by
   have e2:2*KW N x.rows=(x.rows.map λr=>2*Lk N r.cells).sum:=Nq _ x.rows
   rw[e2]
   refine J1 λr hr=>?_
   obtain⟨_,u,v⟩:=hx.rows r hr
   have e3:∀l:List AL,(∀c∈l,wN N c.flow<=2*Lv N c.flow)->(l.map (wC N)).sum+l.length<=2*Lk N l:=λl=>by
    induction l with
    | nil=>intro _;simp[Lk]
    | cons a l ih=>
     intro h
     have i1:=ih λc hc=>h c (by simp[hc])
     have i2:=h a (by simp)
     simp only[Lk,Yf,Zm,Yy,wC]at i1 ⊢;omega
   have:=e3 r.cells λc hc=>So (v c hc).2.2
   have:r.cells.length≠0:=λg=>u (ZM g)
   unfold wR;omega
  unfold wI;omega
section
variable {hp : AF → Prop} {T : Int → Prop} {σ : Type} {f : σ → BY → AF × Bool × σ} {rk : σ → Nat} {c : Nat}
theorem Kh {α β:Type} {G:β×σ->α->β×σ} {v:α->Nat} {k:Nat}:∀(l:List α) (q:β×σ),(∀x∈l,∀q,rk (G q x).2<=rk q.2+k*v x)->rk (l.foldl G q).2<=rk q.2+k*(l.map v).sum
 | [],_,_=>by simp
 | x::l,q,h=>by
  have h1:=Kh l (G q x) λy hy=>h y (by simp[hy])
  have h2:=h x (by simp) q
  simp only[YT,Yf,Zm,Nat.mul_add];omega
theorem LJ {fl:Int->List AE->Ah->Bool->σ->List AE×σ} {sc:Ah} {mid:Bool} {N k:Nat} {l:List AE} (hf:∀s p,hp p.head->rk (f s p).2.2<=rk s+k) (H:wf hp T (N+1) l)
 (hfl:∀id l,T id->wf hp T N l->∀s,rk (fl id l sc mid s).2<=rk s+k*wN N l) (s:σ):rk (BU f fl sc mid l s).2<=rk s+k*wN (N+1) l:=by
 rw[Kj]
 refine Kh (G:=Dp f fl sc mid) l ([],s) λx hx q=>?_
 obtain⟨a,_,_,_,e,g,q7⟩:=EY.1 H x hx
 have h1:=hf q.2 ⟨x.head,mid,(A5 [x]).1⟩ a
 have h2:∀s,rk (LI fl sc mid x s).2<=rk s+k*wN N x.flow:=λs=>by
  unfold LI
  split
  . rename_i k6;exact hfl _ _ (e k6) g s
  . exact Nat.le_add_right _ _
 have h3:∀s,rk (Ed f fl sc mid x.rows s).2<=rk s+k*(x.rows.map (wR N)).sum:=λs=>by
  refine Kh (G:=Cb f fl sc mid) x.rows ([],s) λr hr q=>?_
  obtain⟨u,_,w⟩:=q7 r hr
  have i1:=hf q.2 ⟨r.head,mid,1⟩ u
  have i2:∀s,rk (DK f fl sc mid r.cells s).2<=rk s+k*(r.cells.map (wC N)).sum:=λs=>by
   refine Kh (G:=CC f fl sc mid) r.cells ([],s) λd hd q=>?_
   obtain⟨t,u,w⟩:=w d hd
   have j1:=hf q.2 ⟨d.head,mid,1⟩ u
   have j2:=hfl _ _ t w (f q.2 ⟨d.head,mid,1⟩).2.2
   show rk (fl d.id d.flow sc mid (f q.2 ⟨d.head,mid,1⟩).2.2).2<=_
   unfold wC
   rw[Nat.mul_add];omega
  have i3:=i2 (f q.2 ⟨r.head,mid,1⟩).2.2
  show rk (DK f fl sc mid r.cells (f q.2 ⟨r.head,mid,1⟩).2.2).2<=_
  unfold wR
  rw[Nat.mul_add];omega
 have h4:=h2 (f q.2 ⟨x.head,mid,(A5 [x]).1⟩).2.2
 have h5:=h3 (LI fl sc mid x (f q.2 ⟨x.head,mid,(A5 [x]).1⟩).2.2).2
 show rk (Ed f fl sc mid x.rows (LI fl sc mid x (f q.2 ⟨x.head,mid,(A5 [x]).1⟩).2.2).2).2<=_
 unfold wI
 rw[Nat.mul_add,Nat.mul_add];omega
theorem Mk {k:Nat} (hf:∀s p,hp p.head->rk (f s p).2.2<=rk s+k) (hT:∀i,T i->i ≠ -1):∀(N:Nat) (id:Int) (l:List AE) (mid:Bool) (s:σ),wf hp T N l->(mid=true\/id ≠ -1)->rk (Aq f N id l Ar mid s).2<=rk s+k*wN N l
 | 0,_,_,_,_,h,_=>h.elim
 | N+1,id,l,mid,s,H,hid=>by
  have n2:¬(id=Ar.id/\mid=false):=by rcases hid with rfl|h<;>simp[Ar, *]
  rw[Aq,if_neg n2]
  exact LJ hf H (λid l t w s=>Mk hf hT N id l mid s w (.inr (hT _ t))) s
theorem Oh {k:Nat} (hf:∀s p,hp p.head->rk (f s p).2.2<=rk s+k) (hT:∀i,T i->i ≠ -1) (sc:Ah):∀(N:Nat) (id:Int) (l:List AE) (mid:Bool) (s:σ),wf hp T N l->rk (Aq f N id l sc mid s).2<=rk s+3*k*wN N l
 | 0,_,_,_,_,h=>h.elim
 | N+1,id,l,mid,s,H=>by
  rw[Aq]
  split
  . have q:∀(mid:Bool) a b s,rk (BU f (Aq f N) Ar mid (AU l a b).1 s).2<=rk s+k*wN (N+1) l:=λmid a b s=>
     Yo (LJ hf (JQ a b H) (λid l t w s=>Mk hf hT N id l mid s w (.inr (hT _ t))) s) (Nat.add_le_add_left (Nat.mul_le_mul_left k (Tm N l a b)) _)
    dsimp only
    have q1:=q false 0 sc.a s
    generalize BU f (Aq f N) Ar false (AU l 0 sc.a).1 s=r1 at q1 ⊢
    have q2:=q true sc.a sc.b r1.2
    generalize BU f (Aq f N) Ar true (AU l sc.a sc.b).1 r1.2=r2 at q2 ⊢
    have q3:=q false sc.b (A5 l).1 r2.2
    rw[Nat.mul_assoc];omega
  . exact LJ (λs p g=>Yo (hf s p g) (by omega)) H (λid l t w s=>Oh hf hT sc N id l mid s w) s
theorem Mj {τ:Type} (R:σ->τ->Prop) (u1:σ->BY->σ) (u2:τ->BY->τ) (h:∀s t p,R s t->R (u1 s p) (u2 t p)):∀(N:Nat) (id:Int) (l:List AE) (sc:Ah) (mid:Bool) (s:σ) (t:τ),R s t->R (Aq (zF u1) N id l sc mid s).2 (Aq (zF u2) N id l sc mid t).2
 | 0,_,_,_,_,_,_,g=>g
 | N + 1, id, l, sc, mid, s, t, g => by
  have ih:=Mj R u1 u2 h N
  have fr:∀{α β γ:Type} (g1:β×σ->α->β×σ) (g2:γ×τ->α->γ×τ),(∀x p q,R p.2 q.2->R (g1 p x).2 (g2 q x).2)->∀(l:List α) (p:β×σ) (q:γ×τ),R p.2 q.2->R (l.foldl g1 p).2 (l.foldl g2 q).2:=λg1 g2 hg l=>by
   induction l with
   | nil=>exact λ_ _ g=>g
   | cons x l ih=>exact λp q g=>ih _ _ (hg x p q g)
  have q:∀sc mid l s t,R s t->R (BU (zF u1) (Aq (zF u1) N) sc mid l s).2 (BU (zF u2) (Aq (zF u2) N) sc mid l t).2:=λsc mid l s t g=>by
   refine fr (Dp (zF u1) (Aq (zF u1) N) sc mid) (Dp (zF u2) (Aq (zF u2) N) sc mid) (λx p q g=>?_) l _ _ g
   refine(fr (Cb (zF u1) (Aq (zF u1) N) sc mid) (Cb (zF u2) (Aq (zF u2) N) sc mid) (λr p q g=>?_) x.rows ([],(LI (Aq (zF u1) N) sc mid x (u1 p.2 ⟨x.head,mid,(A5 [x]).1⟩)).2) ([],(LI (Aq (zF u2) N) sc mid x (u2 q.2 ⟨x.head,mid,(A5 [x]).1⟩)).2) ?_:_)
   . refine(fr (CC (zF u1) (Aq (zF u1) N) sc mid) (CC (zF u2) (Aq (zF u2) N) sc mid) (λc p q g=>?_) r.cells ([],u1 p.2 ⟨r.head,mid,1⟩) ([],u2 q.2 ⟨r.head,mid,1⟩) (h _ _ _ g):_)
     exact ih _ _ _ _ _ _ (h _ _ _ g)
   . unfold LI
     split
     . exact ih _ _ _ _ _ _ (h _ _ _ g)
     . exact h _ _ _ g
  rw[Aq,Aq]
  split
  . exact q _ _ _ _ _ (q _ _ _ _ _ (q _ _ _ _ _ g))
  . exact q _ _ _ _ _ g
end
def JD (a id:Int) (s:Unit) (p:BY):AF×Bool×Unit:=(if p.mid then Hn a id p.head else p.head,true,s)
theorem v53 (n0:Nat) (r:BD) (a:Int):Kk Nu n0 53 [] [.iptr [AA a],.iptr [AA r.id,.str r.author,AA r.time]] (JD a r.id) (λx=>x.sized) where
 lt _ _ _:=rfl
 dom _ _ _ _:=rfl
 cl _ _ _ e:=by cases e
 call s p H n hp _ hn hs:=by
  rw[VD]
  refine Dg Tryz.func53 rfl λho=>?_
  have hHb:=ho.lt
  have q1:n+1≠n:=by omega
  have hcl:∀x:AF,closed n (.tup [x.enc,.bool true])=true:=λx=>by simp[closed,closedL,AF.E.cl]
  have fin:∀(x:AF) (G:Hp) (m':Nat),JD a r.id s p=(x,true,s)->(∀j z,H j=some z->G j=some z)->Bz n G m' (.tup [x.enc,.bool true]) (λv h' n'=>v=.tup [(JD a r.id s p).1.enc,.bool (JD a r.id s p).2.1]/\h'=H/\n'=n):=λx G m' e hG=>by
   rw[e];exact CT ho (hcl x) hG
  cases hm:p.mid with
  | false=>
   have hd:JD a r.id s p=(p.head,true,s):=by simp[JD,hm]
   refine AI ?_
   simp[go_sem,AF.enc,AF.flat,AC,AD _ _ q1.symm,AY]
   exact fin p.head _ _ hd (λj z e=>by have:=hHb j z e;rw[AD _ _ (by omega),AD _ _ (by omega)];exact e)
  | true=>
   have hd:JD a r.id s p=(Hn a r.id p.head,true,s):=by simp[JD,hm]
   refine AI ?_
   simp[go_sem,AF.enc,AF.flat,AC,AD _ _ q1.symm]
   refine Yj (by simpa[AF.enc,AF.flat]using c54 p.head hp a r.id) ?_
   simp[go_sem,AC,AD _ _ q1,AD _ _ q1.symm]
   exact fin (Hn a r.id p.head) _ _ hd (λj z e=>by have:=hHb j z e;rw[AD _ _ (by omega),AD _ _ (by omega),AD _ _ (by omega),AD _ _ (by omega)];exact e)
def MQ (c:Int×Int×Int) (A B:List Int) (D:AH) (to:BD):Int:=
 if c.2.2≠0 then c.2.2 else if CY to≠0 then CY to else if(Bv D.revs to.id).2=true then 7 else if 256<=D.revs.length then 9 else if c.1=0\/c.2.1=0 then 11 else if(∃x∈A,x∈B)then 24 else 0
def UE:Tr:=.pure 0<|.pure 1<|.pure 2<|.pure 3<|.pure 4<|.one 5 .nil
def TJ (e:Int) (R:AH):AH:=if e=0 then R else zD
set_option maxHeartbeats 4000000 in
theorem c16 (D:AH) (rev:Int) (sc:Ah) (to:BD) (c:Int×Int×Int) (A B:List Int) (T:List BD) (R:AH) (hr:D.revs.length<=1048576) (hA:A.length<=1073741824) (hB:B.length<=1073741824)
 (k14:PC 14 [D.enc,AA rev,sc.enc] (.tup [AA c.1,AA c.2.1,AA c.2.2]))
 (k50:c.2.2=0->∀(p q n0:Nat),p≠q->p<n0->q<n0->∀(H:Hp) (n:Nat),n0<=n->H p=some (.list 1 [])->H q=some (.list 1 [])->BM Tryz.prog 39 [D.enc,sc.enc,.imm 0 [] true,.fn (.func 50) [] [.ptr p 0,.iptr [AA rev],.ptr q 0]] H n (λv h' n'=>(∃E:AH,v=E.enc)/\h'=Ai (MF p q) (A,B) H/\n'=n))
 (k45:MQ c A B D to=0->PC 45 [Aw D.revs,to.enc] (.tup [Aw T,AA 0]))
 (k53:MQ c A B D to=0->∀(H:Hp) (n:Nat),BM Tryz.prog 39 [D.enc,sc.enc,Aw T,.fn (.func 53) [] [.iptr [AA rev],.iptr [AA to.id,.str to.author,AA to.time]]] H n (λv h' n'=>v=R.enc/\h'=H/\n'=n)):
 PC 16 [D.enc,AA rev,sc.enc,to.enc] (.tup [(TJ (MQ c A B D to) R).enc,AA (MQ c A B D to)]):=by
 intro h n
 refine Dg Tryz.func16 rfl λho=>?_
 have hHb:=ho.lt
 obtain⟨X,hX⟩:∃X:SV,X=.iptr ([AG D.flow]++D.«end».flat++[Aw D.revs]++D.settings.flat):=⟨_,rfl⟩
 obtain⟨V,hV⟩:∃V:SV,V=.iptr [AA to.id,.str to.author,AA to.time]:=⟨_,rfl⟩
 obtain⟨S,hS⟩:∃S:SV,S=.iptr [AA sc.id,AA sc.a,AA sc.b]:=⟨_,rfl⟩
 obtain⟨G,hG⟩:∃G:Hp,G=hset h (n+4) (some (.cells C2)):=⟨_,rfl⟩
 have hGa:G (n+4)=some (.cells C2):=by rw[hG,AC]
 have hGb:∀j y,G j=some y->j<n+5:=λj y e=>by
  rw[hG]at e;simp only[hset]at e;split at e
  . omega
  . have:=hHb j y e;omega
 have hGk:∀j y,h j=some y->G j=some y:=λj y e=>by have:=hHb j y e;rw[hG,AD _ _ (by omega)];exact e
 have fin:∀(h':Hp) (n':Nat) (e:Int),(∀j y,h j=some y->h' j=some y)->MQ c A B D to=e->e≠0->Bz n h' n' (.tup [.agg C2,AA e]) (Is (.tup [(TJ (MQ c A B D to) R).enc,AA (MQ c A B D to)]) h n):=λh' n' e hh he hne=>by
  rw[TJ,he,if_neg hne]
  refine Dh 3 ho hh (.inr ⟨.inr ?_,Y0,trivial⟩) (HF n zD e)
  exact⟨A9 (by simp),A9 (by simp),Y0,Y0,A9 (by simp),A9 (by simp),A9 (by simp),A9 (by simp),A9 (by simp),A9 (by simp),A9 (by simp),trivial⟩
 have keep:=AK (m:=n+4) (y:=some (.cells C2)) (h:=h) (h':=G) (λj z e=>by have:=hHb j z e;omega) hGk
 refine BV 1 [(4,X),(5,.iptr [AA rev]),(6,S),(7,V),(8,.ptr (n+4) 0)] G (λm=>n+5<=m) ?_ (λm hm=>?_)
 . rw[hX,hV,hG,hS]
   simp[go_sem,AH.enc,BD.enc,Ah.enc,AF.flat,AJ.flat,Y0,Yn,C2]
   refine⟨⟨AT (by simp[hset];exact ho.none (by omega)) (by simp[hset]),AT (by simp[hset];exact ho.none (by omega)) (by simp[hset]),AT (by simp[hset];exact ho.none (by omega)) (by simp[hset]),AT (by simp[hset];exact ho.none (by omega)) (by simp[hset])⟩,λj y=>?_⟩
   have:=hHb j y;simp only[hset];grind
 refine BV 0 [(4,X),(5,.iptr [AA rev]),(6,S),(7,V),(8,.ptr (n+4) 0),(10,AA c.1),(11,AA c.2.1),(12,AA c.2.2)] G (λm=>n+5<=m) ?_ (λm hm=>?_)
 . rw[hX,hS]
   simp[go_sem,AF.flat,AJ.flat]
   refine Yj (by simpa[AH.enc,Ah.enc,AF.flat,AJ.flat]using k14) ?_
   simp[go_sem,Y0,hm]
 refine Ei ?_
 refine BV 0 [(4,X),(5,.iptr [AA rev]),(6,S),(7,V),(8,.ptr (n+4) 0),(10,AA c.1),(11,AA c.2.1),(12,AA c.2.2),(30,.bool (c.2.2 !=0))] G (λm=>n+5<=m) ?_ (λm hm=>?_)
 . simp[go_sem,Y0,hm]
 by_cases e1:c.2.2=0
 rotate_left
 . refine Ag (b:=true) (by simp[go_sem,e1]) (AI ?_)
   simp[go_sem,hGa,C2,AC]
   exact fin _ _ _ keep (by unfold MQ;rw[if_pos e1]) e1
 refine Ag (b:=false) (by simp[go_sem,e1]) ?_
 simp only[Y7,if_false]
 refine FS ?_
 rw[DZ]
 refine Ei ?_
 refine BV 0 [(4,X),(5,.iptr [AA rev]),(6,S),(7,V),(8,.ptr (n+4) 0),(10,AA c.1),(11,AA c.2.1),(13,AA (CY to))] G (λm=>n+5<=m) ?_ (λm hm=>?_)
 . rw[hV]
   simp[go_sem]
   refine Yj (by simpa[BD.enc]using c42 to) ?_
   simp[go_sem,Y0,hm]
 refine BV 0 [(4,X),(5,.iptr [AA rev]),(6,S),(7,V),(8,.ptr (n+4) 0),(10,AA c.1),(11,AA c.2.1),(13,AA (CY to)),(36,.bool (CY to !=0))] G (λm=>n+5<=m) ?_ (λm hm=>?_)
 . simp[go_sem,Y0,hm]
 by_cases e2:CY to=0
 rotate_left
 . refine Ag (b:=true) (by simp[go_sem,e2]) (AI ?_)
   simp[go_sem,hGa,C2,AC]
   exact fin _ _ _ keep (by unfold MQ;rw[if_neg (by simpa using e1),if_pos e2]) e2
 refine Ag (b:=false) (by simp[go_sem,e2]) ?_
 simp only[Y7,if_false]
 refine FS ?_
 rw[DZ]
 refine CB 0 [(4,X),(5,.iptr [AA rev]),(6,S),(7,V),(8,.ptr (n+4) 0),(10,AA c.1),(11,AA c.2.1),(15,.bool (Bv D.revs to.id).2)] G (λm=>n+5<=m) (AI ?_) (λm hm=>?_)
 . rw[hX,hV]
   simp[go_sem,AF.flat,AJ.flat]
   refine Yj (c20 D.revs hr to.id) ?_
   simp[go_sem,Y0,BD.enc,AC,AY]
   exact⟨by omega,AK (λj z e=>by have:=hGb j z e;omega) AB⟩
 refine AV 0 (α:=Unit) (λ_=>[(4,X),(5,.iptr [AA rev]),(6,S),(7,V),(8,.ptr (n+4) 0)]) (λ_=>G) (λ_ m=>n+5<=m/\(Bv D.revs to.id).2=false/\D.revs.length<256/\¬(c.1=0\/c.2.1=0)) (AR (AI ?_)) (λ_ m hm=>?_)
 . have f0:∀e:Int,MQ c A B D to=if(Bv D.revs to.id).2=true then 7 else if 256<=D.revs.length then 9 else if c.1=0\/c.2.1=0 then 11 else if(∃x∈A,x∈B)then 24 else 0:=λ_=>by
    unfold MQ;rw[if_neg (by simpa using e1),if_neg (by simpa using e2)]
   cases e3:(Bv D.revs to.id).2 with
   | true=>
    simp[go_sem,hGa,C2,AC]
    exact fin _ _ 7 keep (by rw[f0 0,e3];rfl) (by decide)
   | false=>
    by_cases e4:256<=D.revs.length
    . have e4':(256:Int)<=D.revs.length:=by omega
      rw[hX]
      simp[go_sem,e4',hGa,C2,AC,AF.flat,AJ.flat]
      exact fin _ _ 9 keep (by rw[f0 0,e3,if_neg (by decide),if_pos e4]) (by decide)
    . have e4':¬(256:Int)<=D.revs.length:=by omega
      by_cases e5:c.1=0
      . rw[hX]
        simp[go_sem,e4',e5,hGa,C2,AC,AF.flat,AJ.flat]
        exact fin _ _ 11 keep (by rw[f0 0,e3,if_neg (by decide),if_neg e4,if_pos (.inl e5)]) (by decide)
      . by_cases e6:c.2.1=0
        . rw[hX]
          simp[go_sem,e4',e5,e6,hGa,C2,AC,AF.flat,AJ.flat]
          exact fin _ _ 11 keep (by rw[f0 0,e3,if_neg (by decide),if_neg e4,if_pos (.inr e6)]) (by decide)
        . rw[hX]
          simp[go_sem,e4',e5,e6,Y0,AF.flat,AJ.flat]
          omega
 obtain⟨hm,e3,e4,e5⟩:=hm
 have hE:MQ c A B D to=if(∃x∈A,x∈B)then 24 else 0:=by
  unfold MQ;rw[if_neg (by simpa using e1),if_neg (by simpa using e2),e3,if_neg (by decide),if_neg (by omega),if_neg e5]
 refine BG 0 (α:=Nat) (λp=>[(4,X),(5,.iptr [AA rev]),(6,S),(7,V),(8,.ptr (n+4) 0),(16,.ptr p 0),(17,.ptr (p+1) 0)]) (λp=>hset (hset G p (some (.cells [.imm 0 [] true]))) (p+1) (some (.cells [.imm 0 [] true]))) (λp m=>n+5<=p/\p+2=m) ?_ (λp m hm=>?_)
 . simp[go_sem,Y0]
   exact⟨m,⟨hm,by omega⟩,⟨Y0,Y0⟩,AB⟩
 obtain⟨hp,hpm⟩:=hm
 have nq:p≠p+1:=by omega
 refine JX p 1 none (by rw[AD _ _ nq,AC]) ?_
 refine JX (p+1) 1 none (by rw[AD _ _ nq.symm,AC]) ?_
 obtain⟨W,hW⟩:∃W:List Int×List Int->Hp,∀s,W s=Ai (MF p (p+1)) s G:=⟨_,λ_=>rfl⟩
 have hW0:hset (hset (hset (hset G p (some (.cells [.imm 0 [] true]))) (p+1) (some (.cells [.imm 0 [] true]))) p (some (.list 1 []))) (p+1) (some (.list 1 []))=W ([],[]):=by
  rw[hW];funext j;simp only[hset,Ai,MF,YF];grind
 have hWup:∀s s',Ai (MF p (p+1)) s' (W s)=W s':=λs s'=>by
  rw[hW,hW];funext j;simp only[Ai,MF];grind
 have hWp:∀s,W s p=some (.list 1 (s.1.map AA)):=λs=>by rw[hW];simp[Ai,MF]
 have hWq:∀s,W s (p+1)=some (.list 1 (s.2.map AA)):=λs=>by rw[hW];simp[Ai,MF]
 have hWk:∀s j y,G j=some y->W s j=some y:=λs j y e=>by
  have:=hGb j y e
  rw[hW];simp only[Ai,MF];rw[if_neg (by omega),if_neg (by omega)];exact e
 have hWb:∀s j y,W s j=some y->j<p+2:=λs j y e=>by
  rw[hW]at e;simp only[Ai,MF]at e
  by_cases c1:j=p
  . omega
  . by_cases c2:j=p+1
    . omega
    . rw[if_neg c1,if_neg c2]at e;have:=hGb j y e;omega
 rw[hW0]
 have k50':=λm (hm:p+2<=m)=>k50 e1 p (p+1) (p+2) nq (by omega) (by omega) (W ([],[])) m hm (hWp _) (hWq _)
 simp only[hWup]at k50'
 refine BV 0 [(4,X),(5,.iptr [AA rev]),(6,S),(7,V),(8,.ptr (n+4) 0),(16,.ptr p 0),(17,.ptr (p+1) 0)] (W (A,B)) (λm=>p+2<=m) ?_ (λm hm=>?_)
 . rw[hX,hS]
   simp[go_sem,AF.flat,AJ.flat]
   refine Ys (by simpa[AH.enc,Ah.enc,AF.flat,AJ.flat]using k50' m (by omega)) ?_
   rintro v H' n' ⟨⟨E,rfl⟩,rfl,rfl⟩
   simp[go_sem,Y0]
   omega
 refine KZ p (GI.size A) (hWp _) λoA m1 hm1 hA1 hA2=>?_
 have hZ1:∀j y,j≠p->W (A,B) j=some y->AO oA (A.map AA) (hset (W (A,B)) p (some (.cells [AN 1 oA (A.map AA)]))) j=some y:=λj y hj e=>by
  have:=hWb _ j y e
  cases oA with
  | none=>simp only[AO];rw[AD _ _ hj];exact e
  | some k=>have:=(hA1.lt k rfl).1;simp only[AO];rw[AD _ _ (by omega),AD _ _ hj];exact e
 refine KZ (p+1) (GI.size B) (hZ1 _ _ (by omega) (hWq _)) λoB m2 hm2 hB1 hB2=>?_
 have hfl:∀l:List Int,(l.map AA).flatMap SV.cells=l.map AA:=λl=>by induction l<;>simp_all [SV.cells]
 obtain⟨Z,hZ⟩:∃Z:Hp,Z=AO oB (B.map AA) (hset (AO oA (A.map AA) (hset (W (A,B)) p (some (.cells [AN 1 oA (A.map AA)])))) (p+1) (some (.cells [AN 1 oB (B.map AA)]))):=⟨_,rfl⟩
 rw[<-hZ]
 have hZp:Z p=some (.cells [AN 1 oA (A.map AA)]):=by
  rw[hZ]
  cases oA with
  | none=>cases oB with
   | none=>simp only[AO];rw[AD _ _ nq,AC]
   | some k=>have:=(hB1.lt k rfl).1;simp only[AO];rw[AD _ _ (by omega),AD _ _ nq,AC]
  | some k2=>have:=(hA1.lt k2 rfl).1;cases oB with
   | none=>simp only[AO];rw[AD _ _ nq,AD _ _ (by omega),AC]
   | some k=>have:=(hB1.lt k rfl).1;simp only[AO];rw[AD _ _ (by omega),AD _ _ nq,AD _ _ (by omega),AC]
 have hZq:Z (p+1)=some (.cells [AN 1 oB (B.map AA)]):=by
  rw[hZ]
  cases oB with
  | none=>simp only[AO];rw[AC]
  | some k=>have:=(hB1.lt k rfl).1;simp only[AO];rw[AD _ _ (by omega),AC]
 have hZk:∀j y,G j=some y->Z j=some y:=λj y e=>by
  have hj:=hGb j y e
  have e1:=hZ1 j y (by omega) (hWk _ j y e)
  rw[hZ]
  cases oB with
  | none=>simp only[AO];rw[AD _ _ (by omega)];exact e1
  | some k=>have:=(hB1.lt k rfl).1;simp only[AO];rw[AD _ _ (by omega),AD _ _ (by omega)];exact e1
 have hZA:∀k,oA=some k->Z k=some (.cells (A.map AA)):=λk e=>by
  subst e
  have:=(hA1.lt k rfl)
  rw[hZ]
  cases oB with
  | none=>simp only[AO];rw[AD _ _ (by omega),AC,hfl]
  | some k=>have:=(hB1.lt k rfl).1;simp only[AO];rw[AD _ _ (by omega),AD _ _ (by omega),AC,hfl]
 have hZB:∀k,oB=some k->Z k=some (.cells (B.map AA)):=λk e=>by
  subst e;rw[hZ];simp only[AO];rw[AC,hfl]
 have hGn:∀j,n+5<=j->G j=none:=λj hj=>Ac hGb hj
 have sub:∀(o:Option Nat) (l:List Int),(∀k,o=some k->Z k=some (.cells (l.map AA)))->∀j y,AO o (l.map AA) G j=some y->Z j=some y:=λo l ho j y e=>by
  cases o with
  | none=>exact hZk j y e
  | some k=>
   simp only[AO,hset]at e
   split at e
   . rename_i q;rw[q,ho k rfl,<-hfl];exact e
   . exact hZk j y e
 have fzA:Fz Z G 3 (.ptr p 0) (.iptr [.imm 1 (A.map AA) false]):=.inr ⟨hGn _ (by omega),_,hZp,by simp,⟨AN.fz' (λj hj=>hGn j (by omega)) hA1 (sub oA A hZA),trivial⟩⟩
 have fzB:Fz Z G 3 (.ptr (p+1) 0) (.iptr [.imm 1 (B.map AA) false]):=.inr ⟨hGn _ (by omega),_,hZq,by simp,⟨AN.fz' (λj hj=>hGn j (by omega)) hB1 (sub oB B hZB),trivial⟩⟩
 refine CB 0 [(4,X),(5,.iptr [AA rev]),(6,S),(7,V),(8,.ptr (n+4) 0)] G (λm=>n+5<=m/\¬(∃x∈A,x∈B)) ?_ (λm3 hm3=>?_)
 . refine BV 3 [(4,X),(5,.iptr [AA rev]),(6,S),(7,V),(8,.ptr (n+4) 0),(16,.iptr [.imm 1 (A.map AA) false]),(17,.iptr [.imm 1 (B.map AA) false]),(18,AA 0)] G (λm=>n+5<=m) ?_ (λm3 hm3=>?_)
   . simp[go_sem,Y0]
     exact⟨by omega,⟨fzA,fzB⟩,hZk⟩
   refine AR (BP 0 (α:=Nat) (λi=>[(4,X),(5,.iptr [AA rev]),(6,S),(7,V),(8,.ptr (n+4) 0),(16,.iptr [.imm 1 (A.map AA) false]),(17,.iptr [.imm 1 (B.map AA) false]),(18,AA i)]) (λ_=>G) (λi m=>i<=A.length/\n+5<=m/\∀x∈A.take i,x∉B) (λi=>A.length-i) 0 ⟨by omega,hm3,by simp⟩ ?_ AB ?_)
   . simp[go_sem,Aj,Y0]
   rintro i m4 ⟨hi,hm4,hf⟩
   by_cases hlt:i<A.length
   . have w1:=wS i (by omega)
     obtain⟨x,hx⟩:∃x,A[i]=x:=⟨_,rfl⟩
     refine By 0 [(4,X),(5,.iptr [AA rev]),(6,S),(7,V),(8,.ptr (n+4) 0),(16,.iptr [.imm 1 (A.map AA) false]),(17,.iptr [.imm 1 (B.map AA) false]),(18,AA i),(71,.bool true)] G m4 ?_ (λm hm=>?_)
     . simp[go_sem,Y0,hlt]
     subst hm
     refine AV 0 (α:=Unit) (λ_=>[(4,X),(5,.iptr [AA rev]),(6,S),(7,V),(8,.ptr (n+4) 0),(16,.iptr [.imm 1 (A.map AA) false]),(17,.iptr [.imm 1 (B.map AA) false]),(18,AA i)]) (λ_=>G) (λ_ m=>n+5<=m/\x∉B) (AR ?_) (λ_ m hm=>?_)
     . refine AV 0 (α:=Unit) (λ_=>[(4,X),(5,.iptr [AA rev]),(6,S),(7,V),(8,.ptr (n+4) 0),(16,.iptr [.imm 1 (A.map AA) false]),(17,.iptr [.imm 1 (B.map AA) false]),(18,AA i),(79,.bool (decide (x∈B)))]) (λ_=>G) (λ_ m=>n+5<=m) (B7 UE rfl (by kernel_rfl) (by kernel_rfl) ?_) (λ_ m hm=>?_)
       . simp[go_sem,UE,hlt,hx]
         refine(c52 B hB x).use ?_
         simp[go_sem,Y0,hm4]
       by_cases hxB:x∈B
       . refine Ag (b:=true) (by simp[go_sem,hxB]) (AI ?_)
         simp[go_sem,hGa,C2,AC]
         exact fin _ _ 24 keep (by rw[hE,if_pos ⟨x,by rw[<-hx];exact Yc hlt,hxB⟩]) (by decide)
       . refine Ag (b:=false) (by simp[go_sem,hxB]) (AI ?_)
         simp[go_sem,Y0,hm,hxB]
     . refine AI ?_
       simp[go_sem,w1,Y0,-Int.natCast_add]
       refine⟨i+1,by omega,⟨by omega,hm.1,?_⟩,Y0⟩
       intro y hy
       rw[Y2 hlt,hx]at hy
       rcases Y8.1 hy with h1|h1
       . exact hf y h1
       . rw[Yk.1 h1];exact hm.2
   . refine AI ?_
     have hl:¬(i:Int)<A.length:=by omega
     simp[go_sem,hlt,Y0]
     refine⟨hm4,λx hx=>?_⟩
     exact hf x (by rw[Yl (by omega)];exact hx)
 obtain⟨hm3,hAB⟩:=hm3
 have hE0:MQ c A B D to=0:=by rw[hE,if_neg hAB]
 refine BV 0 [(4,X),(5,.iptr [AA rev]),(6,S),(7,V),(8,.ptr (n+4) 0),(19,Aw T)] G (λm=>n+5<=m) ?_ (λm hm=>?_)
 . rw[hX,hV]
   simp[go_sem,AF.flat,AJ.flat]
   refine Yj (by simpa[BD.enc]using k45 hE0) ?_
   simp[go_sem,Y0]
   omega
 refine AI ?_
 rw[hX,hV,hS]
 simp[go_sem,AF.flat,AJ.flat]
 refine Ys (by simpa[AH.enc,Ah.enc,AF.flat,AJ.flat]using k53 hE0 G m) ?_
 rintro v H' n' ⟨rfl,rfl,rfl⟩
 simp[go_sem,hGa,C2,AH.enc,AF.flat,AJ.flat,AC]
 rw[TJ,hE0,if_pos rfl]
 exact Au ho (AK (λj z e=>by have:=hHb j z e;omega) hGk) (by simp[]) (HF n R 0)
def Fi:DF->Int×Int->Bool×Bool
 | [],_=>(false,false)
 | (k',v)::r,k=>if k'=k then v else Fi r k
theorem Jt (k k':Int×Int) (mid:Bool):∀S:DF,Fi (E9 S k mid) k'=if k=k' then Es (Fi S k) mid else Fi S k'
 | []=>rfl
 | (c,v)::r=>by
  have ih:=Jt k k' mid r
  by_cases e:c=k
  . subst e
    rw[E9,if_pos rfl,Fi,Fi,if_pos rfl,Fi]
    by_cases e2:c=k'<;>simp[e2]
  . rw[E9,if_neg e,Fi,ih,Fi,if_neg e,Fi]
    by_cases e2:c=k'
    . subst e2;rw[if_pos rfl,if_pos rfl,if_neg λg=>e g.symm]
    . rw[if_neg e2,if_neg e2]
theorem Ju {k:Int×Int} {mid:Bool} {e:(Int×Int)×(Bool×Bool)}:∀S:DF,e∈E9 S k mid->e∈S\/(e.1=k/\∃v,(v=(false,false)\/(k,v)∈S)/\e.2=Es v mid)
 | [],h=>by
  rw[E9,Yk]at h
  exact .inr ⟨by rw[h],_,.inl rfl,by rw[h]⟩
 | (c,v)::r,h=>by
  rw[E9]at h
  split at h
  . rename_i e1
    subst e1
    rcases Yg.1 h with h|h
    . exact .inr ⟨by rw[h],v,.inr (ZO ..),by rw[h]⟩
    . exact .inl (Yx _ h)
  . rcases Yg.1 h with h|h
    . exact .inl (h▸ZO ..)
    . rcases Ju r h with h|⟨h1,w,h2,h3⟩
      . exact .inl (Yx _ h)
      . exact .inr ⟨h1,w,h2.imp_right λg=>Yx _ g,h3⟩
theorem Mv {k:Int×Int}:∀S:DF,Fi S k≠(false,false)->(k,Fi S k)∈S
 | [],h=>absurd rfl h
 | (c,v)::r,h=>by
  rw[Fi]at h ⊢
  split at h
  . rename_i e;rw[if_pos e,e];exact ZO ..
  . rename_i e;rw[if_neg e];exact Yx _ (Mv r h)
def RG (rev:Int) (S:DF) (q:List Int×List Int):Prop:=
 (∀x v,((rev,x),v)∈S->(v.1=true->x∈q.1)/\(v.2=true->x∈q.2))/\∀x,(x∈q.1->(Fi S (rev,x)).1=true)/\(x∈q.2->(Fi S (rev,x)).2=true)
def IW (q:List Int×List Int) (mid:Bool) (l:List Int):List Int×List Int:=if mid then(q.1++l,q.2)else(q.1,q.2++l)
theorem RG.step {rev:Int} {S:DF} {q:List Int×List Int} (H:RG rev S q) (k:Int×Int) (mid:Bool):RG rev (E9 S k mid) (IW q mid (D6 rev [k])):=by
 obtain⟨r,y⟩:=k
 by_cases e:r=rev
 . subst e
   have hm:D6 r [(r,y)]=[y]:=by simp[D6]
   rw[hm]
   refine⟨λx v hv=>?_,λx=>?_⟩
   . rcases Ju S hv with h|⟨h1,w,h2,h3⟩
     . have:=H.1 x v h
       cases mid<;>simp only[IW,Y7,if_true,if_false,Y8]<;>exact⟨λg=>by simp[this.1 g],λg=>by simp[this.2 g]⟩
     . have hxy:x=y:=congrArg Prod.snd h1
       subst hxy
       dsimp only at h3
       have hw:(w.1=true->x∈q.1)/\(w.2=true->x∈q.2):=by
        rcases h2 with rfl|h2
        . exact⟨by simp,by simp⟩
        . exact H.1 x w h2
       rw[h3]
       cases mid
       . exact⟨λg=>hw.1 (by simpa[Es]using g),λ_=>by simp[IW]⟩
       . exact⟨λ_=>by simp[IW],λg=>hw.2 (by simpa[Es]using g)⟩
   . rw[Jt]
     by_cases e2:y=x
     . subst e2
       rw[if_pos rfl]
       have:=H.2 y
       cases mid
       . exact⟨λg=>by simp[Es,this.1 g],λ_=>by simp[Es]⟩
       . exact⟨λ_=>by simp[Es],λg=>by simp[Es,this.2 g]⟩
     . rw[if_neg (λg=>e2 (by cases g;rfl))]
       have:=H.2 x
       have ne:¬x=y:=λg=>e2 g.symm
       cases mid<;>simp[IW,ne]<;>exact this
 . have hm:D6 rev [(r,y)]=[]:=by simp[D6,e]
   have ha:IW q mid []=q:=by cases mid<;>simp[IW]
   rw[hm,ha]
   refine⟨λx v hv=>?_,λx=>?_⟩
   . rcases Ju S hv with h|⟨h1,_⟩
     . exact H.1 x v h
     . cases h1;exact absurd rfl e
   . rw[Jt,if_neg (λg=>e (by cases g;rfl))]
     exact H.2 x
theorem RG.all {rev:Int} (mid:Bool):∀(l:List (Int×Int)) {S:DF} {q:List Int×List Int},RG rev S q->RG rev (JN S l mid) (IW q mid (D6 rev l))
 | [],S,q,H=>by
  have ha:IW q mid (D6 rev [])=q:=by cases mid<;>simp[IW,D6]
  rw[ha];exact H
 | k :: l, S, q, H => by
  have h:=RG.all mid l (H.step k mid)
  have ha:IW (IW q mid (D6 rev [k])) mid (D6 rev l)=IW q mid (D6 rev (k::l)):=by
   have:D6 rev (k::l)=D6 rev [k]++D6 rev l:=KA rev [k] l
   rw[this]
   cases mid<;>simp[IW]
  rw[ha]at h
  exact h
theorem RG.bad {rev:Int} {S:DF} {A B:List Int} (H:RG rev S (A,B)):S.any (EN rev)=true↔∃x∈A,x∈B:=by
 rw[List.any_eq_true]
 constructor
 . rintro⟨⟨⟨r,x⟩,⟨v,w⟩⟩,he,hb⟩
   simp only[EN,Yb,beq_iff_eq]at hb
   obtain⟨rfl,rfl,rfl⟩:=hb
   have:=H.1 x _ he
   exact⟨x,this.1 rfl,this.2 rfl⟩
 . rintro⟨x,ha,hb⟩
   have h1:=(H.2 x).1 ha
   have h2:=(H.2 x).2 hb
   have e:Fi S (rev,x)=(true,true):=Prod.ext h1 h2
   have:=Mv S (k:=(rev,x)) (by rw[e];simp)
   rw[e]at this
   exact⟨_,this,by simp[EN]⟩
theorem MP {hp:AF->Prop} {K N:Nat} {d:AH} (hl:DM hp K N d.flow) (hd:GY N d) {rev:Int} {sc:Ah} (h:(CP N d rev sc).2.2=0):∀f∈DA 0 d.flow ED,f.id=sc.id->¬CS sc f.items:=λf hf e=>by
 have hids:((C0 d).map Fl.id).Nodup:=by
  have s1:=NR ED hl
  have:((C0 d).map Fl.id).Sublist (0::ES N d.flow):=s1.cons_cons _
  refine this.nodup (YH.2 ⟨λh=>?_,hd.nodup⟩)
  have:=(hd.ids _ h).1
  omega
 unfold CP at h
 split at h
 . cases h
 rename_i g1
 split at h
 . cases h
 rename_i g2
 cases hfd:CG d sc.id with
 | none=>rw[hfd]at g1;simp at g1
 | some g=>
  rw[hfd]at g2
  simp only[YN,ZK]at g2
  have hm:=X9 hfd
  have hi:=List.find?_some hfd
  have:f=g:=Jo hids f hf g hm (by rw[e];exact(by simpa using hi:g.id=sc.id).symm)
  rw[this];exact g2
theorem Qd {hp:AF->Prop} {K N:Nat} {d:AH} (hl:DM hp K N d.flow) (hd:GY N d) {rev:Int} {sc:Ah} (h:(CP N d rev sc).2.2=0):
 RG rev (Bi (CD UC) sc N d d.revs []).2 (Db (P9 rev) sc N d ([],[])).2:=by
 have e:=stB UC sc N 0 d.flow ED [] hd.flow (λh=>by have:=(hd.ids _ h).1;omega) hd.nodup (λi hi=>(hd.ids i hi).1) (MP hl hd h)
 have r:=Mj (RG rev) UC (λs x=>IW s x.mid (D6 rev x.head.moves)) (λs t p g=>g.all p.mid p.head.moves) N 0 d.flow sc false [] ([],[]) ⟨λx v h=>by simp at h,λx=>⟨λh=>by simp at h,λh=>by simp at h⟩⟩
 rw[<-e]at r
 exact r.all false d.«end».moves
theorem TH {m2:List Int} {K N:Nat} {d:AH} (hm2:m2=BZ [] (d.revs.map (·.id))) (hd:GY N d) (hl:DM (Ix m2) K N d.flow) {rev:Int} {sc:Ah} {nx:BD} (h:(CP N d rev sc).2.2=0) (h0:rev≠0) (h1:CY nx=0) (h2:(Bv d.revs nx.id).2=false):
 (Gt (JD rev nx.id) sc N d (FJ d.revs (HX d nx) nx) ()).1=Gg N d rev sc nx:=by
 have hn:nx.id∉m2:=λg=>by rw[Pl ((Up hm2).1 g)]at h2;cases h2
 have hn0:nx.id≠0:=by have:=SY h1;omega
 have e:=LT (g':=λmid h=>if mid then Hn rev nx.id h else h) (g:=gR rev nx.id) (hp0:=Ix m2) (m2:=m2) (λmid x hx=>by
  cases mid
  . rfl
  . exact TS (SU (.inr hn) hn0 hx.2) h0) sc N 0 d.flow ED (hm2▸hd.flow) hl (λh=>by have:=(hd.ids _ h).1;omega) hd.nodup (λi hi=>(hd.ids i hi).1) (MP hl hd h)
 unfold Gg Bi
 rw[Ot,<-e]
 rfl
theorem Rj {d:AH} {rev:Int} {nx:BD} {c:Int×Int×Int} {S:DF} {A B:List Int} (h:c.2.2=0->RG rev S (A,B)) (R:AH):EW d rev nx c S R=(TJ (MQ c A B d nx) R,MQ c A B d nx):=by
 have hz:∀e:Int,e≠0->TJ e R=zD:=λe he=>by rw[TJ,if_neg he]
 unfold EW MQ
 split
 . rename_i h1;rw[hz _ h1]
 rename_i h1
 split
 . rename_i h2;rw[hz _ h2]
 split
 . rfl
 split
 . rfl
 split
 . rfl
 have hb:=(h (by simpa using h1)).bad
 by_cases e:∃x∈A,x∈B
 . rw[if_pos e,if_pos (hb.2 e)];rfl
 . rw[if_neg e,if_neg λg=>e (hb.1 g)];rfl
theorem fo42:(Bd Tryz.prog 42).map (λf=>(f.name == "_",f.type,f.offset))=[(false,3,0),(false,9,1),(false,3,2)]:=by kernel_rfl
theorem eq42s (x:BD):B9 Tryz.prog [AA x.id,.str x.author,AA x.time] [AA x.id,.str x.author,AA x.time] (Bd Tryz.prog 42)=some true:=by
 rw[CO,fo42]
 cases x;simp[Cu,DG,go_sem]
theorem fo115:(Bd Tryz.prog 115).map (λf=>(f.name == "_",f.type,f.offset))=[(false,3,0),(false,3,1),(false,9,2),(false,3,3),(false,9,4),(false,4,5)]:=by kernel_rfl
theorem UZ (x:As):B9 Tryz.prog [AA x.id,AA x.parent,.str x.author,AA x.time,.str x.text,.bool x.done] [AA x.id,AA x.parent,.str x.author,AA x.time,.str x.text,.bool x.done] (Bd Tryz.prog 115)=some true:=by
 rw[CO,fo115]
 cases x;simp[Cu,DG,go_sem]
theorem fo118:(Bd Tryz.prog 118).map (λf=>(f.name == "_",f.type,f.offset))=[(false,9,0),(false,9,1)]:=by kernel_rfl
theorem Ua (x:Fa):B9 Tryz.prog [.str x.name,.str x.value] [.str x.name,.str x.value] (Bd Tryz.prog 118)=some true:=by
 rw[CO,fo118]
 cases x;simp[Cu,DG,go_sem]
theorem fo106:(Bd Tryz.prog 106).map (λf=>(f.name == "_",f.type,f.offset))=[(false,3,0),(false,3,1),(false,9,2),(false,3,3)]:=by kernel_rfl
theorem UY (x:CV):B9 Tryz.prog [AA x.format,AA x.start,.str x.template,AA x.restart] [AA x.format,AA x.start,.str x.template,AA x.restart] (Bd Tryz.prog 106)=some true:=by
 rw[CO,fo106]
 cases x;simp[Cu,DG,go_sem]
theorem q59 (l:List BD) (hl:l.length<=1048576):PC 59 [.imm 3 (l.map BD.enc) false,.imm 3 (l.map BD.enc) false] (.bool true):=by
 intro h n
 refine gq Tryz.func59 rfl λho=>?_
 simp[go_sem]
 refine Am 1 (α:=Nat) (λk=>[(0,.imm 3 (l.map BD.enc) false),(1,.imm 3 (l.map BD.enc) false),(12,AA l.length),(13,AA k)]) (λ_=>h) (λk m=>k<=l.length/\n<=m) (λk=>l.length-k) 0 ?_ ?_ AB ?_
 . simp
 . simp[Aj]
 rintro k m ⟨hk,hnm⟩
 by_cases hlt:k<l.length
 . have w1:=wS k (by omega)
   obtain⟨x,hx⟩:∃x,l[k]=x:=⟨_,rfl⟩
   simp[go_sem,hlt,hx,BD.enc]
   repeat first|refine nq ?_|refine sq ?_|refine aq ?_
   refine⟨_,DY rfl (.inr rfl) (by kernel_rfl) (by kernel_rfl) (by kernel_rfl) rfl rfl (eq42s x),?_⟩
   simp[go_sem]
   repeat first|refine nq ?_|refine sq ?_|refine aq ?_
   simp[go_sem,w1,-Int.natCast_add]
   exact⟨k+1,by omega,⟨by omega,hnm⟩,Y0⟩
 . simp[go_sem,hlt]
   exact A3 ho rfl rfl
theorem q62 (l:List As) (hl:l.length<=1048576):PC 62 [.imm 6 (l.map As.enc) false,.imm 6 (l.map As.enc) false] (.bool true):=by
 intro h n
 refine gq Tryz.func62 rfl λho=>?_
 simp[go_sem]
 refine Am 1 (α:=Nat) (λk=>[(0,.imm 6 (l.map As.enc) false),(1,.imm 6 (l.map As.enc) false),(12,AA l.length),(13,AA k)]) (λ_=>h) (λk m=>k<=l.length/\n<=m) (λk=>l.length-k) 0 ?_ ?_ AB ?_
 . simp
 . simp[Aj]
 rintro k m ⟨hk,hnm⟩
 by_cases hlt:k<l.length
 . have w1:=wS k (by omega)
   obtain⟨x,hx⟩:∃x,l[k]=x:=⟨_,rfl⟩
   simp[go_sem,hlt,hx,As.enc]
   repeat first|refine nq ?_|refine sq ?_|refine aq ?_
   refine⟨_,DY rfl (.inr rfl) (by kernel_rfl) (by kernel_rfl) (by kernel_rfl) rfl rfl (UZ x),?_⟩
   simp[go_sem]
   repeat first|refine nq ?_|refine sq ?_|refine aq ?_
   simp[go_sem,w1,-Int.natCast_add]
   exact⟨k+1,by omega,⟨by omega,hnm⟩,Y0⟩
 . simp[go_sem,hlt]
   exact A3 ho rfl rfl
theorem q63 (l:List Fa) (hl:l.length<=1048576):PC 63 [.imm 2 (l.map Fa.enc) false,.imm 2 (l.map Fa.enc) false] (.bool true):=by
 intro h n
 refine gq Tryz.func63 rfl λho=>?_
 simp[go_sem]
 refine Am 1 (α:=Nat) (λk=>[(0,.imm 2 (l.map Fa.enc) false),(1,.imm 2 (l.map Fa.enc) false),(12,AA l.length),(13,AA k)]) (λ_=>h) (λk m=>k<=l.length/\n<=m) (λk=>l.length-k) 0 ?_ ?_ AB ?_
 . simp
 . simp[Aj]
 rintro k m ⟨hk,hnm⟩
 by_cases hlt:k<l.length
 . have w1:=wS k (by omega)
   obtain⟨x,hx⟩:∃x,l[k]=x:=⟨_,rfl⟩
   simp[go_sem,hlt,hx,Fa.enc]
   repeat first|refine nq ?_|refine sq ?_|refine aq ?_
   refine⟨_,DY rfl (.inr rfl) (by kernel_rfl) (by kernel_rfl) (by kernel_rfl) rfl rfl (Ua x),?_⟩
   simp[go_sem]
   repeat first|refine nq ?_|refine sq ?_|refine aq ?_
   simp[go_sem,w1,-Int.natCast_add]
   exact⟨k+1,by omega,⟨by omega,hnm⟩,Y0⟩
 . simp[go_sem,hlt]
   exact A3 ho rfl rfl
theorem q56 (l:List CV) (hl:l.length<=1048576):PC 56 [.imm 4 (l.map CV.enc) false,.imm 4 (l.map CV.enc) false] (.bool true):=by
 intro h n
 refine gq Tryz.func56 rfl λho=>?_
 simp[go_sem]
 refine Am 1 (α:=Nat) (λk=>[(0,.imm 4 (l.map CV.enc) false),(1,.imm 4 (l.map CV.enc) false),(12,AA l.length),(13,AA k)]) (λ_=>h) (λk m=>k<=l.length/\n<=m) (λk=>l.length-k) 0 ?_ ?_ AB ?_
 . simp
 . simp[Aj]
 rintro k m ⟨hk,hnm⟩
 by_cases hlt:k<l.length
 . have w1:=wS k (by omega)
   obtain⟨x,hx⟩:∃x,l[k]=x:=⟨_,rfl⟩
   simp[go_sem,hlt,hx,CV.enc]
   repeat first|refine nq ?_|refine sq ?_|refine aq ?_
   refine⟨_,DY rfl (.inr rfl) (by kernel_rfl) (by kernel_rfl) (by kernel_rfl) rfl rfl (UY x),?_⟩
   simp[go_sem]
   repeat first|refine nq ?_|refine sq ?_|refine aq ?_
   simp[go_sem,w1,-Int.natCast_add]
   exact⟨k+1,by omega,⟨by omega,hnm⟩,Y0⟩
 . simp[go_sem,hlt]
   exact A3 ho rfl rfl
theorem q61 (l:List FQ) (hl:l.length<=1048576) (g:FuncId) (hg:∀x∈l,PC g [x.enc,x.enc] (.bool true)):PC 61 [.imm 2 (l.map FQ.enc) false,.imm 2 (l.map FQ.enc) false,.fn (.func g) [] []] (.bool true):=by
 intro h n
 refine gq Tryz.func61 rfl λho=>?_
 simp[go_sem]
 refine Am 1 (α:=Nat) (λk=>[(1,.imm 2 (l.map FQ.enc) false),(2,.fn (.func g) [] []),(15,.imm 2 (l.map FQ.enc) false),(16,AA l.length),(17,AA k)]) (λ_=>h) (λk m=>k<=l.length/\n<=m) (λk=>l.length-k) 0 ?_ ?_ AB ?_
 . simp
 . simp[Aj]
 rintro k m ⟨hk,hnm⟩
 by_cases hlt:k<l.length
 . have w1:=wS k (by omega)
   obtain⟨x,hx⟩:∃x,l[k]=x:=⟨_,rfl⟩
   have H:=hg x (by rw[<-hx];exact Yc hlt)
   rw[FQ.enc]at H
   simp[go_sem,hlt,hx,FQ.enc,AC,AD]
   refine Yj H ?_
   simp[go_sem,w1,-Int.natCast_add]
   exact⟨k+1,by omega,⟨by omega,by omega⟩,Y0,by repeat(first|exact AB|refine AP ho (by omega) ?_)⟩
 . simp[go_sem,hlt]
   exact A3 ho rfl rfl
theorem q128 (l:List Az) (hl:l.length<=1048576) (g:FuncId) (hg:∀x∈l,PC g [x.enc,x.enc] (.bool true)):PC 128 [.imm 6 (l.map Az.enc) false,.imm 6 (l.map Az.enc) false,.fn (.func g) [] []] (.bool true):=by
 intro h n
 refine gq Tryz.func128 rfl λho=>?_
 simp[go_sem]
 refine Am 1 (α:=Nat) (λk=>[(1,.imm 6 (l.map Az.enc) false),(2,.fn (.func g) [] []),(15,.imm 6 (l.map Az.enc) false),(16,AA l.length),(17,AA k)]) (λ_=>h) (λk m=>k<=l.length/\n<=m) (λk=>l.length-k) 0 ?_ ?_ AB ?_
 . simp
 . simp[Aj]
 rintro k m ⟨hk,hnm⟩
 by_cases hlt:k<l.length
 . have w1:=wS k (by omega)
   obtain⟨x,hx⟩:∃x,l[k]=x:=⟨_,rfl⟩
   have H:=hg x (by rw[<-hx];exact Yc hlt)
   rw[Az.enc]at H
   simp[go_sem,hlt,hx,Az.enc,AC,AD]
   refine Yj H ?_
   simp[go_sem,w1,-Int.natCast_add]
   exact⟨k+1,by omega,⟨by omega,by omega⟩,Y0,by repeat(first|exact AB|refine AP ho (by omega) ?_)⟩
 . simp[go_sem,hlt]
   exact A3 ho rfl rfl
theorem q123 (l:List AE) (hl:l.length<=1048576) (g:FuncId) (hg:∀x∈l,PC g [x.enc,x.enc] (.bool true)):PC 123 [.imm 11 (l.map AE.enc) false,.imm 11 (l.map AE.enc) false,.fn (.func g) [] []] (.bool true):=by
 intro h n
 refine gq Tryz.func123 rfl λho=>?_
 simp[go_sem]
 refine Am 1 (α:=Nat) (λk=>[(1,.imm 11 (l.map AE.enc) false),(2,.fn (.func g) [] []),(15,.imm 11 (l.map AE.enc) false),(16,AA l.length),(17,AA k)]) (λ_=>h) (λk m=>k<=l.length/\n<=m) (λk=>l.length-k) 0 ?_ ?_ AB ?_
 . simp
 . simp[Aj]
 rintro k m ⟨hk,hnm⟩
 by_cases hlt:k<l.length
 . have w1:=wS k (by omega)
   obtain⟨x,hx⟩:∃x,l[k]=x:=⟨_,rfl⟩
   have H:=hg x (by rw[<-hx];exact Yc hlt)
   rw[Yh]at H
   simp[go_sem,hlt,hx,Yh,AC,AD]
   refine Yj H ?_
   simp[go_sem,w1,-Int.natCast_add]
   exact⟨k+1,by omega,⟨by omega,by omega⟩,Y0,by repeat(first|exact AB|refine AP ho (by omega) ?_)⟩
 . simp[go_sem,hlt]
   exact A3 ho rfl rfl
theorem q191 (l:List AW) (hl:l.length<=1048576) (g:FuncId) (hg:∀x∈l,PC g [x.enc,x.enc] (.bool true)):PC 191 [.imm 6 (l.map AW.enc) false,.imm 6 (l.map AW.enc) false,.fn (.func g) [] []] (.bool true):=by
 intro h n
 refine gq Tryz.func191 rfl λho=>?_
 simp[go_sem]
 refine Am 1 (α:=Nat) (λk=>[(1,.imm 6 (l.map AW.enc) false),(2,.fn (.func g) [] []),(15,.imm 6 (l.map AW.enc) false),(16,AA l.length),(17,AA k)]) (λ_=>h) (λk m=>k<=l.length/\n<=m) (λk=>l.length-k) 0 ?_ ?_ AB ?_
 . simp
 . simp[Aj]
 rintro k m ⟨hk,hnm⟩
 by_cases hlt:k<l.length
 . have w1:=wS k (by omega)
   obtain⟨x,hx⟩:∃x,l[k]=x:=⟨_,rfl⟩
   have H:=hg x (by rw[<-hx];exact Yc hlt)
   rw[YB]at H
   simp[go_sem,hlt,hx,YB,AC,AD]
   refine Yj H ?_
   simp[go_sem,w1,-Int.natCast_add]
   exact⟨k+1,by omega,⟨by omega,by omega⟩,Y0,by repeat(first|exact AB|refine AP ho (by omega) ?_)⟩
 . simp[go_sem,hlt]
   exact A3 ho rfl rfl
theorem q258 (l:List AL) (hl:l.length<=1048576) (g:FuncId) (hg:∀x∈l,PC g [x.enc,x.enc] (.bool true)):PC 258 [.imm 7 (l.map AL.enc) false,.imm 7 (l.map AL.enc) false,.fn (.func g) [] []] (.bool true):=by
 intro h n
 refine gq Tryz.func258 rfl λho=>?_
 simp[go_sem]
 refine Am 1 (α:=Nat) (λk=>[(1,.imm 7 (l.map AL.enc) false),(2,.fn (.func g) [] []),(15,.imm 7 (l.map AL.enc) false),(16,AA l.length),(17,AA k)]) (λ_=>h) (λk m=>k<=l.length/\n<=m) (λk=>l.length-k) 0 ?_ ?_ AB ?_
 . simp
 . simp[Aj]
 rintro k m ⟨hk,hnm⟩
 by_cases hlt:k<l.length
 . have w1:=wS k (by omega)
   obtain⟨x,hx⟩:∃x,l[k]=x:=⟨_,rfl⟩
   have H:=hg x (by rw[<-hx];exact Yc hlt)
   rw[Z9]at H
   simp[go_sem,hlt,hx,Z9,AC,AD]
   refine Yj H ?_
   simp[go_sem,w1,-Int.natCast_add]
   exact⟨k+1,by omega,⟨by omega,by omega⟩,Y0,by repeat(first|exact AB|refine AP ho (by omega) ?_)⟩
 . simp[go_sem,hlt]
   exact A3 ho rfl rfl
def AH.flat (d:AH):List SV:=[AG d.flow]++d.«end».flat++[Aw d.revs]++d.settings.flat
theorem q58 (x:AF) (hx:x.sized):PC 58 [x.enc,x.enc] (.bool true):=by simpa using c58 x x hx hx
theorem q125 (l:List E8) (hl:l.length<=1048576):PC 125 [Af l,Af l] (.bool true):=by simpa using c125 l l hl hl
theorem q130 (l:List E8) (hl:l.length<=1048576):PC 130 [Af l,Af l] (.bool true):=by
 intro h n
 refine gq Tryz.func130 rfl λho=>?_
 simp[go_sem]
 refine(q125 l hl).use ?_
 simp[go_sem]
 exact A3 ho rfl rfl
theorem q55 (x:FQ) (hx:x.levels.length<=1048576):PC 55 [x.enc,x.enc] (.bool true):=by
 intro h n
 refine gq Tryz.func55 rfl λho=>?_
 have hh:∀y z,∀o x,h o=some x->hset (hset h n y) (n+1) z o=some x:=λy z=>by repeat(first|exact AB|refine AP ho (by omega) ?_)
 simp[go_sem,FQ.enc,AC,AD]
 refine(q56 _ hx).use ?_
 simp[go_sem]
 exact Au ho (hh _ _) rfl rfl
theorem q129 (x:Az) (hx:x.props.length<=1048576):PC 129 [x.enc,x.enc] (.bool true):=by
 intro h n
 refine gq Tryz.func129 rfl λho=>?_
 have hh:∀y z,∀o x,h o=some x->hset (hset h n y) (n+1) z o=some x:=λy z=>by repeat(first|exact AB|refine AP ho (by omega) ?_)
 simp[go_sem,Az.enc,AC,AD]
 refine(q130 _ hx).use ?_
 simp[go_sem]
 exact Au ho (hh _ _) rfl rfl
theorem q60 (l:List Az) (hl:l.length<=1048576) (hp:∀x∈l,x.props.length<=1048576):PC 60 [Ad l,Ad l] (.bool true):=by
 intro h n
 refine gq Tryz.func60 rfl λho=>?_
 simp[go_sem]
 refine(q128 l hl 129 λx hx=>q129 x (hp x hx)).use ?_
 simp[go_sem]
 exact A3 ho rfl rfl
theorem q259 (x:AL) (hx:x.head.sized) (hf:PC 57 [AG x.flow,AG x.flow] (.bool true)):PC 259 [x.enc,x.enc] (.bool true):=by
 intro h n
 refine gq Tryz.func259 rfl λho=>?_
 have hh:∀y z,∀o x,h o=some x->hset (hset h n y) (n+1) z o=some x:=λy z=>by repeat(first|exact AB|refine AP ho (by omega) ?_)
 have e:=q58 _ hx
 rw[AF.enc,AF.flat]at e
 simp[go_sem,Z9,AC,AD]
 refine e.use ?_
 simp[go_sem,AC,AD]
 refine hf.use ?_
 simp[go_sem]
 exact Au ho (hh _ _) rfl rfl
theorem q192 (x:AW) (hx:x.head.sized) (hl:x.cells.length<=1048576) (hf:∀c∈x.cells,PC 259 [c.enc,c.enc] (.bool true)):PC 192 [x.enc,x.enc] (.bool true):=by
 intro h n
 refine gq Tryz.func192 rfl λho=>?_
 have hh:∀y z,∀o x,h o=some x->hset (hset h n y) (n+1) z o=some x:=λy z=>by repeat(first|exact AB|refine AP ho (by omega) ?_)
 have e:=q58 _ hx
 rw[AF.enc,AF.flat]at e
 simp[go_sem,YB,AC,AD]
 refine e.use ?_
 simp[go_sem,AC,AD]
 refine(q258 _ hl 259 hf).use ?_
 simp[go_sem]
 exact Au ho (hh _ _) rfl rfl
theorem q124 (x:AE) (hx:x.head.sized) (hf:PC 57 [AG x.flow,AG x.flow] (.bool true)) (hl:x.rows.length<=1048576) (hr:∀r∈x.rows,PC 192 [r.enc,r.enc] (.bool true)):PC 124 [x.enc,x.enc] (.bool true):=by
 intro h n
 refine gq Tryz.func124 rfl λho=>?_
 have hh:∀y z,∀o x,h o=some x->hset (hset h n y) (n+1) z o=some x:=λy z=>by repeat(first|exact AB|refine AP ho (by omega) ?_)
 have e:=q58 _ hx
 rw[AF.enc,AF.flat]at e
 simp[go_sem,Yh,AC,AD]
 refine e.use ?_
 simp[go_sem,AC,AD]
 refine hf.use ?_
 simp[go_sem,AC,AD]
 refine(q191 _ hl 192 hr).use ?_
 simp[go_sem]
 exact Au ho (hh _ _) rfl rfl
theorem q57 {hp:AF->Prop} (hh:∀x,hp x->x.sized) {K:Nat} (hK:K<=1048576):∀(N:Nat) (l:List AE),DM hp K N l->PC 57 [AG l,AG l] (.bool true)
 | 0,_,H=>H.elim
 | N + 1, l, H => by
  obtain⟨h1,h2,h3⟩:=Cf.1 H
  have hi:∀x∈l,PC 124 [x.enc,x.enc] (.bool true):=λx hx=>by
   obtain⟨a,b,c,d⟩:=h3 x hx
   exact q124 x (hh _ a) (q57 hh hK N _ b) (by omega) λr hr=>q192 r (hh _ (d r hr).1) (by have:=(d r hr).2.1;omega) λe he=>q259 e (hh _ ((d r hr).2.2 e he).1) (q57 hh hK N _ ((d r hr).2.2 e he).2)
  intro h n
  refine gq Tryz.func57 rfl λho=>?_
  simp[go_sem]
  refine(q123 l (by omega) 124 hi).use ?_
  simp[go_sem]
  exact A3 ho rfl rfl
theorem q61' (l:List FQ) (hl:l.length<=1048576) (hp:∀x∈l,x.levels.length<=1048576):PC 61 [DW l,DW l,.fn (.func 55) [] []] (.bool true):=q61 l hl 55 λx hx=>q55 x (hp x hx)
def UD:Tr:=.pure 0<|.pure 1<|.pure 2<|.pure 3<|.two 4 5 (.one 5 (.one 6 (.one 7 .nil))) (.one 4 (.one 6 (.one 7 .nil)))
theorem q17 {hp:AF->Prop} (hh:∀x,hp x->x.sized) {K:Nat} (hK:K<=1048576) (N:Nat) (d:AH) (hl:DM hp K N d.flow) (he:d.«end».sized) (hr:d.revs.length<=1048576) (hs:d.settings.sized):PC 17 [d.enc,d.enc] (.bool true):=by
 intro h n
 refine Dg Tryz.func17 rfl λho=>?_
 have hHb:=ho.lt
 obtain⟨X,hX⟩:∃X:SV,X=.iptr ([AG d.flow]++d.«end».flat++[Aw d.revs]++d.settings.flat):=⟨_,rfl⟩
 refine Ab 1 [(2,X),(3,X)] h n ?_ (λm hm=>?_)
 . rw[hX]
   simp[go_sem,AH.enc,AF.flat,AJ.flat]
   exact⟨by omega,⟨AT (ho.none (by omega)) (by simp[hset]),AT (ho.none (by omega)) (by simp[hset])⟩,λj y e=>by have:=hHb j y e;simp only[hset];grind⟩
 have hHm:∀j y,h j=some y->j<m:=λj y e=>by have:=hHb j y e;omega
 refine AV 1 (α:=Unit) (λ_=>[(2,X),(3,X),(5,.iptr d.settings.flat),(6,.iptr d.settings.flat)]) (λ_=>h) (λ_ m=>n<=m) (B7 UD rfl (by kernel_rfl) (by kernel_rfl) ?_) (λ_ m hm=>?_)
 . rw[hX]
   simp[go_sem,UD,AF.flat,AJ.flat,AC,AD]
   have k0:∀q,m<=q->h q=none:=λq hq=>by cases e:h q with|none=>rfl|some y=>(have:=hHm q y e;omega)
   refine⟨⟨by omega,⟨AT (k0 _ (by omega)) (by simp[hset]),AT (k0 _ (by omega)) (by simp[hset])⟩,λj y e=>?_⟩,by omega,⟨AT (k0 _ (by omega)) (by simp[hset]),AT (k0 _ (by omega)) (by simp[hset])⟩,λj y e=>?_⟩ <;>
   . have:=hHm j y e
     simp only[hset];grind
 have e:=q58 _ he
 rw[AF.enc,AF.flat]at e
 refine AI ?_
 rw[hX]
 simp[go_sem,AF.flat,AJ.flat]
 refine(q57 hh hK N _ hl).use ?_
 simp[go_sem]
 refine e.use ?_
 simp[go_sem]
 refine(q59 _ hr).use ?_
 simp[go_sem]
 refine(q60 _ hs.styles hs.props).use ?_
 simp[go_sem]
 refine(q61' _ hs.lists hs.levels).use ?_
 simp[go_sem]
 refine(q62 _ hs.comments).use ?_
 simp[go_sem]
 refine(q63 _ hs.vars).use ?_
 simp[go_sem]
 exact A3 ho rfl rfl
theorem TK {m2:List Int} {x:Int} {h:AF} (H:Ix (x::x::m2) h):Ix (x::m2) h:=by
 obtain⟨a,b⟩:=H
 have e:∀i,i∈x::x::m2->i∈x::m2:=λi hi=>by
  rcases Yg.1 hi with g|g
  . rw[g];exact ZO ..
  . exact g
 exact⟨a,⟨b.ins.imp_right (e _),b.dlen,λd hd=>e _ (b.dels d hd),b.llen,λd hd=>e _ (b.layers d hd)⟩⟩
theorem Uq {m2:List Int} {h:AF} (H:Ix m2 h) (rev:Int):(D6 rev h.moves).length<=17:=by
 refine Yo (Om _ _) ?_
 have a:=H.2.dlen
 have b:=IB h.dels
 unfold AF.moves AF.mv0
 rw[Ym]
 split<;>simp<;>omega
set_option maxHeartbeats 1000000 in
theorem TI {B N:Nat} (_hB:B<=1048576) {d:AH} (hl:DM AF.sized B N d.flow) (he:d.«end».sized) (hs:d.settings.sized) (hd:GY N d) (hf:Lz N d.flow) (ht:Lv N d.flow<=150) (rev:Int) (sc:Ah) (nx:BD):
 ∃(R:AH) (e:Int),PC 15 [d.enc,AA rev,sc.enc,nx.enc] (.tup [R.enc,AA e])/\PC 16 [d.enc,AA rev,sc.enc,nx.enc] (.tup [R.enc,AA e])/\PC 17 [R.enc,R.enc] (.bool true):=by
 obtain⟨m2,hm2⟩:∃m2,m2=BZ [] (d.revs.map (·.id)):=⟨_,rfl⟩
 have hrl:=KF hd.revs
 have hm:m2.length<=998:=by
  have:=N4 (d.revs.map (·.id)) []
  rw[hm2];simp at this;omega
 have h1:DM (Ix m2) 150000 N d.flow:=NQ hl hf (hm2▸hd.flow)
 have h2:Ix m2 d.«end»:=⟨he,hm2▸hd.end.toQE⟩
 have hsz:=h1.sized (λx g=>g.1) (by omega)
 have hfl:∀fl,CG d sc.id=some fl->fl.items.length<=1048576/\∀x∈fl.items,x.text.size<=1048576:=λfl e=>by
  have o:=Ig hsz.1 hsz.2 fl (X9 e)
  exact⟨o.1,ZJ o.2⟩
 have hrs:d.revs.length<=1048576:=by omega
 have w1:=Hi (W:=(Bi (CD (GF rev)) sc N d d.revs (0,0)).1) (m2:=m2) (K:=450000) (by omega) (by omega) (GJ (λs p g=>g) N 0 d.flow false (0,0) h1).1 h2 hrs hs
 have k13:=c13 (Ix m2) 150000 (by omega) (λh g=>⟨⟨g.1,Ry g⟩,g.1⟩) N d rev sc h1 h2 hrs hfl w1.1 w1.2.1 w1.2.2
 have w2:=Hi (W:=(Bi (CD UC) sc N d d.revs []).1) (m2:=m2) (K:=450000) (by omega) (by omega) (GJ (λs p g=>g) N 0 d.flow false [] h1).1 h2 hrs hs
 have w3:=Hi (W:=(Db (He rev) sc N d (0,0)).1) (m2:=m2) (K:=450000) (by omega) (by omega) (IH (λs p _=>QF m2) N 0 d.flow sc false (0,0) h1) (QF m2) (by simp[Db,Gt]) hs
 have k14:=c14n (Ix m2) 150000 (by omega) (λh g=>g.1) N d rev sc h1 h2 hrs hfl w3.1 w3.2.1 w3.2.2
 rw[<-Qa hl hd rev sc]at k14
 have w4:=Hi (W:=(Db (P9 rev) sc N d ([],[])).1) (m2:=m2) (K:=450000) (by omega) (by omega) (IH (λs p _=>QF m2) N 0 d.flow sc false ([],[]) h1) (QF m2) (by simp[Db,Gt]) hs
 have W:=SL hm2 hd h1
 have hg:∀(s:List Int×List Int) (p:BY),hpR m2 p.head->(λs:List Int×List Int=>s.1.length+s.2.length) (P9 rev s p).2.2<=(λs:List Int×List Int=>s.1.length+s.2.length) s+17:=λs p g=>by
  have:=Uq g.1 rev
  simp only[P9];split<;>simp only[Ym]<;>omega
 have hrk:=Oh (rk:=λs:List Int×List Int=>s.1.length+s.2.length) hg (λi h=>h) sc N 0 d.flow false ([],[]) W
 have hw:=So W
 have hrk2:=hg (Aq (P9 rev) N 0 d.flow sc false ([],[])).2 ⟨d.«end»,false,1⟩ ⟨h2,hm2▸hd.end⟩
 obtain⟨q,hq⟩:∃q,q=(Db (P9 rev) sc N d ([],[])).2:=⟨_,rfl⟩
 have htop:q.1.length+q.2.length<=20000:=by
  rw[hq]
  refine Yo hrk2 ?_
  have:3*17*wN N d.flow<=3*17*300:=Nat.mul_le_mul_left _ (by omega)
  simp only[Zh]at hrk
  dsimp only at hrk ⊢
  omega
 obtain⟨c,hc⟩:∃c,c=CP N d rev sc:=⟨_,rfl⟩
 rw[<-hc]at k13 k14
 have hsame:=Rj (d:=d) (rev:=rev) (nx:=nx) (c:=c) (S:=(Bi (CD UC) sc N d d.revs []).2) (A:=q.1) (B:=q.2) (λg=>by rw[hc]at g;rw[hq];exact Qd hl hd g) (Gg N d rev sc nx).normal
 have h1':DM (Ix (nx.id::m2)) 150000 N d.flow:=h1.mono (λx g=>OT g) (Y1 _)
 have lW:DM (Ix (nx.id::m2)) 450000 N (Gg N d rev sc nx).flow:=by
  unfold Gg Bi
  rw[Ot]
  refine(GJ (λs p g=>?_) N 0 d.flow false () h1').1
  show Ix _ (gR rev nx.id p.mid p.head)
  unfold gR
  split
  . exact TK (U2 g)
  . exact g
 have eW:Ix (nx.id::m2) (Gg N d rev sc nx).«end»:=OT h2
 have rW:(Gg N d rev sc nx).revs.length<=1048576:=by
  show(FJ d.revs (HX d nx) nx).length<=_
  unfold FJ
  simp;omega
 have w5:=Hi (W:=Gg N d rev sc nx) (m2:=nx.id::m2) (K:=450000) (by simp;omega) (by omega) lW eW rW hs
 have hne:c.2.2=0->d.revs≠[]:=λe g=>by
  have:(Bv d.revs rev).2=false:=by rw[g];rfl
  rw[hc]at e
  unfold CP at e
  split at e
  . cases e
  . split at e
    . cases e
    . first|cases e|(rw[if_pos this]at e;cases e)
 have h0:c.2.2=0->rev≠0:=λe g=>by
  rw[hc]at e
  unfold CP at e
  split at e
  . cases e
  split at e
  . cases e
  split at e
  . cases e
  . rename_i u
    obtain⟨r,hr,e2⟩:=Mt (by simpa using u)
    have:=KE hd.revs r hr
    omega
 have k15:=c15g d rev sc nx c (Bi (CD UC) sc N d d.revs []).2 (Gg N d rev sc nx).normal k13 hrs (λk H n hn hh=>d36 (v43g k) (Ix m2) 150000 (by omega) (λh g=>⟨g.1,g.1⟩) N d [] h1 h2 w2.1 w2.2.1 w2.2.2 hn hh) (LU hd.revs) hne (λH n=>by
  have:=d49 (sc:=sc) (v46g 0 nx rev) (Ix m2) 150000 (by omega) (λh g=>⟨⟨g.1,by have:=g.2.dlen;omega⟩,g.1⟩) N d (FJ d.revs (HX d nx) nx) () h1 h2 w5.1 w5.2.1 w5.2.2 (H:=H) (n:=n) (Y4 _) (by rintro o y ⟨⟩)
  rw[VD]at this
  exact this)
 rw[hsame]at k15
 have hE:MQ c q.1 q.2 d nx=0->c.2.2=0/\CY nx=0/\(Bv d.revs nx.id).2=false/\d.revs.length<256:=λe=>by
  unfold MQ at e
  split at e
  . rename_i g;exact absurd e g
  rename_i g1
  split at e
  . rename_i g;exact absurd e g
  rename_i g2
  split at e
  . cases e
  rename_i g3
  split at e
  . cases e
  . exact⟨by simpa using g1,by simpa using g2,by simpa using g3,by omega⟩
 refine⟨_,_,k15,c16 d rev sc nx c q.1 q.2 (FJ d.revs (HX d nx) nx) (Gg N d rev sc nx).normal hrs (by omega) (by omega) k14 (λ_ p r n0 hpr hp hr H n hn hHp hHr=>?_) (λe=>?_) (λe H n=>?_),?_⟩
 . refine Xc (d39 (sc:=sc) (v50 hpr hp hr rev) (Ix m2) 150000 (by omega) (λh g=>⟨g.1,g.1⟩) N d ([],[]) h1 h2 (by rw[<-hq];show q.1.length+q.2.length<=_;omega) w4.1 w4.2.1 w4.2.2 hn λo y e=>?_) λv h' n' g=>?_
   . simp only[MF,YF]at e
     split at e
     . subst_vars;cases e;exact hHp
     . split at e
       . subst_vars;cases e;exact hHr
       . cases e
   . obtain⟨g1,g2,g3⟩:=g
     exact⟨⟨_,g1⟩,by rw[g2,<-hq],g3⟩
 . obtain⟨e1,e2,e3,e4⟩:=hE e
   have hv:=LU hd.revs
   have HZ:(BF (HN d.revs nx.id) d.revs.length).2=false:=by
    cases e:(BF (HN d.revs nx.id) d.revs.length).2 with
    | false=>rfl
    | true=>simp[Bv,hv,e]at e3
   exact UT d.revs (hne e1) e4 nx hv e2 (HX d nx) (by have:=Kg (HN d.revs nx.id) 0 d.revs.length (Y4 _);exact this.2) (Prod.ext rfl HZ)
 . obtain⟨e1,e2,e3,_⟩:=hE e
   have el:=TH hm2 hd h1 (rev:=rev) (sc:=sc) (nx:=nx) (by rw[<-hc];exact e1) (h0 e1) e2 e3
   have:=d39R (sc:=sc) (v53 0 nx rev) (Ix m2) 150000 (by omega) (λh g=>⟨g.1,g.1⟩) N d (FJ d.revs (HX d nx) nx) () h1 h2 (Y1 _) (by rw[el];exact w5.1) (by rw[el];exact w5.2.1) (by rw[el];exact w5.2.2) (H:=H) (n:=n) (Y4 _) (by rintro o y ⟨⟩)
   rw[VD,el]at this
   exact this
 . by_cases e:MQ c q.1 q.2 d nx=0
   . rw[TJ,if_pos e]
     have lA:=FK lW
     exact q17 (hp:=Ix (nx.id::m2)) (λx g=>g.1) (K:=450000) (by omega) N _ lA eW.1 (Yo (Ze _ _) rW) hs
   . rw[TJ,if_neg e]
     cases N with
     | zero=>exact h1.elim
     | succ N=>
      have l0:DM AF.sized 0 (N+1) zD.flow:=Cf.2 ⟨by simp[zD],by simp[zD,Ao],λx hx=>by cases hx⟩
      exact q17 (hp:=AF.sized) (λ_ g=>g) (K:=0) (by omega) (N+1) zD l0 ⟨by simp[zD,z0],by simp[zD,z0],by simp[zD,z0]⟩ (by simp[zD]) ⟨by simp[zD,E7],by simp[zD,E7],by simp[zD,E7],by simp[zD,E7],by simp[zD,E7],by simp[zD,E7]⟩
set_option maxHeartbeats 4000000 in
theorem splitDivides (d:AH) (c:Tn) {B N:Nat} (hB:B<=1048576) (hd:d.sizedT B N):PC 5 [d.enc,c.enc] (.bool true):=by
 intro h n
 refine Dg Tryz.func5 rfl λho=>?_
 have hHb:=ho.lt
 obtain⟨X,hX⟩:∃X:SV,X=.iptr ([AG d.flow]++d.«end».flat++[Aw d.revs]++d.settings.flat):=⟨_,rfl⟩
 obtain⟨Y,hY⟩:∃Y:SV,Y=.iptr [AA c.rev,AA c.sc.id,AA c.sc.a,AA c.sc.b,AA c.next.id,.str c.next.author,AA c.next.time]:=⟨_,rfl⟩
 refine Ab 1 [(2,X),(3,Y)] h n ?_ (λm hm=>?_)
 . rw[hX,hY]
   simp[go_sem,AH.enc,Tn.enc,AF.flat,AJ.flat]
   exact⟨by omega,⟨AT (ho.none (by omega)) (by simp[hset]),AT (ho.none (by omega)) (by simp[hset])⟩,λj y e=>by have:=hHb j y e;simp only[hset];grind⟩
 refine AV 0 (α:=Unit) (λ_=>[(2,X),(3,Y)]) (λ_=>h) (λb m=>n<=m/\GY N d/\Lz N d.flow/\Lv N d.flow<=150) ?_ (λ_ m hm=>?_)
 . refine BG 0 (α:=Bx) (λb=>[(2,X),(3,Y),(22,.bool b.b)]) (λ_=>h) (λb m=>n<=m/\(b.b=false->GY N d/\Lz N d.flow/\Lv N d.flow<=150)) ?_ (λb m hm=>?_)
   . rw[hX,hY]
     simp[go_sem,AF.flat,AJ.flat]
     refine Yj k11 ?_
     simp[go_sem]
     refine Xi (by simpa[AH.enc,AF.flat,AJ.flat]using U8 d hB hd) ?_
     rintro v ⟨b,rfl,hb⟩
     cases b with
     | false=>simp[go_sem,Y0,hm];exact⟨⟨true⟩,by simp,rfl⟩
     | true=>simp[go_sem,Y0,hm];exact⟨⟨_⟩,λ_=>hb rfl,rfl⟩
   obtain⟨b⟩:=b
   obtain⟨hm,hb⟩:=hm
   dsimp only at hb ⊢
   cases b with
   | true=>
    refine AI ?_
    simp[go_sem]
    refine Yj k11 ?_
    simp[go_sem]
    exact A3 ho rfl rfl
   | false=>
    refine AI ?_
    simp[go_sem,Y0,hm]
    exact hb rfl
 obtain⟨hm,h1,h2,h3⟩:=hm
 obtain⟨A,e,k15,k16,k17⟩:=TI hB hd.flow hd.end hd.settings.tosized h1 h2 h3 c.rev c.sc c.next
 have hHm:∀j y,h j=some y->j<m:=λj y e=>by have:=hHb j y e;omega
 refine Ab 1 [(2,X),(3,Y),(5,.iptr A.flat),(6,AA e)] h n ?_ (λm hm=>?_)
 . rw[hX,hY]
   simp[go_sem,AF.flat,AJ.flat]
   refine Yj (by simpa[AH.enc,Ah.enc,BD.enc,AF.flat,AJ.flat]using k15) ?_
   simp[go_sem,AH.flat,AF.flat,AJ.flat,Y0,AC,AY]
   exact⟨by omega,AT (Ac hHm (Y1 _)) (AC _ _ _),AK hHm AB⟩
 refine Ab 1 [(5,.iptr A.flat),(6,AA e),(7,.iptr A.flat),(8,AA e)] h n ?_ (λm hm=>?_)
 . have hHm:∀j y,h j=some y->j<m:=λj y e=>by have:=hHb j y e;omega
   rw[hX,hY]
   simp[go_sem,AF.flat,AJ.flat]
   refine Yj (by simpa[AH.enc,Ah.enc,BD.enc,AF.flat,AJ.flat]using k16) ?_
   simp[go_sem,AH.flat,AF.flat,AJ.flat,Y0,AC,AY]
   exact⟨by omega,AT (Ac hHm (Y1 _)) (AC _ _ _),AK hHm AB⟩
 refine AI ?_
 simp[go_sem,AH.flat,AF.flat,AJ.flat]
 refine Yj (by simpa[AH.enc,AF.flat,AJ.flat]using k17) ?_
 simp[go_sem]
 exact A3 ho rfl rfl
end Go.Proofs.YtgakninlhfkkmaaGreat.Sh
namespace Go.Proofs.YtgakninlhfkkmaaGreat.splitDivides
open Go.ChangeShapes Go.WideShapes Go.ChangeAt Go.RowKit
open Go.Proofs.YtgakninlhfkkmaaGreat.Sh
set_option maxRecDepth 10000
theorem own : ownKnob Tryz.prog.godebug = none := by kernel_rfl
theorem contract (H : Type) (enc : TypeId × Value → H) (W : World) (base : Nat) (args : Array Value) (ds gs : List (DataW H)) (before : List MemPlace)
 (hval : ∀ (j : Nat) t v, Tryz.f5.params[j]? = some t → args[j]? = some v → Value.okWide Tryz.prog W .any base t v)
 (hW : DataW.Whole enc Tryz.prog Tryz.f5.params.toList Rows.splitDividesSpec.vars false W args.toList ds gs before) (hk : Rows.uptoSmall H (ds ++ gs) = true) :
 Calls Tryz.prog 5 args W fun e W' => ∃ v, e = .returned v ∧ Rows.splitDividesSpec.post enc Tryz.prog Tryz.f5 false true false false W args v W' := by
 have hW' := hW
 obtain ⟨p, q, hA, hV, rfl, hfz, hnd⟩ := hW
 rw [Tryz.params5] at hA hval
 obtain ⟨v0, vs0, d0, ds0, p0, q0, hargs, rfl, rfl, ⟨n0, h0⟩, r0⟩ := trodAll_cons hA
 obtain ⟨v1, vs1, d1, ds1, p1, q1, rfl, rfl, rfl, ⟨n1, h1⟩, r1⟩ := trodAll_cons r0
 obtain ⟨rfl, rfl, rfl⟩ := trodAll_nil r1
 obtain rfl : args = #[v0, v1] := by cases args; simp_all
 obtain ⟨rfl, rfl⟩ := trodVars_none hV
 rw [Zi] at hk
 have hb : Rows.uptoBulkAll [d0, d1] ≤ 1048576 := of_decide_eq_true hk
 simp only [Rows.uptoBulkAll] at hb
 obtain ⟨d, a1, a2⟩ := (Qo n0).arg Tryz.underlying38 (hval 0 38 v0 rfl rfl) h0 (by unfold BB; dsimp only; omega)
 obtain ⟨c, b1, b2⟩ := (rCut n1).arg Tryz.underlying44 (hval 1 44 v1 rfl rfl) h1 (by unfold BB; dsimp only; omega)
 have hBB : BB ≤ 1048576 := by unfold BB; exact Y1 _
 have hc := PC.calls (Sh.splitDivides d c hBB a2) (W := W) (vs := [v0, v1]) ⟨a1, b1, trivial⟩
 refine Calls.mono hc ?_
 rintro e W' ⟨u, c', rfl, rfl, hV, hE⟩
 have hu : u = .bool true := by rw [V] at hV; exact hV
 subst hu
 refine ⟨_, rfl, Pe (x := .lit (.bool true)) hW' rfl (by rw [Tryz.params5]; exact of_decide_eq_true (by kernel_rfl)) hE.os hE.out (fun b hb => Qf hE hb) rfl (fun _ _ _ => trodAll_cons_mk (shut_bool Tryz.underlying4 _) trodAll_mk0) (ok_one (by kernel_rfl) rfl (okWide_bool_mk Tryz.underlying4 _))⟩
def zi : Value := .int .i64 0
def zl : Value := .slice none 0 0
def witD : Value := .agg #[zl, zl, zi, zi, zl, zl, zl, zl, zl, zl, zl]
def witC : Value := .agg #[zi, zi, zi, zi, zi, .string .empty, zi]
def li {H : Type} : DataW H := .lit (.int .i64 0)
set_option maxRecDepth 100000 in
theorem lifted (os : Os) (started : os.Started) (H : Type) (enc : TypeId × Value → H) (F : Stop.Interp) :
 ReturnsInHanded {} Tryz.checked os 5 .any ((Rows.OpenSpec.upto Rows.splitDividesSpec).pre6 enc Tryz.prog Tryz.f5 Rows.splitDividesUptoRow.domain false) (((Rows.OpenSpec.upto Rows.splitDividesSpec).at F).post enc Tryz.prog Tryz.f5 false true false false) := by
 refine returnsInHanded_of_cond (C := Tryz.checked) (s := Rows.OpenSpec.upto Rows.splitDividesSpec) (k := Rows.uptoSmall) rfl own started (by kernel_rfl) Tryz.func5
  (OpenSpec.witness (enc := enc) (C := Tryz.checked) (s := Rows.OpenSpec.upto Rows.splitDividesSpec) (k := Rows.uptoSmall) rfl false ⟨#[], #[witD, witC], []⟩ 12 (by kernel_rfl) (by kernel_rfl) (by kernel_rfl)
    (x := ([.agg [.nil, .agg [.nil, .agg [li, li, .nil, .nil]], .nil, .agg [.nil, .nil, .nil, .nil]], .agg [li, .agg [li, li, li], .agg [li, .lit (.string []), li]]], [], [])) (by kernel_rfl) rfl (by kernel_rfl)) ?_
 intro W base args ds gs before hval hW _ hk _
 exact contract H enc W base args ds gs before hval hW hk
theorem named : Tryz.checked.prog.funcNamed Rows.splitDividesUptoRow.func = some 5 := by kernel_rfl
theorem inst : Tryz.f5.isInstance Tryz.checked.prog Rows.splitDividesUptoRow.origin Rows.splitDividesUptoRow.targs := of_decide_eq_true (by kernel_rfl)
theorem wrap : Tryz.f5.isWrapper Tryz.checked.prog Rows.splitDividesUptoRow.wrapper Rows.splitDividesUptoRow.mainSum := by unfold Func.isWrapper; first | (rw [if_pos (by decide +kernel)]; kernel_rfl) | (rw [if_neg (by decide +kernel)]; exact ⟨rfl, rfl⟩)
theorem proved : Rows.SplitDividesUptoSaid :=
 OpenClaim.holds_of_cond 5 Tryz.f5 rfl rfl rfl rfl rfl rfl rfl ⟨rfl, rfl, rfl, rfl, rfl⟩ rfl rfl rfl rfl rfl named Tryz.func5 facts inst wrap
  (fun os started H enc _ F => lifted os started H enc F)
#print axioms proved
end Go.Proofs.YtgakninlhfkkmaaGreat.splitDivides
