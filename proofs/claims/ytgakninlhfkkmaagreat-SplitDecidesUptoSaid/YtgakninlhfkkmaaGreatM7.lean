/- A part of the proof (part 7 of 17). -/
import Derived.Test.YtgakninlhfkkmaaGreatM6
namespace Go.Proofs.YtgakninlhfkkmaaGreat.Sh
open Proofs
set_option maxRecDepth 10000
set_option maxHeartbeats 4000000 in
theorem br (l:List AB) (cu:Int) (hl:l.length<=1048576) (hs:∀x∈l,x.text.size<=1048576):PC 251 [AK l,AA cu] (.tup [AK (Ad l cu).1,AK (Ad l cu).2]):=by
 intro h n;refine jE Tryz.func251 rfl (by kernel_rfl) (by kernel_rfl) (by simp[go_sem]) λho B=>?_;simp[↓Ac,↓Am,go_sem,qu];refine(gf l).use ?_;simp[go_sem];generalize hH:hset (hset (hset h n _) (n+1) _) (n+2) _=H;refine Et rfl rfl rfl λE1 yl R hY=>?_;have h0:H n=some (.cells [AA cu]):=by rw[<-hH];simp[hset]
 have h1:H (n+1)=some (.cells [.imm 0 [] true]):=by rw[<-hH];simp[hset]
 have h2:H (n+2)=some (.cells [.imm 0 [] true]):=by rw[<-hH];simp[hset]
 have BV:∀o,o<n->H o=h o:=λo g=>by rw[<-hH];rw[AE _ _ (by omega),AE _ _ (by omega),AE _ _ (by omega)]
 clear hH;let J:Nat->(Nat->Prop)->Hp->Nat->Prop:=λk D hh m=>∃S Q,Po l cu n R k D hh m S Q;let Jx:(Nat->Prop)->Hp->Nat->Prop:=λ_ _ _=>False;have Y:YJ E1 yl dy (E6 0 l) J Jx:=by
  refine⟨λk x D hh m hx d=>?_,λk D hh m h' m' ⟨S,Q,d⟩ hm A=>⟨S,Q,d.keep hm A⟩,λk D hh m ⟨S,Q,d⟩=>d.dlt⟩;obtain⟨S,Q,d⟩:=d;refine hY _ _ _ _ d.loop rfl (Je ?_);have hkl:k<l.length:=by have:=(qh.1 hx).1;rw[HU]at this;exact this
  rw[FM 0 l k hkl,Int.zero_add]at hx;obtain⟨y,hy⟩:∃y,l[k]=y:=⟨_,rfl⟩
  rw[hy]at hx;cases hx;have hym:y∈l:=by rw[<-hy];exact qi hkl
  have hyt:=hs y hym;have f:=Fx l cu k hkl;rw[hy]at f;have Me:=Jh (l.take k) λy hy=>hs y (qS hy);have F8:=y.units_le hyt;have hlk:((l.take k).length:Int)<=1048576:=by simp;omega
  have KL:((l.take k).length:Int)*1048576<=1048576*1048576:=by omega
  generalize BQ (l.take k)=p at f Me ⊢;have wpu:IntKind.i64.wrap (p+y.units)=p+y.units:=by rw[DA]<;>omega
  have hlt:=d.lt;have e0:n≠m:=by omega
  have V:n+1≠m:=by omega
  have e2:n+2≠m:=by omega
  have X:n+3≠m:=by omega
  have G:=X.symm;have e4:n≠m+1:=by omega
  have e5:n≠m+1+1:=by omega
  have e6:n≠m+1+1+1:=by omega
  have e7:n+1≠m+1:=by omega
  have M:=d.cell;have gl:=d.loop;have gL:=d.left;have gR:=d.right;obtain⟨u,r⟩:∃u,(CV l cu k).1.map AB.enc=u:=⟨_,rfl⟩
  obtain⟨w,s⟩:∃w,(CV l cu k).2.map AB.enc=w:=⟨_,rfl⟩
  have hlens:=NZ l cu k (by omega);have lEL:u.length<=k:=by rw[<-r];simp;omega
  have lER:w.length<=k:=by rw[<-s];simp;omega
  have K:=d.accL;have L:=d.accR;have oL':=d.objL;have oR':=d.objR;rw[r]at gL K oL';rw[s]at gR L oR';have flL:(u.flatMap SV.cells).length=u.length*11:=BO K.size;have flR:(w.flatMap SV.cells).length=w.length*11:=BO L.size;have W:∀(zc:List SV),zc.length=11->∀(H:Hp) (p q:Nat),H q=some (.cells zc)->Al Tryz.prog H p .append [22,22] [.imm 0 [] true,.sl q 0 11 1 true]=some { val:=.sl p 0 11 1 false,new:=some (.cells zc) }:=λzc hz H p q hq=>
   Mr (P:=Tryz.prog) (e:=.agg zc) (t:=22) (t2:=22) (el:=70) (z:=11) (by simp[go_sem]) (by simp[go_sem]) (by simp[go_sem]) (by simp) (by simp[go_sem]) (by simp[go_sem]) (by simp[go_sem]) hz hq p
  have apN0:=W [.int .i64 0,.int .i64 0,.int .i64 0,.str .empty,.imm 0 [] true,.int .i64 0,.int .i64 0,.imm 0 [] true,.imm 0 [] true,.imm 0 [] true,.imm 0 [] true] rfl;simp[↓Ac,↓Am,go_sem,J0,dy,qw,AD,AE,gl,X,G];refine qz (by simpa[qw]using Zn y hyt) ?_;by_cases b1:p+y.units<=cu
  . have Z:B7 cu (CV l cu k) (p,y)=((CV l cu k).1++[y],(CV l cu k).2):=by simp[B7,b1]
    rw[Z]at f;rcases S with _|a
    . have O:=K.none rfl;simp[↓Ac,↓Am,↓Cb,go_sem,AD,AE,M,gL,wpu,b1,AW,apN0,e0,V,G,e4]
      repeat first|refine nd (by simp[Bo,DZ,CU,Aq,Region.binds]<;>omega) ?_|refine sq ?_|refine aq ?_
      refine d.fin f (some (m+1+1)) Q (by omega) (by(repeat rw[AE _ _ (by omega)]);exact M) (by rw[qc,r,AD];simp[AW,O]) (by(repeat rw[AE _ _ (by omega)]);exact d.right) (by(repeat rw[AE _ _ (by omega)]);exact AD _ _ _) (by rw[qc,r];exact K.push (j:=m+1+1) (m':=m+1+1+1) (AB.E.st _) (AB.E.len _) (by omega) (by omega)) (d.accR.mono (by omega)) (λj e=>.inr (by cases e;omega)) (λj e=>.inl e) (λj e g=>by cases e;have:=(d.accR.lt _ g).2;omega) (λj e=>by cases e;rw[qc,r,AE _ _ (by omega),AD];simp[qw,SV.cells,O]) (λj e=>by have:=d.accR.lt j e;(repeat rw[AE _ _ (by omega)]);exact d.objR j e) (λo I g2=>?_) _
      . have A:¬((n<=o/\o<=n+3)\/none=some o\/Q=some o):=by have:=I;rw[d.dom]at this;exact this
        have h3:¬(n<=o/\o<=n+3):=λg=>A (.inl g)
        (repeat rw[AE _ _ (by omega)])
    . have oj:=oL' a rfl;have jlt:=K.lt a rfl;have j0:a≠m:=by omega
      have j1:a≠m+1:=by omega
      have j2:a≠m+1+1:=by omega
      have j3:a≠n+3:=by omega
      have j4:a≠n+1:=by omega
      have j5:n+1≠a:=by omega
      have j6:n+2≠a:=by omega
      have j7:n+3≠a:=by omega
      have j8:a≠n+2:=by omega
      have lt1:(u.length:Int)<u.length+1:=by omega
      have apS:∀(H:Hp) (p q:Nat),H a=some (.cells (u.flatMap SV.cells))->H q=some (.cells [.int .i64 0,.int .i64 0,.int .i64 0,.str .empty,.imm 0 [] true,.int .i64 0,.int .i64 0,.imm 0 [] true,.imm 0 [] true,.imm 0 [] true,.imm 0 [] true])->Al Tryz.prog H p .append [22,22] [.sl a 0 11 u.length false,.sl q 0 11 1 true]=some { val:=.sl p 0 11 (u.length+1) false,upd:=some (a,none),new:=some (.cells (u.flatMap SV.cells++[.int .i64 0,.int .i64 0,.int .i64 0,.str .empty,.imm 0 [] true,.int .i64 0,.int .i64 0,.imm 0 [] true,.imm 0 [] true,.imm 0 [] true,.imm 0 [] true])) }:=λH p q h1 h2=>
       G4 (P:=Tryz.prog) (es:=u) (e:=.agg [.int .i64 0,.int .i64 0,.int .i64 0,.str .empty,.imm 0 [] true,.int .i64 0,.int .i64 0,.imm 0 [] true,.imm 0 [] true,.imm 0 [] true,.imm 0 [] true]) (t:=22) (t2:=22) (el:=70) (z:=11) (by simp[go_sem]) (by simp[go_sem]) (by simp[go_sem]) (by simp) (by simp[go_sem]) (by simp[go_sem]) (by simp[go_sem]) (by omega) K rfl h2 h1 p rfl
      have dr:List.drop (u.length*11+11) (u.flatMap SV.cells++[.int .i64 0,.int .i64 0,.int .i64 0,.str .empty,.imm 0 [] true,.int .i64 0,.int .i64 0,.imm 0 [] true,.imm 0 [] true,.imm 0 [] true,.imm 0 [] true])=[]:=List.drop_eq_nil_of_le (by simp[flL]);simp[↓Ac,↓Am,↓Cb,go_sem,AD,AE,M,gL,wpu,b1,AW,apS,oj,flL,lt1,dr,j0,j1,j3,j5,e0,V,G,e4]
      repeat first|refine nd (by simp[Bo,DZ,CU,Aq,Region.binds]<;>omega) ?_|refine sq ?_|refine aq ?_
      refine d.fin f (some (m+1+1)) Q (by omega) (by(repeat rw[AE _ _ (by omega)]);exact M) (by rw[qc,r,AD];simp[AW]) (by(repeat rw[AE _ _ (by omega)]);exact d.right) (by(repeat rw[AE _ _ (by omega)]);exact AD _ _ _) (by rw[qc,r];exact K.push (j:=m+1+1) (m':=m+1+1+1) (AB.E.st _) (AB.E.len _) (by omega) (by omega)) (d.accR.mono (by omega)) (λj e=>.inr (by cases e;omega)) (λj e=>.inl e) (λj e g=>by cases e;have:=(d.accR.lt _ g).2;omega) (λj e=>by cases e;rw[qc,r,AE _ _ (by omega),AD];simp[qw,SV.cells]) (λj e=>by have:=d.accR.lt j e;have hne:j≠a:=(λg=>by exact d.ne a rfl (by rw[<-g];exact e));(repeat rw[AE _ _ (by omega)]);exact d.objR j e) (λo I g2=>?_) _
      . have A:¬((n<=o/\o<=n+3)\/some a=some o\/Q=some o):=by have:=I;rw[d.dom]at this;exact this
        have hne:o≠a:=λg=>A (by rw[g];simp);have h3:¬(n<=o/\o<=n+3):=λg=>A (.inl g)
        (repeat rw[AE _ _ (by omega)])
  . by_cases b2:cu<=p
    . have Z:B7 cu (CV l cu k) (p,y)=((CV l cu k).1,(CV l cu k).2++[y]):=by simp[B7,b1,b2]
      rw[Z]at f;rcases Q with _|b
      . have O:=L.none rfl;simp[↓Ac,↓Am,↓Cb,go_sem,AD,AE,M,gR,wpu,b1,b2,AW,apN0,e0,V,e2,G]
        repeat first|refine nd (by simp[Bo,DZ,CU,Aq,Region.binds]<;>omega) ?_|refine sq ?_|refine aq ?_
        refine d.fin f S (some (m+1+1)) (by omega) (by(repeat rw[AE _ _ (by omega)]);exact M) (by(repeat rw[AE _ _ (by omega)]);exact d.left) (by rw[qc,s,AD];simp[AW,O]) (by(repeat rw[AE _ _ (by omega)]);exact AD _ _ _) (d.accL.mono (by omega)) (by rw[qc,s];exact L.push (j:=m+1+1) (m':=m+1+1+1) (AB.E.st _) (AB.E.len _) (by omega) (by omega)) (λj e=>.inl e) (λj e=>.inr (by cases e;omega)) (λj e g=>by cases g;have:=(d.accL.lt _ e).2;omega) (λj e=>by have:=d.accL.lt j e;(repeat rw[AE _ _ (by omega)]);exact d.objL j e) (λj e=>by cases e;rw[qc,s,AE _ _ (by omega),AD];simp[qw,SV.cells,O]) (λo I g2=>?_) _
        . have A:¬((n<=o/\o<=n+3)\/S=some o\/none=some o):=by have:=I;rw[d.dom]at this;exact this
          have h3:¬(n<=o/\o<=n+3):=λg=>A (.inl g)
          (repeat rw[AE _ _ (by omega)])
      . have oj:=oR' b rfl;have jlt:=L.lt b rfl;have j0:b≠m:=by omega
        have j1:b≠m+1:=by omega
        have j2:b≠m+1+1:=by omega
        have j3:b≠n+3:=by omega
        have j4:b≠n+1:=by omega
        have j5:n+1≠b:=by omega
        have j6:n+2≠b:=by omega
        have j7:n+3≠b:=by omega
        have j8:b≠n+2:=by omega
        have lt1:(w.length:Int)<w.length+1:=by omega
        have apS:∀(H:Hp) (p q:Nat),H b=some (.cells (w.flatMap SV.cells))->H q=some (.cells [.int .i64 0,.int .i64 0,.int .i64 0,.str .empty,.imm 0 [] true,.int .i64 0,.int .i64 0,.imm 0 [] true,.imm 0 [] true,.imm 0 [] true,.imm 0 [] true])->Al Tryz.prog H p .append [22,22] [.sl b 0 11 w.length false,.sl q 0 11 1 true]=some { val:=.sl p 0 11 (w.length+1) false,upd:=some (b,none),new:=some (.cells (w.flatMap SV.cells++[.int .i64 0,.int .i64 0,.int .i64 0,.str .empty,.imm 0 [] true,.int .i64 0,.int .i64 0,.imm 0 [] true,.imm 0 [] true,.imm 0 [] true,.imm 0 [] true])) }:=λH p q h1 h2=>
         G4 (P:=Tryz.prog) (es:=w) (e:=.agg [.int .i64 0,.int .i64 0,.int .i64 0,.str .empty,.imm 0 [] true,.int .i64 0,.int .i64 0,.imm 0 [] true,.imm 0 [] true,.imm 0 [] true,.imm 0 [] true]) (t:=22) (t2:=22) (el:=70) (z:=11) (by simp[go_sem]) (by simp[go_sem]) (by simp[go_sem]) (by simp) (by simp[go_sem]) (by simp[go_sem]) (by simp[go_sem]) (by omega) L rfl h2 h1 p rfl
        have dr:List.drop (w.length*11+11) (w.flatMap SV.cells++[.int .i64 0,.int .i64 0,.int .i64 0,.str .empty,.imm 0 [] true,.int .i64 0,.int .i64 0,.imm 0 [] true,.imm 0 [] true,.imm 0 [] true,.imm 0 [] true])=[]:=List.drop_eq_nil_of_le (by simp[flR]);simp[↓Ac,↓Am,↓Cb,go_sem,AD,AE,M,gR,wpu,b1,b2,AW,apS,oj,flR,lt1,dr,j0,j1,j3,j6,e0,V,e2,G]
        repeat first|refine nd (by simp[Bo,DZ,CU,Aq,Region.binds]<;>omega) ?_|refine sq ?_|refine aq ?_
        refine d.fin f S (some (m+1+1)) (by omega) (by(repeat rw[AE _ _ (by omega)]);exact M) (by(repeat rw[AE _ _ (by omega)]);exact d.left) (by rw[qc,s,AD];simp[AW]) (by(repeat rw[AE _ _ (by omega)]);exact AD _ _ _) (d.accL.mono (by omega)) (by rw[qc,s];exact L.push (j:=m+1+1) (m':=m+1+1+1) (AB.E.st _) (AB.E.len _) (by omega) (by omega)) (λj e=>.inl e) (λj e=>.inr (by cases e;omega)) (λj e g=>by cases g;have:=(d.accL.lt _ e).2;omega) (λj e=>by have:=d.accL.lt j e;have hne:j≠b:=(λg=>by exact d.ne j e (by rw[g]));(repeat rw[AE _ _ (by omega)]);exact d.objL j e) (λj e=>by cases e;rw[qc,s,AE _ _ (by omega),AD];simp[qw,SV.cells]) (λo I g2=>?_) _
        . have A:¬((n<=o/\o<=n+3)\/S=some o\/some b=some o):=by have:=I;rw[d.dom]at this;exact this
          have hne:o≠b:=λg=>A (by rw[g];simp);have h3:¬(n<=o/\o<=n+3):=λg=>A (.inl g)
          (repeat rw[AE _ _ (by omega)])
    . have Z:B7 cu (CV l cu k) (p,y)=((CV l cu k).1++[y.setText (y.text.extract 0 (Be y.text (cu-p)).1.toNat)],(CV l cu k).2++[y.setText (y.text.extract (Be y.text (cu-p)).1.toNat y.text.size)]):=by simp[B7,b1,b2]
      rw[Z]at f;have wcp:IntKind.i64.wrap (cu-p)=cu-p:=by rw[DA]<;>omega
      simp[↓Ac,↓Am,go_sem,AD,AE,M,wpu,b1,b2,e0,G,wcp];refine qz (gh _ _ hyt) ?_;have N:=Q4 y.text (cu-p);generalize(Be y.text (cu-p)).1=c at *;generalize(Be y.text (cu-p)).2=c2 at *;have e8:n≠m+1+1+1+1:=by omega
      have e9:n≠m+1+1+1+1+1:=by omega
      rcases S with _|a
      . rcases Q with _|b
        . have C:=K.none rfl;have T:=W [AA y.kind,AA y.code,AA y.id,.str (y.text.extract 0 c.toNat),AU y.head.props,AA y.head.ins,AA y.head.move,Ax y.head.dels,Ai y.head.layers,AK y.flow,Aw y.rows] rfl;have F:=L.none rfl;have U:=W [AA y.kind,AA y.code,AA y.id,.str (y.text.extract c.toNat y.text.size),AU y.head.props,AA y.head.ins,AA y.head.move,Ax y.head.dels,Ai y.head.layers,AK y.flow,Aw y.rows] rfl;simp[↓Ac,↓Am,go_sem,AD,AE,gL,gR,AW,e0,V,e2,G,e4,e5,e6,e8,N.1,N.2,T,U]
          repeat first|refine nd (by simp[Bo,DZ,CU,Aq,Region.binds]<;>omega) ?_|refine sq ?_|refine aq ?_
          refine d.fin f (some (m+1+1+1)) (some (m+1+1+1+1+1)) (by omega) (by(repeat rw[AE _ _ (by omega)]);exact M) (by rw[qc,r];(try rw[AE _ _ (by omega)]);rw[AD];(try simp[AW,C])) (by rw[qc,s];(try rw[AE _ _ (by omega)]);rw[AD];(try simp[AW,F])) (by(repeat rw[AE _ _ (by omega)]);exact AD _ _ _) (by rw[qc,r];exact K.push (j:=m+1+1+1) (m':=m+1+1+1+1+1+1) (AB.E.st _) (AB.E.len _) (by omega) (by omega)) (by rw[qc,s];exact L.push (j:=m+1+1+1+1+1) (m':=m+1+1+1+1+1+1) (AB.E.st _) (AB.E.len _) (by omega) (by omega)) (λj e=>.inr (by cases e;omega)) (λj e=>.inr (by cases e;omega)) (λj e g=>by cases e;injection g with g;omega) (λj e=>by cases e;rw[qc,r];(repeat rw[AE _ _ (by omega)]);rw[AD];(try simp[qw,AB.setText,AB.kind,AB.code,AB.id,AB.text,AB.head,AB.flow,AB.rows,SV.cells,C])) (λj e=>by cases e;rw[qc,s];(repeat rw[AE _ _ (by omega)]);rw[AD];(try simp[qw,AB.setText,AB.kind,AB.code,AB.id,AB.text,AB.head,AB.flow,AB.rows,SV.cells,F])) (λo I g2=>?_) _
          . have A:¬((n<=o/\o<=n+3)\/none=some o\/none=some o):=by have:=I;rw[d.dom]at this;exact this
            have h3:¬(n<=o/\o<=n+3):=λg=>A (.inl g)
            (repeat rw[AE _ _ (by omega)])
        . have C:=K.none rfl;have T:=W [AA y.kind,AA y.code,AA y.id,.str (y.text.extract 0 c.toNat),AU y.head.props,AA y.head.ins,AA y.head.move,Ax y.head.dels,Ai y.head.layers,AK y.flow,Aw y.rows] rfl;have ojR:=oR' b rfl;have jltR:=L.lt b rfl;have jR0:b≠m:=by omega
          have kR0:m≠b:=by omega
          have jR1:b≠m+1:=by omega
          have kR1:m+1≠b:=by omega
          have jR2:b≠m+1+1:=by omega
          have kR2:m+1+1≠b:=by omega
          have jR3:b≠m+1+1+1:=by omega
          have kR3:m+1+1+1≠b:=by omega
          have jR4:b≠m+1+1+1+1:=by omega
          have kR4:m+1+1+1+1≠b:=by omega
          have jR5:b≠m+1+1+1+1+1:=by omega
          have kR5:m+1+1+1+1+1≠b:=by omega
          have pR0:b≠n:=by omega
          have qR0:n≠b:=by omega
          have pR1:b≠n+1:=by omega
          have qR1:n+1≠b:=by omega
          have pR2:b≠n+2:=by omega
          have qR2:n+2≠b:=by omega
          have pR3:b≠n+3:=by omega
          have qR3:n+3≠b:=by omega
          have U:∀(H:Hp) (p q:Nat),H b=some (.cells (w.flatMap SV.cells))->H q=some (.cells [AA y.kind,AA y.code,AA y.id,.str (y.text.extract c.toNat y.text.size),AU y.head.props,AA y.head.ins,AA y.head.move,Ax y.head.dels,Ai y.head.layers,AK y.flow,Aw y.rows])->Al Tryz.prog H p .append [22,22] [.sl b 0 11 w.length false,.sl q 0 11 1 true]=some { val:=.sl p 0 11 (w.length+1) false,upd:=some (b,none),new:=some (.cells (w.flatMap SV.cells++[AA y.kind,AA y.code,AA y.id,.str (y.text.extract c.toNat y.text.size),AU y.head.props,AA y.head.ins,AA y.head.move,Ax y.head.dels,Ai y.head.layers,AK y.flow,Aw y.rows])) }:=λH p q h1 h2=>
           G4 (P:=Tryz.prog) (es:=w) (e:=.agg [AA y.kind,AA y.code,AA y.id,.str (y.text.extract c.toNat y.text.size),AU y.head.props,AA y.head.ins,AA y.head.move,Ax y.head.dels,Ai y.head.layers,AK y.flow,Aw y.rows]) (t:=22) (t2:=22) (el:=70) (z:=11) (by simp[go_sem]) (by simp[go_sem]) (by simp[go_sem]) (by simp) (by simp[go_sem]) (by simp[go_sem]) (by simp[go_sem]) (by omega) L rfl h2 h1 p rfl
          simp[↓Ac,↓Am,go_sem,AD,AE,gL,gR,AW,e0,V,e2,G,e4,e5,e6,e8,N.1,N.2,T,U,ojR,jR0,jR1,jR2,jR3,jR4,qR1,qR2,pR3]
          repeat first|refine nd (by simp[Bo,DZ,CU,Aq,Region.binds]<;>omega) ?_|refine sq ?_|refine aq ?_
          refine d.fin f (some (m+1+1+1)) (some (m+1+1+1+1+1)) (by omega) (by(repeat rw[AE _ _ (by omega)]);exact M) (by rw[qc,r];(try rw[AE _ _ (by omega)]);rw[AD];(try simp[AW,C])) (by rw[qc,s];(try rw[AE _ _ (by omega)]);rw[AD];(try simp[AW])) (by(repeat rw[AE _ _ (by omega)]);exact AD _ _ _) (by rw[qc,r];exact K.push (j:=m+1+1+1) (m':=m+1+1+1+1+1+1) (AB.E.st _) (AB.E.len _) (by omega) (by omega)) (by rw[qc,s];exact L.push (j:=m+1+1+1+1+1) (m':=m+1+1+1+1+1+1) (AB.E.st _) (AB.E.len _) (by omega) (by omega)) (λj e=>.inr (by cases e;omega)) (λj e=>.inr (by cases e;omega)) (λj e g=>by cases e;injection g with g;omega) (λj e=>by cases e;rw[qc,r];(repeat rw[AE _ _ (by omega)]);rw[AD];(try simp[qw,AB.setText,AB.kind,AB.code,AB.id,AB.text,AB.head,AB.flow,AB.rows,SV.cells,C])) (λj e=>by cases e;rw[qc,s];(repeat rw[AE _ _ (by omega)]);rw[AD];(try simp[qw,AB.setText,AB.kind,AB.code,AB.id,AB.text,AB.head,AB.flow,AB.rows,SV.cells])) (λo I g2=>?_) _
          . have A:¬((n<=o/\o<=n+3)\/none=some o\/some b=some o):=by have:=I;rw[d.dom]at this;exact this
            have hneR:o≠b:=λg=>A (by rw[g];simp);have h3:¬(n<=o/\o<=n+3):=λg=>A (.inl g)
            (repeat rw[AE _ _ (by omega)])
      . rcases Q with _|b
        . have ojL:=oL' a rfl;have jltL:=K.lt a rfl;have jL0:a≠m:=by omega
          have kL0:m≠a:=by omega
          have jL1:a≠m+1:=by omega
          have kL1:m+1≠a:=by omega
          have jL2:a≠m+1+1:=by omega
          have kL2:m+1+1≠a:=by omega
          have jL3:a≠m+1+1+1:=by omega
          have kL3:m+1+1+1≠a:=by omega
          have jL4:a≠m+1+1+1+1:=by omega
          have kL4:m+1+1+1+1≠a:=by omega
          have jL5:a≠m+1+1+1+1+1:=by omega
          have kL5:m+1+1+1+1+1≠a:=by omega
          have pL0:a≠n:=by omega
          have qL0:n≠a:=by omega
          have pL1:a≠n+1:=by omega
          have qL1:n+1≠a:=by omega
          have pL2:a≠n+2:=by omega
          have qL2:n+2≠a:=by omega
          have pL3:a≠n+3:=by omega
          have qL3:n+3≠a:=by omega
          have T:∀(H:Hp) (p q:Nat),H a=some (.cells (u.flatMap SV.cells))->H q=some (.cells [AA y.kind,AA y.code,AA y.id,.str (y.text.extract 0 c.toNat),AU y.head.props,AA y.head.ins,AA y.head.move,Ax y.head.dels,Ai y.head.layers,AK y.flow,Aw y.rows])->Al Tryz.prog H p .append [22,22] [.sl a 0 11 u.length false,.sl q 0 11 1 true]=some { val:=.sl p 0 11 (u.length+1) false,upd:=some (a,none),new:=some (.cells (u.flatMap SV.cells++[AA y.kind,AA y.code,AA y.id,.str (y.text.extract 0 c.toNat),AU y.head.props,AA y.head.ins,AA y.head.move,Ax y.head.dels,Ai y.head.layers,AK y.flow,Aw y.rows])) }:=λH p q h1 h2=>
           G4 (P:=Tryz.prog) (es:=u) (e:=.agg [AA y.kind,AA y.code,AA y.id,.str (y.text.extract 0 c.toNat),AU y.head.props,AA y.head.ins,AA y.head.move,Ax y.head.dels,Ai y.head.layers,AK y.flow,Aw y.rows]) (t:=22) (t2:=22) (el:=70) (z:=11) (by simp[go_sem]) (by simp[go_sem]) (by simp[go_sem]) (by simp) (by simp[go_sem]) (by simp[go_sem]) (by simp[go_sem]) (by omega) K rfl h2 h1 p rfl
          have F:=L.none rfl;have U:=W [AA y.kind,AA y.code,AA y.id,.str (y.text.extract c.toNat y.text.size),AU y.head.props,AA y.head.ins,AA y.head.move,Ax y.head.dels,Ai y.head.layers,AK y.flow,Aw y.rows] rfl;simp[↓Ac,↓Am,go_sem,AD,AE,gL,gR,AW,e0,V,e2,G,e4,e5,e6,e8,N.1,N.2,T,ojL,jL0,jL1,kL1,jL2,qL1,qL2,pL3,U]
          repeat first|refine nd (by simp[Bo,DZ,CU,Aq,Region.binds]<;>omega) ?_|refine sq ?_|refine aq ?_
          refine d.fin f (some (m+1+1+1)) (some (m+1+1+1+1+1)) (by omega) (by(repeat rw[AE _ _ (by omega)]);exact M) (by rw[qc,r];(try rw[AE _ _ (by omega)]);rw[AD];(try simp[AW])) (by rw[qc,s];(try rw[AE _ _ (by omega)]);rw[AD];(try simp[AW,F])) (by(repeat rw[AE _ _ (by omega)]);exact AD _ _ _) (by rw[qc,r];exact K.push (j:=m+1+1+1) (m':=m+1+1+1+1+1+1) (AB.E.st _) (AB.E.len _) (by omega) (by omega)) (by rw[qc,s];exact L.push (j:=m+1+1+1+1+1) (m':=m+1+1+1+1+1+1) (AB.E.st _) (AB.E.len _) (by omega) (by omega)) (λj e=>.inr (by cases e;omega)) (λj e=>.inr (by cases e;omega)) (λj e g=>by cases e;injection g with g;omega) (λj e=>by cases e;rw[qc,r];(repeat rw[AE _ _ (by omega)]);rw[AD];(try simp[qw,AB.setText,AB.kind,AB.code,AB.id,AB.text,AB.head,AB.flow,AB.rows,SV.cells])) (λj e=>by cases e;rw[qc,s];(repeat rw[AE _ _ (by omega)]);rw[AD];(try simp[qw,AB.setText,AB.kind,AB.code,AB.id,AB.text,AB.head,AB.flow,AB.rows,SV.cells,F])) (λo I g2=>?_) _
          . have A:¬((n<=o/\o<=n+3)\/some a=some o\/none=some o):=by have:=I;rw[d.dom]at this;exact this
            have hneL:o≠a:=λg=>A (by rw[g];simp);have h3:¬(n<=o/\o<=n+3):=λg=>A (.inl g)
            (repeat rw[AE _ _ (by omega)])
        . have ojL:=oL' a rfl;have jltL:=K.lt a rfl;have jL0:a≠m:=by omega
          have kL0:m≠a:=by omega
          have jL1:a≠m+1:=by omega
          have kL1:m+1≠a:=by omega
          have jL2:a≠m+1+1:=by omega
          have kL2:m+1+1≠a:=by omega
          have jL3:a≠m+1+1+1:=by omega
          have kL3:m+1+1+1≠a:=by omega
          have jL4:a≠m+1+1+1+1:=by omega
          have kL4:m+1+1+1+1≠a:=by omega
          have jL5:a≠m+1+1+1+1+1:=by omega
          have kL5:m+1+1+1+1+1≠a:=by omega
          have pL0:a≠n:=by omega
          have qL0:n≠a:=by omega
          have pL1:a≠n+1:=by omega
          have qL1:n+1≠a:=by omega
          have pL2:a≠n+2:=by omega
          have qL2:n+2≠a:=by omega
          have pL3:a≠n+3:=by omega
          have qL3:n+3≠a:=by omega
          have T:∀(H:Hp) (p q:Nat),H a=some (.cells (u.flatMap SV.cells))->H q=some (.cells [AA y.kind,AA y.code,AA y.id,.str (y.text.extract 0 c.toNat),AU y.head.props,AA y.head.ins,AA y.head.move,Ax y.head.dels,Ai y.head.layers,AK y.flow,Aw y.rows])->Al Tryz.prog H p .append [22,22] [.sl a 0 11 u.length false,.sl q 0 11 1 true]=some { val:=.sl p 0 11 (u.length+1) false,upd:=some (a,none),new:=some (.cells (u.flatMap SV.cells++[AA y.kind,AA y.code,AA y.id,.str (y.text.extract 0 c.toNat),AU y.head.props,AA y.head.ins,AA y.head.move,Ax y.head.dels,Ai y.head.layers,AK y.flow,Aw y.rows])) }:=λH p q h1 h2=>
           G4 (P:=Tryz.prog) (es:=u) (e:=.agg [AA y.kind,AA y.code,AA y.id,.str (y.text.extract 0 c.toNat),AU y.head.props,AA y.head.ins,AA y.head.move,Ax y.head.dels,Ai y.head.layers,AK y.flow,Aw y.rows]) (t:=22) (t2:=22) (el:=70) (z:=11) (by simp[go_sem]) (by simp[go_sem]) (by simp[go_sem]) (by simp) (by simp[go_sem]) (by simp[go_sem]) (by simp[go_sem]) (by omega) K rfl h2 h1 p rfl
          have ojR:=oR' b rfl;have jltR:=L.lt b rfl;have jR0:b≠m:=by omega
          have kR0:m≠b:=by omega
          have jR1:b≠m+1:=by omega
          have kR1:m+1≠b:=by omega
          have jR2:b≠m+1+1:=by omega
          have kR2:m+1+1≠b:=by omega
          have jR3:b≠m+1+1+1:=by omega
          have kR3:m+1+1+1≠b:=by omega
          have jR4:b≠m+1+1+1+1:=by omega
          have kR4:m+1+1+1+1≠b:=by omega
          have jR5:b≠m+1+1+1+1+1:=by omega
          have kR5:m+1+1+1+1+1≠b:=by omega
          have pR0:b≠n:=by omega
          have qR0:n≠b:=by omega
          have pR1:b≠n+1:=by omega
          have qR1:n+1≠b:=by omega
          have pR2:b≠n+2:=by omega
          have qR2:n+2≠b:=by omega
          have pR3:b≠n+3:=by omega
          have qR3:n+3≠b:=by omega
          have U:∀(H:Hp) (p q:Nat),H b=some (.cells (w.flatMap SV.cells))->H q=some (.cells [AA y.kind,AA y.code,AA y.id,.str (y.text.extract c.toNat y.text.size),AU y.head.props,AA y.head.ins,AA y.head.move,Ax y.head.dels,Ai y.head.layers,AK y.flow,Aw y.rows])->Al Tryz.prog H p .append [22,22] [.sl b 0 11 w.length false,.sl q 0 11 1 true]=some { val:=.sl p 0 11 (w.length+1) false,upd:=some (b,none),new:=some (.cells (w.flatMap SV.cells++[AA y.kind,AA y.code,AA y.id,.str (y.text.extract c.toNat y.text.size),AU y.head.props,AA y.head.ins,AA y.head.move,Ax y.head.dels,Ai y.head.layers,AK y.flow,Aw y.rows])) }:=λH p q h1 h2=>
           G4 (P:=Tryz.prog) (es:=w) (e:=.agg [AA y.kind,AA y.code,AA y.id,.str (y.text.extract c.toNat y.text.size),AU y.head.props,AA y.head.ins,AA y.head.move,Ax y.head.dels,Ai y.head.layers,AK y.flow,Aw y.rows]) (t:=22) (t2:=22) (el:=70) (z:=11) (by simp[go_sem]) (by simp[go_sem]) (by simp[go_sem]) (by simp) (by simp[go_sem]) (by simp[go_sem]) (by simp[go_sem]) (by omega) L rfl h2 h1 p rfl
          have hLR:a≠b:=λg=>d.ne a rfl (by rw[g]);have hRL:b≠a:=hLR.symm;simp[↓Ac,↓Am,go_sem,AD,AE,gL,gR,AW,e0,V,e2,G,e4,e5,e6,e8,N.1,N.2,T,ojL,jL0,jL1,kL1,jL2,qL1,qL2,pL3,U,ojR,jR0,jR1,jR2,jR3,jR4,qR1,qR2,pR3,hRL]
          repeat first|refine nd (by simp[Bo,DZ,CU,Aq,Region.binds]<;>omega) ?_|refine sq ?_|refine aq ?_
          refine d.fin f (some (m+1+1+1)) (some (m+1+1+1+1+1)) (by omega) (by(repeat rw[AE _ _ (by omega)]);exact M) (by rw[qc,r];(try rw[AE _ _ (by omega)]);rw[AD];(try simp[AW])) (by rw[qc,s];(try rw[AE _ _ (by omega)]);rw[AD];(try simp[AW])) (by(repeat rw[AE _ _ (by omega)]);exact AD _ _ _) (by rw[qc,r];exact K.push (j:=m+1+1+1) (m':=m+1+1+1+1+1+1) (AB.E.st _) (AB.E.len _) (by omega) (by omega)) (by rw[qc,s];exact L.push (j:=m+1+1+1+1+1) (m':=m+1+1+1+1+1+1) (AB.E.st _) (AB.E.len _) (by omega) (by omega)) (λj e=>.inr (by cases e;omega)) (λj e=>.inr (by cases e;omega)) (λj e g=>by cases e;injection g with g;omega) (λj e=>by cases e;rw[qc,r];(repeat rw[AE _ _ (by omega)]);rw[AD];(try simp[qw,AB.setText,AB.kind,AB.code,AB.id,AB.text,AB.head,AB.flow,AB.rows,SV.cells])) (λj e=>by cases e;rw[qc,s];(repeat rw[AE _ _ (by omega)]);rw[AD];(try simp[qw,AB.setText,AB.kind,AB.code,AB.id,AB.text,AB.head,AB.flow,AB.rows,SV.cells])) (λo I g2=>?_) _
          . have A:¬((n<=o/\o<=n+3)\/some a=some o\/some b=some o):=by have:=I;rw[d.dom]at this;exact this
            have hneL:o≠a:=λg=>A (by rw[g];simp);have hneR:o≠b:=λg=>A (by rw[g];simp);have h3:¬(n<=o/\o<=n+3):=λg=>A (.inl g)
            (repeat rw[AE _ _ (by omega)])
 refine we (gz l Y hl hs (λo=>n<=o/\o<=n+3) _ _ ⟨none,none,?_⟩) ?_;exact⟨by omega,by rw[AE _ _ (by omega)];exact h0,by rw[AE _ _ (by omega)];exact h1,by rw[AE _ _ (by omega)];exact h2,AD _ _ _,by simp[CV];exact vA _ _ _,by simp[CV];exact vA _ _ _,by simp,by simp,by simp,by simp⟩;rintro _ h' m' ⟨v,hm,D',hDD,hh,hv⟩;rcases hv with⟨rfl,S,Q,d⟩|⟨rfl,hX⟩
 . refine⟨_,_,d.loop,by simp,?_⟩;have hD':∀o,o<n->h' o=h o:=λo g=>by rw[hh o (λg'=>by have:n<=o/\o<=n+3:=g';omega) (by omega),AE _ _ (by omega),BV o g]
   have fin:∀hp:Hp,(∀o,o<n->hp o=h o)->(∀j,S=some j->hp j=h' j)->(∀j,Q=some j->hp j=h' j)->CO n hp m' (.tup [AW 11 S ((CV l cu l.length).1.map AB.enc),AW 11 Q ((CV l cu l.length).2.map AB.enc)]) (Is (.tup [AK (Ad l cu).1,AK (Ad l cu).2]) h n):=λhp I g2 g3=>by
    refine Dj 2 ho (λo y e=>by rw[I o (ho o y e).1];exact e) (.inr ⟨?_,?_,trivial⟩) (by simp[closed,closedL,AB.E.closedL]);refine AW.fz ho (n:=n) (m:=m') ⟨d.accL.none,λj e=>⟨by have:=(d.accL.lt j e).1;omega,(d.accL.lt j e).2⟩,d.accL.size⟩ λj y e=>?_;cases hoL:S with
    | none=>rw[hoL]at e;have:=(ho j y e).1;rw[I j this];exact e
    | some i=>
     rw[hoL]at e;simp only[AV]at e;by_cases V:j=i;subst V;rw[AD]at e;rw[g2 j hoL,d.objL j hoL];exact e;rw[AE _ _ V]at e;have:=(ho j y e).1;rw[I j this];exact e
    refine AW.fz ho (n:=n) (m:=m') ⟨d.accR.none,λj e=>⟨by have:=(d.accR.lt j e).1;omega,(d.accR.lt j e).2⟩,d.accR.size⟩ λj y e=>?_;cases hoR:Q with
    | none=>rw[hoR]at e;have:=(ho j y e).1;rw[I j this];exact e
    | some i=>
     rw[hoR]at e;simp only[AV]at e;by_cases V:j=i;subst V;rw[AD]at e;rw[g3 j hoR,d.objR j hoR];exact e;rw[AE _ _ V]at e;have:=(ho j y e).1;rw[I j this];exact e
   have gL:=d.left;have gR:=d.right;have ltL:=d.accL.lt;have ltR:=d.accR.lt;generalize(CV l cu l.length).1.map AB.enc=u at *;generalize(CV l cu l.length).2.map AB.enc=w at *;rcases S with _|a<;>rcases Q with _|b
   all_goals
    simp[go_sem,AD,AE,gL,gR,AW]
    repeat first|refine nd (by simp[Bo,DZ,CU,Aq,Region.binds];done) ?_|refine sq ?_|refine aq ?_
    refine fin _ (λo g=>?_) (λj e=>?_) (λj e=>?_);rw[AE _ _ (by omega),AE _ _ (by omega),AE _ _ (by omega)];exact hD' o g;have:=(ltL j e).1;rw[AE _ _ (by omega),AE _ _ (by omega),AE _ _ (by omega)];have:=(ltR j e).1;rw[AE _ _ (by omega),AE _ _ (by omega),AE _ _ (by omega)]
 exact hX.elim
end Go.Proofs.YtgakninlhfkkmaaGreat.Sh
