/- A part of the proof (part 7 of 18). -/
import Derived.Test.YtgakninlhfkkmaaGreatN6
namespace Go.Proofs.YtgakninlhfkkmaaGreat.Sh
open Tryz
open Proofs
set_option maxRecDepth 10000
set_option maxHeartbeats 4000000
theorem br(l:List AB)(u:Int)(hl:l.length<=1048576)(hs:∀x∈l,x.x.size<=1048576):PC 251 [AK l,AA u] (.tup [AK (Ad l u).1,AK (Ad l u).2]):=by
 intro h n;refine jE func251 rfl (by kernel_rfl) (by kernel_rfl) (by simp[go_sem]) λho B=>?_;simp[↓Ac,↓Am,go_sem,qu];refine(gf l).use ?_;simp[go_sem];generalize hH:h_ (h_ (h_ h n _) (n+1) _) (n+2) _=H;refine Et rfl rfl rfl λE1 yl R hY=>?_;have h0:H n=some (.cells [AA u]):=by rw[<-hH];simp[h_]
 have h1:H (n+1)=some (.cells [.i 0 [] true]):=by rw[<-hH];simp[h_]
 have h2:H (n+2)=some (.cells [.i 0 [] true]):=by rw[<-hH];simp[h_]
 have BV:∀o,o<n->H o=h o:=λo g=>by rw[<-hH];rw[AE _ _ (by omega),AE _ _ (by omega),AE _ _ (by omega)]
 clear hH;let J:Nat->(Nat->Prop)->Hp->Nat->Prop:=λk D hh m=>∃T S,Po l u n R k D hh m T S;let Jx:(Nat->Prop)->Hp->Nat->Prop:=λ_ _ _=>False;have Y:YJ E1 yl dy (E6 0 l) J Jx:=by
  refine⟨λk x D hh m hx d=>?_,λk D hh m h' m' ⟨T,S,d⟩ hm C=>⟨T,S,d.keep hm C⟩,λk D hh m ⟨T,S,d⟩=>d.dlt⟩;obtain⟨T,S,d⟩:=d;refine hY _ _ _ _ d.loop rfl (Je ?_);have hkl:k<l.length:=by have:=(qh.1 hx).1;rw[HU]at this;exact this
  rw[FM 0 l k hkl,Int.zero_add]at hx;obtain⟨y,hy⟩:∃y,l[k]=y:=⟨_,rfl⟩
  rw[hy]at hx;cases hx;have hym:y∈l:=by rw[<-hy];exact qi hkl
  have hyt:=hs y hym;have f:=Fx l u k hkl;rw[hy]at f;have Me:=Jh (l.take k) λy hy=>hs y (qS hy);have F8:=y.units_le hyt;have hlk:((l.take k).length:Int)<=1048576:=by simp;omega
  have KL:((l.take k).length:Int)*1048576<=1048576*1048576:=by omega
  generalize BQ (l.take k)=p at f Me ⊢;have wpu:IntKind.i64.wrap (p+y.units)=p+y.units:=by rw[DA]<;>omega
  have hlt:=d.lt;have e0:n≠m:=by omega
  have W:n+1≠m:=by omega
  have e2:n+2≠m:=by omega
  have Z:n+3≠m:=by omega
  have I:=Z.symm;have e4:n≠m+1:=by omega
  have e5:n≠m+1+1:=by omega
  have e6:n≠m+1+1+1:=by omega
  have e7:n+1≠m+1:=by omega
  have N:=d.cell;have gl:=d.loop;have gL:=d.left;have gR:=d.right;obtain⟨w,r⟩:∃w,(CV l u k).1.map AB.e=w:=⟨_,rfl⟩
  obtain⟨A,s⟩:∃A,(CV l u k).2.map AB.e=A:=⟨_,rfl⟩
  have hlens:=NZ l u k (by omega);have lEL:w.length<=k:=by rw[<-r];simp;omega
  have lER:A.length<=k:=by rw[<-s];simp;omega
  have L:=d.accL;have M:=d.accR;have oL':=d.objL;have oR':=d.objR;rw[r]at gL L oL';rw[s]at gR M oR';have flL:(w.flatMap SV.cells).length=w.length*11:=BO L.size;have flR:(A.flatMap SV.cells).length=A.length*11:=BO M.size;have X:∀(zc:List SV),zc.length=11->∀(H:Hp)(p q:Nat),H q=some (.cells zc)->Al prog H p .append [22,22] [.i 0 [] true,.sl q 0 11 1 true]=some { val:=.sl p 0 11 1 false,new:=some (.cells zc) }:=λzc hz H p q hq=>
   Mr (P:=prog) (e:=.agg zc) (t:=22) (t2:=22) (el:=70) (z:=11) (by simp[go_sem]) (by simp[go_sem]) (by simp[go_sem]) (by simp) (by simp[go_sem]) (by simp[go_sem]) (by simp[go_sem]) hz hq p
  have apN0:=X [.int .i64 0,.int .i64 0,.int .i64 0,.str .empty,.i 0 [] true,.int .i64 0,.int .i64 0,.i 0 [] true,.i 0 [] true,.i 0 [] true,.i 0 [] true] rfl;simp[↓Ac,↓Am,go_sem,J0,dy,qw,AD,AE,gl,Z,I];refine qz (by simpa[qw]using Zn y hyt) ?_;by_cases b1:p+y.units<=u
  . have hst:B7 u (CV l u k) (p,y)=((CV l u k).1++[y],(CV l u k).2):=by simp[B7,b1]
    rw[hst]at f;rcases T with _|a
    . have Q:=L.none rfl;simp[↓Ac,↓Am,↓Cb,go_sem,AD,AE,N,gL,wpu,b1,AW,apN0,e0,W,I,e4]
      repeat first|refine nd (by simp[Bo,DZ,CU,Aq,Region.binds]<;>omega) ?_|refine sq ?_|refine aq ?_
      refine d.fin f (some (m+1+1)) S (by omega) (by(repeat rw[AE _ _ (by omega)]);exact N) (by rw[qc,r,AD];simp[AW,Q]) (by(repeat rw[AE _ _ (by omega)]);exact d.right) (by(repeat rw[AE _ _ (by omega)]);exact AD _ _ _) (by rw[qc,r];exact L.push (j:=m+1+1) (m':=m+1+1+1) (AB.E.st _) (AB.E.len _) (by omega) (by omega)) (d.accR.mono (by omega)) (λj e=>.inr (by cases e;omega)) (λj e=>.inl e) (λj e g=>by cases e;have:=(d.accR.lt _ g).2;omega) (λj e=>by cases e;rw[qc,r,AE _ _ (by omega),AD];simp[qw,SV.cells,Q]) (λj e=>by have:=d.accR.lt j e;(repeat rw[AE _ _ (by omega)]);exact d.objR j e) (λo K g2=>?_) _
      . have C:¬((n<=o/\o<=n+3)\/none=some o\/S=some o):=by have:=K;rw[d.dom]at this;exact this
        have h3:¬(n<=o/\o<=n+3):=λg=>C (.inl g)
        (repeat rw[AE _ _ (by omega)])
    . have oj:=oL' a rfl;have jlt:=L.lt a rfl;have j0:a≠m:=by omega
      have j1:a≠m+1:=by omega
      have j2:a≠m+1+1:=by omega
      have j3:a≠n+3:=by omega
      have j4:a≠n+1:=by omega
      have j5:n+1≠a:=by omega
      have j6:n+2≠a:=by omega
      have j7:n+3≠a:=by omega
      have j8:a≠n+2:=by omega
      have lt1:(w.length:Int)<w.length+1:=by omega
      have apS:∀(H:Hp)(p q:Nat),H a=some (.cells (w.flatMap SV.cells))->H q=some (.cells [.int .i64 0,.int .i64 0,.int .i64 0,.str .empty,.i 0 [] true,.int .i64 0,.int .i64 0,.i 0 [] true,.i 0 [] true,.i 0 [] true,.i 0 [] true])->Al prog H p .append [22,22] [.sl a 0 11 w.length false,.sl q 0 11 1 true]=some { val:=.sl p 0 11 (w.length+1) false,upd:=some (a,none),new:=some (.cells (w.flatMap SV.cells++[.int .i64 0,.int .i64 0,.int .i64 0,.str .empty,.i 0 [] true,.int .i64 0,.int .i64 0,.i 0 [] true,.i 0 [] true,.i 0 [] true,.i 0 [] true])) }:=λH p q h1 h2=>
       G4 (P:=prog) (es:=w) (e:=.agg [.int .i64 0,.int .i64 0,.int .i64 0,.str .empty,.i 0 [] true,.int .i64 0,.int .i64 0,.i 0 [] true,.i 0 [] true,.i 0 [] true,.i 0 [] true]) (t:=22) (t2:=22) (el:=70) (z:=11) (by simp[go_sem]) (by simp[go_sem]) (by simp[go_sem]) (by simp) (by simp[go_sem]) (by simp[go_sem]) (by simp[go_sem]) (by omega) L rfl h2 h1 p rfl
      have dr:List.drop (w.length*11+11) (w.flatMap SV.cells++[.int .i64 0,.int .i64 0,.int .i64 0,.str .empty,.i 0 [] true,.int .i64 0,.int .i64 0,.i 0 [] true,.i 0 [] true,.i 0 [] true,.i 0 [] true])=[]:=Vk (by simp[flL]);simp[↓Ac,↓Am,↓Cb,go_sem,AD,AE,N,gL,wpu,b1,AW,apS,oj,flL,lt1,dr,j0,j1,j3,j5,e0,W,I,e4]
      repeat first|refine nd (by simp[Bo,DZ,CU,Aq,Region.binds]<;>omega) ?_|refine sq ?_|refine aq ?_
      refine d.fin f (some (m+1+1)) S (by omega) (by(repeat rw[AE _ _ (by omega)]);exact N) (by rw[qc,r,AD];simp[AW]) (by(repeat rw[AE _ _ (by omega)]);exact d.right) (by(repeat rw[AE _ _ (by omega)]);exact AD _ _ _) (by rw[qc,r];exact L.push (j:=m+1+1) (m':=m+1+1+1) (AB.E.st _) (AB.E.len _) (by omega) (by omega)) (d.accR.mono (by omega)) (λj e=>.inr (by cases e;omega)) (λj e=>.inl e) (λj e g=>by cases e;have:=(d.accR.lt _ g).2;omega) (λj e=>by cases e;rw[qc,r,AE _ _ (by omega),AD];simp[qw,SV.cells]) (λj e=>by have:=d.accR.lt j e;have hne:j≠a:=(λg=>by exact d.ne a rfl (by rw[<-g];exact e));(repeat rw[AE _ _ (by omega)]);exact d.objR j e) (λo K g2=>?_) _
      . have C:¬((n<=o/\o<=n+3)\/some a=some o\/S=some o):=by have:=K;rw[d.dom]at this;exact this
        have hne:o≠a:=λg=>C (by rw[g];simp);have h3:¬(n<=o/\o<=n+3):=λg=>C (.inl g)
        (repeat rw[AE _ _ (by omega)])
  . by_cases b2:u<=p
    . have hst:B7 u (CV l u k) (p,y)=((CV l u k).1,(CV l u k).2++[y]):=by simp[B7,b1,b2]
      rw[hst]at f;rcases S with _|b
      . have Q:=M.none rfl;simp[↓Ac,↓Am,↓Cb,go_sem,AD,AE,N,gR,wpu,b1,b2,AW,apN0,e0,W,e2,I]
        repeat first|refine nd (by simp[Bo,DZ,CU,Aq,Region.binds]<;>omega) ?_|refine sq ?_|refine aq ?_
        refine d.fin f T (some (m+1+1)) (by omega) (by(repeat rw[AE _ _ (by omega)]);exact N) (by(repeat rw[AE _ _ (by omega)]);exact d.left) (by rw[qc,s,AD];simp[AW,Q]) (by(repeat rw[AE _ _ (by omega)]);exact AD _ _ _) (d.accL.mono (by omega)) (by rw[qc,s];exact M.push (j:=m+1+1) (m':=m+1+1+1) (AB.E.st _) (AB.E.len _) (by omega) (by omega)) (λj e=>.inl e) (λj e=>.inr (by cases e;omega)) (λj e g=>by cases g;have:=(d.accL.lt _ e).2;omega) (λj e=>by have:=d.accL.lt j e;(repeat rw[AE _ _ (by omega)]);exact d.objL j e) (λj e=>by cases e;rw[qc,s,AE _ _ (by omega),AD];simp[qw,SV.cells,Q]) (λo K g2=>?_) _
        . have C:¬((n<=o/\o<=n+3)\/T=some o\/none=some o):=by have:=K;rw[d.dom]at this;exact this
          have h3:¬(n<=o/\o<=n+3):=λg=>C (.inl g)
          (repeat rw[AE _ _ (by omega)])
      . have oj:=oR' b rfl;have jlt:=M.lt b rfl;have j0:b≠m:=by omega
        have j1:b≠m+1:=by omega
        have j2:b≠m+1+1:=by omega
        have j3:b≠n+3:=by omega
        have j4:b≠n+1:=by omega
        have j5:n+1≠b:=by omega
        have j6:n+2≠b:=by omega
        have j7:n+3≠b:=by omega
        have j8:b≠n+2:=by omega
        have lt1:(A.length:Int)<A.length+1:=by omega
        have apS:∀(H:Hp)(p q:Nat),H b=some (.cells (A.flatMap SV.cells))->H q=some (.cells [.int .i64 0,.int .i64 0,.int .i64 0,.str .empty,.i 0 [] true,.int .i64 0,.int .i64 0,.i 0 [] true,.i 0 [] true,.i 0 [] true,.i 0 [] true])->Al prog H p .append [22,22] [.sl b 0 11 A.length false,.sl q 0 11 1 true]=some { val:=.sl p 0 11 (A.length+1) false,upd:=some (b,none),new:=some (.cells (A.flatMap SV.cells++[.int .i64 0,.int .i64 0,.int .i64 0,.str .empty,.i 0 [] true,.int .i64 0,.int .i64 0,.i 0 [] true,.i 0 [] true,.i 0 [] true,.i 0 [] true])) }:=λH p q h1 h2=>
         G4 (P:=prog) (es:=A) (e:=.agg [.int .i64 0,.int .i64 0,.int .i64 0,.str .empty,.i 0 [] true,.int .i64 0,.int .i64 0,.i 0 [] true,.i 0 [] true,.i 0 [] true,.i 0 [] true]) (t:=22) (t2:=22) (el:=70) (z:=11) (by simp[go_sem]) (by simp[go_sem]) (by simp[go_sem]) (by simp) (by simp[go_sem]) (by simp[go_sem]) (by simp[go_sem]) (by omega) M rfl h2 h1 p rfl
        have dr:List.drop (A.length*11+11) (A.flatMap SV.cells++[.int .i64 0,.int .i64 0,.int .i64 0,.str .empty,.i 0 [] true,.int .i64 0,.int .i64 0,.i 0 [] true,.i 0 [] true,.i 0 [] true,.i 0 [] true])=[]:=Vk (by simp[flR]);simp[↓Ac,↓Am,↓Cb,go_sem,AD,AE,N,gR,wpu,b1,b2,AW,apS,oj,flR,lt1,dr,j0,j1,j3,j6,e0,W,e2,I]
        repeat first|refine nd (by simp[Bo,DZ,CU,Aq,Region.binds]<;>omega) ?_|refine sq ?_|refine aq ?_
        refine d.fin f T (some (m+1+1)) (by omega) (by(repeat rw[AE _ _ (by omega)]);exact N) (by(repeat rw[AE _ _ (by omega)]);exact d.left) (by rw[qc,s,AD];simp[AW]) (by(repeat rw[AE _ _ (by omega)]);exact AD _ _ _) (d.accL.mono (by omega)) (by rw[qc,s];exact M.push (j:=m+1+1) (m':=m+1+1+1) (AB.E.st _) (AB.E.len _) (by omega) (by omega)) (λj e=>.inl e) (λj e=>.inr (by cases e;omega)) (λj e g=>by cases g;have:=(d.accL.lt _ e).2;omega) (λj e=>by have:=d.accL.lt j e;have hne:j≠b:=(λg=>by exact d.ne j e (by rw[g]));(repeat rw[AE _ _ (by omega)]);exact d.objL j e) (λj e=>by cases e;rw[qc,s,AE _ _ (by omega),AD];simp[qw,SV.cells]) (λo K g2=>?_) _
        . have C:¬((n<=o/\o<=n+3)\/T=some o\/some b=some o):=by have:=K;rw[d.dom]at this;exact this
          have hne:o≠b:=λg=>C (by rw[g];simp);have h3:¬(n<=o/\o<=n+3):=λg=>C (.inl g)
          (repeat rw[AE _ _ (by omega)])
    . have hst:B7 u (CV l u k) (p,y)=((CV l u k).1++[y.C_ (y.x.extract 0 (Be y.x (u-p)).1.toNat)],(CV l u k).2++[y.C_ (y.x.extract (Be y.x (u-p)).1.toNat y.x.size)]):=by simp[B7,b1,b2]
      rw[hst]at f;have wcp:IntKind.i64.wrap (u-p)=u-p:=by rw[DA]<;>omega
      simp[↓Ac,↓Am,go_sem,AD,AE,N,wpu,b1,b2,e0,I,wcp];refine qz (gh _ _ hyt) ?_;have O:=Q4 y.x (u-p);generalize(Be y.x (u-p)).1=c at *;generalize(Be y.x (u-p)).2=c2 at *;have e8:n≠m+1+1+1+1:=by omega
      have e9:n≠m+1+1+1+1+1:=by omega
      rcases T with _|a
      . rcases S with _|b
        . have F:=L.none rfl;have U:=X [AA y.k,AA y.code,AA y.id,.str (y.x.extract 0 c.toNat),AU y.H.Q,AA y.H.I,AA y.H.move,Ax y.H.Y,Ai y.H.Z,AK y.W,Aw y.R] rfl;have G:=M.none rfl;have V:=X [AA y.k,AA y.code,AA y.id,.str (y.x.extract c.toNat y.x.size),AU y.H.Q,AA y.H.I,AA y.H.move,Ax y.H.Y,Ai y.H.Z,AK y.W,Aw y.R] rfl;simp[↓Ac,↓Am,go_sem,AD,AE,gL,gR,AW,e0,W,e2,I,e4,e5,e6,e8,O.1,O.2,U,V]
          repeat first|refine nd (by simp[Bo,DZ,CU,Aq,Region.binds]<;>omega) ?_|refine sq ?_|refine aq ?_
          refine d.fin f (some (m+1+1+1)) (some (m+1+1+1+1+1)) (by omega) (by(repeat rw[AE _ _ (by omega)]);exact N) (by rw[qc,r];(try rw[AE _ _ (by omega)]);rw[AD];(try simp[AW,F])) (by rw[qc,s];(try rw[AE _ _ (by omega)]);rw[AD];(try simp[AW,G])) (by(repeat rw[AE _ _ (by omega)]);exact AD _ _ _) (by rw[qc,r];exact L.push (j:=m+1+1+1) (m':=m+1+1+1+1+1+1) (AB.E.st _) (AB.E.len _) (by omega) (by omega)) (by rw[qc,s];exact M.push (j:=m+1+1+1+1+1) (m':=m+1+1+1+1+1+1) (AB.E.st _) (AB.E.len _) (by omega) (by omega)) (λj e=>.inr (by cases e;omega)) (λj e=>.inr (by cases e;omega)) (λj e g=>by cases e;injection g with g;omega) (λj e=>by cases e;rw[qc,r];(repeat rw[AE _ _ (by omega)]);rw[AD];(try simp[qw,AB.C_,AB.k,AB.code,AB.id,AB.x,AB.H,AB.W,AB.R,SV.cells,F])) (λj e=>by cases e;rw[qc,s];(repeat rw[AE _ _ (by omega)]);rw[AD];(try simp[qw,AB.C_,AB.k,AB.code,AB.id,AB.x,AB.H,AB.W,AB.R,SV.cells,G])) (λo K g2=>?_) _
          . have C:¬((n<=o/\o<=n+3)\/none=some o\/none=some o):=by have:=K;rw[d.dom]at this;exact this
            have h3:¬(n<=o/\o<=n+3):=λg=>C (.inl g)
            (repeat rw[AE _ _ (by omega)])
        . have F:=L.none rfl;have U:=X [AA y.k,AA y.code,AA y.id,.str (y.x.extract 0 c.toNat),AU y.H.Q,AA y.H.I,AA y.H.move,Ax y.H.Y,Ai y.H.Z,AK y.W,Aw y.R] rfl;have ojR:=oR' b rfl;have jltR:=M.lt b rfl;have jR0:b≠m:=by omega
          have kR0:m≠b:=by omega
          have jR1:b≠m+1:=by omega
          have kR1:m+1≠b:=by omega
          have jR2:b≠m+1+1:=by omega
          have kR2:m+1+1≠b:=by omega
          have jR3:b≠m+1+1+1:=by omega
          have kR3:m+1+1+1≠b:=by omega
          have jR4:b≠m+1+1+1+1:=by omega
          have kR4:m+1+1+1+1≠b:=by omega
          have jR5:b≠m+1+1+1+1+1:=by omega
          have kR5:m+1+1+1+1+1≠b:=by omega
          have pR0:b≠n:=by omega
          have qR0:n≠b:=by omega
          have pR1:b≠n+1:=by omega
          have qR1:n+1≠b:=by omega
          have pR2:b≠n+2:=by omega
          have qR2:n+2≠b:=by omega
          have pR3:b≠n+3:=by omega
          have qR3:n+3≠b:=by omega
          have V:∀(H:Hp)(p q:Nat),H b=some (.cells (A.flatMap SV.cells))->H q=some (.cells [AA y.k,AA y.code,AA y.id,.str (y.x.extract c.toNat y.x.size),AU y.H.Q,AA y.H.I,AA y.H.move,Ax y.H.Y,Ai y.H.Z,AK y.W,Aw y.R])->Al prog H p .append [22,22] [.sl b 0 11 A.length false,.sl q 0 11 1 true]=some { val:=.sl p 0 11 (A.length+1) false,upd:=some (b,none),new:=some (.cells (A.flatMap SV.cells++[AA y.k,AA y.code,AA y.id,.str (y.x.extract c.toNat y.x.size),AU y.H.Q,AA y.H.I,AA y.H.move,Ax y.H.Y,Ai y.H.Z,AK y.W,Aw y.R])) }:=λH p q h1 h2=>
           G4 (P:=prog) (es:=A) (e:=.agg [AA y.k,AA y.code,AA y.id,.str (y.x.extract c.toNat y.x.size),AU y.H.Q,AA y.H.I,AA y.H.move,Ax y.H.Y,Ai y.H.Z,AK y.W,Aw y.R]) (t:=22) (t2:=22) (el:=70) (z:=11) (by simp[go_sem]) (by simp[go_sem]) (by simp[go_sem]) (by simp) (by simp[go_sem]) (by simp[go_sem]) (by simp[go_sem]) (by omega) M rfl h2 h1 p rfl
          simp[↓Ac,↓Am,go_sem,AD,AE,gL,gR,AW,e0,W,e2,I,e4,e5,e6,e8,O.1,O.2,U,V,ojR,jR0,jR1,jR2,jR3,jR4,qR1,qR2,pR3]
          repeat first|refine nd (by simp[Bo,DZ,CU,Aq,Region.binds]<;>omega) ?_|refine sq ?_|refine aq ?_
          refine d.fin f (some (m+1+1+1)) (some (m+1+1+1+1+1)) (by omega) (by(repeat rw[AE _ _ (by omega)]);exact N) (by rw[qc,r];(try rw[AE _ _ (by omega)]);rw[AD];(try simp[AW,F])) (by rw[qc,s];(try rw[AE _ _ (by omega)]);rw[AD];(try simp[AW])) (by(repeat rw[AE _ _ (by omega)]);exact AD _ _ _) (by rw[qc,r];exact L.push (j:=m+1+1+1) (m':=m+1+1+1+1+1+1) (AB.E.st _) (AB.E.len _) (by omega) (by omega)) (by rw[qc,s];exact M.push (j:=m+1+1+1+1+1) (m':=m+1+1+1+1+1+1) (AB.E.st _) (AB.E.len _) (by omega) (by omega)) (λj e=>.inr (by cases e;omega)) (λj e=>.inr (by cases e;omega)) (λj e g=>by cases e;injection g with g;omega) (λj e=>by cases e;rw[qc,r];(repeat rw[AE _ _ (by omega)]);rw[AD];(try simp[qw,AB.C_,AB.k,AB.code,AB.id,AB.x,AB.H,AB.W,AB.R,SV.cells,F])) (λj e=>by cases e;rw[qc,s];(repeat rw[AE _ _ (by omega)]);rw[AD];(try simp[qw,AB.C_,AB.k,AB.code,AB.id,AB.x,AB.H,AB.W,AB.R,SV.cells])) (λo K g2=>?_) _
          . have C:¬((n<=o/\o<=n+3)\/none=some o\/some b=some o):=by have:=K;rw[d.dom]at this;exact this
            have hneR:o≠b:=λg=>C (by rw[g];simp);have h3:¬(n<=o/\o<=n+3):=λg=>C (.inl g)
            (repeat rw[AE _ _ (by omega)])
      . rcases S with _|b
        . have ojL:=oL' a rfl;have jltL:=L.lt a rfl;have jL0:a≠m:=by omega
          have kL0:m≠a:=by omega
          have jL1:a≠m+1:=by omega
          have kL1:m+1≠a:=by omega
          have jL2:a≠m+1+1:=by omega
          have kL2:m+1+1≠a:=by omega
          have jL3:a≠m+1+1+1:=by omega
          have kL3:m+1+1+1≠a:=by omega
          have jL4:a≠m+1+1+1+1:=by omega
          have kL4:m+1+1+1+1≠a:=by omega
          have jL5:a≠m+1+1+1+1+1:=by omega
          have kL5:m+1+1+1+1+1≠a:=by omega
          have pL0:a≠n:=by omega
          have qL0:n≠a:=by omega
          have pL1:a≠n+1:=by omega
          have qL1:n+1≠a:=by omega
          have pL2:a≠n+2:=by omega
          have qL2:n+2≠a:=by omega
          have pL3:a≠n+3:=by omega
          have qL3:n+3≠a:=by omega
          have U:∀(H:Hp)(p q:Nat),H a=some (.cells (w.flatMap SV.cells))->H q=some (.cells [AA y.k,AA y.code,AA y.id,.str (y.x.extract 0 c.toNat),AU y.H.Q,AA y.H.I,AA y.H.move,Ax y.H.Y,Ai y.H.Z,AK y.W,Aw y.R])->Al prog H p .append [22,22] [.sl a 0 11 w.length false,.sl q 0 11 1 true]=some { val:=.sl p 0 11 (w.length+1) false,upd:=some (a,none),new:=some (.cells (w.flatMap SV.cells++[AA y.k,AA y.code,AA y.id,.str (y.x.extract 0 c.toNat),AU y.H.Q,AA y.H.I,AA y.H.move,Ax y.H.Y,Ai y.H.Z,AK y.W,Aw y.R])) }:=λH p q h1 h2=>
           G4 (P:=prog) (es:=w) (e:=.agg [AA y.k,AA y.code,AA y.id,.str (y.x.extract 0 c.toNat),AU y.H.Q,AA y.H.I,AA y.H.move,Ax y.H.Y,Ai y.H.Z,AK y.W,Aw y.R]) (t:=22) (t2:=22) (el:=70) (z:=11) (by simp[go_sem]) (by simp[go_sem]) (by simp[go_sem]) (by simp) (by simp[go_sem]) (by simp[go_sem]) (by simp[go_sem]) (by omega) L rfl h2 h1 p rfl
          have G:=M.none rfl;have V:=X [AA y.k,AA y.code,AA y.id,.str (y.x.extract c.toNat y.x.size),AU y.H.Q,AA y.H.I,AA y.H.move,Ax y.H.Y,Ai y.H.Z,AK y.W,Aw y.R] rfl;simp[↓Ac,↓Am,go_sem,AD,AE,gL,gR,AW,e0,W,e2,I,e4,e5,e6,e8,O.1,O.2,U,ojL,jL0,jL1,kL1,jL2,qL1,qL2,pL3,V]
          repeat first|refine nd (by simp[Bo,DZ,CU,Aq,Region.binds]<;>omega) ?_|refine sq ?_|refine aq ?_
          refine d.fin f (some (m+1+1+1)) (some (m+1+1+1+1+1)) (by omega) (by(repeat rw[AE _ _ (by omega)]);exact N) (by rw[qc,r];(try rw[AE _ _ (by omega)]);rw[AD];(try simp[AW])) (by rw[qc,s];(try rw[AE _ _ (by omega)]);rw[AD];(try simp[AW,G])) (by(repeat rw[AE _ _ (by omega)]);exact AD _ _ _) (by rw[qc,r];exact L.push (j:=m+1+1+1) (m':=m+1+1+1+1+1+1) (AB.E.st _) (AB.E.len _) (by omega) (by omega)) (by rw[qc,s];exact M.push (j:=m+1+1+1+1+1) (m':=m+1+1+1+1+1+1) (AB.E.st _) (AB.E.len _) (by omega) (by omega)) (λj e=>.inr (by cases e;omega)) (λj e=>.inr (by cases e;omega)) (λj e g=>by cases e;injection g with g;omega) (λj e=>by cases e;rw[qc,r];(repeat rw[AE _ _ (by omega)]);rw[AD];(try simp[qw,AB.C_,AB.k,AB.code,AB.id,AB.x,AB.H,AB.W,AB.R,SV.cells])) (λj e=>by cases e;rw[qc,s];(repeat rw[AE _ _ (by omega)]);rw[AD];(try simp[qw,AB.C_,AB.k,AB.code,AB.id,AB.x,AB.H,AB.W,AB.R,SV.cells,G])) (λo K g2=>?_) _
          . have C:¬((n<=o/\o<=n+3)\/some a=some o\/none=some o):=by have:=K;rw[d.dom]at this;exact this
            have hneL:o≠a:=λg=>C (by rw[g];simp);have h3:¬(n<=o/\o<=n+3):=λg=>C (.inl g)
            (repeat rw[AE _ _ (by omega)])
        . have ojL:=oL' a rfl;have jltL:=L.lt a rfl;have jL0:a≠m:=by omega
          have kL0:m≠a:=by omega
          have jL1:a≠m+1:=by omega
          have kL1:m+1≠a:=by omega
          have jL2:a≠m+1+1:=by omega
          have kL2:m+1+1≠a:=by omega
          have jL3:a≠m+1+1+1:=by omega
          have kL3:m+1+1+1≠a:=by omega
          have jL4:a≠m+1+1+1+1:=by omega
          have kL4:m+1+1+1+1≠a:=by omega
          have jL5:a≠m+1+1+1+1+1:=by omega
          have kL5:m+1+1+1+1+1≠a:=by omega
          have pL0:a≠n:=by omega
          have qL0:n≠a:=by omega
          have pL1:a≠n+1:=by omega
          have qL1:n+1≠a:=by omega
          have pL2:a≠n+2:=by omega
          have qL2:n+2≠a:=by omega
          have pL3:a≠n+3:=by omega
          have qL3:n+3≠a:=by omega
          have U:∀(H:Hp)(p q:Nat),H a=some (.cells (w.flatMap SV.cells))->H q=some (.cells [AA y.k,AA y.code,AA y.id,.str (y.x.extract 0 c.toNat),AU y.H.Q,AA y.H.I,AA y.H.move,Ax y.H.Y,Ai y.H.Z,AK y.W,Aw y.R])->Al prog H p .append [22,22] [.sl a 0 11 w.length false,.sl q 0 11 1 true]=some { val:=.sl p 0 11 (w.length+1) false,upd:=some (a,none),new:=some (.cells (w.flatMap SV.cells++[AA y.k,AA y.code,AA y.id,.str (y.x.extract 0 c.toNat),AU y.H.Q,AA y.H.I,AA y.H.move,Ax y.H.Y,Ai y.H.Z,AK y.W,Aw y.R])) }:=λH p q h1 h2=>
           G4 (P:=prog) (es:=w) (e:=.agg [AA y.k,AA y.code,AA y.id,.str (y.x.extract 0 c.toNat),AU y.H.Q,AA y.H.I,AA y.H.move,Ax y.H.Y,Ai y.H.Z,AK y.W,Aw y.R]) (t:=22) (t2:=22) (el:=70) (z:=11) (by simp[go_sem]) (by simp[go_sem]) (by simp[go_sem]) (by simp) (by simp[go_sem]) (by simp[go_sem]) (by simp[go_sem]) (by omega) L rfl h2 h1 p rfl
          have ojR:=oR' b rfl;have jltR:=M.lt b rfl;have jR0:b≠m:=by omega
          have kR0:m≠b:=by omega
          have jR1:b≠m+1:=by omega
          have kR1:m+1≠b:=by omega
          have jR2:b≠m+1+1:=by omega
          have kR2:m+1+1≠b:=by omega
          have jR3:b≠m+1+1+1:=by omega
          have kR3:m+1+1+1≠b:=by omega
          have jR4:b≠m+1+1+1+1:=by omega
          have kR4:m+1+1+1+1≠b:=by omega
          have jR5:b≠m+1+1+1+1+1:=by omega
          have kR5:m+1+1+1+1+1≠b:=by omega
          have pR0:b≠n:=by omega
          have qR0:n≠b:=by omega
          have pR1:b≠n+1:=by omega
          have qR1:n+1≠b:=by omega
          have pR2:b≠n+2:=by omega
          have qR2:n+2≠b:=by omega
          have pR3:b≠n+3:=by omega
          have qR3:n+3≠b:=by omega
          have V:∀(H:Hp)(p q:Nat),H b=some (.cells (A.flatMap SV.cells))->H q=some (.cells [AA y.k,AA y.code,AA y.id,.str (y.x.extract c.toNat y.x.size),AU y.H.Q,AA y.H.I,AA y.H.move,Ax y.H.Y,Ai y.H.Z,AK y.W,Aw y.R])->Al prog H p .append [22,22] [.sl b 0 11 A.length false,.sl q 0 11 1 true]=some { val:=.sl p 0 11 (A.length+1) false,upd:=some (b,none),new:=some (.cells (A.flatMap SV.cells++[AA y.k,AA y.code,AA y.id,.str (y.x.extract c.toNat y.x.size),AU y.H.Q,AA y.H.I,AA y.H.move,Ax y.H.Y,Ai y.H.Z,AK y.W,Aw y.R])) }:=λH p q h1 h2=>
           G4 (P:=prog) (es:=A) (e:=.agg [AA y.k,AA y.code,AA y.id,.str (y.x.extract c.toNat y.x.size),AU y.H.Q,AA y.H.I,AA y.H.move,Ax y.H.Y,Ai y.H.Z,AK y.W,Aw y.R]) (t:=22) (t2:=22) (el:=70) (z:=11) (by simp[go_sem]) (by simp[go_sem]) (by simp[go_sem]) (by simp) (by simp[go_sem]) (by simp[go_sem]) (by simp[go_sem]) (by omega) M rfl h2 h1 p rfl
          have hLR:a≠b:=λg=>d.ne a rfl (by rw[g]);have hRL:b≠a:=hLR.symm;simp[↓Ac,↓Am,go_sem,AD,AE,gL,gR,AW,e0,W,e2,I,e4,e5,e6,e8,O.1,O.2,U,ojL,jL0,jL1,kL1,jL2,qL1,qL2,pL3,V,ojR,jR0,jR1,jR2,jR3,jR4,qR1,qR2,pR3,hRL]
          repeat first|refine nd (by simp[Bo,DZ,CU,Aq,Region.binds]<;>omega) ?_|refine sq ?_|refine aq ?_
          refine d.fin f (some (m+1+1+1)) (some (m+1+1+1+1+1)) (by omega) (by(repeat rw[AE _ _ (by omega)]);exact N) (by rw[qc,r];(try rw[AE _ _ (by omega)]);rw[AD];(try simp[AW])) (by rw[qc,s];(try rw[AE _ _ (by omega)]);rw[AD];(try simp[AW])) (by(repeat rw[AE _ _ (by omega)]);exact AD _ _ _) (by rw[qc,r];exact L.push (j:=m+1+1+1) (m':=m+1+1+1+1+1+1) (AB.E.st _) (AB.E.len _) (by omega) (by omega)) (by rw[qc,s];exact M.push (j:=m+1+1+1+1+1) (m':=m+1+1+1+1+1+1) (AB.E.st _) (AB.E.len _) (by omega) (by omega)) (λj e=>.inr (by cases e;omega)) (λj e=>.inr (by cases e;omega)) (λj e g=>by cases e;injection g with g;omega) (λj e=>by cases e;rw[qc,r];(repeat rw[AE _ _ (by omega)]);rw[AD];(try simp[qw,AB.C_,AB.k,AB.code,AB.id,AB.x,AB.H,AB.W,AB.R,SV.cells])) (λj e=>by cases e;rw[qc,s];(repeat rw[AE _ _ (by omega)]);rw[AD];(try simp[qw,AB.C_,AB.k,AB.code,AB.id,AB.x,AB.H,AB.W,AB.R,SV.cells])) (λo K g2=>?_) _
          . have C:¬((n<=o/\o<=n+3)\/some a=some o\/some b=some o):=by have:=K;rw[d.dom]at this;exact this
            have hneL:o≠a:=λg=>C (by rw[g];simp);have hneR:o≠b:=λg=>C (by rw[g];simp);have h3:¬(n<=o/\o<=n+3):=λg=>C (.inl g)
            (repeat rw[AE _ _ (by omega)])
 refine we (gz l Y hl hs (λo=>n<=o/\o<=n+3) _ _ ⟨none,none,?_⟩) ?_;exact⟨by omega,by rw[AE _ _ (by omega)];exact h0,by rw[AE _ _ (by omega)];exact h1,by rw[AE _ _ (by omega)];exact h2,AD _ _ _,by simp[CV];exact vA _ _ _,by simp[CV];exact vA _ _ _,by simp,by simp,by simp,by simp⟩;rintro _ h' m' ⟨v,hm,D',hDD,hh,hv⟩;rcases hv with⟨rfl,T,S,d⟩|⟨rfl,hX⟩
 . refine⟨_,_,d.loop,by simp,?_⟩;have hD':∀o,o<n->h' o=h o:=λo g=>by rw[hh o (λg'=>by have:n<=o/\o<=n+3:=g';omega) (by omega),AE _ _ (by omega),BV o g]
   have fin:∀hp:Hp,(∀o,o<n->hp o=h o)->(∀j,T=some j->hp j=h' j)->(∀j,S=some j->hp j=h' j)->CO n hp m' (.tup [AW 11 T ((CV l u l.length).1.map AB.e),AW 11 S ((CV l u l.length).2.map AB.e)]) (Is (.tup [AK (Ad l u).1,AK (Ad l u).2]) h n):=λhp K g2 g3=>by
    refine Dj 2 ho (λo y e=>by rw[K o (ho o y e).1];exact e) (.inr ⟨?_,?_,trivial⟩) (by simp[cc,ca,AB.E.ca]);refine AW.fz ho (n:=n) (m:=m') ⟨d.accL.none,λj e=>⟨by have:=(d.accL.lt j e).1;omega,(d.accL.lt j e).2⟩,d.accL.size⟩ λj y e=>?_;cases hoL:T with
    | none=>rw[hoL]at e;have:=(ho j y e).1;rw[K j this];exact e
    | some i=>
     rw[hoL]at e;simp only[AV]at e;by_cases W:j=i;subst W;rw[AD]at e;rw[g2 j hoL,d.objL j hoL];exact e;rw[AE _ _ W]at e;have:=(ho j y e).1;rw[K j this];exact e
    refine AW.fz ho (n:=n) (m:=m') ⟨d.accR.none,λj e=>⟨by have:=(d.accR.lt j e).1;omega,(d.accR.lt j e).2⟩,d.accR.size⟩ λj y e=>?_;cases hoR:S with
    | none=>rw[hoR]at e;have:=(ho j y e).1;rw[K j this];exact e
    | some i=>
     rw[hoR]at e;simp only[AV]at e;by_cases W:j=i;subst W;rw[AD]at e;rw[g3 j hoR,d.objR j hoR];exact e;rw[AE _ _ W]at e;have:=(ho j y e).1;rw[K j this];exact e
   have gL:=d.left;have gR:=d.right;have ltL:=d.accL.lt;have ltR:=d.accR.lt;generalize(CV l u l.length).1.map AB.e=w at *;generalize(CV l u l.length).2.map AB.e=A at *;rcases T with _|a<;>rcases S with _|b
   all_goals
    simp[go_sem,AD,AE,gL,gR,AW]
    repeat first|refine nd (by simp[Bo,DZ,CU,Aq,Region.binds];done) ?_|refine sq ?_|refine aq ?_
    refine fin _ (λo g=>?_) (λj e=>?_) (λj e=>?_);rw[AE _ _ (by omega),AE _ _ (by omega),AE _ _ (by omega)];exact hD' o g;have:=(ltL j e).1;rw[AE _ _ (by omega),AE _ _ (by omega),AE _ _ (by omega)];have:=(ltR j e).1;rw[AE _ _ (by omega),AE _ _ (by omega),AE _ _ (by omega)]
 exact hX.elim
end Go.Proofs.YtgakninlhfkkmaaGreat.Sh
