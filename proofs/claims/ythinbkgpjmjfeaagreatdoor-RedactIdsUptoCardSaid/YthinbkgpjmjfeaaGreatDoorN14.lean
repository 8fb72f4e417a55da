/- A part of the proof (part 14 of 17). -/
import Derived.Test.YthinbkgpjmjfeaaGreatDoorN13
namespace Go.Proofs.YthinbkgpjmjfeaaGreatDoor.Sh
open Go.Proofs.Tryz
abbrev ub:=@AB.hdL_eq
abbrev wM:=@AB.gmL_eq
abbrev wN:=@AL.gm_eq
abbrev wU:=@AF.gm_eq
abbrev ws:=@AB.gm_eq
open Proofs
set_option maxRecDepth 10000
set_option maxHeartbeats 4000000
def Hm(K:Ck)(key id:Int):Int:=
 if key=20 then(if id=0\/Kn K.m0 id=some 1 then 0 else 25)
 else if key=1 then(if id=0\/Kn K.m0 id=some 2 then 0 else 25)
 else if key=33 then(if id=0\/id∈K.m1 then 0 else 26)else 0
section
variable{K:Ck}{n0:Nat}
theorem fj(l:K.ok n0)(s:GK)(a id:Int){H:Hp}{n:Nat}(t:∀o y,K.st s o=some y->H o=some y):
 BP prog 150 [.ptr K.p 0,AA a,AA id] H n (Is (AA (Hm K a id)) H n):=by
 obtain⟨V,c⟩:∃V,V=Hm K a id:=⟨_,rfl⟩
 rw[<-c];refine gq func150 rfl λr=>?_;obtain⟨hp,h0,h1,h2,h3,h4⟩:=l.has t;have fin:∀(e:Int)(m:Nat),e=V->Ce n H m (AA e) (Is (AA V) H n):=λe m q=>Ar r rfl (by rw[q]);simp only[Ck.cells]at hp;have h:a=20\/a=1\/(a≠20/\a≠1):=by omega
 rcases h with e|e|⟨e,i⟩
 by_cases b:id=0;simp[go_sem,e,b];refine(Kc _ _).use ?_;simp[go_sem];refine fin _ _ ?_;rw[c];simp[Hm,e,b];rcases JH id K.m0 0 with⟨f,g⟩|⟨j,k,f,g⟩
 simp[go_sem,e,b,hp,h0,f,BQ];refine(Kc _ _).use ?_;simp[go_sem];refine fin _ _ ?_;rw[c];simp[Hm,e,b,g];simp[go_sem,e,b,hp,h0,f,BQ];refine(Kc _ _).use ?_;simp[go_sem];refine fin _ _ ?_;rw[c];simp[Hm,e,b,g];by_cases b:id=0;simp[go_sem,e,b];refine(Kc _ _).use ?_;simp[go_sem];refine fin _ _ ?_;rw[c];simp[Hm,e,b];rcases JH id K.m0 0 with⟨f,g⟩|⟨j,k,f,g⟩
 simp[go_sem,e,b,hp,h0,f,BQ];refine(Kc _ _).use ?_;simp[go_sem];refine fin _ _ ?_;rw[c];simp[Hm,e,b,g];simp[go_sem,e,b,hp,h0,f,BQ];refine(Kc _ _).use ?_;simp[go_sem];refine fin _ _ ?_;rw[c];simp[Hm,e,b,g];by_cases d:a=33;by_cases b:id=0;simp[go_sem,d,b];refine(Kc _ _).use ?_;simp[go_sem];refine fin _ _ ?_;rw[c];simp[Hm,d,b];by_cases hm:id∈K.m1;obtain⟨j,f,_⟩:=D4 0 hm;simp[go_sem,d,b,hp,h1,f,BQ];refine(Kc _ _).use ?_;simp[go_sem];refine fin _ _ ?_;rw[c];simp[Hm,d,b,hm];have f:=Ek 0 hm;simp[go_sem,d,b,hp,h1,f,BQ];refine(Kc _ _).use ?_;simp[go_sem];refine fin _ _ ?_;rw[c];simp[Hm,d,b,hm];simp[go_sem,e,i,d];refine fin _ _ ?_;rw[c];simp[Hm,e,i,d]
end
section
variable{K:Ck}{n0:Nat}
def MU(K:Ck)(el:Int)(ls:List A3)(i:Nat):Int:=match ls[i]? with
 | none=>0
 | some x=>
  if decide (x.rev∈K.m2)=false then 22 else if Q5 el x.key=false then 4
  else if(decide (0<i)&&decide (x.key<(ls.getD (i-1) x).key))=true then 6
  else if x.had=false then(if x.before=0 then 0 else 21)else BL [ET x.key x.before,Hm K x.key x.before]
theorem j7(r:K.ok n0)(s:GK)(el:Int)(c:List A3)(hls:c.length<=1048576)(i:Nat)(hi:i<c.length){H:Hp}{n:Nat}(hn:n0<=n)(A:∀o y,K.st s o=some y->H o=some y):
 BP prog 152 [.ptr K.p 0,AA el,AN c,AA i] H n (Is (AA (MU K el c i)) H n):=by
 obtain⟨V,a⟩:∃V,V=MU K el c i:=⟨_,rfl⟩
 rw[<-a];refine FF func152 rfl λu=>?_;obtain⟨x,C⟩:∃x,c[i]=x:=⟨_,rfl⟩
 rw[MU,qk hi,C]at a;dsimp only at a;obtain⟨g,Mi⟩:∃g,g=(decide (0<i)&&decide (x.key<(c.getD (i-1) x).key)):=⟨_,rfl⟩
 rw[<-Mi]at a;obtain⟨hp,_,_,h2,_,_⟩:=r.has A;simp only[Ck.cells]at hp;have hKp:K.p<n:=by have:=r.lt K.p mr;omega
 have hKs:K.s2<n:=by have:=r.lt K.s2 mr;omega
 have d:=u.lt;have out:∀(e:Int)(m:Nat),V=e->Ce n H m (AA e) (Is (AA V) H n):=λe m F=>Ar u rfl (by rw[F]);refine Al 0 [(0,.ptr K.p 0),(1,AA el),(2,AN c),(3,AA i)] H n ?_ (λm hm=>?_);simp[go_sem,Or];subst hm;refine As 1 [(0,.ptr K.p 0),(1,AA el),(2,AN c),(3,AA i),(9,.q [AA x.rev,AA x.key,AA x.before,.bool x.had])] H n ?_ (λm hm=>?_);simp[go_sem,Or,hi,C,A3.h,AE];exact⟨Ap (Ai d (IO _)) (AE _ _ _),AW d (AW d AC)⟩;refine CH 0 [(0,.ptr K.p 0),(9,.q [AA x.rev,AA x.key,AA x.before,.bool x.had])] H (λm=>n<=m/\V=BL [ET x.key x.before,Hm K x.key x.before]) ?_ (λm hm=>?_)
 . refine AP ?_;refine As 0 [(0,.ptr K.p 0),(1,AA el),(2,AN c),(3,AA i),(9,.q [AA x.rev,AA x.key,AA x.before,.bool x.had]),(14,.bool (!decide (x.rev∈K.m2)))] H n ?_ (λm hm=>?_)
   . by_cases hr:x.rev∈K.m2
     . obtain⟨j,f,_⟩:=D4 0 hr;simp[go_sem,Or,hp,h2,f,BQ,hm,hr]
       repeat first|refine nq ?_|refine sq ?_|refine aq ?_
       first|exact(nd mu trivial).1|exact(sd mu trivial).1
     . have f:=Ek 0 hr;simp[go_sem,Or,hp,h2,f,BQ,hm,hr]
       repeat first|refine nq ?_|refine sq ?_|refine aq ?_
       first|exact(nd mu trivial).1|exact(sd mu trivial).1
   cases hb:decide (x.rev∈K.m2)with
   | false=>exact AK (by simp[go_sem];exact out 22 _ (by rw[a,hb];rfl))
   | true=>
   refine BD (b:=false) ms ?_;rw[hb]at a;simp only[qt,Bool.true_eq_false,if_false]at a ⊢;obtain⟨l,IZ⟩:∃l,l=Q5 el x.key:=⟨_,rfl⟩
   rw[<-IZ]at a;refine As 0 [(0,.ptr K.p 0),(1,AA el),(2,AN c),(3,AA i),(9,.q [AA x.rev,AA x.key,AA x.before,.bool x.had]),(23,.bool (!l))] H n ?_ (λm hm=>?_);simp[go_sem];refine(fq _ _).use ?_;simp[go_sem,Or,hm,IZ];cases l with
   | false=>exact AK (by simp[go_sem];exact out 4 _ (by rw[a];rfl))
   | true=>
   refine BD (b:=false) ms ?_;simp only[qt,Bool.true_eq_false,if_false]at a ⊢;refine As 0 [(0,.ptr K.p 0),(9,.q [AA x.rev,AA x.key,AA x.before,.bool x.had]),(29,.bool g)] H n ?_ (λm hm=>?_)
   . by_cases t:0<i
     . have k:i-1<c.length:=by omega
       obtain⟨y,D⟩:∃y,c[i-1]=y:=⟨_,rfl⟩
       have e:g=decide (x.key<y.key):=by rw[Mi];simp[t,List.getD,k,D]
       have w:IntKind.i64.wrap ((i:Int)-1)=((i-1:Nat):Int):=by rw[EU]<;>omega
       simp[go_sem,Or,t,w,k,D,A3.h,hm,e]
       repeat first|refine nq ?_|refine sq ?_|refine aq ?_
       first|exact(nd mu trivial).1|exact(sd mu trivial).1
     . have e:g=false:=by rw[Mi];simp[t]
       simp[go_sem,Or,t,hm,e]
       repeat first|refine nq ?_|refine sq ?_|refine aq ?_
       first|exact(nd mu trivial).1|exact(sd mu trivial).1
   cases g with
   | true=>exact AK (by simp[go_sem];exact out 6 _ (by rw[a];rfl))
   | false=>
   refine BD (b:=false) ms ?_;simp only[qt,if_false]at a ⊢;refine AK ?_;cases hh:x.had with
   | false=>
    rw[hh]at a;simp[go_sem];refine(Kc _ _).use ?_;simp[go_sem];refine out _ _ ?_;rw[a];simp
   | true=>
    rw[hh]at a;simp[go_sem,Or];exact⟨hm,a⟩
 refine AV 0 (α:=Unit) (λ_=>[(8,AA V)]) (λ_=>H) (λ_ m=>n<=m) (CN trL rfl mu mu ?_) (λ_ m hm=>?_);obtain⟨hm,a⟩:=hm;simp[go_sem,trL];refine(cX _ _).use ?_;simp[go_sem];refine qM (fj r s x.key x.before A) ?_;generalize Hm K x.key x.before=e at a;generalize ET x.key x.before=e1 at a;rintro v E n' ⟨rfl,rfl,rfl⟩;simp[go_sem];refine wW (bs:=[.y 1 ([e1,e].map AA) false]) (h2:=E) 1 (AW (λj z e=>by have:=d j z e;omega) AC) ⟨?_,trivial⟩ ?_;exact E7 (es:=[AA e1,AA e]) (Ai d hm) mr (by rw[AE];simp[SV.cells]) (by simp[SV.B,SV.cells]);refine(SO _ mr).use ?_;simp[go_sem,Or,a];omega;refine AK ?_;simp[go_sem];exact out _ _ rfl
theorem j6(f:K.ok n0)(s:GK)(el c mv:Int)(d:SV)(a:List A3)(b:a.length<=1048576)(i:Nat)(hi:i<a.length){H:Hp}{n:Nat}(g:n0<=n)(j:∀o y,K.st s o=some y->H o=some y):
 BP prog 151 [AA i,.q [.ptr K.p 0],.q [AA el],.q [AA c,AA mv,d,AN a]] H n (Is (AA (MU K el a i)) H n):=by
 refine gq func151 rfl λh=>?_;simp[go_sem];refine qM (j7 f s el a b i hi g j) ?_;generalize MU K el a i=e;rintro v H' n' ⟨rfl,rfl,rfl⟩;simp[go_sem];exact Ar h rfl rfl
theorem gE(_hK:K.ok n0)(s:GK)(N:Nat)(hN:N<=1048576)(g:FuncId)(a b:List SV)(F:Nat->Int)
 (step:∀i H n,i<N->n0<=n->(∀o y,K.st s o=some y->H o=some y)->BP prog g (a++[AA i]++b) H n (Is (AA (F i)) H n))
 {H:Hp} {n:Nat} (hn:n0<=n) (p:∀o y,K.st s o=some y->H o=some y):
 BP prog 143 [AA N,.fn (.func g) a b] H n (Is (AA (CI F N)) H n):=by
 obtain⟨V,h⟩:∃V,V=CI F N:=⟨_,rfl⟩
 rw[<-h];refine gq func143 rfl λl=>?_;simp[go_sem];refine BC 0 (α:=Nat) (λq=>[(1,.fn (.func g) a b),(7,AA N),(8,AA q)]) (λ_=>H) (λq m=>q<=N/\n<=m/\CI F q=0) (λq=>N-q) 0 ?_ ?_ ?_ ?_;exact⟨qj _,IO _,rfl⟩;simp[look,Fz];exact AC;rintro i m ⟨hi,j,hI⟩;by_cases c:i<N;have r:=wS i mq;have k:=step i H m c mq p;simp only[qr,qB,qI]at k;simp[go_sem,c];refine qM k ?_;obtain⟨e,d⟩:∃e,F i=e:=⟨_,rfl⟩
 rw[d];rintro v H' n' ⟨rfl,rfl,rfl⟩;by_cases f:e=0;subst f;simp[go_sem,r,-Int.natCast_add];exact⟨i+1,by omega,⟨by omega,j,by rw[CI,my hI];exact d⟩,rfl⟩;simp[go_sem,f];exact Ar l rfl (by rw[h,Ew F c hI (by rw[d];exact f),d]);have:i=N:=by omega
 subst this;simp[go_sem];exact Ar l rfl (by rw[h,hI])
end
section
variable{K:Ck}{n0:Nat}
def GG(K:Ck)(h:AG):Bool:=decide (h.I≠0) && !decide (h.I∈K.m2)
def Ir(h:AG):Bool:=!decide (0<=h.move/\h.move<=1073741824)||(decide (h.move≠0)&&decide (h.I=0))
def Ja(K:Ck)(l:List Di)(j:Nat):Int:=match l[j]? with
 | none=>0
 | some x=>if decide (x.rev∈K.m2)=false then 22 else if(decide (0<j)&&decide (x.rev<=(l.getD (j-1) x).rev))=true then 6 else if 0<=x.move/\x.move<=1073741824 then 0 else 21
def MV(K:Ck)(l:List Fp)(j:Nat):Int:=match l[j]? with
 | none=>0
 | some p=>Hm K p.key p.value
def Dv(K:Ck)(el:Int)(h:AG):Int:=
 if C8 el h.Q≠0 then C8 el h.Q else if CI (MV K h.Q) h.Q.length≠0 then CI (MV K h.Q) h.Q.length
 else if GG K h=true then 22 else if Ir h=true then 21 else if 16<h.Y.length then 9
 else if CI (Ja K h.Y) h.Y.length≠0 then CI (Ja K h.Y) h.Y.length
 else if 64<h.Z.length then 9 else CI (MU K el h.Z) h.Z.length
theorem Zh(B:K.ok n0)(s:GK)(el:Int)(hd:AG)(L:hd.l){H:Hp}{n:Nat}(hn:n0<=n)(U:∀o y,K.st s o=some y->H o=some y):
 BP prog 82 [.ptr K.p 0,AA el,hd.h] H n (Is (AA (Dv K el hd)) H n):=by
 obtain⟨V,d⟩:∃V,V=Dv K el hd:=⟨_,rfl⟩
 rw[<-d];rw[Dv]at d;refine FF func82 rfl λho=>?_;obtain⟨hp,_,_,h2,_,_⟩:=B.has U;simp only[Ck.cells]at hp;have hKp:K.p<n:=by have:=B.lt K.p mr;omega
 have hKs:K.s2<n:=by have:=B.lt K.s2 mr;omega
 have a:=ho.lt;have C:∀(e:Int)(N:Hp)(m:Nat),V=e->(∀j y,H j=some y->N j=some y)->Ce n N m (AA e) (Is (AA V) H n):=λe N m u hh=>Rb (T:=λv=>v=AA V) ho hh (by simp[C_]) (by rw[u]);have out:∀(e:Int)(m:Nat),V=e->Ce n H m (AA e) (Is (AA V) H n):=λe m u=>C e H m u AC;refine As 1 [(3,.q [.ptr K.p 0]),(4,.q [AA el]),(5,.q hd.j)] H n ?_ (λm hm=>?_);simp[go_sem,AG.h,AG.j,qq];refine⟨⟨Ap (Ai a mq) (by simp[h_]),Ap (Ai a mq) (by simp[h_]),Ap (Ai a mq) (by simp[h_])⟩,λj y=>?_⟩;have:=a j y;simp only[h_];grind;refine CH 0 [(3,.q [.ptr K.p 0]),(4,.q [AA el]),(5,.q hd.j)] H (λm=>n<=m/\C8 el hd.Q=0) (AK ?_) (λm hm=>?_);simp[go_sem,AG.j];refine(fi el hd.Q L.Q).use ?_;by_cases t:C8 el hd.Q=0;simp[go_sem,t,Or,hm];simp[go_sem,t];exact out _ _ (by rw[d,my t]);obtain⟨hm,t⟩:=hm;rw[mw (by rw[t];simp)]at d;refine CH 0 [(3,.q [.ptr K.p 0]),(4,.q [AA el]),(5,.q hd.j)] H (λm=>n<=m/\CI (MV K hd.Q) hd.Q.length=0) ?_ (λm hm=>?_);refine As 0 [(3,.q [.ptr K.p 0]),(4,.q [AA el]),(5,.q hd.j),(22,AO hd.Q),(23,AA hd.Q.length),(24,AA 0)] H n ?_ (λm hm=>?_);simp[go_sem,Or,AG.j,hm];refine AP (Aq 0 (α:=Nat) (λi=>[(3,.q [.ptr K.p 0]),(4,.q [AA el]),(5,.q hd.j),(22,AO hd.Q),(23,AA hd.Q.length),(24,AA i)]) (λ_=>H) (λi m=>i<=hd.Q.length/\n<=m/\CI (MV K hd.Q) i=0) (λi=>hd.Q.length-i) 0 ⟨qj _,hm,rfl⟩ ?_ AC ?_);simp[go_sem,look,Or];rintro i m ⟨hi,hm,hI⟩;refine AK ?_;by_cases g:i<hd.Q.length;obtain⟨x,M⟩:∃x,hd.Q[i]=x:=⟨_,rfl⟩
 obtain⟨e,u⟩:∃e,Hm K x.key x.value=e:=⟨_,rfl⟩
 have O:MV K hd.Q i=e:=by rw[MV,qk g,M];exact u
 have X:IntKind.i64.wrap ((i:Int)+1)=((i+1:Nat):Int):=by have:=L.Q;rw[EU]<;>omega
 simp[go_sem,g,M,Fp.h,AE];refine qM (fj B s x.key x.value (UI B.clo.lt mq _ (UI B.clo.lt mq _ U))) ?_;rw[u];rintro v H' n' ⟨rfl,rfl,rfl⟩;by_cases t:e=0;subst t;simp[go_sem,X,-Int.natCast_add];refine⟨i+1,by omega,⟨by omega,by omega,by rw[CI,my hI];exact O⟩,by simp[Or],AW (λj z e=>by have:=a j z e;omega) (AW (λj z e=>by have:=a j z e;omega) AC)⟩;have P:CI (MV K hd.Q) hd.Q.length=e:=by rw[Ew _ g hI (by rw[O];exact t),O]
 simp[go_sem,t];exact C e _ _ (by rw[d,P,my t]) (AW (λj z e=>by have:=a j z e;omega) (AW (λj z e=>by have:=a j z e;omega) AC));have e:i=hd.Q.length:=by omega
 subst e;simp[go_sem,Or,hm,hI];obtain⟨hm,a2⟩:=hm;rw[mw (by rw[a2];simp)]at d;refine As 1 [(3,.q [.ptr K.p 0]),(4,.q [AA el]),(11,.q [AA hd.I,AA hd.move,AX hd.Y,AN hd.Z])] H n ?_ (λm hm=>?_);simp[go_sem,Or,AG.j,AE];have r:∀j y,H j=some y->j<m:=λj y e=>by have:=a j y e;omega
 exact⟨by omega,Ap (Ai r (IO _)) (AE _ _ _),AW r (AW r AC)⟩;refine CH 0 [(3,.q [.ptr K.p 0]),(4,.q [AA el]),(11,.q [AA hd.I,AA hd.move,AX hd.Y,AN hd.Z])] H (λm=>n<=m/\GG K hd=false/\Ir hd=false/\¬16<hd.Y.length) ?_ (λm hm=>?_)
 . refine AP ?_;obtain⟨b1,Sx⟩:∃b,b=GG K hd:=⟨_,rfl⟩
   obtain⟨E,IZ⟩:∃b,b=Ir hd:=⟨_,rfl⟩
   rw[<-Sx,<-IZ]at d;rw[<-Sx,<-IZ];refine As 0 [(3,.q [.ptr K.p 0]),(4,.q [AA el]),(11,.q [AA hd.I,AA hd.move,AX hd.Y,AN hd.Z]),(40,.bool b1)] H n ?_ (λm hm=>?_)
   . by_cases k:hd.I=0
     . have e:b1=false:=by rw[Sx,GG];simp[k]
       simp[go_sem,Or,k,hm,e]
       repeat first|refine nq ?_|refine sq ?_|refine aq ?_
       first|exact(nd mu trivial).1|exact(sd mu trivial).1
     . by_cases hr:hd.I∈K.m2
       . have e:b1=false:=by rw[Sx,GG];simp[hr]
         obtain⟨j,f,_⟩:=D4 0 hr;simp[go_sem,Or,k,hp,h2,f,BQ,hm,e]
         repeat first|refine nq ?_|refine sq ?_|refine aq ?_
         first|exact(nd mu trivial).1|exact(sd mu trivial).1
       . have e:b1=true:=by rw[Sx,GG];simp[hr,k]
         have f:=Ek 0 hr;simp[go_sem,Or,k,hp,h2,f,BQ,hm,e]
         repeat first|refine nq ?_|refine sq ?_|refine aq ?_
         first|exact(nd mu trivial).1|exact(sd mu trivial).1
   cases b1 with
   | true=>exact AK (by simp[go_sem];exact out 22 _ (by rw[d];rfl))
   | false=>
   refine BD (b:=false) ms ?_;simp only[qt,if_false]at d ⊢;refine As 0 [(3,.q [.ptr K.p 0]),(4,.q [AA el]),(11,.q [AA hd.I,AA hd.move,AX hd.Y,AN hd.Z]),(54,.bool E)] H n ?_ (λm hm=>?_);simp[go_sem];refine(LQ _ _ _).use ?_;by_cases c:0<=hd.move/\hd.move<=1073741824;by_cases m0:hd.move=0;have e:E=false:=by rw[IZ,Ir];simp[m0]
   simp[go_sem,Or,m0,hm,e];by_cases k:hd.I=0;have e:E=true:=by rw[IZ,Ir];simp[m0,k]
   simp[go_sem,Or,c,m0,k,hm,e];have e:E=false:=by rw[IZ,Ir];simp[c,k]
   simp[go_sem,Or,c,m0,beq_eq_false_iff_ne.2 k,hm,e];have e:E=true:=by rw[IZ,Ir,decide_eq_false c];rfl
   simp[go_sem,Or,c,hm,e];cases E with
   | true=>exact AK (by simp[go_sem];exact out 21 _ (by rw[d];rfl))
   | false=>
   refine BD (b:=false) ms ?_;simp only[qt,if_false]at d ⊢;refine AK ?_;by_cases c:(16:Int)<hd.Y.length;simp[go_sem,c];exact out 9 _ (by rw[d,my mq]);simp[go_sem,c,Or,hm];omega
 obtain⟨hm,Sx,IZ,R⟩:=hm;rw[Sx,IZ,mw R]at d;simp only[qt,if_false]at d;refine CH 0 [(3,.q [.ptr K.p 0]),(4,.q [AA el]),(11,.q [AA hd.I,AA hd.move,AX hd.Y,AN hd.Z])] H (λm=>n<=m/\CI (Ja K hd.Y) hd.Y.length=0) ?_ (λm hm=>?_)
 . refine As 0 [(3,.q [.ptr K.p 0]),(4,.q [AA el]),(11,.q [AA hd.I,AA hd.move,AX hd.Y,AN hd.Z]),(75,AX hd.Y),(76,AA hd.Y.length),(77,AA 0)] H n ?_ (λm hm=>?_);simp[go_sem,Or,hm];refine AP (Aq 0 (α:=Nat) (λi=>[(3,.q [.ptr K.p 0]),(4,.q [AA el]),(11,.q [AA hd.I,AA hd.move,AX hd.Y,AN hd.Z]),(75,AX hd.Y),(76,AA hd.Y.length),(77,AA i)]) (λ_=>H) (λi m=>i<=hd.Y.length/\n<=m/\CI (Ja K hd.Y) i=0) (λi=>hd.Y.length-i) 0 ⟨qj _,hm,rfl⟩ ?_ AC ?_);simp[go_sem,look,Or];rintro i m ⟨hi2,hm,hI⟩;by_cases g:i<hd.Y.length
   . obtain⟨x,M⟩:∃x,hd.Y[i]=x:=⟨_,rfl⟩
     obtain⟨F,Mi⟩:∃b,b=decide (x.rev∈K.m2):=⟨_,rfl⟩
     obtain⟨G,Vx⟩:∃b,b=(decide (0<i)&&decide (x.rev<=(hd.Y.getD (i-1) x).rev)):=⟨_,rfl⟩
     have A:Ja K hd.Y i=if F=false then 22 else if G=true then 6 else if 0<=x.move/\x.move<=1073741824 then 0 else 21:=by
      rw[Ja,qk g,M,Mi,Vx]
     have D:∀(e:Int)(m:Nat),e≠0->Ja K hd.Y i=e->Ce n H m (AA e) (Is (AA V) H n):=λe m t u=>by
      have P:CI (Ja K hd.Y) hd.Y.length=e:=by rw[Ew _ g hI (by rw[u];exact t),u]
      exact out e m (by rw[d,P,my t])
     have X:=wS i mq;refine As 0 [(3,.q [.ptr K.p 0]),(4,.q [AA el]),(11,.q [AA hd.I,AA hd.move,AX hd.Y,AN hd.Z]),(75,AX hd.Y),(76,AA hd.Y.length),(77,AA i),(78,.bool true)] H n ?_ (λm hm=>?_);simp[go_sem,Or,hm,g];refine As 0 [(3,.q [.ptr K.p 0]),(4,.q [AA el]),(11,.q [AA hd.I,AA hd.move,AX hd.Y,AN hd.Z]),(75,AX hd.Y),(76,AA hd.Y.length),(77,AA i)] H n ?_ (λm hm=>?_);simp[go_sem,Or,hm];refine CH 0 [(3,.q [.ptr K.p 0]),(4,.q [AA el]),(11,.q [AA hd.I,AA hd.move,AX hd.Y,AN hd.Z]),(75,AX hd.Y),(76,AA hd.Y.length),(77,AA i)] H (λm=>n<=m/\Ja K hd.Y i=0) ?_ (λm hm=>?_)
     . refine AP ?_;refine As 1 [(3,.q [.ptr K.p 0]),(4,.q [AA el]),(11,.q [AA hd.I,AA hd.move,AX hd.Y,AN hd.Z]),(75,AX hd.Y),(76,AA hd.Y.length),(77,AA i),(12,AA i),(13,.q [AA x.rev,AA x.move])] H n ?_ (λm hm=>?_);simp[go_sem,Or,g,M,Di.h,AE];have r:∀j y,H j=some y->j<m:=λj y e=>by have:=a j y e;omega
       exact⟨by omega,Ap (Ai r (IO _)) (AE _ _ _),AW r (AW r AC)⟩;refine AP ?_;refine As 0 [(3,.q [.ptr K.p 0]),(4,.q [AA el]),(11,.q [AA hd.I,AA hd.move,AX hd.Y,AN hd.Z]),(75,AX hd.Y),(76,AA hd.Y.length),(77,AA i),(12,AA i),(13,.q [AA x.rev,AA x.move]),(82,.bool (!F))] H n ?_ (λm hm=>?_)
       . by_cases hr:x.rev∈K.m2
         . have e:F=true:=by rw[Mi];simp[hr]
           obtain⟨j,f,_⟩:=D4 0 hr;simp[go_sem,Or,hp,h2,f,BQ,hm,e]
           repeat first|refine nq ?_|refine sq ?_|refine aq ?_
           first|exact(nd mu trivial).1|exact(sd mu trivial).1
         . have e:F=false:=by rw[Mi];simp[hr]
           have f:=Ek 0 hr;simp[go_sem,Or,hp,h2,f,BQ,hm,e]
           repeat first|refine nq ?_|refine sq ?_|refine aq ?_
           first|exact(nd mu trivial).1|exact(sd mu trivial).1
       cases F with
       | false=>exact AK (by simp[go_sem];exact D 22 _ (by decide) (by rw[A];rfl))
       | true=>
       refine BD (b:=false) ms ?_;simp only[qt,Bool.true_eq_false,if_false]at A ⊢;refine As 0 [(3,.q [.ptr K.p 0]),(4,.q [AA el]),(11,.q [AA hd.I,AA hd.move,AX hd.Y,AN hd.Z]),(75,AX hd.Y),(76,AA hd.Y.length),(77,AA i),(13,.q [AA x.rev,AA x.move]),(91,.bool G)] H n ?_ (λm hm=>?_)
       . by_cases k:0<i
         . have J:i-1<hd.Y.length:=by omega
           obtain⟨y,hy⟩:∃y,hd.Y[i-1]=y:=⟨_,rfl⟩
           have e:G=decide (x.rev<=y.rev):=by rw[Vx];simp[k,List.getD,J,hy]
           have w:IntKind.i64.wrap ((i:Int)-1)=((i-1:Nat):Int):=by rw[EU]<;>omega
           simp[go_sem,Or,k,w,J,hy,Di.h,hm,e]
           repeat first|refine nq ?_|refine sq ?_|refine aq ?_
           first|exact(nd mu trivial).1|exact(sd mu trivial).1
         . have e:G=false:=by rw[Vx];simp[k]
           simp[go_sem,Or,k,hm,e]
           repeat first|refine nq ?_|refine sq ?_|refine aq ?_
           first|exact(nd mu trivial).1|exact(sd mu trivial).1
       cases G with
       | true=>exact AK (by simp[go_sem];exact D 6 _ (by decide) (by rw[A];rfl))
       | false=>
       refine BD (b:=false) ms ?_;simp only[qt,if_false]at A ⊢;refine AK ?_;simp[go_sem];refine(LQ _ _ _).use ?_;by_cases c:0<=x.move/\x.move<=1073741824;rw[my c]at A;simp[go_sem,Or,c,hm,A];rw[mw c]at A;simp[go_sem,c];exact D 21 _ (by decide) A
     refine AK ?_;simp[go_sem,X,Or,-Int.natCast_add];exact⟨i+1,by omega,⟨by omega,hm.1,by rw[CI,my hI];exact hm.2⟩,rfl⟩
   have:i=hd.Y.length:=by omega
   subst this;refine AK ?_;simp[go_sem,Or,hm,hI]
 obtain⟨hm,a3⟩:=hm;rw[mw (by rw[a3];simp)]at d;refine CH 0 [(3,.q [.ptr K.p 0]),(4,.q [AA el]),(11,.q [AA hd.I,AA hd.move,AX hd.Y,AN hd.Z])] H (λm=>n<=m/\hd.Z.length<=64) (AK ?_) (λm hm=>?_);by_cases c:(64:Int)<hd.Z.length;simp[go_sem,c];exact out 9 _ (by rw[d,my mq]);simp[go_sem,c,Or,hm];omega;obtain⟨hm,hll⟩:=hm;rw[mw mq]at d;refine AK ?_;simp[go_sem];refine qM (gE B s hd.Z.length mq 151 [] [.q [.ptr K.p 0],.q [AA el],.q [AA hd.I,AA hd.move,AX hd.Y,AN hd.Z]] (MU K el hd.Z) (λi N n2 hi S W=>j6 B s el hd.I hd.move (AX hd.Y) hd.Z mq i hi S W) (H:=H) (n:=m) mq U) ?_;rw[<-d];rintro v H' n' ⟨rfl,rfl,rfl⟩;simp[go_sem];exact out _ _ rfl
end
def SQ(x:AB):Int:=if x.x=1 then(if Ci x.J then D9 x.J x.J.size else 0)else 1
def ZH:Nat->List AB->Int
 | 0,_=>0
 | N+1,l=>(l.map λx=>SQ x+if x.x=6 then ZH N x.W else if x.x=7 then(x.R.map λr=>(r.cells.map λc=>ZH N c.W).sum).sum else 0).sum
def br(N:Nat)(r:AL):Int:=(r.cells.map λc=>ZH N c.W).sum
def Vt(N:Nat)(x:AB):Int:=SQ x+if x.x=6 then ZH N x.W else if x.x=7 then(x.R.map (br N)).sum else 0
def gN(K:Ck):Nat->Cw->List AB->Prop
 | 0,_,_=>True
 | N+1,pl,l=>∀x∈l,Hi x=0/\(x.x=3->pl.body=true)/\(x.x=6->pl.note=false)/\(x.x=7->pl.tables<4)/\(x.x=8->1<=x.id/\x.id<=1073741824)/\Dv K x.x x.H=0/\
  (x.x=6->gN K N ⟨false,true,pl.tables⟩ x.W)/\
  (x.x=7->x.R≠[]/\x.R.length<=256/\∀r∈x.R,Dv K 9 r.H=0/\r.cells≠[]/\r.cells.length<=32/\∀c∈r.cells,Dv K 10 c.H=0/\gN K N ⟨false,pl.note,IntKind.i64.wrap (pl.tables+1)⟩ c.W)
def gC(K:Ck)(N:Nat)(pl:Cw)(c:AF):Prop:=Dv K 10 c.H=0/\gN K N pl c.W
def gh(K:Ck)(N:Nat)(pl:Cw)(r:AL):Prop:=Dv K 9 r.H=0/\r.cells≠[]/\r.cells.length<=32/\∀c∈r.cells,gC K N pl c
def jN(K:Ck)(N:Nat)(pl:Cw)(l:List AL):Prop:=l≠[]/\l.length<=256/\∀r∈l,gh K N pl r
def gI(K:Ck)(N:Nat)(pl:Cw)(x:AB):Prop:=Hi x=0/\(x.x=3->pl.body=true)/\(x.x=6->pl.note=false)/\(x.x=7->pl.tables<4)/\(x.x=8->1<=x.id/\x.id<=1073741824)/\Dv K x.x x.H=0/\
 (x.x=6->gN K N ⟨false,true,pl.tables⟩ x.W)/\(x.x=7->jN K N ⟨false,pl.note,IntKind.i64.wrap (pl.tables+1)⟩ x.R)
theorem Zs(K:Ck)(N:Nat)(a:Cw)(l:List AB):gN K (N+1) a l↔∀x∈l,gI K N a x:=Iff.rfl
def Ch(a ids:List Int):Prop:=(∀i∈ids,1<=i/\i<=1073741824/\i∉a)/\ids.Nodup
theorem Ey(a:List Int):Ch a []:=⟨by simp,List.nodup_nil⟩
theorem CE{a x y:List Int}:Ch a (x++y)↔Ch a x/\Ch (a++x) y:=by
 unfold Ch;rw[qu];constructor;rintro⟨h1,h2,b,f⟩;refine⟨⟨λi hi=>h1 i (qz _ hi),h2⟩,λi hi=>?_,b⟩;obtain⟨b1,c,d⟩:=h1 i (qx _ hi);refine⟨b1,c,λg=>?_⟩;rcases qd.1 g with g|g;exact d g;exact f i g i hi rfl;rintro⟨⟨h1,h2⟩,b,f⟩;refine⟨λi hi=>?_,h2,f,λi hi j h e=>?_⟩;rcases qd.1 hi with g|g;exact h1 i g;obtain⟨b1,c,d⟩:=b i g;exact⟨b1,c,λq=>d (qz _ q)⟩;subst e;exact(b i h).2.2 (qx _ hi)
theorem IA{a:List Int}{i:Int}:Ch a [i]↔1<=i/\i<=1073741824/\i∉a:=by simp[Ch]
structure Da(s:GK)(ids:List Int)(u:Int)(s':GK):Prop where
 ids:s'.1=s.1++ids
 rg:IntKind.i64.wrap s.2=s.2->IntKind.i64.wrap s'.2=s'.2
 un:IntKind.i64.wrap s'.2=IntKind.i64.wrap (s.2+u)
theorem Da.nil(s:GK):Da s [] 0 s:=⟨by simp,id,by rw[Int.add_zero]⟩
theorem Da.trans{s s1 s2:GK}{a b:List Int}{u v:Int}(h:Da s a u s1)(g:Da s1 b v s2):Da s (a++b) (u+v) s2:=
 ⟨by rw[g.ids,h.ids,qr],λr=>g.rg (h.rg r),by have h1:=h.un;have h2:=g.un;rw[IntKind.wrap_i64,IntKind.wrap_i64]at h1 h2 ⊢;omega⟩
theorem Da.to{s c:GK}{a b:List Int}{u v:Int}(h:Da s a u c)(e:a=b)(f:u=v):Da s b v c:=by subst e;subst f;exact h
theorem QV(x:Int):IntKind.i64.wrap (IntKind.i64.wrap x)=IntKind.i64.wrap x:=by simp only[IntKind.wrap_i64];omega
def Wy(s:GK)(ids:List Int)(u:Int)(G:Prop)(e:Int)(s':GK):Prop:=(e=0->G/\Ch s.1 ids/\Da s ids u s')/\(e≠0->¬(G/\Ch s.1 ids))
def exU(X:GK->Prop)(B:Prop)(e:Int)(s':GK):Prop:=(e=0->X s')/\(e≠0->B)
section
variable{K:Ck}{n0:Nat}
theorem Wh(a:K.ok n0)(s:GK)(id:Int){H:Hp}{n:Nat}(h:n0<=n)(b:∀o y,K.st s o=some y->H o=some y):
 BP prog 202 [.ptr K.p 0,AA id] H n (CQ K (Wy s [id] 0 True) H n):=by
 refine gq func202 rfl λi=>?_;obtain⟨hp,h0,h1,h2,c,d⟩:=a.has b;have no:∀(e:Int)(m:Nat),e≠0->¬Ch s.1 [id]->Ce n H m (AA e) (CQ K (Wy s [id] 0 True) H n):=λe m k l=>a.no h i s b e ⟨λg=>absurd g k,λ_ g=>l g.2⟩ AC;simp only[Ck.cells]at hp;by_cases r:1<=id/\id<=1073741824;have f4:CY (AA id) [] 0=some none:=rfl;by_cases hm:id∈s.1;obtain⟨j,f,_⟩:=D4 0 hm;simp[go_sem];refine(LQ _ _ _).use ?_;simp[go_sem,r,hp,d,c,f,BQ];exact no 7 _ (by decide) (λg=>(IA.1 g).2.2 hm);have f:=Ek 0 hm;simp[go_sem];refine(LQ _ _ _).use ?_;simp[go_sem,r,hp,d,c,f,BQ];refine a.ret h i 0 (s.1++[id],s.2) ⟨λ_=>⟨trivial,IA.2 ⟨r.1,r.2,hm⟩,⟨rfl,λq=>q,by rw[Int.add_zero]⟩⟩,λg=>absurd rfl g⟩ ?_;rw[a.up_ids s _ b,Np];exact AC;simp[go_sem];refine(LQ _ _ _).use ?_;simp[go_sem,r];exact no 18 _ (by decide) (λg=>r ⟨(IA.1 g).1,(IA.1 g).2.1⟩)
theorem gG(h:K.ok n0)(N:Nat)(hN:N<=1048576)(g:FuncId)(a b:List SV)(I:Nat->GK->Prop)(B:Prop)
 (step:∀i c H n,i<N->I i c->n0<=n->(∀o y,K.st c o=some y->H o=some y)->BP prog g (a++[AA i]++b) H n (CQ K (exU (I (i+1)) B) H n))
 (s:GK) (h0:I 0 s) {H:Hp} {n:Nat} (p:n0<=n) (t:∀o y,K.st s o=some y->H o=some y):
 BP prog 143 [AA N,.fn (.func g) a b] H n (CQ K (exU (I N) B) H n):=by
 have D:=h.clo;refine gq func143 rfl λr=>?_;simp[go_sem];refine BC 0 (α:=Nat×GK) (λq=>[(1,.fn (.func g) a b),(7,AA N),(8,AA q.1)]) (λq=>Az K.st q.2 H) (λq m=>q.1<=N/\n<=m/\I q.1 q.2) (λq=>N-q.1) (0,s) ?_ ?_ ?_ ?_;exact⟨qj _,IO _,h0⟩;simp[look,Fz];rw[DF s H t];exact AC;rintro⟨i,c⟩ m ⟨hi,j,hI⟩;dsimp only at hi hI ⊢;by_cases d:i<N;have u:=wS i mq;have l:=step i c (Az K.st c H) m d hI mq CV;simp only[qr,qB,qI]at l;simp[go_sem,d];refine qM l ?_;rintro v H' n' ⟨e,s2,rfl,k,rfl,rfl⟩;rw[D.up2];by_cases f:e=0;subst f;simp[go_sem,u,-Int.natCast_add];exact⟨i+1,by omega,s2.1,s2.2,⟨by omega,j,k.1 rfl⟩,rfl,AC⟩;simp[go_sem,f];exact h.ret p r e s2 ⟨λg=>absurd g f,λg=>k.2 g⟩ AC;have:i=N:=by omega
 subst this;simp[go_sem];exact h.ret p r 0 c ⟨λ_=>hI,λg=>absurd rfl g⟩ AC
def V6(K:Ck)(n0:Nat)(N:Nat)(x:AB):Prop:=∀(s:GK)(pl:Cw)(H:Hp)(n:Nat),n0<=n->(∀o y,K.st s o=some y->H o=some y)->
 BP prog 154 [.ptr K.p 0,x.h,pl.h] H n (CQ K (Wy s (HD N x) (Vt N x) (gI K N pl x)) H n)
def PR(K:Ck)(n0:Nat)(N:Nat)(l:List AB):Prop:=∀(s:GK)(pl:Cw)(H:Hp)(n:Nat),n0<=n->(∀o y,K.st s o=some y->H o=some y)->
 BP prog 84 [.ptr K.p 0,AH l,pl.h] H n (CQ K (Wy s (Jb N l) (ZH N l) (gN K N pl l)) H n)
theorem gJ(c:K.ok n0)(N:Nat)(l:List AB)(i:Nat)(hi:i<l.length)(h:V6 K n0 N l[i])(s:GK)(a:Cw){H:Hp}{n:Nat}(g:n0<=n)(k:∀o y,K.st s o=some y->H o=some y):
 BP prog 153 [AA i,.q [.ptr K.p 0],.q [AH l],.q [.bool a.body,.bool a.note,AA a.tables]] H n (CQ K (Wy s (HD N l[i]) (Vt N l[i]) (gI K N a l[i])) H n):=by
 refine FF func153 rfl λj=>?_;obtain⟨x,b⟩:∃x,l[i]=x:=⟨_,rfl⟩
 rw[b]at h ⊢;have hgx:(l.map AB.h)[i]? = some x.h:=by simp[hi,b]
 have D:=c.clo;refine As 0 [(0,AA i),(1,.q [.ptr K.p 0]),(2,.q [AH l]),(3,.q [.bool a.body,.bool a.note,AA a.tables])] H n ?_ (λm hm=>?_);simp[go_sem,Or];refine AV 0 (α:=Int×GK) (λq=>[(5,AA q.1)]) (λq=>Az K.st q.2 H) (λq m=>n<=m/\Wy s (HD N x) (Vt N x) (gI K N a x) q.1 q.2) (CN trP rfl mu mu ?_) (λq m hm=>?_);have d:=h s a H m mq k;simp only[qy,Cw.h]at d;simp[go_sem,trP,hi,b,qy];refine qM d ?_;rintro v H' n' ⟨e,s2,rfl,f,rfl,rfl⟩;simp[go_sem];exact⟨e,s2.1,s2.2,⟨by omega,f⟩,Or,AC⟩;refine AK ?_;simp[go_sem];exact c.ret g j q.1 q.2 hm.2 AC
theorem lI(f:K.ok n0)(N:Nat)(l:List AB)(B:l.length<=1048576)(h:∀x∈l,V6 K n0 N x):PR K n0 (N+1) l:=λs b H n C D=>by
 refine FF func84 rfl λu=>?_;have a:=u.lt;refine As 1 [(3,.q [.ptr K.p 0]),(4,.q [AH l]),(5,.q [.bool b.body,.bool b.note,AA b.tables])] H n ?_ (λm hm=>?_);simp[go_sem,Cw.h,qq];refine⟨⟨Ap (Ai a mq) (by simp[h_]),Ap (Ai a mq) (by simp[h_]),Ap (Ai a mq) (by simp[h_])⟩,λj y=>?_⟩;have:=a j y;simp only[h_];grind;have hd:=gG f l.length B 153 [] [.q [.ptr K.p 0],.q [AH l],.q [.bool b.body,.bool b.note,AA b.tables]]
  (λi r=>Da s ((l.take i).flatMap (HD N)) ((l.take i).map (Vt N)).sum r/\Ch s.1 ((l.take i).flatMap (HD N))/\∀x∈l.take i,gI K N b x) (¬(gN K (N+1) b l/\Ch s.1 (Jb (N+1) l))) (λi r H2 n2 hi hI g k=>by
  refine(gJ f N l i hi (h _ (qn hi)) r b g k).mono ?_;rintro v h' n' ⟨e,s2,rfl,d,rfl,rfl⟩;obtain⟨o,E,i3⟩:=hI;have z:l.take (i+1)=l.take i++[l[i]]:=qb hi;refine⟨e,s2,rfl,⟨λc=>?_,λc hg=>d.2 c ⟨(Zs ..).1 hg.1 _ (qn hi),?_⟩⟩,rfl,rfl⟩;obtain⟨h1,h2,A⟩:=d.1 c;rw[o.ids]at h2;refine⟨(o.trans A).to (EZ _ _ _ hi).symm (by rw[z,qc,List.sum_append];simp),by rw[EZ _ _ _ hi];exact CE.2 ⟨E,h2⟩,λx w=>?_⟩;rw[z]at w;exact ND i3 h1 x w;have t:=hg.2;rw[Ot,<-vY (i+1) l,qH,EZ _ _ _ hi,qr]at t;rw[o.ids];exact(CE.1 (CE.1 t).2).1) s ⟨Da.nil s,Ey _,by simp⟩ (H:=H) (n:=m) mq D
 refine AK ?_;simp[go_sem];refine qM hd ?_;rintro v H' n' ⟨e,s2,rfl,d,rfl,rfl⟩;simp[go_sem];refine f.ret C u e s2 ⟨λc=>?_,d.2⟩ AC;have:=d.1 c;rw[qp]at this;exact⟨this.2.2,this.2.1,this.1⟩
end
structure dP(pl:Cw)(x:AB):Prop where
 g3:x.x=3->pl.body=true
 g6:x.x=6->pl.note=false
 g7:x.x=7->pl.tables<4
 g8:x.x=8->1<=x.id/\x.id<=1073741824
theorem Da.one{s:GK}{c u:Int}(a:IntKind.i64.wrap c=IntKind.i64.wrap (s.2+u))(hr:IntKind.i64.wrap c=c):Da s [] u (s.1,c):=⟨by simp,λ_=>hr,a⟩
section
variable{K:Ck}{n0:Nat}
def aj(K:Ck)(n0:Nat)(N:Nat)(l:List AL):Prop:=∀(s:GK)(pl:Cw)(H:Hp)(n:Nat),n0<=n->(∀o y,K.st s o=some y->H o=some y)->
 BP prog 203 [.ptr K.p 0,Au l,pl.h] H n (CQ K (Wy s (l.flatMap (Ks N)) (l.map (br N)).sum (jN K N pl l)) H n)
theorem gK(t:K.ok n0)(N:Nat)(x:AB)(hx:x.l)(hfl:PR K n0 N x.W)(hrw:aj K n0 N x.R):V6 K n0 N x:=λs i H n hn hs=>by
 refine FF func154 rfl λT=>?_;have D:=t.clo;have hKp:K.p<n:=by have:=t.lt K.p mr;omega
 have hU:∀f,Hw (Az K.st f H) n:=λf=>D.old f hn T;have V:∀f j y,Az K.st f H j=some y->j<n:=λf j y e=>(hU f j y e).1;have hps:∀f,Az K.st f H K.p=some (.cells [.map K.s0,.map K.s1,.map K.s2,.map K.s3,.map K.s4,AA f.2]):=λf=>(t.has (s:=f) CV).p;have hcnt:∀(q:GK) b,h_ (Az K.st q H) K.p (some (.cells [.map K.s0,.map K.s1,.map K.s2,.map K.s3,.map K.s4,AA b]))=Az K.st (q.1,b) H:=λq b=>by rw[<-D.up2 q (q.1,b) H,t.up_cnt q b CV];rfl
 obtain⟨c,hc⟩:∃c,c=IntKind.i64.wrap (s.2+1):=⟨_,rfl⟩
 have A:Da s [] 1 (s.1,c):=Da.one (by rw[hc,QV]) (by rw[hc,QV]);have no:∀(e:Int)(f:GK)(m:Nat),e≠0->¬(gI K N i x/\Ch s.1 (HD N x))->Ce n (Az K.st f H) m (AA e) (CQ K (Wy s (HD N x) (Vt N x) (gI K N i x)) H n):=λe f m w hb=>t.ret hn T e f ⟨λg=>absurd g w,λ_=>hb⟩ AC;have G:∀(e:Int)(f:GK)(m:Nat),e≠0->¬dP i x->Ce n (Az K.st f H) m (AA e) (CQ K (Wy s (HD N x) (Vt N x) (gI K N i x)) H n):=λe f m w hb=>no e f m w λg=>hb ⟨g.1.2.1,g.1.2.2.1,g.1.2.2.2.1,g.1.2.2.2.2.1⟩;have noI:∀(e:Int)(f:GK)(m:Nat),e≠0->(x.x=6\/x.x=7)->¬Ch s.1 [x.id]->Ce n (Az K.st f H) m (AA e) (CQ K (Wy s (HD N x) (Vt N x) (gI K N i x)) H n):=λe f m w hk hb=>no e f m w λg=>hb (by
  have h2:=g.2;unfold HD at h2;rcases hk with k|k;rw[my k]at h2;exact(CE (x:=[x.id])).1 h2 |>.1;rw[mw mq,my k]at h2;exact(CE (x:=[x.id])).1 h2 |>.1)
 obtain⟨X,E⟩:∃X:SV,X=.q [AA x.x,AA x.code,AA x.id,.str x.J,AO x.H.Q,AA x.H.I,AA x.H.move,AX x.H.Y,AN x.H.Z,AH x.W,Au x.R]:=⟨_,rfl⟩
 obtain⟨Y,S⟩:∃Y:SV,Y=.q [.bool i.body,.bool i.note,AA i.tables]:=⟨_,rfl⟩
 refine As 1 [(0,.ptr K.p 0),(4,X),(5,Y)] (Az K.st s H) n ?_ (λm hm=>?_);rw[DF s H hs,E,S];have O:=T.lt;simp[go_sem,Or,Cw.h,qy];refine⟨by omega,⟨Ap (Ai O mq) (by simp[h_]),Ap (Ai O mq) (by simp[h_])⟩,λj y=>?_⟩;have:=O j y;simp only[h_];grind;refine CH 0 [(0,.ptr K.p 0),(4,X),(5,Y)] (Az K.st s H) (λm=>n<=m/\Hi x=0) (AK ?_) (λm hm=>?_);rw[E];simp[go_sem];refine qY (by simpa[qy]using kO x hx) ?_;obtain⟨e,w⟩:∃e,Hi x=e:=⟨_,rfl⟩
 rw[w];by_cases a:e=0;simp[go_sem,a,Or,hm];simp[go_sem,a];exact no e s _ a λg=>a (by rw[<-w];exact g.1.1);obtain⟨hm,o⟩:=hm;refine As 0 [(0,.ptr K.p 0),(4,X),(5,Y)] (Az K.st (s.1,c) H) n ?_ (λm hm=>?_);simp[go_sem,hps,Or,hm];rw[<-hc,DF s H hs,t.up_cnt s _ hs];exact AC;refine AV 0 (α:=GK) (λ_=>[(0,.ptr K.p 0),(4,X),(5,Y)]) (λq=>Az K.st q H) (λq m=>n<=m/\Da s (D8 x) (SQ x) q/\Ch s.1 (D8 x)/\dP i x) ?_ (λq m hm=>?_)
 . refine As 0 [(0,.ptr K.p 0),(4,X),(5,Y),(27,AA x.x)] (Az K.st (s.1,c) H) n ?_ (λm hm=>?_);rw[E];simp[go_sem,Or,hm];refine AP (AK ?_);by_cases k1:x.x=1;have L:D8 x=[]:=by simp[D8,k1]
   have og:dP i x:=⟨λg=>by omega,λg=>by omega,λg=>by omega,λg=>by omega⟩
   obtain⟨jM,hcn⟩:∃jM:Int,jM=if Ci x.J=true then((D9 x.J x.J.size:Nat):Int)else 0:=⟨_,rfl⟩
   have F:SQ x=jM:=by rw[SQ,my k1,hcn]
   rw[L,E,F];simp[go_sem,k1];refine(kA x.J (by have:=(EQ hx).2.1;omega)).use ?_;simp[go_sem,hps,Or];rw[hcnt];refine⟨s.1,_,⟨hm,?_,Ey _,og⟩,AC⟩;exact Da.one (by rw[hc,<-hcn];simp only[IntKind.wrap_i64];omega) (QV _)
   . by_cases k3:x.x=3;have L:D8 x=[]:=by simp[D8,k3]
     have F:SQ x=1:=by rw[SQ,mw mq]
     rw[L,E,S,F];cases hb:i.body with
     | true=>
      simp[go_sem,k3,Or];exact⟨s.1,_,⟨hm,A,Ey _,⟨λ_=>hb,λg=>by omega,λg=>by omega,λg=>by omega⟩⟩,AC⟩
     | false=>
      simp[go_sem,k3];exact G 19 _ _ (by decide) (λg=>by have:=g.g3 k3;rw[hb]at this;cases this)
     . by_cases k6:x.x=6
       . have L:D8 x=[x.id]:=by simp[D8,k6]
         have F:SQ x=1:=by rw[SQ,mw mq]
         rw[L,E,S,F];simp[go_sem,k6];refine(Kc _ _).use ?_;simp[go_sem];refine wW (bs:=[.y 1 ([if i.note then(19:Int)else 0].map AA) false]) (h2:=Az K.st (s.1,c) H) 1 (AW (λj z e=>by have:=V _ j z e;omega) AC) ⟨?_,trivial⟩ ?_;exact E7 (es:=[AA (if i.note then(19:Int)else 0)]) (Ai (V _) hm) mr (by rw[AE];simp[SV.cells]) (by simp[SV.B,SV.cells]);refine(SO _ mr).use ?_;cases hb:i.note with
         | true=>simp[go_sem,BL];exact G 19 _ _ (by decide) (λg=>by have:=g.g6 k6;rw[hb]at this;cases this)
         | false=>
         simp[go_sem,BL];refine qM (Wh t (s.1,c) x.id mq CV) ?_;rintro v H' n' ⟨e,s2,rfl,u,rfl,rfl⟩;rw[D.up2];by_cases a:e=0;obtain⟨_,h2,M⟩:=u.1 a;simp[go_sem,a,Or];exact⟨s2.1,s2.2,⟨by omega,(A.trans M).to rfl rfl,h2,⟨λg=>by omega,λ_=>hb,λg=>by omega,λg=>by omega⟩⟩,AC⟩;simp[go_sem,a];exact noI e _ _ a (.inl k6) (λg=>u.2 a ⟨trivial,g⟩)
       by_cases k7:x.x=7;have L:D8 x=[x.id]:=by simp[D8,k7]
       have F:SQ x=1:=by rw[SQ,mw mq]
       rw[L,E,S,F];by_cases tb:4<=i.tables;simp[go_sem,k7,tb];exact G 17 _ _ (by decide) (λg=>by have:=g.g7 k7;omega);simp[go_sem,k7,tb];refine qM (Wh t (s.1,c) x.id mq CV) ?_;rintro v H' n' ⟨e,s2,rfl,u,rfl,rfl⟩;rw[D.up2];by_cases a:e=0;obtain⟨_,h2,M⟩:=u.1 a;simp[go_sem,a,Or];exact⟨s2.1,s2.2,⟨by omega,(A.trans M).to rfl rfl,h2,⟨λg=>by omega,λg=>by omega,λ_=>by omega,λg=>by omega⟩⟩,AC⟩;simp[go_sem,a];exact noI e _ _ a (.inr k7) (λg=>u.2 a ⟨trivial,g⟩);have L:D8 x=[]:=by simp[D8,k6,k7]
       have F:SQ x=1:=by rw[SQ,mw mq]
       rw[L,E,S,F];by_cases k8:x.x=8;simp[go_sem,k8];refine(LQ _ _ _).use ?_;by_cases c8:1<=x.id/\x.id<=1073741824;simp[go_sem,c8,Or];exact⟨s.1,_,⟨hm,A,Ey _,⟨λg=>by omega,λg=>by omega,λg=>by omega,λ_=>c8⟩⟩,AC⟩;simp[go_sem,c8];exact G 18 _ _ (by decide) (λg=>c8 (g.g8 k8));simp[go_sem,k1,k3,k6,k7,k8,Or];exact⟨s.1,_,⟨hm,A,Ey _,⟨λg=>by omega,λg=>by omega,λg=>by omega,λg=>by omega⟩⟩,AC⟩
 obtain⟨hm,r,P,d⟩:=hm;refine CH 0 [(0,.ptr K.p 0),(4,X),(5,Y)] (Az K.st q H) (λm=>n<=m/\Dv K x.x x.H=0) (AK ?_) (λm hm=>?_);rw[E];simp[go_sem];refine qM (by simpa[AG.h,AG.j]using Zh t q x.x x.H (EQ hx).1 (n:=m) mq CV) ?_;obtain⟨e,w⟩:∃e,Dv K x.x x.H=e:=⟨_,rfl⟩
 rw[w];rintro v H' n' ⟨rfl,rfl,rfl⟩;by_cases a:e=0;simp[go_sem,a,Or,hm];simp[go_sem,a];exact no e _ _ a λg=>a (by rw[<-w];exact g.1.2.2.2.2.2.1);obtain⟨hm,hh⟩:=hm;refine CH 0 [] (Az K.st q H) (λm=>x.x≠6/\x.x≠7) (AK ?_) (λm hk=>?_);rw[E,S];by_cases k6:x.x=6;simp[go_sem,k6];refine qM (by simpa[Cw.h]using hfl q ⟨false,true,i.tables⟩ (Az K.st q H) m mq CV) ?_;rintro v H' n' ⟨e,s2,rfl,u,rfl,rfl⟩;rw[D.up2];simp[go_sem];have C:HD N x=D8 x++Jb N x.W:=by simp[D8,HD,k6]
 have U:Vt N x=SQ x+ZH N x.W:=by simp[Vt,k6]
 refine t.ret hn T e s2 ⟨λa=>?_,λa g=>u.2 a ⟨g.1.2.2.2.2.2.2.1 k6,?_⟩⟩ AC;obtain⟨h1,h2,M⟩:=u.1 a;rw[r.ids]at h2;exact⟨⟨o,d.g3,d.g6,d.g7,d.g8,hh,λ_=>h1,λh=>absurd h mq⟩,by rw[C];exact CE.2 ⟨P,h2⟩,(r.trans M).to C.symm U.symm⟩;have h2:=g.2;rw[C]at h2;rw[r.ids];exact(CE.1 h2).2;by_cases k7:x.x=7;simp[go_sem,k7];refine qM (by simpa[Cw.h]using hrw q ⟨false,i.note,IntKind.i64.wrap (i.tables+1)⟩ (Az K.st q H) m mq CV) ?_;rintro v H' n' ⟨e,s2,rfl,u,rfl,rfl⟩;rw[D.up2];simp[go_sem];have C:HD N x=D8 x++x.R.flatMap (Ks N):=by simp[D8,HD,k7]
 have U:Vt N x=SQ x+(x.R.map (br N)).sum:=by simp[Vt,k7]
 refine t.ret hn T e s2 ⟨λa=>?_,λa g=>u.2 a ⟨g.1.2.2.2.2.2.2.2 k7,?_⟩⟩ AC;obtain⟨h1,h2,M⟩:=u.1 a;rw[r.ids]at h2;exact⟨⟨o,d.g3,d.g6,d.g7,d.g8,hh,λh=>absurd h mq,λ_=>h1⟩,by rw[C];exact CE.2 ⟨P,h2⟩,(r.trans M).to C.symm U.symm⟩;have h2:=g.2;rw[C]at h2;rw[r.ids];exact(CE.1 h2).2;simp[go_sem,k6,k7];refine AK ?_;simp[go_sem];have C:HD N x=D8 x:=by simp[D8,HD,hk.1,hk.2]
 have U:Vt N x=SQ x:=by simp[Vt,hk.1,hk.2]
 exact t.ret hn T 0 q ⟨λ_=>⟨⟨o,d.g3,d.g6,d.g7,d.g8,hh,λh=>absurd h hk.1,λh=>absurd h hk.2⟩,by rw[C];exact P,r.to C.symm U.symm⟩,λg=>absurd rfl g⟩ AC
end
section
variable{K:Ck}{n0:Nat}
def jW(N:Nat)(c:AF):Int:=ZH N c.W
theorem Pm{a b c:Int}:BL [a,b,c]=0↔a=0/\b=0/\c=0:=by
 simp only[BL];by_cases d:a=0<;>by_cases hb:b=0<;>by_cases e:c=0<;>simp[d,hb,e]
theorem MB{α:Type}{f:α->List Int}{l:List α}{a:List Int}{i:Nat}(hi:i<l.length)(h:Ch a (l.flatMap f)):Ch (a++(l.take i).flatMap f) (f l[i]):=by
 rw[<-vY (i+1) l,qH,EZ _ _ _ hi,qr]at h;exact(CE.1 (CE.1 h).2).1
theorem SF{α:Type}(f:α->Int)(l:List α){i:Nat}(hi:i<l.length):((l.take (i+1)).map f).sum=((l.take i).map f).sum+f l[i]:=by
 rw[qb hi,qc,List.sum_append];simp
theorem gL(hK:K.ok n0)(N:Nat)(l:List AL)(hl:l.length<=1048576)(hr:∀r∈l,r.H.l/\r.cells.length<=1048576/\∀c∈r.cells,c.H.l/\PR K n0 N c.W):aj K n0 N l:=λs pl H n hn hs=>by
 refine FF func203 rfl λho=>?_;have D:=hK.clo;have hU:∀s',Hw (Az K.st s' H) n:=λs'=>D.old s' hn ho;have hUb:∀s' j y,Az K.st s' H j=some y->j<n:=λs' j y e=>(hU s' j y e).1;obtain⟨T,hT⟩:∃T,T=Wy s (l.flatMap (Ks N)) (l.map (br N)).sum (jN K N pl l):=⟨_,rfl⟩
 rw[<-hT];have no:∀(e:Int)(s':GK)(m:Nat),e≠0->¬(jN K N pl l/\Ch s.1 (l.flatMap (Ks N)))->Ce n (Az K.st s' H) m (AA e) (CQ K T H n):=λe s' m he hb=>hK.ret hn ho e s' (by rw[hT];exact⟨λg=>absurd g he,λ_=>hb⟩) AC;refine As 1 [(0,.ptr K.p 0),(1,Au l),(5,.q [.bool pl.body,.bool pl.note,AA pl.tables])] (Az K.st s H) n ?_ (λm hm=>?_);rw[DF s H hs];have hHb:=ho.lt;simp[go_sem,Or,Cw.h];exact⟨Ap (Ai hHb mq) (by simp[h_]),AW hHb AC⟩;refine CH 0 [(0,.ptr K.p 0),(1,Au l),(5,.q [.bool pl.body,.bool pl.note,AA pl.tables])] (Az K.st s H) (λm=>n<=m/\l≠[]) (AK ?_) (λm hm=>?_);by_cases c:l=[];simp[go_sem,c];exact no 11 _ _ (by decide) (λg=>g.1.1 c);simp[go_sem,c,Or,hm];obtain⟨hm,hne⟩:=hm;refine CH 0 [(0,.ptr K.p 0),(1,Au l),(5,.q [.bool pl.body,.bool pl.note,AA pl.tables])] (Az K.st s H) (λm=>n<=m/\l.length<=256) (AK ?_) (λm hm=>?_);by_cases c:(256:Int)<l.length;simp[go_sem,c];exact no 9 _ _ (by decide) (λg=>by have:=g.1.2.1;omega);simp[go_sem,c,Or,hm];omega;obtain⟨hm,hle⟩:=hm;refine AV 0 (α:=GK) (λ_=>[]) (λq=>Az K.st q H) (λq m=>n<=m/\Da s (l.flatMap (Ks N)) (l.map (br N)).sum q/\Ch s.1 (l.flatMap (Ks N))/\∀r∈l,gh K N pl r) ?_ (λq m hm=>?_)
 . refine As 0 [(0,.ptr K.p 0),(5,.q [.bool pl.body,.bool pl.note,AA pl.tables]),(21,Au l),(22,AA l.length),(23,AA 0)] (Az K.st s H) n ?_ (λm hm=>?_);simp[go_sem,Or,hm];refine AP (Aq 0 (α:=Nat×GK) (λq=>[(0,.ptr K.p 0),(5,.q [.bool pl.body,.bool pl.note,AA pl.tables]),(21,Au l),(22,AA l.length),(23,AA q.1)]) (λq=>Az K.st q.2 H) (λq m=>q.1<=l.length/\n<=m/\Da s ((l.take q.1).flatMap (Ks N)) ((l.take q.1).map (br N)).sum q.2/\Ch s.1 ((l.take q.1).flatMap (Ks N))/\∀r∈l.take q.1,gh K N pl r) (λq=>l.length-q.1) (0,s) ⟨qj _,hm,Da.nil s,Ey _,by simp⟩ ?_ AC ?_);simp[go_sem,look,Or];rintro⟨i,s1⟩ m ⟨hi,hm,hmo,hfr,hok⟩;dsimp only at hi hmo hfr hok ⊢;by_cases hlt:i<l.length
   . obtain⟨x,hx⟩:∃x,l[i]=x:=⟨_,rfl⟩
     have hxm:x∈l:=by rw[<-hx];exact qn hlt
     obtain⟨x1,x2,x3⟩:=hr x hxm;have hgx:(l.map AL.h)[i]? = some x.h:=by simp[hlt,hx]
     have w1:=wS i mq;have tk:=EZ (Ks N) l i hlt;have sk:=SF (br N) l hlt;rw[hx]at tk sk;have noR:∀(e:Int)(s':GK)(m:Nat),e≠0->¬(gh K N pl x/\Ch s1.1 (Ks N x))->Ce n (Az K.st s' H) m (AA e) (CQ K T H n):=λe s' m he hb=>no e s' m he λg=>hb ⟨g.1.2.2 x hxm,by
      have:=MB hlt g.2;rw[hx]at this;rw[hmo.ids];exact this⟩
     have tl:l.take (i+1)=l.take i++[x]:=by rw[qb hlt,hx]
     refine As 0 [(0,.ptr K.p 0),(5,.q [.bool pl.body,.bool pl.note,AA pl.tables]),(21,Au l),(22,AA l.length),(23,AA i),(24,.bool true)] (Az K.st s1 H) n ?_ (λm hm=>?_);simp[go_sem,Or,hm,hlt];refine As 0 [(0,.ptr K.p 0),(5,.q [.bool pl.body,.bool pl.note,AA pl.tables]),(21,Au l),(22,AA l.length),(23,AA i)] (Az K.st s1 H) n ?_ (λm hm=>?_);simp[go_sem,Or,hm];refine AV 0 (α:=GK) (λ_=>[(0,.ptr K.p 0),(5,.q [.bool pl.body,.bool pl.note,AA pl.tables]),(21,Au l),(22,AA l.length),(23,AA i)]) (λq=>Az K.st q H) (λq m=>n<=m/\Da s1 (Ks N x) (br N x) q/\Ch s1.1 (Ks N x)/\gh K N pl x) ?_ (λq m hm=>?_)
     . refine AP ?_;refine As 1 [(0,.ptr K.p 0),(5,.q [.bool pl.body,.bool pl.note,AA pl.tables]),(21,Au l),(22,AA l.length),(23,AA i),(8,.q (x.H.j++[BS x.cells]))] (Az K.st s1 H) n ?_ (λm hm=>?_);simp[go_sem,Or,hlt,hx,qR,AG.j,AE];have hHm:∀j y,Az K.st s1 H j=some y->j<m:=λj y e=>by have:=hUb _ j y e;omega
       exact⟨by omega,Ap (Ai hHm (IO _)) (AE _ _ _),AW hHm (AW hHm AC)⟩;have hd:=Zh hK s1 9 x.H x1 (H:=Az K.st s1 H) (n:=m) mq CV;obtain⟨e9,he9⟩:∃e9,Dv K 9 x.H=e9:=⟨_,rfl⟩
       rw[he9]at hd;obtain⟨ef,hef⟩:∃ef,ef=BL [e9,if x.cells=[]then(11:Int)else 0,if 32<(x.cells.length:Int)then(9:Int)else 0]:=⟨_,rfl⟩
       refine CH 0 [(0,.ptr K.p 0),(5,.q [.bool pl.body,.bool pl.note,AA pl.tables]),(21,Au l),(22,AA l.length),(23,AA i),(8,.q (x.H.j++[BS x.cells]))] (Az K.st s1 H) (λm=>n<=m/\e9=0/\x.cells≠[]/\x.cells.length<=32) ?_ (λm hm=>?_)
       . refine AV 0 (α:=Unit) (λ_=>[(0,.ptr K.p 0),(5,.q [.bool pl.body,.bool pl.note,AA pl.tables]),(21,Au l),(22,AA l.length),(23,AA i),(8,.q (x.H.j++[BS x.cells])),(9,AA ef)]) (λ_=>Az K.st s1 H) (λ_ m=>n<=m) (CN io rfl mu mu ?_) (λ_ m hm=>?_);simp[go_sem,io,AG.j];refine qM (by simpa[AG.h,AG.j]using hd) ?_;rintro v H' n' ⟨rfl,rfl,rfl⟩;simp[go_sem];refine(Kc _ _).use ?_;simp[go_sem];refine(Kc _ _).use ?_;simp[go_sem];generalize(if x.cells=[]then(11:Int)else 0)=ea at hef ⊢;generalize(if 32<(x.cells.length:Int)then(9:Int)else 0)=eb at hef ⊢;refine wW (bs:=[.y 1 ([e9,ea,eb].map AA) false]) (h2:=Az K.st s1 H) 1 (AW (λj z e=>by have:=hUb s1 j z e;omega) AC) ⟨?_,trivial⟩ ?_;exact E7 (es:=[AA e9,AA ea,AA eb]) (Ai (hUb s1) hm) mr (by rw[AE];simp[SV.cells]) (by simp[SV.B,SV.cells]);refine(SO _ mr).use ?_;rw[<-hef];simp[go_sem,Or];omega;have hz:=hef▸(Pm (a:=e9) (b:=if x.cells=[]then(11:Int)else 0) (c:=if 32<(x.cells.length:Int)then(9:Int)else 0));by_cases e80:ef=0
         case neg=>
          refine AK ?_;simp[go_sem,e80];refine noR ef _ _ e80 λg=>e80 (hz.2 ⟨by rw[<-he9];exact g.1.1,mw g.1.2.1,mw (by have:=g.1.2.2.1;omega)⟩)
         obtain⟨z1,z2,z3⟩:=hz.1 e80;have z2':x.cells≠[]:=λg=>by rw[my g]at z2;cases z2
         have z3':x.cells.length<=32:=by
          by_cases g:32<(x.cells.length:Int);rw[my g]at z3;cases z3;omega
         rw[e80];exact AK (by simp[go_sem,Or,hm,z1,z2',z3'])
       obtain⟨hm,hhd⟩:=hm;refine As 0 [(0,.ptr K.p 0),(5,.q [.bool pl.body,.bool pl.note,AA pl.tables]),(21,Au l),(22,AA l.length),(23,AA i),(47,BS x.cells),(48,AA x.cells.length),(49,AA 0)] (Az K.st s1 H) n ?_ (λm hm=>?_);simp[go_sem,Or,AG.j,hm];refine AP (Aq 0 (α:=Nat×GK) (λq=>[(0,.ptr K.p 0),(5,.q [.bool pl.body,.bool pl.note,AA pl.tables]),(21,Au l),(22,AA l.length),(23,AA i),(47,BS x.cells),(48,AA x.cells.length),(49,AA q.1)]) (λq=>Az K.st q.2 H) (λq m=>q.1<=x.cells.length/\n<=m/\Da s1 ((x.cells.take q.1).flatMap (Sz N)) ((x.cells.take q.1).map (jW N)).sum q.2/\Ch s1.1 ((x.cells.take q.1).flatMap (Sz N))/\∀c∈x.cells.take q.1,gC K N pl c) (λq=>x.cells.length-q.1) (0,s1) ⟨qj _,hm,Da.nil s1,Ey _,by simp⟩ ?_ AC ?_);simp[go_sem,look,Or];rintro⟨j,s2⟩ m ⟨hj,hm,hmo2,hfr2,hok2⟩;dsimp only at hj hmo2 hfr2 hok2 ⊢;by_cases hjt:j<x.cells.length;obtain⟨y,hy⟩:∃y,x.cells[j]=y:=⟨_,rfl⟩
       have hym:y∈x.cells:=by rw[<-hy];exact qn hjt
       obtain⟨y1,y2⟩:=x3 y hym;have w2:=wS j mq;have tk2:=EZ (Sz N) x.cells j hjt;have sk2:=SF (jW N) x.cells hjt;rw[hy]at tk2 sk2;have noC:∀(e:Int)(s':GK)(m:Nat),e≠0->¬(gC K N pl y/\Ch s2.1 (Sz N y))->Ce n (Az K.st s' H) m (AA e) (CQ K T H n):=λe s' m he hb=>noR e s' m he λg=>hb ⟨g.1.2.2.2 y hym,by
        have:=MB hjt (Zw N x▸g.2);rw[hy]at this;rw[hmo2.ids];exact this⟩
       have tl2:x.cells.take (j+1)=x.cells.take j++[y]:=by rw[qb hjt,hy]
       refine As 0 [(0,.ptr K.p 0),(5,.q [.bool pl.body,.bool pl.note,AA pl.tables]),(21,Au l),(22,AA l.length),(23,AA i),(47,BS x.cells),(48,AA x.cells.length),(49,AA j),(50,.bool true)] (Az K.st s2 H) n ?_ (λm hm=>?_);simp[go_sem,Or,hm,hjt];refine As 0 [(0,.ptr K.p 0),(5,.q [.bool pl.body,.bool pl.note,AA pl.tables]),(21,Au l),(22,AA l.length),(23,AA i),(47,BS x.cells),(48,AA x.cells.length),(49,AA j)] (Az K.st s2 H) n ?_ (λm hm=>?_);simp[go_sem,Or,hm];refine AV 0 (α:=GK) (λ_=>[(0,.ptr K.p 0),(5,.q [.bool pl.body,.bool pl.note,AA pl.tables]),(21,Au l),(22,AA l.length),(23,AA i),(47,BS x.cells),(48,AA x.cells.length),(49,AA j)]) (λq=>Az K.st q H) (λq m=>n<=m/\Da s2 (Sz N y) (jW N y) q/\Ch s2.1 (Sz N y)/\gC K N pl y) ?_ (λq m hm=>?_);refine AP ?_;refine As 1 [(0,.ptr K.p 0),(5,.q [.bool pl.body,.bool pl.note,AA pl.tables]),(21,Au l),(22,AA l.length),(23,AA i),(47,BS x.cells),(48,AA x.cells.length),(49,AA j),(11,.q ([AA y.id]++y.H.j++[AH y.W]))] (Az K.st s2 H) n ?_ (λm hm=>?_);simp[go_sem,Or,hjt,hy,vD,AG.j,AE];have hHm:∀j y,Az K.st s2 H j=some y->j<m:=λj y e=>by have:=hUb _ j y e;omega
       exact⟨by omega,Ap (Ai hHm (IO _)) (AE _ _ _),AW hHm (AW hHm AC)⟩;refine AV 0 (α:=GK) (λ_=>[(0,.ptr K.p 0),(5,.q [.bool pl.body,.bool pl.note,AA pl.tables]),(21,Au l),(22,AA l.length),(23,AA i),(47,BS x.cells),(48,AA x.cells.length),(49,AA j),(11,.q ([AA y.id]++y.H.j++[AH y.W]))]) (λq=>Az K.st q H) (λq m=>n<=m/\Da s2 [y.id] 0 q/\Ch s2.1 [y.id]) (AK ?_) (λq m hm=>?_);simp[go_sem];refine qM (Wh hK s2 y.id mq CV) ?_;rintro v H' n' ⟨e,s3,rfl,hT2,rfl,rfl⟩;rw[D.up2];by_cases e0:e=0;obtain⟨_,h2,h3⟩:=hT2.1 e0;simp[go_sem,e0,Or,AG.j];exact⟨s3.1,s3.2,⟨by omega,h3,h2⟩,AC⟩;simp[go_sem,e0];exact noC e _ _ e0 λg=>hT2.2 e0 ⟨trivial,((CE (x:=[y.id])).1 g.2).1⟩;obtain⟨hm,hq1,hq2⟩:=hm;refine CH 0 [(0,.ptr K.p 0),(5,.q [.bool pl.body,.bool pl.note,AA pl.tables]),(21,Au l),(22,AA l.length),(23,AA i),(47,BS x.cells),(48,AA x.cells.length),(49,AA j),(11,.q ([AA y.id]++y.H.j++[AH y.W]))] (Az K.st q H) (λm=>n<=m/\Dv K 10 y.H=0) (AK ?_) (λm hm=>?_);simp[go_sem,AG.j];refine qM (by simpa[AG.h,AG.j]using Zh hK q 10 y.H y1 (H:=Az K.st q H) (n:=m) mq CV) ?_;obtain⟨e,he⟩:∃e,Dv K 10 y.H=e:=⟨_,rfl⟩
       rw[he];rintro v H' n' ⟨rfl,rfl,rfl⟩;by_cases e0:e=0;simp[go_sem,e0,Or];omega;simp[go_sem,e0];exact noC e _ _ e0 λg=>e0 (by rw[<-he];exact g.1.1);obtain⟨hm,hh2⟩:=hm;refine AK ?_;simp[go_sem,AG.j];refine qM (by simpa[Cw.h]using y2 q pl (Az K.st q H) m mq CV) ?_;rintro v H' n' ⟨e,s3,rfl,hT2,rfl,rfl⟩;rw[D.up2];by_cases e0:e=0;obtain⟨h1,h2,h3⟩:=hT2.1 e0;simp[go_sem,e0,Or];rw[hq1.ids]at h2;exact⟨s3.1,s3.2,⟨by omega,(hq1.trans h3).to rfl (by rw[jW];omega),CE (x:=[y.id]) |>.2 ⟨hq2,h2⟩,hh2,h1⟩,AC⟩;simp[go_sem,e0];exact noC e _ _ e0 λg=>hT2.2 e0 ⟨g.1.2,by rw[hq1.ids];exact((CE (x:=[y.id])).1 g.2).2⟩;refine AK ?_;simp[go_sem,w2,Or,-Int.natCast_add];have h2:=hm.2.2.1;rw[hmo2.ids]at h2;refine⟨j+1,by omega,q.1,q.2,⟨by omega,hm.1,(hmo2.trans hm.2.1).to tk2.symm (by rw[<-wq];exact sk2.symm),by rw[tk2];exact CE.2 ⟨hfr2,h2⟩,λc hc=>?_⟩,rfl,AC⟩;rw[tl2]at hc;exact ND hok2 hm.2.2.2 c hc;have:j=x.cells.length:=by omega
       subst this;rw[qp]at hmo2 hok2 hfr2;refine AK ?_;simp[go_sem,Or];exact⟨s2.1,s2.2,⟨hm,hmo2,hfr2,by rw[he9];exact hhd.1,hhd.2.1,hhd.2.2,hok2⟩,AC⟩
     refine AK ?_;simp[go_sem,w1,Or,-Int.natCast_add];have h2:=hm.2.2.1;rw[hmo.ids]at h2;refine⟨i+1,by omega,q.1,q.2,⟨by omega,hm.1,(hmo.trans hm.2.1).to tk.symm (by rw[<-wq];exact sk.symm),by rw[tk];exact CE.2 ⟨hfr,h2⟩,λr hr=>?_⟩,rfl,AC⟩;rw[tl]at hr;exact ND hok hm.2.2.2 r hr
   have:i=l.length:=by omega
   subst this;rw[qp]at hmo hok hfr;refine AK ?_;simp[go_sem];exact⟨s1.1,s1.2,⟨hm,hmo,hfr,hok⟩,AC⟩
 refine AK ?_;simp[go_sem];exact hK.ret hn ho 0 q (by rw[hT];exact⟨λ_=>⟨⟨hne,hle,hm.2.2.2⟩,hm.2.2.1,hm.2.1⟩,λg=>absurd rfl g⟩) AC
theorem Pd(a:K.ok n0){B:Nat}(b:B<=1048576):∀(N:Nat)(l:List AB),lim AG.l B N l->PR K n0 N l
 | 0,_,h=>h.elim
 | N+1,l,h=>by
  have g:=h.l (λ_ e=>e) b;obtain⟨_,_,j⟩:=Ca.1 h;refine lI a N l g.1 λx i=>?_;obtain⟨a1,a2,a3,a4⟩:=j x i;refine gK a N x (wO g.2 x i) (Pd a b N x.W a2) (gL a N x.R mq λr hr=>?_);obtain⟨b1,b2,d⟩:=a4 r hr;exact⟨b1,by omega,λc f=>⟨(d c f).1,Pd a b N c.W (d c f).2⟩⟩
end
def MD(l:List Ao):Nat->List (Int×Int)
 | 0=>[]
 | i+1=>match l[i]? with
  | some s=>LF (MD l i) s.id s.x
  | none=>MD l i
def mA(d:AI)(h:Hp)(n:Nat):SV->Hp->Nat->Prop:=λv h' n'=>∃K:Ck,K.ok n'/\n<=n'/\v=.ptr K.p 0/\(∀o y,K.st ([],0) o=some y->h' o=some y)/\K.m2=BG [] (d.V.map (·.id))/\K.m0=MD d.S.A d.S.A.length/\K.m1=BG [] (d.S.L.map (·.id))/\(∀j y,h j=some y->h' j=some y)/\∀o y,K.st ([],0) o=some y->n<=o
theorem lH(d:AI)(h1:d.S.A.length<=1048576)(h2:d.S.L.length<=1048576)(h3:d.V.length<=1048576){h:Hp}{n:Nat}:BP prog 81 [d.h] h n (mA d h n):=by
 refine FF func81 rfl λP=>?_;have r:=P.lt;obtain⟨X,F⟩:∃X:SV,X=.q ([AH d.W]++d.T0.j++[BV d.V]++d.S.j):=⟨_,rfl⟩
 refine Bc 1 [(1,X)] h (λm=>n+1=m) ?_ (λm hm=>?_);rw[F];simp[go_sem,AI.h,AG.j,AQ.j];exact⟨Ap (Ai r (IO _)) (AE _ _ _),AW r AC⟩;subst hm;refine Bc 0 [(1,X),(3,.ptr (n+6) 0)] (hb h n [] [] []) (λm=>n+7=m) ?_ (λm hm=>?_);simp[go_sem,Or,qq,hb,Hx,FX];subst hm;refine AV 0 (α:=List (Int×Int)) (λ_=>[(1,X),(3,.ptr (n+6) 0)]) (λa=>hb h n a [] []) (λa m=>n+7<=m/\a=MD d.S.A d.S.A.length) ?_ (λa0 m hm=>?_)
 . refine Bc 0 [(1,X),(3,.ptr (n+6) 0),(19,AT d.S.A),(20,AA d.S.A.length),(21,AA 0)] (hb h n [] [] []) (λm=>n+7<=m) ?_ (λm hm=>?_);rw[F];simp[go_sem,Or,AG.j,AQ.j];refine AP (Aq 0 (α:=Nat×List (Int×Int)) (λq=>[(1,X),(3,.ptr (n+6) 0),(19,AT d.S.A),(20,AA d.S.A.length),(21,AA q.1)]) (λq=>hb h n q.2 [] []) (λq m=>q.1<=d.S.A.length/\n+7<=m/\q.2=MD d.S.A q.1) (λq=>d.S.A.length-q.1) (0,[]) ⟨qj _,hm,rfl⟩ ?_ AC ?_);simp[go_sem,look,Or];rintro⟨i,a⟩ m ⟨hi,hm,s⟩;dsimp only at hi s ⊢;refine AK ?_;by_cases k:i<d.S.A.length
   . obtain⟨x,u⟩:∃x,d.S.A[i]=x:=⟨_,rfl⟩
     have D:=wS i mq;have C:n+6≠m:=by omega
     have B:n+1≠m:=by omega
     have g:MD d.S.A (i+1)=LF a x.id x.x:=by rw[MD,qk k,u,s]
     have fin:∀b z y,∀j w,hb h n b [] [] j=some w->h_ (h_ (h_ (hb h n a [] []) m y) m z) (n+1) (some (.map (Hx b))) j=some w:=λb z y j w e=>by
      have:=XK (h:=h) (n:=n) (λj y e=>r j y e) j w e;rw[<-lX (a0:=a)]at e;simp only[h_]at e ⊢;split at e;rename_i c;rw[my c];exact e;rename_i c;rw[mw c,mw mq,mw mq];exact e
     rcases Lz x.id x.x a 0 with⟨f,l⟩|⟨j,v,f,E⟩
     . simp[go_sem,k,u,Ao.h,AE,AD,C,B,QZ,Sx,f,BQ,l,D,-Int.natCast_add]
       repeat first|refine nq ?_|refine sq ?_|refine aq ?_
       exact⟨i+1,by omega,_,⟨by omega,by omega,g.symm⟩,rfl,fin _ _ _⟩
     . rw[qZ]at f;simp[go_sem,k,u,Ao.h,AE,AD,C,B,QZ,Sx,f,BQ,E,D,-Int.natCast_add]
       repeat first|refine nq ?_|refine sq ?_|refine aq ?_
       exact⟨i+1,by omega,_,⟨by omega,by omega,g.symm⟩,rfl,fin _ _ _⟩
   have:i=d.S.A.length:=by omega
   subst this;simp[go_sem,Or];exact⟨a,⟨by omega,s⟩,AC⟩
 obtain⟨hm,G⟩:=hm;refine AV 0 (α:=List Int) (λ_=>[(1,X),(3,.ptr (n+6) 0)]) (λa=>hb h n a0 a []) (λa m=>n+7<=m/\a=BG [] (d.S.L.map (·.id))) ?_ (λa1 m hm=>?_)
 . refine Bc 0 [(1,X),(3,.ptr (n+6) 0),(36,Bi d.S.L),(37,AA d.S.L.length),(38,AA 0)] (hb h n a0 [] []) (λm=>n+7<=m) ?_ (λm hm=>?_);rw[F];simp[go_sem,Or,AG.j,AQ.j,hm];refine AP (Aq 0 (α:=Nat×List Int) (λq=>[(1,X),(3,.ptr (n+6) 0),(36,Bi d.S.L),(37,AA d.S.L.length),(38,AA q.1)]) (λq=>hb h n a0 q.2 []) (λq m=>q.1<=d.S.L.length/\n+7<=m/\q.2=BG [] ((d.S.L.take q.1).map (·.id))) (λq=>d.S.L.length-q.1) (0,[]) ⟨qj _,hm,by simp[BG]⟩ ?_ AC ?_);simp[go_sem,look,Or];rintro⟨i,a⟩ m ⟨hi,hm,s⟩;dsimp only at hi s ⊢;refine AK ?_;by_cases k:i<d.S.L.length
   . obtain⟨x,u⟩:∃x,d.S.L[i]=x:=⟨_,rfl⟩
     have D:=wS i mq;have C:n+6≠m:=by omega
     have B:n+2≠m:=by omega
     have g:BG [] ((d.S.L.take (i+1)).map (·.id))=DM a x.id:=by rw[qb k,u,qc,CP,<-s];rfl
     have fin:∀b z y,∀j w,hb h n a0 b [] j=some w->h_ (h_ (h_ (hb h n a0 a []) m y) m z) (n+2) (some (.map (FX b))) j=some w:=λb z y j w e=>by
      have:=XK (h:=h) (n:=n) (λj y e=>r j y e) j w e;rw[<-lY (a1:=a)]at e;simp only[h_]at e ⊢;split at e;rename_i c;rw[my c];exact e;rename_i c;rw[mw c,mw mq,mw mq];exact e
     by_cases p:x.id∈a
     . obtain⟨j,f,I⟩:=D4 0 p;have t:=KN I;simp only[FY]at t;rw[qZ]at f;simp[go_sem,k,u,FT.h,AE,AD,C,B,QZ,IZ,f,BQ,t,D,-Int.natCast_add]
       repeat first|refine nq ?_|refine sq ?_|refine aq ?_
       refine⟨i+1,by omega,a,⟨by omega,by omega,?_⟩,rfl,fin a _ _⟩;rw[wq]at g;rw[g,DM,my p]
     . have f:=Ek 0 p;have l:=Np a x.id;simp[go_sem,k,u,FT.h,AE,AD,C,B,QZ,IZ,f,BQ,l,D,-Int.natCast_add]
       repeat first|refine nq ?_|refine sq ?_|refine aq ?_
       refine⟨i+1,by omega,a++[x.id],⟨by omega,by omega,?_⟩,rfl,fin _ _ _⟩;rw[wq]at g;rw[g,DM,mw p]
   have:i=d.S.L.length:=by omega
   subst this;rw[qp]at s;simp[go_sem,Or];exact⟨a,⟨by omega,s⟩,AC⟩
 obtain⟨hm,H⟩:=hm;refine AV 0 (α:=List Int) (λ_=>[(1,X),(3,.ptr (n+6) 0)]) (λa=>hb h n a0 a1 a) (λa m=>n+7<=m/\a=BG [] (d.V.map (·.id))) ?_ (λa2 m hm=>?_)
 . refine Bc 0 [(1,X),(3,.ptr (n+6) 0),(50,BV d.V),(51,AA d.V.length),(52,AA 0)] (hb h n a0 a1 []) (λm=>n+7<=m) ?_ (λm hm=>?_);rw[F];simp[go_sem,Or,AG.j,AQ.j,hm];refine AP (Aq 0 (α:=Nat×List Int) (λq=>[(1,X),(3,.ptr (n+6) 0),(50,BV d.V),(51,AA d.V.length),(52,AA q.1)]) (λq=>hb h n a0 a1 q.2) (λq m=>q.1<=d.V.length/\n+7<=m/\q.2=BG [] ((d.V.take q.1).map (·.id))) (λq=>d.V.length-q.1) (0,[]) ⟨qj _,hm,by simp[BG]⟩ ?_ AC ?_);simp[go_sem,look,Or];rintro⟨i,a⟩ m ⟨hi,hm,s⟩;dsimp only at hi s ⊢;refine AK ?_;by_cases k:i<d.V.length
   . obtain⟨x,u⟩:∃x,d.V[i]=x:=⟨_,rfl⟩
     have D:=wS i mq;have C:n+6≠m:=by omega
     have B:n+3≠m:=by omega
     have g:BG [] ((d.V.take (i+1)).map (·.id))=DM a x.id:=by rw[qb k,u,qc,CP,<-s];rfl
     have fin:∀b z y,∀j w,hb h n a0 a1 b j=some w->h_ (h_ (h_ (hb h n a0 a1 a) m y) m z) (n+3) (some (.map (FX b))) j=some w:=λb z y j w e=>by
      have:=XK (h:=h) (n:=n) (λj y e=>r j y e) j w e;rw[<-lZ (a2:=a)]at e;simp only[h_]at e ⊢;split at e;rename_i c;rw[my c];exact e;rename_i c;rw[mw c,mw mq,mw mq];exact e
     by_cases p:x.id∈a
     . obtain⟨j,f,I⟩:=D4 0 p;have t:=KN I;simp only[FY]at t;rw[qZ]at f;simp[go_sem,k,u,By.h,AE,AD,C,B,QZ,Mi,f,BQ,t,D,-Int.natCast_add]
       repeat first|refine nq ?_|refine sq ?_|refine aq ?_
       refine⟨i+1,by omega,a,⟨by omega,by omega,?_⟩,rfl,fin a _ _⟩;rw[wq]at g;rw[g,DM,my p]
     . have f:=Ek 0 p;have l:=Np a x.id;simp[go_sem,k,u,By.h,AE,AD,C,B,QZ,Mi,f,BQ,l,D,-Int.natCast_add]
       repeat first|refine nq ?_|refine sq ?_|refine aq ?_
       refine⟨i+1,by omega,a++[x.id],⟨by omega,by omega,?_⟩,rfl,fin _ _ _⟩;rw[wq]at g;rw[g,DM,mw p]
   have:i=d.V.length:=by omega
   subst this;rw[qp]at s;simp[go_sem,Or];exact⟨a,⟨by omega,s⟩,AC⟩
 refine AK ?_;simp[go_sem];refine .inl ⟨⟨n+6,n+1,n+2,n+3,n+4,n+5,a0,a1,a2⟩,⟨by simp,by simp;omega⟩,by omega,rfl,λo y e=>?_,hm.2,G,H,cv r,λo y e=>?_⟩;simp only[Ck.st,Ck.cells,FX]at e;by_cases O:o=n+6;subst O;simp at e;rw[QZ];exact congrArg some e;by_cases M:o=n+4;subst M;simp at e;rw[Vx];exact congrArg some e;by_cases c1:o=n+1;subst c1;simp at e;rw[Sx];exact congrArg some e;by_cases J:o=n+2;subst J;simp at e;rw[IZ];exact congrArg some e;by_cases K:o=n+3;subst K;simp at e;rw[Mi];exact congrArg some e;by_cases N:o=n+5;subst N;simp at e;rw[ZD];exact congrArg some e;rw[mw O,mw M,mw c1,mw J,mw K,mw N]at e;cases e;simp only[Ck.st]at e;by_cases c:n<=o;exact c;rw[mw mq,mw mq,mw mq,mw mq,mw mq,mw mq]at e;cases e
def Nq(F:Nat->Int)(l:List Cq)(i:Nat):Int:=match l[i]? with
 | none=>0
 | some x=>if x.format<1\/7<x.format then 3 else if x.start<0\/32767<x.start then 2 else if F i≠0 then F i else if x.restart<0\/(i:Int)<x.restart then 5 else 0
def Ip(F:Nat->Int)(l:List Cq):Int:=if l=[]then 11 else if(9:Int)<l.length then 9 else CI (Nq F l) l.length
theorem lO(l:List Cq)(hl:l.length<=1048576)(I:∀x∈l,∀k:Int,EC 249 [.str x.template,AA k]):EC 191 [DP l]:=by
 obtain⟨F,H⟩:=EC.fam (f:=249) (A:=λi=>[.str (l.getD i ⟨0,0,⟨#[]⟩,0⟩).template,AA ((i+1:Nat):Int)]) (N:=l.length) λi hi=>by
  have:l.getD i ⟨0,0,⟨#[]⟩,0⟩=l[i]:=by simp[List.getD,hi]
  rw[this];exact I _ (qn hi) _
 refine⟨Ip F l,?_⟩;intro h n;refine FF func191 rfl λE=>?_;have v:=E.lt;have out:∀(e:Int)(m:Nat),e=Ip F l->Ce n h m (AA e) (Is (AA (Ip F l)) h n):=λe m t=>Ar E rfl (by rw[t]);refine As 0 [(0,DP l)] h n ?_ (λm hm=>?_);simp[go_sem,Or];refine CH 0 [(0,DP l)] h (λm=>n<=m/\Ip F l=CI (Nq F l) l.length) (AK ?_) (λm hm=>?_);by_cases c:l=[];subst c;simp[go_sem];exact out 11 _ rfl;by_cases r:(9:Int)<l.length;simp[go_sem,c,r];exact out _ _ (by unfold Ip;rw[mw c,my r]);simp[go_sem,c,r,Or,hm];unfold Ip;rw[mw c,mw r];obtain⟨hm,D⟩:=hm;refine CH 0 [] h (λm=>n<=m/\Ip F l=0) ?_ (λm hm=>?_);refine As 0 [(14,DP l),(15,AA l.length),(16,AA 0)] h n ?_ (λm hm=>?_);simp[go_sem,Or,hm];refine AP (Aq 0 (α:=Nat) (λi=>[(14,DP l),(15,AA l.length),(16,AA i)]) (λ_=>h) (λi m=>i<=l.length/\n<=m/\CI (Nq F l) i=0) (λi=>l.length-i) 0 ⟨qj _,hm,rfl⟩ ?_ AC ?_);simp[go_sem,look,Or];rintro i m ⟨hi,hm,h0⟩;by_cases b:i<l.length;obtain⟨x,B⟩:∃x,l[i]=x:=⟨_,rfl⟩
 have p:=H i b;have w:l.getD i ⟨0,0,⟨#[]⟩,0⟩=x:=by simp[List.getD,b,B]
 rw[w]at p;have d:Nq F l i=if x.format<1\/7<x.format then 3 else if x.start<0\/32767<x.start then 2 else if F i≠0 then F i else if x.restart<0\/(i:Int)<x.restart then 5 else 0:=by unfold Nq;rw[qk b,B]
 have a:∀(e:Int)(m:Nat),e≠0->Nq F l i=e->Ce n h m (AA e) (Is (AA (Ip F l)) h n):=λe m z t=>out e m (by rw[D,Ew _ b h0 (by rw[t];exact z),t]);have G:=wS i mq;refine As 0 [(14,DP l),(15,AA l.length),(16,AA i),(17,.bool true)] h n ?_ (λm hm=>?_);simp[go_sem,Or,hm,b];refine As 0 [(14,DP l),(15,AA l.length),(16,AA i)] h n ?_ (λm hm=>?_);simp[go_sem,Or,hm];refine CH 0 [(14,DP l),(15,AA l.length),(16,AA i)] h (λm=>n<=m/\Nq F l i=0) ?_ (λm hm=>?_);refine AP ?_;refine As 1 [(14,DP l),(15,AA l.length),(16,AA i),(3,AA i),(4,.q [AA x.format,AA x.start,.str x.template,AA x.restart])] h n ?_ (λm hm=>?_);have o:∀j y,h j=some y->j<m:=λj y e=>by have:=v j y e;omega
 simp[go_sem,Or,b,B,Cq.h,AE];exact⟨by omega,Ap (Ai o (IO _)) (AE _ _ _),AW o (AW o AC)⟩;refine AV 0 (α:=Unit) (λ_=>[(14,DP l),(15,AA l.length),(16,AA i),(3,AA i),(4,.q [AA x.format,AA x.start,.str x.template,AA x.restart])]) (λ_=>h) (λ_ m=>n<=m/\¬(x.format<1\/7<x.format)/\¬(x.start<0\/32767<x.start)) (AP (AK ?_)) (λ_ m hm=>?_);by_cases a1:x.format<1;simp[go_sem,a1];exact a _ _ (by decide) (by rw[d,my (.inl a1)]);by_cases a2:7<x.format;simp[go_sem,a1,a2];exact a _ _ (by decide) (by rw[d,my (.inr a2)]);have n1:¬(x.format<1\/7<x.format):=λg=>g.elim a1 a2;by_cases a3:x.start<0;simp[go_sem,a1,a2,a3];exact a _ _ (by decide) (by rw[d,mw n1,my (.inl a3)]);by_cases a4:32767<x.start;simp[go_sem,a1,a2,a3,a4];exact a _ _ (by decide) (by rw[d,mw n1,my (.inr a4)]);simp[go_sem,a1,a2,a3,a4,Or,hm];obtain⟨hm,n1,u⟩:=hm;refine CH 0 [(14,DP l),(15,AA l.length),(16,AA i),(3,AA i),(4,.q [AA x.format,AA x.start,.str x.template,AA x.restart])] h (λm=>n<=m/\F i=0) (AK ?_) (λm hm=>?_);simp[go_sem,G,-Int.natCast_add];refine p.use ?_;by_cases s:F i=0;simp[go_sem,s,Or,hm];simp[go_sem,s];exact a _ _ s (by rw[d,mw n1,mw u,my s]);obtain⟨hm,f0⟩:=hm;have C:¬F i≠0:=λg=>g f0;refine AK ?_;by_cases a1:x.restart<0;simp[go_sem,a1];exact a _ _ (by decide) (by rw[d,mw n1,mw u,mw C,my (.inl a1)]);by_cases a2:(i:Int)<x.restart;simp[go_sem,a1,a2];exact a _ _ (by decide) (by rw[d,mw n1,mw u,mw C,my (.inr a2)]);simp[go_sem,a1,a2,Or,hm];rw[d,mw n1,mw u,mw C,mw λg=>g.elim a1 a2];refine AK ?_;simp[go_sem,G,Or,-Int.natCast_add];exact⟨i+1,by omega,⟨by omega,hm.1,by rw[CI,my h0];exact hm.2⟩,rfl⟩;refine AK ?_;have:i=l.length:=by omega
 simp[go_sem,b,hm];rw[D,<-this];exact h0;refine AK ?_;simp[go_sem];exact out _ _ hm.2.symm
theorem JC{E:BZ}{c:Array Oper}{K:SA->Hp->Nat->Prop}{sa:SA}{h:Hp}{n:Nat}{b:Bool}{e:Int}{a:List Oper}{tr:List CC}{dst:Option Tmp}
 (hk:∀r:Int,r=(if b then e else 0)->MC E prog c K a tr sa { dst:=dst,val:=AA r } h n):Bl E prog c K sa h n 83 [.bool b,AA e] a tr dst:=
 vy _ _ _ _ _ _ (Kc b e) (hk _ rfl)
theorem lP(l:List Ge)(hl:l.length<=1048576)(u:∀x∈l,x.name.size<=1048576/\x.value.size<=1048576)(i:Nat)(hi:i<l.length):EC 197 [AA i,.q [CA l]]:=by
 obtain⟨x,b⟩:∃x,l[i]=x:=⟨_,rfl⟩
 have hxs:=u x (by rw[<-b];exact qn hi);by_cases h0:i=0
 . subst h0;apply Exists.intro;intro h n;refine gq func197 rfl λm=>?_;simp[go_sem,hi,b,Ge.h]
   repeat first|refine nq ?_|refine sq ?_
   refine vy _ _ _ _ _ _ (cW x.name) ?_;simp[go_sem]
   repeat first|refine nq ?_|refine sq ?_
   refine JC λo d=>?_;simp[go_sem]
   repeat first|refine nq ?_|refine sq ?_
   refine JC λp e=>?_;simp[go_sem]
   repeat first|refine nq ?_|refine sq ?_
   refine JC λr f=>?_;simp[go_sem,hi,b,Ge.h]
   repeat first|refine nq ?_|refine sq ?_
   refine vy _ _ _ _ _ _ (cV x.value mq) ?_;obtain⟨c,a⟩:∃c,c=IK x.value:=⟨_,rfl⟩
   rw[<-a];simp[go_sem]
   repeat first|refine nq ?_|refine sq ?_
   refine Bl.lend _ _ _ _ _ _ 2 [n] (SO [o,p,r,c] mr) rfl mr (λh' hh=>?_) ?_;have:=hh n mr;simp[h_]at this;simp[AU,Fz,this,Cb,SV.B,SV.cells];simp[go_sem]
   repeat first|refine nq ?_|refine sq ?_
   subst d e f a;exact Bt m (Aa m (IO _) AC) rfl rfl
 . have j:0<i:=by omega
   have k:(if(1:Int)>i then(1:Int)else i)=i:=by split<;>omega
   have hmx2:(if(1:Int)<i then(i:Int)else 1)=i:=by split<;>omega
   have t:IntKind.i64.wrap ((i:Int)-1)=((i-1:Nat):Int):=by rw[EU]<;>omega
   have g:i-1<l.length:=by omega
   obtain⟨y,s⟩:∃y,l[i-1]=y:=⟨_,rfl⟩
   apply Exists.intro;intro h n;refine gq func197 rfl λm=>?_;simp[go_sem,hi,b,Ge.h]
   repeat first|refine nq ?_|refine sq ?_
   refine vy _ _ _ _ _ _ (cW x.name) ?_;simp[go_sem]
   repeat first|refine nq ?_|refine sq ?_
   refine JC λo d=>?_;simp[go_sem,hi,b,Ge.h,j,t,g,s,k]
   repeat first|refine nq ?_|refine sq ?_
   refine JC λp e=>?_;simp[go_sem,hi,b,Ge.h,j,t,g,s,k]
   repeat first|refine nq ?_|refine sq ?_
   refine JC λr f=>?_;simp[go_sem,hi,b,Ge.h]
   repeat first|refine nq ?_|refine sq ?_
   refine vy _ _ _ _ _ _ (cV x.value mq) ?_;obtain⟨c,a⟩:∃c,c=IK x.value:=⟨_,rfl⟩
   rw[<-a];simp[go_sem]
   repeat first|refine nq ?_|refine sq ?_
   refine Bl.lend _ _ _ _ _ _ 2 [n] (SO [o,p,r,c] mr) rfl mr (λh' hh=>?_) ?_;have:=hh n mr;simp[h_]at this;simp[AU,Fz,this,Cb,SV.B,SV.cells];simp[go_sem]
   repeat first|refine nq ?_|refine sq ?_
   subst d e f a;exact Bt m (Aa m (IO _) AC) rfl rfl
def KW(ps:List CG):List Int:=ps.map (·.level)
def VJ(bs:List UInt8):List Int:=if bs=[]then[]else[0]
def Wk(s:ByteArray)(k:Int):Bool:=if k<s.size then(match s[k.toNat]? with|some x=>decide ((49:Int)<=x.toNat)&&decide ((x.toNat:Int)<=57)|none=>false)else false
theorem Wl{s:ByteArray}{k:Int}(h:Wk s k=true):k<s.size:=by
 unfold Wk at h;split at h
 assumption
 cases h
def RI(s:ByteArray)(k:Int):Int:=match s[k.toNat]? with|some x=>IntKind.i64.wrap (IntKind.u8.wrap ((x.toNat:Int)-48))|none=>0
def Gr(a b:ByteArray):Bool:=decide (b.size<=a.size)&&((a.extract 0 b.size).toList==b.toList)
theorem VP{a b:ByteArray}(h:Gr a b=true):b.size<=a.size:=by unfold Gr at h;simp at h;exact h.1
theorem ko(a b:ByteArray):PC 331 [.str a,.str b] (.bool (Gr a b)):=by
 intro h n;refine FF func331 rfl λe=>?_;refine AK ?_;by_cases c:(b.size:Int)<=a.size;have d:b.size<=a.size:=by omega
 simp[go_sem,c];exact Ar e rfl (by simp[Gr,d]);have d:¬b.size<=a.size:=by omega
 simp[go_sem,c];exact Ar e rfl (by simp[Gr,d])
theorem fw(a b:ByteArray):PC 325 [.str a,.str b] (.bool (Gr a b)):=by
 intro h n;refine FF func325 rfl λc=>?_;refine AK ?_;simp[go_sem];refine qY (ko a b) ?_;simp[go_sem];exact Ar c rfl rfl
def bX(s:ByteArray)(at_ pl e:Int)(bs:List UInt8)(lv:List Int):Int×List UInt8×List Int×Int×Int:=
 if Gr (s.extract at_.toNat s.size) ⟨#[37,37]⟩then(at_+2,bs++[37],lv,pl,e)
 else if Wk s (at_+1)then(at_+2,[],lv++(VJ bs++[RI s (at_+1)]),IntKind.i64.wrap (pl+1),e)
 else if Gr (s.extract at_.toNat s.size) ⟨#[37,100]⟩&&Wk s (at_+2)then(at_+3,[],lv++(VJ bs++[RI s (at_+2)]),IntKind.i64.wrap (pl+1),e)
 else(at_,bs,lv,pl,14)
def jf(s:ByteArray)(at_ pl e:Int)(bs:List UInt8)(ps:List CG):Int->List UInt8->List CG->Int->Int->Prop:=λat' bs' ps' pl' e'=>
 (at',bs',KW ps',pl',e')=bX s at_ pl e bs (KW ps)/\((at_<at'/\at'<=s.size/\e'=e)\/(at'=at_/\e'=14))/\bs'.length<=bs.length+1/\ps'.length<=ps.length+2
def jI(G:Hp)(B q n:Nat)(s:ByteArray)(at_ pl e:Int)(L:List Int)(N:Nat)(z:Hp×List CG)(m:Nat):Prop:=n<=m/\Vw z.1 q B s at_ [] z.2 pl e/\z.2.length<=N/\(∀o y,o<B->G o=some y->z.1 o=some y)/\KW z.2=L
theorem bD{G:Hp}{n q B:Nat}{s:ByteArray}{at_ l e:Int}{bs:List UInt8}{ps:List CG}(S:Vw G q B s at_ bs ps l e)(hb:bs.length<=1048576)(hps:ps.length<=1048576):
 BP prog 322 [.ptr q 0] G n (al q B s G n λJ K D N V=>J=at_/\K=[]/\(KW D=KW ps++VJ bs/\D.length<=ps.length+1)/\N=l/\V=e):=by
 refine FF func322 rfl λC=>?_;obtain⟨p,ob,op,S⟩:=S;have hqn:q<n:=(C q _ S.cells).1;by_cases c:bs=[];refine Al 0 [(0,.ptr q 0),(6,.bool false)] G n ?_ (λm hm=>?_);simp[go_sem];refine qM (gR S.cells S.b0) ?_;rintro v u n' ⟨rfl,rfl,rfl⟩;simp[go_sem,Or,c];subst hm;refine AK ?_;simp[go_sem];exact .inl ⟨at_,[],ps,l,e,⟨rfl,rfl,⟨by rw[c];simp[VJ],by omega⟩,rfl,rfl⟩,⟨p,ob,op,by rw[<-c];exact S⟩,λo y _ h=>h,IO _⟩
 . refine Al 0 [(0,.ptr q 0),(6,.bool true)] G n ?_ (λm hm=>?_);simp[go_sem];refine qM (gR S.cells S.b0) ?_;rintro v u n' ⟨rfl,rfl,rfl⟩;have:0<bs.length:=by cases bs<;>simp at c ⊢
   simp[go_sem,Or,this];subst hm;refine BD (b:=true) ms ?_;simp only[if_true];cases ob with
   | none=>exact absurd (S.b0 rfl) c
   | some j=>
   obtain⟨j1,P,Y,Q⟩:=S.b1 j rfl;have hjn:j<n:=(C j _ Q).1;have d:=S.cells;have F:q≠j:=Ne.symm P;have I:q≠n:=by omega
   have w:q≠n+1:=by omega
   obtain⟨x,O⟩:∃x:CG,x=⟨⟨bs.toArray⟩,0,false⟩:=⟨_,rfl⟩
   obtain⟨E,L⟩:∃E,E=(ps++[x]).map CG.h:=⟨_,rfl⟩
   have hle:=S.le;refine AV 0 (α:=Hp×Nat) (λ_=>[(0,.ptr q 0)]) (λz=>z.1) (jG G B q n (λk=>[.str s,AA at_,p,FC (some j) bs,AZ 3 (some k) E,AA l,AA e]) E)
    (CN eO rfl mu mu ?_) (λz m hm=>?_)
   have r:∀(X:Hp)(k p:Nat),X k=some (.cells [.str ⟨bs.toArray⟩,AA 0,.bool false])->(∀j,op=some j->X j=some (.cells ((ps.map CG.h).flatMap SV.cells)))->_:=λX k p g1 g=>fX (x:=x) (p:=p) S.o0 (by rw[O];exact g1) g mq;have t:∀(X:Hp),X q=some (.cells [.str s,AA at_,p,FC (some j) bs,.sl (n+1) 0 3 (ps.length+1) false,AA l,AA e] (some 378))->X (n+1)=some (.cells ((ps.map CG.h).flatMap SV.cells++x.h.cells))->(∀o y,o<B->G o=some y->X o=some y)->
    jG G B q n (λk=>[.str s,AA at_,p,FC (some j) bs,AZ 3 (some k) E,AA l,AA e]) E (X,n+1) (n+2):=λX g1 g g3=>⟨by omega,by show X q=_;rw[g1,L];simp[AZ],by show X (n+1)=_;rw[g,L];simp,by show n<=n+1;omega,by show n+1<n+2;omega,g3⟩
   have step:Ab (BZ.plain.call false 0) prog 64 [.ptr q 2] G n (λv h' n'=>v=.str ⟨bs.toArray⟩/\h'=h_ G j none/\n=n'):=qM (lF d Q P Y mq) λv h' n' ⟨a,b,c⟩=>⟨a,b,c.symm⟩
   cases op with
   | none =>
    have f:∃a,(∃x_1,jG G B q n (λk=>[.str s,AA at_,p,FC (some j) bs,AZ 3 (some k) E,AA l,AA e]) E (a,x_1) (n+1+1))/\∀(o:Nat)(y:A9),a o=some y->h_ (h_ (h_ (h_ G j none) n (some (A9.cells [.str ⟨bs.toArray⟩,AA 0,.bool false]))) (n+1) (some (.cells (List.flatMap SV.cells (List.map CG.h ps)++x.h.cells)))) q (some (.cells [.str s,AA at_,p,FC (some j) bs,.sl (n+1) 0 3 (ps.length+1) false,AA l,AA e] (some 378))) o=some y:=
     ⟨_,⟨_,t _ (AE _ _ _) ((AD _ _ (Ne.symm w)).trans (AE _ _ _)) λo y g1 g=>by have:=(C o y g).1;rw[AD _ _ mq,AD _ _ mq,AD _ _ mq,AD _ _ mq];exact g⟩,AC⟩
    simp[go_sem,eO,d];refine⟨?_,?_⟩;refine ww step ?_;rintro v u n' ⟨rfl,rfl,rfl⟩;simp[go_sem,r,AE,AD,d,F,I,w];exact f;refine ww step ?_;rintro v u n' ⟨rfl,rfl,rfl⟩;simp[go_sem,r,AE,AD,d,F,I,w];exact f
   | some i =>
    obtain⟨i1,W,i3,i4⟩:=S.o1 i rfl;have hin:i<n:=(C i _ i4).1;have A:i≠j:=by rintro rfl;exact i3 rfl
    have T:i≠n:=by omega
    have U:q≠i:=Ne.symm W;have f:∃a,(∃x_1,jG G B q n (λk=>[.str s,AA at_,p,FC (some j) bs,AZ 3 (some k) E,AA l,AA e]) E (a,x_1) (n+1+1))/\∀(o:Nat)(y:A9),a o=some y->h_ (h_ (h_ (h_ (h_ G j none) n (some (A9.cells [.str ⟨bs.toArray⟩,AA 0,.bool false]))) i none) (n+1) (some (.cells (List.flatMap SV.cells (List.map CG.h ps)++x.h.cells)))) q (some (.cells [.str s,AA at_,p,FC (some j) bs,.sl (n+1) 0 3 (ps.length+1) false,AA l,AA e] (some 378))) o=some y:=
     ⟨_,⟨_,t _ (AE _ _ _) ((AD _ _ (Ne.symm w)).trans (AE _ _ _)) λo y g1 g=>by have:=(C o y g).1;rw[AD _ _ mq,AD _ _ mq,AD _ _ mq,AD _ _ mq,AD _ _ mq];exact g⟩,AC⟩
    simp[go_sem,eO,d];refine⟨?_,?_⟩;refine ww step ?_;rintro v u n' ⟨rfl,rfl,rfl⟩;simp[go_sem,r,AE,AD,d,F,I,w,T,U,A,i4];exact f;refine ww step ?_;rintro v u n' ⟨rfl,rfl,rfl⟩;simp[go_sem,r,AE,AD,d,F,I,w,T,U,A,i4];exact f
   obtain⟨H,k⟩:=z;obtain⟨m1,m2,M,Z,m5,R⟩:=hm;dsimp only at m2 M Z R ⊢;rw[L]at m2 M;refine AK ?_;simp[go_sem];refine qM (lG m2) ?_;rintro v u n' ⟨rfl,rfl,rfl⟩;simp[go_sem];have:=S.le;refine .inl ⟨at_,[],ps++[x],l,e,⟨rfl,rfl,?_,rfl,rfl⟩,⟨.nilp,none,some k,⟨S.le,by rw[AE];simp[FC,AZ],.inl rfl,λ_=>rfl,by simp,by simp,?_⟩⟩,λo y g1 g=>?_,by omega⟩;exact⟨by rw[O];simp[KW,VJ,c],by simp⟩;rintro i hi;cases hi;exact⟨by omega,by omega,by simp,by rw[AD _ _ mq];exact M⟩;rw[AD _ _ mq];exact R o y g1 g
theorem bE{G:Hp}{n q B:Nat}{s:ByteArray}{at_ f e:Int}{bs:List UInt8}{ps:List CG}(S:Vw G q B s at_ bs ps f e)(k:Int)(hk:0<=k):
 BP prog 326 [.ptr q 0,AA k] G n (λv h' n'=>v=.bool (Wk s k)/\h'=G/\n'=n):=by
 refine FF func326 rfl λho=>?_;obtain⟨p,ob,op,S⟩:=S;have a:=S.cells;refine AK ?_;by_cases c:k<s.size;have hkl:k.toNat<s.size:=by omega
 obtain⟨x,b⟩:∃x,s[k.toNat]'hkl=x:=⟨_,rfl⟩
 have hb:s[k.toNat]? = some x:=by rw[WK hkl,b]
 have d:Wk s k=(decide ((49:Int)<=x.toNat)&&decide ((x.toNat:Int)<=57)):=by unfold Wk;rw[my c,hb]
 by_cases c1:(49:Int)<=x.toNat;simp[go_sem,a,c,hk,b,c1];exact .inl ⟨by rw[d];simp[c1],rfl,rfl⟩;simp[go_sem,a,c,hk,b,c1];exact .inl ⟨by rw[d];simp[c1],rfl,rfl⟩;simp[go_sem,a,c];exact .inl ⟨by unfold Wk;rw[mw c],rfl,rfl⟩
theorem bG{G:Hp}{n q B:Nat}{s:ByteArray}{at_ u e d:Int}{b:Bool}{bs:List UInt8}{ps:List CG}(S:Vw G q B s at_ bs ps u e)(hb:bs.length<=1048576)(T:ps.length<=1048576):
 BP prog 327 [.ptr q 0,.int .u8 d,.bool b] G n (al q B s G n λN O K V e'=>N=at_/\O=[]/\(KW K=KW ps++(VJ bs++[IntKind.i64.wrap (IntKind.u8.wrap (d-48))])/\K.length<=ps.length+2)/\V=IntKind.i64.wrap (u+1)/\e'=e):=by
 refine FF func327 rfl λZ=>?_;refine DH 0 (α:=Hp×List CG) (λ_=>[(0,.ptr q 0),(1,.int .u8 d),(2,.bool b)]) (λz=>z.1) (jI G B q n s at_ u e (KW ps++VJ bs) (ps.length+1)) ?_ (λz m hm=>?_);simp[go_sem];refine qM (bD S hb T) ?_;rintro v H' n' ⟨a1,a2,a3,a4,a5,⟨rfl,rfl,⟨rl,r3⟩,rfl,rfl⟩,r6,r7,r8⟩;simp[go_sem,Or];exact⟨H',⟨a3,r8,r6,r3,r7,rl⟩,AC⟩;obtain⟨X,c⟩:=z;obtain⟨hm,w,Q,A,C⟩:=hm;dsimp only at w Q A C ⊢;refine PU λhX=>?_;have H:∀o y,X o=some y->o<m:=λo y e=>(hX o y e).1;refine DH 0 (α:=Hp×List CG) (λ_=>[(0,.ptr q 0)]) (λz=>z.1) (jI G B q n s at_ u e (KW ps++(VJ bs++[IntKind.i64.wrap (IntKind.u8.wrap (d-48))])) (ps.length+2)) ?_ (λz m hm=>?_)
 . have hle0:=w.choose_spec.choose_spec.choose_spec.le;obtain⟨p,ob,op,w⟩:=w;cases ob with
   | some j=>exact absurd rfl (w.b1 j rfl).2.2.1
   | none=>
   have f:=w.cells;obtain⟨x,U⟩:∃x:CG,x=⟨.empty,IntKind.i64.wrap (IntKind.u8.wrap (d-48)),b⟩:=⟨_,rfl⟩
   have D:∀(X:Hp)(k p:Nat),X k=some (.cells [.str .empty,AA (IntKind.i64.wrap (IntKind.u8.wrap (d-48))),.bool b])->(∀j,op=some j->X j=some (.cells ((c.map CG.h).flatMap SV.cells)))->_:=λX k p g1 r=>fX (x:=x) (p:=p) w.o0 (by rw[U];exact g1) r mq;have hqm:q<m:=H q _ f;have x2:q≠m:=by omega
   have M:q≠m+1:=by omega
   have I:∀(Y:Hp),Y q=some (.cells [.str s,AA at_,p,FC none [],.sl (m+1) 0 3 (c.length+1) false,AA u,AA e] (some 378))->Y (m+1)=some (.cells ((c.map CG.h).flatMap SV.cells++x.h.cells))->Vw Y q B s at_ [] (c++[x]) u e:=λY g1 r=>
    ⟨p,none,some (m+1),w.le,by rw[g1];simp[AZ],w.p,λ_=>rfl,by simp,by simp,by rintro i hi;cases hi;exact⟨by omega,by omega,by simp,by rw[r];simp⟩⟩
   cases op with
   | none =>
    have t:∃a,(∃x_1,jI G B q n s at_ u e (KW ps++(VJ bs++[IntKind.i64.wrap (IntKind.u8.wrap (d-48))])) (ps.length+2) (a,x_1) (m+1+1))/\∀(o:Nat)(y:A9),a o=some y->h_ (h_ (h_ X m (some (A9.cells [.str .empty,AA (IntKind.i64.wrap (IntKind.u8.wrap (d-48))),.bool b]))) (m+1) (some (.cells (List.flatMap SV.cells (List.map CG.h c)++x.h.cells)))) q (some (.cells [.str s,AA at_,p,FC none [],.sl (m+1) 0 3 (c.length+1) false,AA u,AA e] (some 378))) o=some y:=
     ⟨_,⟨c++[x],by omega,I _ (AE _ _ _) ((AD _ _ (Ne.symm M)).trans (AE _ _ _)),by simp;omega,λo y g1 r=>by have:=(Z o y r).1;dsimp only;rw[AD _ _ mq,AD _ _ mq,AD _ _ mq];exact A o y g1 r,by rw[<-List.append_assoc,<-C,U];simp[KW]⟩,AC⟩
    simp[go_sem,f,AE,AD,x2,M,D];exact t
   | some i =>
    obtain⟨i1,L,i3,i4⟩:=w.o1 i rfl;have hin:i<m:=H i _ i4;have y1:i≠m:=by omega
    have y2:q≠i:=Ne.symm L;have t:∃a,(∃x_1,jI G B q n s at_ u e (KW ps++(VJ bs++[IntKind.i64.wrap (IntKind.u8.wrap (d-48))])) (ps.length+2) (a,x_1) (m+1+1))/\∀(o:Nat)(y:A9),a o=some y->h_ (h_ (h_ (h_ X m (some (A9.cells [.str .empty,AA (IntKind.i64.wrap (IntKind.u8.wrap (d-48))),.bool b]))) i none) (m+1) (some (.cells (List.flatMap SV.cells (List.map CG.h c)++x.h.cells)))) q (some (.cells [.str s,AA at_,p,FC none [],.sl (m+1) 0 3 (c.length+1) false,AA u,AA e] (some 378))) o=some y:=
     ⟨_,⟨c++[x],by omega,I _ (AE _ _ _) ((AD _ _ (Ne.symm M)).trans (AE _ _ _)),by simp;omega,λo y g1 r=>by have:=(Z o y r).1;dsimp only;rw[AD _ _ mq,AD _ _ mq,AD _ _ mq,AD _ _ mq];exact A o y g1 r,by rw[<-List.append_assoc,<-C,U];simp[KW]⟩,AC⟩
    simp[go_sem,f,AE,AD,x2,M,D,y1,y2,i4];exact t
 obtain⟨X2,W⟩:=z;obtain⟨R,l,F,E,J⟩:=hm;dsimp only at l F E J ⊢;refine AK ?_;obtain⟨p,ob,op,l⟩:=l;have P:=l.cells;simp[go_sem,P];have hle:=l.le;refine .inl ⟨at_,[],W,IntKind.i64.wrap (u+1),e,⟨rfl,rfl,⟨J,F⟩,rfl,rfl⟩,⟨p,ob,op,l.le,AE _ _ _,l.p,l.b0,λj g=>absurd rfl (l.b1 j g).2.2.1,l.o0,λj g=>?_⟩,λo y g1 r=>?_,R⟩;obtain⟨i1,L,i3,i4⟩:=l.o1 j g;exact⟨i1,L,i3,by rw[AD _ _ L];exact i4⟩;rw[AD _ _ mq];exact E o y g1 r
theorem gP{G:Hp}{n q B:Nat}{s:ByteArray}{at_ H e:Int}{bs:List UInt8}{ps:List CG}(S:Vw G q B s at_ bs ps H e)(h0:0<=at_)(h1:at_<s.size)(hs:s.size<=1048576)(hb:bs.length<=1048576)(K:ps.length<=1048576):
 BP prog 320 [.ptr q 0] G n (al q B s G n (jf s at_ H e bs ps)):=by
 refine FF func320 rfl λho=>?_;obtain⟨p0,ob0,op0,V⟩:=id S;have E:=V.cells;have Y:IntKind.i64.wrap (at_+1)=at_+1:=by rw[EU]<;>omega
 have N:IntKind.i64.wrap (at_+2)=at_+2:=by rw[EU]<;>omega
 have w3:IntKind.i64.wrap (at_+3)=at_+3:=by rw[EU]<;>omega
 obtain⟨O,j⟩:∃b,b=Gr (s.extract at_.toNat s.size) ⟨#[37,37]⟩:=⟨_,rfl⟩
 obtain⟨P,l⟩:∃b,b=Wk s (at_+1):=⟨_,rfl⟩
 obtain⟨I,r⟩:∃b,b=(Gr (s.extract at_.toNat s.size) ⟨#[37,100]⟩&&Wk s (at_+2)):=⟨_,rfl⟩
 have fin:∀(z:Hp)(m:Nat)(a1 W c M f k:Int)(d:List UInt8)(a:List CG)(p:SV)(ob op:Option Nat),jJ z q B s a1 d a M W p ob op->(∀o y,o<B->G o=some y->z o=some y)->n<=m->jf s at_ H e bs ps c d a f k->
  Ce n (h_ z q (some (.cells [.str s,AA c,p,FC ob d,AZ 3 op (a.map CG.h),AA f,AA k] (some 378)))) m (.tup []) (al q B s G n (jf s at_ H e bs ps)):=λz m a1 W c M f k d a p ob op T hk hm hR=>
  .inl ⟨c,d,a,f,k,hR,T.upd c f k,λo y g1 g2=>by have:=T.le;rw[AD _ _ mq];exact hk o y g1 g2,hm⟩
 refine AP ?_;refine AV 0 (α:=Unit) (λ_=>[(0,.ptr q 0),(5,.bool O)]) (λ_=>G) (λ_ m=>n<=m) (CN ib rfl mu mu ?_) (λ_ m hm=>?_);have w:=fw (s.extract at_.toNat s.size) ⟨#[37,37]⟩;rw[<-j]at w;simp[go_sem,ib,E,h0];have:=Int.le_of_lt h1;simp[this];refine⟨?_,?_⟩ <;>
 . refine qY w ?_;simp[go_sem,Or]
 have i:O=true->at_+2<=s.size:=λg=>by
  rw[j]at g;have:=VP g;simp at this;have h9:(⟨#[37,37]⟩:ByteArray).size=2:=rfl;omega
 cases O with
 | true=>
  have D:=i rfl;refine BD (b:=true) ms ?_;simp only[if_true];refine PU λU=>?_;refine DH 0 (α:=Hp) (λ_=>[(0,.ptr q 0)]) (λz=>z) (Y9 G q B n s λc d a f k=>c=at_/\d=bs++[37]/\a=ps/\f=H/\k=e) ?_ (λz m hm=>?_);simp[go_sem];refine qM (show BP prog 321 [.ptr q 2,.int .u8 37] G _ _ from bC S U hb 37) ?_;rintro v A n' F;simp[go_sem,Or];exact⟨A,F.st hm,AC⟩;obtain⟨hm,a1,a2,a3,a4,a5,⟨rfl,rfl,rfl,rfl,rfl⟩,⟨p,ob,op,T⟩,hk⟩:=hm;refine AK ?_;have J:=T.cells;simp[go_sem,J,N];exact fin _ _ _ _ _ _ _ _ _ _ _ _ _ T hk hm ⟨by unfold bX;rw[<-j];rfl,.inl ⟨by omega,D,rfl⟩,by simp,by omega⟩
 | false =>
  refine BD (b:=false) ms ?_;simp only[qt,if_false];refine As 0 [(0,.ptr q 0),(27,.bool P)] G n ?_ (λm hm=>?_);simp[go_sem,E,Y];refine qM (bE S (at_+1) mq) ?_;rintro v A n' ⟨rfl,rfl,rfl⟩;rw[<-l];simp[go_sem,Or,hm];have i:P=true->at_+1<s.size:=λg=>by rw[l]at g;exact Wl g
  cases P with
  | true=>
   have D:=i rfl;refine BD (b:=true) ms ?_;simp only[if_true];refine AV 0 (α:=Hp) (λ_=>[(0,.ptr q 0)]) (λz=>z) (Y9 G q B n s λc d a f k=>c=at_/\d=[]/\(KW a=KW ps++(VJ bs++[RI s (at_+1)])/\a.length<=ps.length+2)/\f=IntKind.i64.wrap (H+1)/\k=e) (CN ae rfl mu mu ?_) (λz m hm=>?_);have hkl:(at_+1).toNat<s.size:=by omega
   obtain⟨x,L⟩:∃x,s[(at_+1).toNat]'hkl=x:=⟨_,rfl⟩
   have t:s[(at_+1).toNat]? = some x:=by rw[WK hkl,L]
   have C:0<=at_+1:=by omega
   have u:IntKind.i64.wrap (IntKind.u8.wrap ((x.toNat:Int)-48))=RI s (at_+1):=by unfold RI;rw[t]
   simp[go_sem,ae,E,Y,C,t];refine⟨?_,?_⟩ <;>
   . refine qM (bG S hb K) ?_;rintro v A n' F;rw[u]at F;simp[go_sem,Or];exact⟨A,F.st hm,AC⟩
   obtain⟨hm,a1,a2,a3,a4,a5,⟨rfl,rfl,⟨hv,R⟩,rfl,rfl⟩,⟨p,ob,op,T⟩,hk⟩:=hm;refine AK ?_;have J:=T.cells;simp[go_sem,J,N];exact fin _ _ _ _ _ _ _ _ _ _ _ _ _ T hk hm ⟨by unfold bX;rw[<-j,<-l,hv];rfl,.inl ⟨by omega,by omega,rfl⟩,by simp,R⟩
  | false =>
   refine BD (b:=false) ms ?_;simp only[qt,if_false];refine AV 0 (α:=Unit) (λ_=>[(0,.ptr q 0),(54,.bool I)]) (λ_=>G) (λ_ m=>n<=m) (CN ic rfl mu mu ?_) (λ_ m hm=>?_);have Q:=Int.le_of_lt h1;simp[go_sem,ic,E,h0,Q];refine⟨?_,?_⟩ <;>
   . refine qY (fw _ _) ?_;cases X:Gr (s.extract at_.toNat s.size) ⟨#[37,100]⟩with
     | false=>
      have:I=false:=by rw[r,X];rfl
      simp[go_sem,Or,hm,this]
     | true=>
      have Z:I=Wk s (at_+2):=by rw[r,X];rfl
      simp[go_sem,E,N];refine qM (bE S (at_+2) mq) ?_;rintro v A n' ⟨rfl,rfl,rfl⟩;rw[<-Z];simp[go_sem,Or,hm]
   have i:I=true->at_+2<s.size:=λg=>by
    rw[r,qg]at g;exact Wl g.2
   cases I with
   | true=>
    have D:=i rfl;refine BD (b:=true) ms ?_;simp only[if_true];refine AV 0 (α:=Hp) (λ_=>[(0,.ptr q 0)]) (λz=>z) (Y9 G q B n s λc d a f k=>c=at_/\d=[]/\(KW a=KW ps++(VJ bs++[RI s (at_+2)])/\a.length<=ps.length+2)/\f=IntKind.i64.wrap (H+1)/\k=e) (CN ae rfl mu mu ?_) (λz m hm=>?_);have hkl:(at_+2).toNat<s.size:=by omega
    obtain⟨x,L⟩:∃x,s[(at_+2).toNat]'hkl=x:=⟨_,rfl⟩
    have t:s[(at_+2).toNat]? = some x:=by rw[WK hkl,L]
    have C:0<=at_+2:=by omega
    have u:IntKind.i64.wrap (IntKind.u8.wrap ((x.toNat:Int)-48))=RI s (at_+2):=by unfold RI;rw[t]
    simp[go_sem,ae,E,N,C,t];refine⟨?_,?_⟩ <;>
    . refine qM (bG S hb K) ?_;rintro v A n' F;rw[u]at F;simp[go_sem,Or];exact⟨A,F.st hm,AC⟩
    obtain⟨hm,a1,a2,a3,a4,a5,⟨rfl,rfl,⟨hv,R⟩,rfl,rfl⟩,⟨p,ob,op,T⟩,hk⟩:=hm;refine AK ?_;have J:=T.cells;simp[go_sem,J,w3];exact fin _ _ _ _ _ _ _ _ _ _ _ _ _ T hk hm ⟨by unfold bX;rw[<-j,<-l,<-r,hv];rfl,.inl ⟨by omega,by omega,rfl⟩,by simp,R⟩
   | false=>
    refine BD (b:=false) ms ?_;simp only[qt,if_false];refine AK ?_;simp[go_sem,E];exact fin _ _ _ _ _ _ _ _ _ _ _ _ _ V (λ_ _ _ h=>h) hm ⟨by unfold bX;rw[<-j,<-l,<-r];rfl,.inr ⟨rfl,rfl⟩,by omega,by omega⟩
abbrev am:=Int×List UInt8×List Int×Int×Int
def QI(s:ByteArray)(z:am):am:=match s[z.1.toNat]? with
 | some x=>if((x.toNat:Int)==37)then bX s z.1 z.2.2.2.1 z.2.2.2.2 z.2.1 z.2.2.1 else(z.1+1,z.2.1++[x],z.2.2.1,z.2.2.2.1,z.2.2.2.2)
 | none=>(z.1+1,z.2)
def fH(s:ByteArray)(z:am):Nat:=2*(s.size-z.1).toNat+(if z.2.2.2.2=0 then 1 else 0)
theorem eE{s:ByteArray}{z:am}(h:z.1<s.size/\z.2.2.2.2=0):fH s (QI s z)<fH s z:=by
 have one:∀y:am,(z.1<y.1/\y.2.2.2.2=z.2.2.2.2)\/(y.1=z.1/\y.2.2.2.2≠0)->fH s y<fH s z:=λy g=>by
  unfold fH;rcases g with⟨g1,a⟩|⟨g1,a⟩
  rw[a];omega;rw[g1,mw a,my h.2];omega
 refine one _ ?_;unfold QI bX;split;split;split;exact .inl ⟨by dsimp only;omega,rfl⟩;split;exact .inl ⟨by dsimp only;omega,rfl⟩;split;exact .inl ⟨by dsimp only;omega,rfl⟩;exact .inr ⟨rfl,by dsimp only;omega⟩;exact .inl ⟨by dsimp only;omega,rfl⟩;exact .inl ⟨by dsimp only;omega,rfl⟩
def fI(s:ByteArray)(z:am):am:=if _h:z.1<s.size/\z.2.2.2.2=0 then fI s (QI s z)else z
termination_by fH s z
decreasing_by exact eE _h
def YU(s:ByteArray):am:=fI s (0,[],[],0,0)
def bc(s:ByteArray):List Int:=(YU s).2.2.1++VJ (YU s).2.1
def bb(s:ByteArray):Int:=if(YU s).2.2.2.2=0/\9<(YU s).2.2.2.1 then 9 else(YU s).2.2.2.2
def SnX(G:Hp)(q B n:Nat)(s:ByteArray)(z:Hp×Int×Int)(m:Nat):Prop:=Y9 G q B n s (λat_ bs ps pl e=>SnR s z.2 at_ bs ps pl e/\fI s (at_,bs,KW ps,pl,e)=YU s) z.1 m
def SnY(G:Hp)(q B n:Nat)(s:ByteArray)(z:Hp×Int×Int)(m:Nat):Prop:=Y9 G q B n s (λat_ bs ps pl e=>SnR s z.2 at_ bs ps pl e/\(at_,bs,KW ps,pl,e)=YU s) z.1 m
theorem gO{G:Hp}{n q B:Nat}{s:ByteArray}(S:Vw G q B s 0 [] [] 0 0)(hs:s.size<=1024):
 BP prog 309 [.ptr q 0] G n (al q B s G n λ_ _ d _ L=>d.length<=1048576/\KW d=bc s/\L=bb s):=by
 refine FF func309 rfl λho=>?_;refine AV 0 (α:=Hp×Int×Int) (λ_=>[(0,.ptr q 0)]) (λz=>z.1) (SnY G q B n s) ?_ (λz m hm=>?_);refine AP (Aq 0 (α:=Hp×Int×Int) (λ_=>[(0,.ptr q 0)]) (λz=>z.1) (SnX G q B n s) (jK s) (G,0,0) ⟨IO _,0,[],[],0,0,⟨⟨rfl,rfl,by omega,by simp,by simp,by simp,by simp⟩,rfl⟩,S,λ_ _ _ h=>h⟩ ?_ AC ?_);simp[go_sem,look,Or];rintro⟨z,a0,e0⟩ m ⟨hm,at_,bs,ps,a,e,⟨⟨h1,h2,M,h4,R,h6,h7⟩,hw⟩,T,hk⟩;dsimp only at h1 h2 T hk ⊢;subst h1;subst h2;obtain⟨p,ob,op,T0⟩:=id T;have l:=T0.cells;by_cases c:at_<s.size/\e=0;obtain⟨c1,rfl⟩:=c;have hl:=R rfl;have hbl:bs.length<=1024/\ps.length<=2048:=by omega
 refine LL 0 [(0,.ptr q 0)] z m ?_ (λm3 hm3=>?_);refine AV 0 (α:=Unit) (λ_=>[(0,.ptr q 0),(18,.bool true)]) (λ_=>z) (λ_ m2=>m<=m2) (CN Yt rfl mu mu ?_) (λ_ m2 i=>?_);simp[go_sem,Yt,l,c1,Or];refine AK ?_;simp[go_sem,Or,i];refine AP ?_;have hkl:at_.toNat<s.size:=by omega
 obtain⟨x,hx⟩:∃x,s[at_.toNat]'hkl=x:=⟨_,rfl⟩
 have C:s[at_.toNat]? = some x:=by rw[WK hkl,hx]
 obtain⟨b,hb⟩:∃b:Bool,b=((x.toNat:Int)==37):=⟨_,rfl⟩
 have O:fI s (if b then bX s at_ a 0 bs (KW ps)else(at_+1,bs++[x],KW ps,a,0))=YU s:=by
  rw[<-hw,fI.eq_def s (at_,bs,KW ps,a,0),dif_pos ⟨c1,rfl⟩];unfold QI;dsimp only;rw[C,hb]
 refine CH 0 [(0,.ptr q 0)] z (λm2=>m<=m2/\b=false) ?_ (λm4 r=>?_);refine AV 0 (α:=Unit) (λ_=>[(0,.ptr q 0),(28,.bool b)]) (λ_=>z) (λ_ m4=>m3<=m4) (CN ij rfl mu mu ?_) (λ_ m4 r=>?_);simp[go_sem,ij,l,M,C,Or];exact by rw[hb];exact Or
 refine AK ?_;cases b with
 | false=>simp[go_sem,Or];omega
 | true=>
  simp[go_sem];refine qM (gP T M c1 mq mq mq) ?_;rintro v I n' ⟨a1,a2,a3,a4,a5,⟨hpc,Z,r2,r3⟩,r6,r7,r8⟩;simp[go_sem,Or];have X:∀o y,o<B->G o=some y->I o=some y:=λo y g1 j=>r7 o y g1 (hk o y g1 j);refine⟨I,a1,a5,?_,⟨by omega,a1,a2,a3,a4,a5,⟨⟨rfl,rfl,by omega,by omega,λg=>by omega,by omega,by omega⟩,by rw[hpc];exact O⟩,r6,X⟩,AC⟩;rcases Z with⟨g1,j,rfl⟩|⟨rfl,rfl⟩
  simp[jK];omega;simp[jK]
 obtain⟨r,rfl⟩:=r;refine PU λY=>?_;refine AV 0 (α:=Hp) (λ_=>[(0,.ptr q 0)]) (λy=>y) (Y9 z q B m s λP Q d H L=>P=at_/\Q=bs++[x]/\d=ps/\H=a/\L=0) (CN il rfl mu mu ?_) (λy m5 N=>?_);simp[go_sem,il,l,M,C];refine⟨?_,?_⟩ <;>
 . refine qM (bC T Y mq x) ?_;rintro v I n' hq;simp[go_sem,Or];exact⟨I,hq.st r,AC⟩
 obtain⟨N,a1,a2,a3,a4,a5,⟨rfl,rfl,rfl,rfl,rfl⟩,⟨p1,E,F,k⟩,f⟩:=N;have hT:=k.cells;have w1:IntKind.i64.wrap (a1+1)=a1+1:=by rw[EU]<;>omega
 refine AK ?_;simp[go_sem,hT,w1,Or];refine⟨_,a1+1,0,by simp[jK];omega,⟨by omega,a1+1,bs++[x],a3,a4,0,⟨⟨rfl,rfl,by omega,by omega,λ_=>by simp;omega,by simp;omega,by omega⟩,O⟩,k.upd (a1+1) a4 0,λo w g1 j=>?_⟩,AC⟩;have:=k.le;exact(AD _ _ (show o≠q by omega)).trans (f o w g1 (hk o w g1 j));refine CH 0 [] z (λ_=>False) ?_ (λ_ U=>U.elim);refine AV 0 (α:=Unit) (λ_=>[(0,.ptr q 0),(18,.bool false)]) (λ_=>z) (λ_ m2=>m<=m2) (CN Yt rfl mu mu ?_) (λ_ m2 i=>?_);by_cases c1:at_<s.size;have A:¬e=0:=λg=>c ⟨c1,g⟩;have c3:(e==0)=false:=by simpa using A
 simp[go_sem,Yt,l,c1,c3,Or];simp[go_sem,Yt,l,c1,Or];refine AK ?_;simp[go_sem,Or];have U:(at_,bs,KW ps,a,e)=YU s:=by rw[<-hw,fI.eq_def,dif_neg c]
 exact⟨z,⟨at_,e,by omega,at_,bs,ps,a,e,⟨⟨rfl,rfl,M,h4,R,h6,h7⟩,U⟩,T,hk⟩,AC⟩;obtain⟨z,a0,e0⟩:=z;obtain⟨hm,at_,bs,ps,a,e,⟨⟨h1,h2,M,h4,R,h6,h7⟩,hw⟩,T,hk⟩:=hm;dsimp only at h1 h2 T hk ⊢;refine DH 0 (α:=Hp) (λ_=>[(0,.ptr q 0)]) (λy=>y) (Y9 z q B m s λ_ _ d H L=>d.length<=1048576/\KW d=bc s/\H=(YU s).2.2.2.1/\L=(YU s).2.2.2.2) ?_ (λy m2 i=>?_);simp[go_sem];refine qM (bD T mq mq) ?_;rintro v I n' ⟨b1,J,K,t,u,⟨r1,r2,⟨rl,r3⟩,r4,r5⟩,r6,r7,r8⟩;simp[go_sem,Or];exact⟨I,⟨r8,b1,J,K,t,u,⟨by omega,by rw[rl,bc,<-hw],by rw[r4,<-hw],by rw[r5,<-hw]⟩,r6,r7⟩,AC⟩;obtain⟨i,b1,J,K,t,u,⟨D,V,hP,hE⟩,⟨p1,E,F,k⟩,f⟩:=i;have W:bb s=if u=0/\9<t then 9 else u:=by rw[bb,<-hP,<-hE]
 have l:=k.cells;refine AK ?_;by_cases c1:u=0;by_cases A:9<t;simp[go_sem,l,c1,A];refine .inl ⟨b1,J,K,t,9,⟨D,V,by rw[W,my ⟨c1,A⟩]⟩,k.upd b1 t 9,λo y g1 j=>?_,by omega⟩;have:=k.le;rw[AD _ _ mq];exact f o y g1 (hk o y g1 j);simp[go_sem,l,c1,A];exact .inl ⟨b1,J,K,t,u,⟨D,V,by rw[W,mw λg=>A g.2]⟩,⟨p1,E,F,k⟩,λo y g1 j=>f o y g1 (hk o y g1 j),by omega⟩;simp[go_sem,l,c1];exact .inl ⟨b1,J,K,t,u,⟨D,V,by rw[W,mw λg=>c1 g.1]⟩,⟨p1,E,F,k⟩,λo y g1 j=>f o y g1 (hk o y g1 j),by omega⟩
end Go.Proofs.YthinbkgpjmjfeaaGreatDoor.Sh
