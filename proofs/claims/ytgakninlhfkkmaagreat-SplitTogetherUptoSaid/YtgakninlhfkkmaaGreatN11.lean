/- A part of the proof (part 11 of 18). -/
import Derived.Test.YtgakninlhfkkmaaGreatN10
import Derived.Test.YtgakninlhfkkmaaGreatRows
import Derived.WalkKit
import Derived.ProofKit
import Derived.OpenShut
import Derived.JoinedCond
import Derived.ReadAgain
import Derived.ChangeReads
namespace Go.Proofs.YtgakninlhfkkmaaGreat.Sh
open Go.Proofs.Tryz
open Proofs
set_option maxRecDepth 10000
set_option maxHeartbeats 4000000
theorem bt(v0:SV):PC 254 [v0,AA 0,AA 0,.fn (.func 120) [] []] (.tup []):=by
 intro h n;refine gq func254 rfl λa=>?_;simp[go_sem];refine Av 1 (α:=Unit) (λk=>[(2,AA 0),(8,AA 1)]) (λ_=>h) (λk m=>n<=m) (λk=>0) () ?_ ?_ AC ?_;omega;simp[Ao,show IntKind.i64.wrap 1=1 from by decide,IO];rintro _ m hm;simp[go_sem];exact A3 a AC rfl rfl
theorem be(v0:SV):PC 188 [v0,AA 0,.fn (.func 120) [] []] (.tup []):=by
 intro h n;refine gq func188 rfl λb=>?_;simp[go_sem];refine Av 1 (α:=Unit) (λk=>[(0,v0),(1,AA 0),(2,.fn (.func 120) [] []),(6,AA 20),(7,AA 0),(8,AA 20)]) (λ_=>h) (λk m=>n<=m) (λk=>0) () ?_ ?_ AC ?_;omega;simp[Ao];rintro _ m a;simp[go_sem];refine qz (bt v0) ?_;simp[go_sem];refine Av 1 (α:=Unit) (λk=>[(1,AA 0),(6,AA 20)]) (λ_=>h) (λk m=>n<=m) (λk=>0) () ?_ ?_ AC ?_;omega;simp[Ao];rintro _ m a;simp[go_sem];exact A3 b AC rfl rfl
theorem bR(o:Nat)(full:Bool):PC 119 [.sl o 0 2 0 full,.fn (.func 120) [] []] (.tup []):=by
 intro h n;refine gq func119 rfl λa=>?_;simp[go_sem];refine qz (be _) ?_;simp[go_sem];exact A3 a AC rfl rfl
def QA(l:List AM):List SV:=(l.map AM.e).flatMap SV.cells
def Vl(x:AF)(h:Hp)(n:Nat)(v1:SV)(o1:Option Nat)(v2:SV)(o2:Option Nat)(y:Int)(E:List Bs)(F:List AM):Hp:=
 Ea (F.map AM.e) o2 (Ea (E.map Bs.e) o1 (h_ (h_ h n (some (.cells [AU x.Q,AA y,AA x.move,v1,v2]))) (n+1) (some Y3)))
structure RnW(x:AF)(h:Hp)(n:Nat)(v1:SV)(o1:Option Nat)(v2:SV)(o2:Option Nat)(W:Int->List Bs->List AM->Hp):Prop where
 w0:∀y E F,W y E F n=some (.cells [AU x.Q,AA y,AA x.move,v1,v2])
 w1:∀y E F,W y E F (n+1)=some Y3
 wd:∀j,o1=some j->∀y E F,W y E F j=some (.cells (Cg E))
 wl:∀j,o2=some j->∀y E F,W y E F j=some (.cells (QA F))
 sy:∀y z E F,h_ (W y E F) n (some (.cells [AU x.Q,AA z,AA x.move,v1,v2]))=W z E F
 sd:∀j,o1=some j->∀y E F E',h_ (W y E F) j (some (.cells (Cg E')))=W y E' F
 sl:∀j,o2=some j->∀y E F F',h_ (W y E F) j (some (.cells (QA F')))=W y E F'
 old:∀y E F j z,h j=some z->W y E F j=some z
theorem rnW{x:AF}{h:Hp}{n m:Nat}{l o:SV}{o1 a:Option Nat}{g es2:List SV}(hb:∀j y,h j=some y->j<n)(a1:H6 2 g l o1 (n+2) m)(a2:H6 4 es2 o a (n+2) m)(b:∀j,o1=some j->a≠some j):RnW x h n l o1 o a (Vl x h n l o1 o a):=by
 have d:=a1.lt;have f:=a2.lt;clear a1 a2;constructor;intro y E F;have k:=d n;have c:=f n;cases o1<;>cases a<;>simp only[Vl,Ea,h_]<;>grind;intro y E F;have k:=d (n+1);have c:=f (n+1);cases o1<;>cases a<;>simp only[Vl,Ea,h_]<;>grind;intro j e y E F;subst e;have c:=b j rfl;cases a<;>simp only[Vl,Ea,h_,Cg]<;>grind;intro j e y E F;subst e;cases o1<;>simp only[Vl,Ea,h_,QA]<;>grind;intro y z E F;funext j;have k:=d n;have c:=f n;cases o1<;>cases a<;>simp only[Vl,Ea,h_]<;>grind;intro j e y E F E';subst e;have c:=b j rfl;funext i;cases a<;>simp only[Vl,Ea,h_,Cg]<;>grind;intro j e y E F F';subst e;funext i;cases o1<;>simp only[Vl,Ea,h_,QA]<;>grind;intro y E F j z e;have k:=d j;have c:=f j;have:=hb j z e;cases o1<;>cases a<;>simp only[Vl,Ea,h_]<;>grind
section
variable{g:FuncId}{a b:List SV}{p:Int->Bool}
theorem iJ(x:AF)(hs:x.D)(hd:x.Y.length<20)(hg:∀y,PC g (a++[AA y]++b) (.bool (p y)))(id:Int):PC 47 [x.e,AA id,.fn (.func g) a b] (E3 p id x).e:=by
 intro h n;refine DO func47 rfl λho=>?_;have V:=ho.lt;have q1:n≠n+1:=by omega
 refine By 0 [(1,AA id),(2,.fn (.func g) a b),(3,.ptr n 0),(6,.ptr (n+1) 0)] (h_ (h_ h n (some (.cells x.g))) (n+1) (some Y3)) (λm=>n+2=m) ?_ (λm hm=>?_);simp[go_sem,AF.e,AF.g,IO];subst hm;refine B8 0 (α:=SV×Option Nat×SV×Option Nat) (λq=>[(1,AA id),(2,.fn (.func g) a b),(3,.ptr n 0),(6,.ptr (n+1) 0)]) (λq=>Vl x h n q.1 q.2.1 q.2.2.1 q.2.2.2 x.I x.Y x.Z)
  (λq m'=>H6 2 (x.Y.map Bs.e) q.1 q.2.1 (n+2) m'/\H6 4 (x.Z.map AM.e) q.2.2.1 q.2.2.2 (n+2) m'/\(∀j,q.2.1=some j->q.2.2.2≠some j)/\n+2<=m') ?_ ?_
 simp[go_sem,AF.g,AE _ _ q1,AD];refine qP (eP x hs) ?_;rintro v H' n' ⟨v1,o1,v2,o2,rfl,a1,a2,L,hn',hH⟩;obtain⟨s1,t1⟩:=a1.st;obtain⟨s2,t2⟩:=a2.st;have L1:=a1.lt;have L2:=a2.lt;have hn:H' n=some (.cells [AU x.Q,AA x.I,AA x.move,Ax x.Y,Ai x.Z]):=by
  refine hH n _ ?_;have r3:=L1 n;have r4:=L2 n;cases o1<;>cases o2<;>simp only[Ea,h_]<;>grind
 simp[go_sem,hn];refine⟨v1,o1,v2,o2,⟨a1,a2,L,hn'⟩,λj y e=>?_⟩;have r1:=hH j y;have r3:=L1 j;have r4:=L2 j;have q6:=V j y;clear hH L1 L2 a1 a2 hn;revert e;cases o1<;>cases o2<;>simp only[Vl,Ea,h_]at r1 ⊢ <;> grind;rintro⟨v1,o1,v2,o2⟩ m ⟨a1,a2,L,hm⟩;dsimp only at a1 a2 L hm ⊢;have R:=rnW (x:=x) V a1 a2 L;generalize Vl x h n v1 o1 v2 o2=W at R ⊢;refine Aa 0 [(1,AA id),(2,.fn (.func g) a b),(3,.ptr n 0),(6,.ptr (n+1) 0),(7,.ptr n 1)] (W x.I x.Y x.Z) m ?_ (λm2 hm2=>?_);simp[go_sem,IO];have Z:∀y,PC g (a++AA y::b) (.bool (p y)):=λy=>by simpa using hg y
 refine CW 0 [(1,AA id),(2,.fn (.func g) a b),(3,.ptr n 0),(6,.ptr (n+1) 0),(7,.ptr n 1)] (W (B9 p id x.I) x.Y x.Z) m ?_ (λm3 hm3=>?_);refine AJ ?_;by_cases i0:x.I=0;have hr:B9 p id x.I=x.I:=by simp[B9,i0]
 rw[hr];simp[go_sem,R.w0,i0,IO,hm2];have i1:(x.I !=0)=true:=by simpa using i0
 simp[go_sem,R.w0,i1];refine qz (Z x.I) ?_;cases hp:p x.I with
 | true=>
  have hr:B9 p id x.I=id:=by simp[B9,i0,hp]
  rw[hr];simp[go_sem,R.w0,R.sy,IO,hm2]
 | false=>
  have hr:B9 p id x.I=x.I:=by simp[B9,hp]
  rw[hr];simp[go_sem,IO,hm2]
 generalize hy:B9 p id x.I=y;refine CW 0 [(1,AA id),(2,.fn (.func g) a b),(3,.ptr n 0),(6,.ptr (n+1) 0),(7,.ptr n 1)] (W y (x.Y.map (Ba p id)) x.Z) m ?_ (λm4 P=>?_);rcases a1 with⟨_,M,z',f,rfl⟩|⟨j,f,rfl,N,O,rfl⟩
 have s:x.Y=[]:=by simpa using M
 refine AJ ?_;simp[go_sem,R.w0,s];refine Av 0 (α:=Unit) (λ_=>[(1,AA id),(2,.fn (.func g) a b),(3,.ptr n 0),(6,.ptr (n+1) 0),(7,.ptr n 1),(34,AA 0),(35,AA 0)]) (λ_=>W y [] x.Z) (λ_ m'=>m<=m') (λ_=>0) () hm3 ?_ AC ?_;simp[Ao,IO];rintro _ m5 B;simp[go_sem,IO,B];refine Aa 0 [(1,AA id),(2,.fn (.func g) a b),(3,.ptr n 0),(6,.ptr (n+1) 0),(7,.ptr n 1),(34,AA x.Y.length),(35,AA 0)] (W y x.Y x.Z) m ?_ (λm5 B=>?_);simp[go_sem,R.w0,IO,hm3];refine AY (BT 0 (α:=Nat) (λi=>[(1,AA id),(2,.fn (.func g) a b),(3,.ptr n 0),(6,.ptr (n+1) 0),(7,.ptr n 1),(34,AA x.Y.length),(35,AA i)]) (λi=>W y (Ex (Ba p id) x.Y i) x.Z) (λi m'=>i<=x.Y.length/\m<=m') (λi=>x.Y.length-i) 0 ⟨qg _,B⟩ ?_ ?_ ?_);simp[Ao,IO];rw[N4];exact AC;rintro i m6 ⟨hi,J⟩;by_cases r:i<x.Y.length;have w1:=wS i (by omega);have u:=N3 (Ba p id) x.Y i r;have U:=PU (Ba p id) x.Y i (vV r);have l:=PT (Ba p id) x.Y i r;obtain⟨d,X⟩:∃d,x.Y[i]=d:=⟨_,rfl⟩
 rw[X]at u l;generalize hE:Ex (Ba p id) x.Y i=E at u U l;have t:(E.map Bs.e)[i]? = some d.e:=by rw[qX,l];rfl
 obtain⟨K,S⟩:=Mv (Bs.E.size E) t (k:=0) (c:=AA d.rev) rfl;have g3:p d.rev=true->((E.map Bs.e).flatMap SV.cells).take (i*2+0)++AA id::((E.map Bs.e).flatMap SV.cells).drop (i*2+0+1)=Cg (Ex (Ba p id) x.Y (i+1)):=λhp=>by
  rw[NP (e':=(Ba p id d).e) (Bs.E.size E) t (by omega) (by simp[Ba,ED,hp,Bs.e,SV.cells]),<-u,Cg,List.map_set]
 have g4:p d.rev=false->Ex (Ba p id) x.Y (i+1)=E:=λhp=>by
  rw[<-u,show Ba p id d=d by simp[Ba,ED,hp]];obtain⟨k1,k2⟩:=qh.1 l;rw[<-k2];exact List.set_getElem_self k1
 obtain⟨Q,C⟩:∃Q,Ex (Ba p id) x.Y (i+1)=Q:=⟨_,rfl⟩
 rw[C]at g3 g4;have H:∀y F,W y E F j=some (.cells (Cg E)):=λy F=>R.wd j rfl y E F;rw[show(E.map Bs.e).flatMap SV.cells=Cg E from rfl]at K S g3;simp only[UO]at K S g3;refine Aa 0 [(1,AA id),(2,.fn (.func g) a b),(3,.ptr n 0),(6,.ptr (n+1) 0),(7,.ptr n 1),(34,AA x.Y.length),(35,AA i),(36,.bool true)] (W y E x.Z) m ?_ (λm7 hm7=>?_);simp[go_sem,IO,r,J];refine Aa 0 [(1,AA id),(2,.fn (.func g) a b),(3,.ptr n 0),(6,.ptr (n+1) 0),(7,.ptr n 1),(34,AA x.Y.length),(35,AA i)] (W y E x.Z) m ?_ (λm8 hm8=>?_);simp[go_sem,IO,hm7];refine AX 0 (α:=Unit) (λ_=>[(1,AA id),(2,.fn (.func g) a b),(3,.ptr n 0),(6,.ptr (n+1) 0),(7,.ptr n 1),(34,AA x.Y.length),(35,AA i)]) (λ_=>W y Q x.Z) (λ_ m'=>m<=m') (AY ?_) (λ_ m9 A=>?_);refine Aa 0 [(1,AA id),(2,.fn (.func g) a b),(3,.ptr n 0),(6,.ptr (n+1) 0),(7,.ptr n 1),(34,AA x.Y.length),(35,AA i),(8,AA i)] (W y E x.Z) m ?_ (λm9 A=>?_);simp[go_sem,IO,hm8];refine Aa 0 [(1,AA id),(2,.fn (.func g) a b),(3,.ptr n 0),(6,.ptr (n+1) 0),(7,.ptr n 1),(34,AA x.Y.length),(35,AA i),(8,AA i),(47,.bool (p d.rev))] (W y E x.Z) m ?_ (λm10 w=>?_);simp[go_sem,R.w0,H,r,K,S];refine qz (Z d.rev) ?_;simp[go_sem,IO,A];cases hp:p d.rev with
 | true=>
  refine Au (b:=true) (by simp[go_sem]) (AJ ?_);have g3:=g3 hp;simp[go_sem,R.w0,H,r,K,g3,R.sd j rfl,IO,w]
 | false=>
  refine Au (b:=false) (by simp[go_sem]) (AJ ?_);rw[g4 hp];simp[go_sem,IO,w]
 refine AJ ?_;simp[go_sem,w1,IO,-Int.natCast_add];exact⟨i+1,by omega,⟨by omega,A⟩,IO,by rw[C];exact AC⟩;have:i=x.Y.length:=by omega
 subst this;rw[PS];refine AJ ?_;simp[go_sem,IO];exact J;have Y:(x.Y.map (Ba p id)).length=x.Y.length:=qf _;refine CW 0 [(1,AA id),(2,.fn (.func g) a b),(3,.ptr n 0),(6,.ptr (n+1) 0),(7,.ptr n 1)] (W y (Co (x.Y.map (Ba p id)) x.Y.length) x.Z) m ?_ (λm5 B=>?_);rcases a1 with⟨_,M,z',f,rfl⟩|⟨j,f,rfl,N,O,rfl⟩
 have s:x.Y=[]:=by simpa using M
 refine AJ ?_;simp[go_sem,R.w0,s];refine qz (by exact eq.wk (us:=[.i z' [] f,.fn (.func 120) [] []]) 1 ⟨Bj (by simp),IO,trivial⟩) ?_;simp[go_sem,IO,P,Co];refine AJ ?_;simp[go_sem,R.w0];by_cases s:x.Y=[];simp only[s,vI];refine qz (bR j f) ?_;simp[go_sem,IO,P,Co];have hl1:1<=(x.Y.map (Ba p id)).length:=by rw[Y];exact qH.2 s
 have c:=iN (x.Y.map (Ba p id)) hl1 (by omega) (full:=f) (n:=m4) (R.wd j rfl y (x.Y.map (Ba p id)) x.Z);rw[Y,R.sd j rfl]at c;refine qP c ?_;rintro v H' n' ⟨rfl,rfl,rfl⟩;simp[go_sem,IO,P];have hll:=hs.Z;have T:(Co (x.Y.map (Ba p id)) x.Y.length).length=x.Y.length:=by rw[Gv,Y]
 obtain⟨D,hD⟩:∃D,Co (x.Y.map (Ba p id)) x.Y.length=D:=⟨_,rfl⟩
 rw[hD]at T ⊢;refine CW 0 [(1,AA id),(2,.fn (.func g) a b),(3,.ptr n 0),(6,.ptr (n+1) 0),(7,.ptr n 1)] (W y D (x.Z.map (Bp p id))) m ?_ (λm4 P=>?_);rcases a2 with⟨_,M,z',f,rfl⟩|⟨j,f,rfl,N,O,rfl⟩
 have s:x.Z=[]:=by simpa using M
 refine AJ ?_;simp[go_sem,R.w0,s];refine Av 0 (α:=Unit) (λ_=>[(1,AA id),(2,.fn (.func g) a b),(3,.ptr n 0),(6,.ptr (n+1) 0),(7,.ptr n 1),(66,AA 0),(67,AA 0)]) (λ_=>W y D []) (λ_ m'=>m<=m') (λ_=>0) () B ?_ AC ?_;simp[Ao,IO];rintro _ m5 I;simp[go_sem,IO,I];refine Aa 0 [(1,AA id),(2,.fn (.func g) a b),(3,.ptr n 0),(6,.ptr (n+1) 0),(7,.ptr n 1),(66,AA x.Z.length),(67,AA 0)] (W y D x.Z) m ?_ (λm5 I=>?_);simp[go_sem,R.w0,IO,B];refine AY (BT 0 (α:=Nat) (λi=>[(1,AA id),(2,.fn (.func g) a b),(3,.ptr n 0),(6,.ptr (n+1) 0),(7,.ptr n 1),(66,AA x.Z.length),(67,AA i)]) (λi=>W y D (Ex (Bp p id) x.Z i)) (λi m'=>i<=x.Z.length/\m<=m') (λi=>x.Z.length-i) 0 ⟨qg _,I⟩ ?_ ?_ ?_);simp[Ao,IO];rw[N4];exact AC;rintro i m6 ⟨hi,J⟩;by_cases r:i<x.Z.length;have w1:=wS i (by omega);have u:=N3 (Bp p id) x.Z i r;have U:=PU (Bp p id) x.Z i (vV r);have l:=PT (Bp p id) x.Z i r;obtain⟨d,X⟩:∃d,x.Z[i]=d:=⟨_,rfl⟩
 rw[X]at u l;generalize hE:Ex (Bp p id) x.Z i=E at u U l;have t:(E.map AM.e)[i]? = some d.e:=by rw[qX,l];rfl
 obtain⟨K,S⟩:=Mv (AM.E.size E) t (k:=0) (c:=AA d.rev) rfl;have g3:p d.rev=true->((E.map AM.e).flatMap SV.cells).take (i*4+0)++AA id::((E.map AM.e).flatMap SV.cells).drop (i*4+0+1)=QA (Ex (Bp p id) x.Z (i+1)):=λhp=>by
  rw[NP (e':=(Bp p id d).e) (AM.E.size E) t (by omega) (by simp[Bp,ED,hp,AM.e,SV.cells]),<-u,QA,List.map_set]
 have g4:p d.rev=false->Ex (Bp p id) x.Z (i+1)=E:=λhp=>by
  rw[<-u,show Bp p id d=d by simp[Bp,ED,hp]];obtain⟨k1,k2⟩:=qh.1 l;rw[<-k2];exact List.set_getElem_self k1
 obtain⟨Q,C⟩:∃Q,Ex (Bp p id) x.Z (i+1)=Q:=⟨_,rfl⟩
 rw[C]at g3 g4;rw[show(E.map AM.e).flatMap SV.cells=QA E from rfl]at K S g3;have H:∀y G,W y G E j=some (.cells (QA E)):=λy G=>R.wl j rfl y G E;simp only[UO]at K S g3;refine Aa 0 [(1,AA id),(2,.fn (.func g) a b),(3,.ptr n 0),(6,.ptr (n+1) 0),(7,.ptr n 1),(66,AA x.Z.length),(67,AA i),(68,.bool true)] (W y D E) m ?_ (λm7 hm7=>?_);simp[go_sem,IO,r,J];refine Aa 0 [(1,AA id),(2,.fn (.func g) a b),(3,.ptr n 0),(6,.ptr (n+1) 0),(7,.ptr n 1),(66,AA x.Z.length),(67,AA i)] (W y D E) m ?_ (λm8 hm8=>?_);simp[go_sem,IO,hm7];refine AX 0 (α:=Unit) (λ_=>[(1,AA id),(2,.fn (.func g) a b),(3,.ptr n 0),(6,.ptr (n+1) 0),(7,.ptr n 1),(66,AA x.Z.length),(67,AA i)]) (λ_=>W y D Q) (λ_ m'=>m<=m') (AY ?_) (λ_ m9 A=>?_);refine Aa 0 [(1,AA id),(2,.fn (.func g) a b),(3,.ptr n 0),(6,.ptr (n+1) 0),(7,.ptr n 1),(66,AA x.Z.length),(67,AA i),(9,AA i)] (W y D E) m ?_ (λm9 A=>?_);simp[go_sem,IO,hm8];refine Aa 0 [(1,AA id),(2,.fn (.func g) a b),(3,.ptr n 0),(6,.ptr (n+1) 0),(7,.ptr n 1),(66,AA x.Z.length),(67,AA i),(9,AA i),(79,.bool (p d.rev))] (W y D E) m ?_ (λm10 w=>?_);simp[go_sem,R.w0,H,r,K,S];refine qz (Z d.rev) ?_;simp[go_sem,IO,A];cases hp:p d.rev with
 | true=>
  refine Au (b:=true) (by simp[go_sem]) (AJ ?_);have g3:=g3 hp;simp[go_sem,R.w0,H,r,K,g3,R.sl j rfl,IO,w]
 | false=>
  refine Au (b:=false) (by simp[go_sem]) (AJ ?_);rw[g4 hp];simp[go_sem,IO,w]
 refine AJ ?_;simp[go_sem,w1,IO,-Int.natCast_add];exact⟨i+1,by omega,⟨by omega,A⟩,IO,by rw[C];exact AC⟩;have:i=x.Z.length:=by omega
 subst this;rw[PS];refine AJ ?_;simp[go_sem,IO];exact J;have hval:(E3 p id x).e=.agg [AU x.Q,AA y,AA x.move,Ax D,Ai (x.Z.map (Bp p id))]:=by
  rw[<-hy,<-hD];rfl
 have e1:∀h',(∀j,o1=some j->h' j=some (.cells (Cg D)))->Fz h' h 1 v1 (Ax D):=λh' hh=>by
  rcases a1 with⟨_,M,z',f,rfl⟩|⟨j,f,rfl,N,O,rfl⟩
  have s:x.Y=[]:=by simpa using M
  have:D=[]:=vu (by rw[T,s];rfl);rw[this];exact Bj (by simp);have:=Cz (h':=h') (h:=h) (k:=0) (z:=2) (es:=D.map Bs.e) (full:=f) (full':=false) (o:=j) (ho.none (by omega)) (by simp) (hh j rfl) (Bs.E.size D);rw[qf,T]at this;rw[qf];exact this
 have e2:∀h',(∀j,o2=some j->h' j=some (.cells (QA (x.Z.map (Bp p id)))))->Fz h' h 1 v2 (Ai (x.Z.map (Bp p id))):=λh' hh=>by
  rcases a2 with⟨_,M,z',f,rfl⟩|⟨j,f,rfl,N,O,rfl⟩
  have s:x.Z=[]:=by simpa using M
  rw[s];exact Bj (by simp);have:=Cz (h':=h') (h:=h) (k:=0) (z:=4) (es:=(x.Z.map (Bp p id)).map AM.e) (full:=f) (full':=false) (o:=j) (ho.none (by omega)) (by simp) (hh j rfl) (AM.E.size _);rw[qf,qf]at this;rw[qf];exact this
 obtain⟨s1,t1⟩:=a1.st;obtain⟨s2,t2⟩:=a2.st;have L1:=a1.lt;have L2:=a2.lt;simp only[SV.B,SV.cells]at s1 t1 s2 t2;rw[hval];refine AJ ?_;have W0:=R.w0 y D (x.Z.map (Bp p id));have W1:=R.w1 y D (x.Z.map (Bp p id));have WD:=λj e=>R.wd j e y D (x.Z.map (Bp p id));have WL:=λj e=>R.wl j e y D (x.Z.map (Bp p id));have WO:=R.old y D (x.Z.map (Bp p id));simp[go_sem,W0,W1,AD];refine Dj (v:=.agg [AU x.Q,AA y,AA x.move,Ax D,Ai (x.Z.map (Bp p id))]) 2 ho (AL (λj z e=>by have:=V j z e;omega) WO) (.inr ⟨IO,IO,IO,e1 _ (λj e=>?_),e2 _ (λj e=>?_),trivial⟩) (by simp[cc,ca,Bi.E.ca,Bs.E.ca,AM.E.ca,-List.map_map]);have:=L1 j e;rw[AE _ _ (by omega)];exact WD j e;have:=L2 j e;rw[AE _ _ (by omega)];exact WL j e
end
def LG(a id:Int)(s:Unit)(p:CI):AF×Bool×Unit:=(if p.mid then E3 (λy=>y==a) id p.H else p.H,true,s)
theorem df(n0:Nat)(r:BC)(a:Int):Pn R9 n0 46 [] [.q [AA r.id,.str r.O,AA r.time],.q [AA a]] (LG a r.id) (λx=>x.D/\x.Y.length<20) where
 lt _ _ _:=rfl
 dom _ _ _ _:=rfl
 cl _ _ _ e:=by cases e
 call s p H n hp _ hn hs:=by
  rw[db];refine DO func46 rfl λh=>?_;have d:=h.lt;have k:n+1≠n:=by omega
  obtain⟨X,i⟩:∃X:SV,X=.q (p.H.g++[.bool p.mid,AA p.units]):=⟨_,rfl⟩
  refine By 1 [(1,.q [AA r.id,.str r.O,AA r.time]),(2,.q [AA a]),(3,X),(4,.ptr (n+1) 0)] (h_ H (n+1) (some (.cells [.i 0 [] true,AA 0,AA 0,.i 0 [] true,.i 0 [] true]))) (λm=>n+2<=m) ?_ (λm hm=>?_);rw[i];simp[go_sem,CI.e,AF.g,IO];refine⟨AZ (by rw[AE _ _ k.symm];exact h.none (qa n)) (by simp[h_]),λj y=>?_⟩;have:=d j y;simp only[h_];grind;have f:∀x:AF,cc n (.tup [x.e,.bool true])=true:=λx=>by simp[cc,ca,AF.E.cl]
  have fin:∀(x:AF)(y:Bb)(m':Nat),LG a r.id s p=(x,true,s)->CO n (h_ H (n+1) (some y)) m' (.tup [x.e,.bool true]) (λv h' n'=>v=.tup [(LG a r.id s p).1.e,.bool (LG a r.id s p).2.1]/\h'=H/\n'=n):=λx y m' e=>by rw[e];exact DK h (f x) (AL (λj z e=>by have:=d j z e;omega) AC)
  rw[i];refine AJ ?_;cases c:p.mid with
  | false=>
   simp[go_sem,AF.g,AD,Ah];exact fin p.H _ _ (by simp[LG,c])
  | true=>
   simp[go_sem,AF.g];refine qz (by simpa[AF.e,AF.g]using iJ (g:=48) (a:=[]) (b:=[.q [AA a]]) (p:=λy=>y==a) p.H hp.1 hp.2 (λy=>c48 a y) r.id) ?_;simp[go_sem,AF.e,AF.g,AD,Ah];exact fin (E3 (λy=>y==a) r.id p.H) _ _ (by simp[LG,c])
def Nc(x:AB):Bool:=(x.k==7&&(match x.R with|[]=>true|_::_=>false))||(x.k==1&&x.x.size==0)
theorem Kp(x:AB):BS x↔Nc x=true:=by
 unfold BS Nc;cases h:x.R<;>simp[]
def QF(out:List AB)(x:AB):List AB:=
 if Nc x then out else match out.getLast? with
  | some y=>if x.k=1/\y.k=1/\y.H=x.H then out.dropLast++[y.cz x.x]else out++[x]
  | none=>out++[x]
theorem U9:AQ=QF:=by
 funext out x;unfold AQ QF;by_cases h:BS x;rw[if_pos h,if_pos ((Kp x).1 h)];rw[if_neg h,if_neg (λe=>h ((Kp x).2 e))];cases out.getLast? <;> rfl
theorem I2(l:List AB):AO l=(AB.nrmL l).foldl QF []:=by rw[AO,Cy,U9]
def C7:BC:=⟨3,⟨#[65,110]⟩,0⟩
def Cw:BC:=⟨4,⟨#[65,110]⟩,0⟩
def z0:AF:=⟨[],0,0,[],[]⟩
def hI(i:Int):AF:=⟨[],i,0,[],[]⟩
def Nd(i:Int)(t:ByteArray):AB:=.mk 1 0 0 t (hI i) [] []
def Vi:AB:=Nd 3 ⟨#[97,98,99,100]⟩
def P3:AB:=.mk 2 0 0 ⟨#[]⟩ z0 [] []
def HL:AI:=⟨[],[],[],[]⟩
def Cv:AG:=⟨[Vi,P3],z0,[C7],HL⟩
def Ft:BH:=⟨0,1,3⟩
def Oc(i:Int):List AB:=[Nd 3 ⟨#[97]⟩,Nd i ⟨#[98,99]⟩,Nd 3 ⟨#[100]⟩,P3]
theorem jp(l:List AB)(a b:Int)(r:List AB)(h:DL l a b=0)(c:(AB.nrmL (Ad (Ad l b).1 a).2).foldl QF []=r):Ab l a b=(r,0):=by
 rw[Ab,if_pos h,I2,c]
theorem rs1:Ab [Vi,P3] 0 1=([Nd 3 ⟨#[97]⟩],0):=jp _ _ _ _ (by kernel_rfl) (by kernel_rfl)
theorem rs2:Ab [Vi,P3] 1 3=([Nd 3 ⟨#[98,99]⟩],0):=jp _ _ _ _ (by kernel_rfl) (by kernel_rfl)
theorem rs3:Ab [Vi,P3] 3 5=([Nd 3 ⟨#[100]⟩,P3],0):=jp _ _ _ _ (by kernel_rfl) (by kernel_rfl)
theorem cW:BF [Vi,P3]=(5,0):=by kernel_rfl
section
variable{σ:Type}
theorem jv(f:σ->CI->AF×Bool×σ)(revs:List BC)(s:σ)(r:List AB×σ)(h:((A8 f (AT f Ft 1) false [Nd 3 ⟨#[97]⟩] s).1++(A8 f (AT f Ft 1) true [Nd 3 ⟨#[98,99]⟩] (A8 f (AT f Ft 1) false [Nd 3 ⟨#[97]⟩] s).2).1++(A8 f (AT f Ft 1) false [Nd 3 ⟨#[100]⟩,P3] (A8 f (AT f Ft 1) true [Nd 3 ⟨#[98,99]⟩] (A8 f (AT f Ft 1) false [Nd 3 ⟨#[97]⟩] s).2).2).1,
 (A8 f (AT f Ft 1) false [Nd 3 ⟨#[100]⟩,P3] (A8 f (AT f Ft 1) true [Nd 3 ⟨#[98,99]⟩] (A8 f (AT f Ft 1) false [Nd 3 ⟨#[97]⟩] s).2).2).2)=r):
 BM f Ft 2 Cv revs s=(⟨r.1,(f r.2 ⟨z0,false,1⟩).1,revs,HL⟩,(f r.2 ⟨z0,false,1⟩).2.2):=by
 have e:AT f Ft 2 0 Cv.W false s=r:=by
  rw[<-h];show AT f Ft 2 0 [Vi,P3] false s=_;rw[AT,if_pos (by kernel_rfl),cW];show(_,_)=_;rw[show Ft.a=1 from rfl,show Ft.b=3 from rfl,rs1,rs2,rs3]
 rw[BM,e];rfl
end
theorem w1:BM (C1 (Hj 3)) Ft 2 Cv [C7] (0,0)=(⟨Oc 3,z0,[C7],HL⟩,(2,2)):=by
 rw[jv _ _ _ (Oc 3,(2,2)) (by kernel_rfl)];kernel_rfl
theorem w2:BM (C1 λ(s:Unit) _=>s) Ft 2 Cv [C7] ()=(⟨Oc 3,z0,[C7],HL⟩,()):=by
 rw[jv _ _ _ (Oc 3,()) (by kernel_rfl)];kernel_rfl
theorem w3:BM (LG 3 4) Ft 2 Cv [C7,Cw] ()=(⟨Oc 4,z0,[C7,Cw],HL⟩,()):=by
 rw[jv _ _ _ (Oc 4,()) (by kernel_rfl)];kernel_rfl
theorem jV:AO (Oc 3)=[Vi,P3]:=by rw[I2];kernel_rfl
theorem nP4:AO (Oc 4)=Oc 4:=by rw[I2];kernel_rfl
theorem n3:(⟨Oc 3,z0,[C7],HL⟩:AG).normal=Cv:=by
 rw[AG.normal,AG.norm1,jV];kernel_rfl
theorem s34:C9 [3,4]=[3,4]:=by unfold C9;first|exact List.mergeSort_of_sorted (by simp)|exact List.mergeSort_of_pairwise (by simp)|simp[List.mergeSort]
theorem u34:Gc ⟨Oc 4,z0,[C7,Cw],HL⟩=[3,4]:=by
 rw[Gc,show((BU [] (AB.U (Oc 4)++z0.all)).filter λx=>decide (x≠0))=[3,4]by kernel_rfl,s34]
theorem n4:(⟨Oc 4,z0,[C7,Cw],HL⟩:AG).normal=⟨Oc 4,z0,[C7,Cw],HL⟩:=by
 rw[AG.normal,AG.norm1,nP4,u34];kernel_rfl
theorem jB:DM 2 Cv 3 Ft=(2,2,0):=by
 rw[DM,if_neg (of_decide_eq_false (by kernel_rfl)),if_neg (of_decide_eq_false (by kernel_rfl)),if_neg (of_decide_eq_false (by kernel_rfl))];rw[show Cv.V=[C7]from rfl,w1]
def Z8(h:AF):Prop:=h=z0\/h=hI 3
theorem Gp{h:AF}(e:Z8 h):h.D:=by
 rcases e with rfl|rfl<;>exact⟨by simp[z0,hI],by simp[z0,hI],by simp[z0,hI]⟩
theorem RF{h:AF}(e:Z8 h):Yx h:=by
 rcases e with rfl|rfl<;>exact⟨rfl,rfl,rfl⟩
theorem WW{h:AF}(e:Z8 h):h.V.length<=1048576:=by
 rcases e with rfl|rfl<;>exact of_decide_eq_true (by kernel_rfl)
theorem WX:Dq Z8 10 2 Cv.W:=by
 refine⟨of_decide_eq_true (by kernel_rfl),of_decide_eq_true (by kernel_rfl),λx a=>?_⟩;have:x=Vi\/x=P3:=by simpa[Cv]using a
 rcases this with rfl|rfl;exact⟨.inr rfl,⟨by simp[Vi,Nd,AB.W],of_decide_eq_true (by kernel_rfl),by simp[Vi,Nd,AB.W]⟩,by simp[Vi,Nd,AB.R],by simp[Vi,Nd,AB.R]⟩;exact⟨.inl rfl,⟨by simp[P3,AB.W],of_decide_eq_true (by kernel_rfl),by simp[P3,AB.W]⟩,by simp[P3,AB.R],by simp[P3,AB.R]⟩
theorem JR(i:Int)(t:ByteArray)(ht:t.size<=10):(Nd i t).D:=by
 simp[Nd,AB.D,AB.G,AP.G];exact⟨by omega,by simp[hI],by simp[hI],by simp[hI]⟩
theorem PB:P3.D:=by
 simp[P3,AB.D,AB.G,AP.G];exact⟨of_decide_eq_true (by kernel_rfl),by simp[z0],by simp[z0],by simp[z0]⟩
theorem OH:HL.D:=⟨by simp[HL],by simp[HL],by simp[HL],by simp[HL],by simp[HL],by simp[HL]⟩
theorem SZ:z0.D:=Gp (.inl rfl)
theorem JQ(i:Int)(revs:List BC)(h:revs.length<=10):(⟨Oc i,z0,revs,HL⟩:AG).D:=
 ⟨by simp[Oc],by simp only[Oc,AB.G];exact⟨JR _ _ (of_decide_eq_true (by kernel_rfl)),JR _ _ (of_decide_eq_true (by kernel_rfl)),JR _ _ (of_decide_eq_true (by kernel_rfl)),PB,trivial⟩,SZ,by show revs.length<=_;omega,OH⟩
theorem HQ:Cv.D:=
 ⟨by simp[Cv],by simp only[Cv,AB.G];exact⟨JR _ _ (of_decide_eq_true (by kernel_rfl)),PB,trivial⟩,SZ,by simp[Cv],OH⟩
theorem Sy{d:AG}(hl:d.W.length<=1048576)(a:AB.G d.W){id:Int}{fl:Fl}(e:Eg d id=some fl):fl.items.length<=1048576/\∀x∈fl.items,x.x.size<=1048576:=by
 have o:=KB hl a fl (List.mem_of_find?_eq_some e);exact⟨o.1,vZ o.2⟩
theorem co:PC 13 [Cv.e,AA 3,Ft.e] (.tup [AA 2,AA 2,AA 0]):=by
 have b:Cv.V=[C7]:=rfl;have:=c13 Z8 10 (by omega) (λh e=>⟨⟨Gp e,WW e⟩,Gp e⟩) 2 Cv 3 Ft WX (.inl rfl) (by simp[Cv]) (λfl a=>?_) ?_ ?_ ?_;rw[jB]at this;exact this;exact Sy HQ.len HQ.W a;rw[b,w1];exact JQ _ _ (by simp);rw[b,w1,n3];exact HQ;rw[b,w1,jV];exact of_decide_eq_true (by kernel_rfl)
theorem k42:PC 42 [Cw.e] (AA 0):=by
 have:=d7 Cw
 rwa [show Cn Cw=0 by kernel_rfl]at this
theorem k20:PC 20 [BE [C7],AA 4] (.tup [HJ.e,.bool false]):=by
 have:=fW [C7] (by simp) 4;have e:CT [C7] 4=(HJ,false):=by kernel_rfl
 rw[e]at this;exact this
theorem jM:PC 45 [BE [C7],Cw.e] (.tup [BE [C7,Cw],AA 0]):=b9 [C7] (by simp) (by simp) Cw (by kernel_rfl) (by kernel_rfl) 1 (by simp) (by kernel_rfl)
theorem jK{n0 t:Nat}{H:Hp}{n:Nat}(hn:n0<=n):BL prog 36 [Cv.e,Ft.e,.fn (.func 43) [] [.ptr t 0]] H n (λv h' n'=>v=.tup []/\h'=H/\n'=n):=by
 have a:Cv.V=[C7]:=rfl;have:=io (sc:=Ft) (v43 n0 t) Z8 10 (by omega) (λh e=>⟨RF e,Gp e⟩) 2 Cv () WX (.inl rfl) ?_ ?_ ?_ (H:=H) hn (by rintro o y ⟨⟩);rw[db]at this;exact this;rw[a,w2];exact JQ _ _ (by simp);rw[a,w2,n3];exact HQ;rw[a,w2,jV];exact of_decide_eq_true (by kernel_rfl)
theorem jN{n0:Nat}{H:Hp}{n:Nat}(hn:n0<=n):BL prog 49 [.fn (.func 46) [] [.q [AA 4,.str ⟨#[65,110]⟩,AA 0],.q [AA 3]],Cv.e,Ft.e,BE [C7,Cw]] H n (λv h' n'=>v=(⟨Oc 4,z0,[C7,Cw],HL⟩:AG).e/\h'=H/\n'=n):=by
 have:=d49 (sc:=Ft) (df n0 Cw 3) Z8 10 (by omega) (λh e=>⟨⟨Gp e,by rw[(RF e).Y];simp⟩,Gp e⟩) 2 Cv [C7,Cw] () WX (.inl rfl) ?_ ?_ ?_ (H:=H) hn (by rintro o y ⟨⟩);rw[db,show Cw.id=4 from rfl,w3,n4]at this;exact this;rw[show Cw.id=4 from rfl,w3];exact JQ _ _ (by simp);rw[show Cw.id=4 from rfl,w3,n4];exact JQ _ _ (by simp);rw[show Cw.id=4 from rfl,w3,nP4];exact of_decide_eq_true (by kernel_rfl)
theorem cp:PC 15 [Cv.e,AA 3,Ft.e,Cw.e] (.tup [(⟨Oc 4,z0,[C7,Cw],HL⟩:AG).e,AA 0]):=by
 intro h n;refine DO func15 rfl λl=>?_;have d:=l.lt;obtain⟨X,g⟩:∃X:SV,X=.q ([AK Cv.W]++Cv.T0.g++[BE Cv.V]++Cv.S.g):=⟨_,rfl⟩
 obtain⟨S,s⟩:∃S:SV,S=.q [AA Ft.id,AA Ft.a,AA Ft.b]:=⟨_,rfl⟩
 obtain⟨V,p⟩:∃V:SV,V=.q [AA Cw.id,.str Cw.O,AA Cw.time]:=⟨_,rfl⟩
 obtain⟨G,r⟩:∃G:Hp,G=h_ h (n+4) (some (.cells Cq)):=⟨_,rfl⟩
 have f:∀j y,G j=some y->j<n+5:=λj y e=>by
  rw[r]at e;simp only[h_]at e;split at e;omega;have:=d j y e;omega
 have u:∀j y,h j=some y->G j=some y:=λj y e=>by rw[r];exact AL (λj z e=>by have:=d j z e;omega) AC j y e
 have t:G (n+4)=some (.cells Cq):=by rw[r,AD]
 refine By 1 [(4,X),(5,.q [AA 3]),(6,S),(7,V),(8,.ptr (n+4) 0)] G (λm=>n+5<=m) ?_ (λm c=>?_);rw[g,s,p,r];simp[go_sem,BH.e,AG.e,AF.g,AI.g,BC.e,IO,qu,Cq];refine⟨⟨AZ (by simp[h_];exact l.none (by omega)) (by simp[h_]),AZ (by simp[h_];exact l.none (by omega)) (by simp[h_]),AZ (by simp[h_];exact l.none (by omega)) (by simp[h_]),AZ (by simp[h_];exact l.none (by omega)) (by simp[h_])⟩,λj y=>?_⟩;have:=d j y;simp only[h_];grind;have w:∀E:AG,cc n (.tup [E.e,AA 0])=true:=λE=>by simp[AG.e,AF.g,AI.g,cc,ca,AB.E.ca,Bi.E.ca,Bs.E.ca,AM.E.ca,BC.E.ca,A7.E.ca,GQ.E.ca,A9.E.ca,GY.E.ca]
 refine By 0 [(4,X),(5,.q [AA 3]),(6,S),(7,V),(8,.ptr (n+4) 0),(10,AA 2),(11,AA 2),(12,AA 0)] G (λm=>n+5<=m) ?_ (λm c=>?_);rw[g,s];simp[go_sem,AF.g,AI.g];refine qz (by simpa[BH.e,AG.e,AF.g,AI.g]using co) ?_;simp[go_sem,IO,c];refine Bg 0 [(4,X),(5,.q [AA 3]),(6,S),(7,V),(8,.ptr (n+4) 0),(10,AA 2),(11,AA 2)] G (λm=>n+5<=m) (AJ ?_) (λm c=>?_);simp[go_sem,IO,c];refine Bg 0 [(4,X),(5,.q [AA 3]),(6,S),(7,V),(8,.ptr (n+4) 0),(10,AA 2),(11,AA 2)] G (λm=>n+5<=m) (AJ ?_) (λm c=>?_);rw[p];simp[go_sem];refine qz (by simpa[BC.e]using k42) ?_;simp[go_sem,IO,c];refine Bg 0 [(4,X),(5,.q [AA 3]),(6,S),(7,V),(8,.ptr (n+4) 0),(10,AA 2),(11,AA 2)] G (λm=>n+5<=m) (AJ ?_) (λm c=>?_);rw[g,p];simp[go_sem,AF.g,AI.g];refine qz (by simpa[Cw,Cv]using k20) ?_;simp[go_sem,IO,BC.e,AD,Ah];exact⟨by omega,AL (λj z e=>by have:=f j z e;omega) AC⟩;refine Bg 0 [(4,X),(5,.q [AA 3]),(6,S),(7,V),(8,.ptr (n+4) 0)] G (λm=>n+5<=m) (AJ ?_) (λm c=>?_);rw[g];simp[go_sem,AF.g,AI.g,IO,c,Cv];refine B8 0 (α:=Nat) (λk=>[(4,X),(5,.q [AA 3]),(6,S),(7,V),(8,.ptr (n+4) 0),(16,.ptr (k+1) 0)]) (λk=>h_ (h_ G k (some (.map []))) (k+1) (some (.cells [.map k]))) (λk m=>n+5<=k/\k+1<m) ?_ (λk m c=>?_);simp[go_sem,IO,Ah,AD];exact⟨m,⟨by omega,by omega⟩,rfl,AC⟩;obtain⟨hk1,x⟩:=c;refine By 0 [(4,X),(5,.q [AA 3]),(6,S),(7,V),(8,.ptr (n+4) 0),(16,.ptr (k+1) 0)] (h_ (h_ G k (some (.map []))) (k+1) (some (.cells [.map k]))) (λm=>k+1<m) ?_ (λm c=>?_);rw[g,s];simp[go_sem,AF.g,AI.g];refine qP (by simpa[BH.e,AG.e,AF.g,AI.g]using jK (n0:=0) (qg _)) ?_;rintro v B n' ⟨rfl,rfl,rfl⟩;simp[go_sem,IO,x];refine Bg 0 [(4,X),(5,.q [AA 3]),(6,S),(7,V),(8,.ptr (n+4) 0)] G (λm=>n+5<=m) (AJ ?_) (λm c=>?_);simp[go_sem,AD];refine Lv (m:=k) (es:=[]) rfl (by simp[go_sem]) (by simp[go_sem]) (by simp[h_]) ?_;simp[go_sem];refine Av 0 (α:=Unit) (λ_=>[(69,.ptr m 0),(4,X),(5,.q [AA 3]),(6,S),(7,V),(8,.ptr (n+4) 0)]) (λ_=>h_ G m (some (.iter [] none))) (λ_ m2=>m<m2) (λ_=>0) () (qY m) ?_ ?_ ?_;simp[Ao,IO];intro o y e;simp only[h_]at e ⊢;by_cases A:o=m;rw[if_pos A]at e ⊢;exact e;rw[if_neg A]at e ⊢;have:=f o y e;rw[if_neg (by omega),if_neg (by omega),if_neg (by omega)];exact e;rintro _ m2 hm2;simp[go_sem];refine OG (q:=m) (left:=[]) (last:=none) rfl (by simp[go_sem]) (AD _ _ _) (λi hi=>absurd hi (by simp)) λ_=>?_;simp[go_sem,IO];exact⟨by omega,AL (λj z e=>by have:=f j z e;omega) AC⟩;refine By 0 [(4,X),(5,.q [AA 3]),(6,S),(7,V),(8,.ptr (n+4) 0),(19,BE [C7,Cw]),(12,AA 0)] G (λm=>n+5<=m) ?_ (λm c=>?_);rw[g,p];simp[go_sem,AF.g,AI.g];refine qz (by simpa[BC.e,Cv]using jM) ?_;simp[go_sem,IO,c];refine Bg 0 [(4,X),(5,.q [AA 3]),(6,S),(7,V),(8,.ptr (n+4) 0),(19,BE [C7,Cw])] G (λm=>n+5<=m) (AJ ?_) (λm c=>?_);simp[go_sem,IO,c];refine By 0 [(4,X),(6,S),(8,.ptr (n+4) 0),(19,BE [C7,Cw]),(20,.fn (.func 46) [] [V,.q [AA 3]])] G (λm=>n+5<=m) ?_ (λm c=>?_);simp[go_sem,IO,c];refine AJ ?_;rw[g,s,p];simp[go_sem,AF.g,AI.g];refine qP (by simpa[BH.e,AG.e,AF.g,AI.g,Cw]using jN (n0:=0) (qg _)) ?_;rintro v B n' ⟨rfl,rfl,rfl⟩;simp[go_sem,t,Cq,AG.e,AF.g,AI.g,AD];exact A3 l (AL (λj z e=>by have:=d j z e;omega) u) rfl (w ⟨Oc 4,z0,[C7,Cw],HL⟩)
theorem AG.cl(n:Nat)(E:AG):cc n E.e=true:=by simp[AG.e,AF.g,AI.g,cc,ca,AB.E.ca,Bi.E.ca,Bs.E.ca,AM.E.ca,BC.E.ca,A7.E.ca,GQ.E.ca,A9.E.ca,GY.E.ca]
theorem k32:PC 32 [] Cv.e:=by
 intro h n;refine gq func32 rfl λa=>?_;have i:n≠n+1:=by omega
 have j:n≠n+1+1:=by omega
 have d:n+1≠n:=by omega
 have f:n+1+1≠n:=by omega
 have g:n+1≠n+1+1:=by omega
 simp[go_sem,AD,AE,j];refine Dj 3 a (λo y e=>?_) ?_ (AG.cl n Cv);have:=(a o y e).1;rw[AE _ _ (by omega),AE _ _ (by omega),AE _ _ (by omega),AE _ _ (by omega)];exact e;have b:h (n+1)=none:=a.none (by omega);have c:h (n+1+1)=none:=a.none (by omega);refine .inr ⟨.inr ⟨b,by simp,rfl,rfl,_,_,by rw[AE _ _ d,AE _ _ g,AD],rfl,?_,?_⟩,?_,IO,IO,?_,?_,.inr ⟨c,by simp,rfl,rfl,_,_,by rw[AE _ _ f,AD],rfl,?_,?_⟩,?_,?_,?_,?_,trivial⟩;exact AB.E.size _;exact⟨IO,IO,IO,IO,Bj (by simp),IO,IO,Bj (by simp),Bj (by simp),Bj (by simp),Bj (by simp),IO,IO,IO,IO,Bj (by simp),IO,IO,Bj (by simp),Bj (by simp),Bj (by simp),Bj (by simp),trivial⟩;exact Bj (by simp);exact Bj (by simp);exact Bj (by simp);exact BC.E.size _;exact⟨IO,IO,IO,trivial⟩;exact Bj (by simp);exact Bj (by simp);exact Bj (by simp);exact Bj (by simp)
theorem k11:PC 11 [] (.bool true):=by
 intro h n;refine DO func11 rfl λx=>?_;have a:=x.lt;obtain⟨A,u⟩:∃A:SV,A=.i 11 ((Oc 4).map AB.e) false:=⟨_,rfl⟩
 obtain⟨R,w⟩:∃R:SV,R=BE [C7,Cw]:=⟨_,rfl⟩
 refine Aa 0 [] h n ?_ (λm B=>?_);simp[go_sem];refine Aa 1 [(1,.q [A,AU [],AA 0,AA 0,Ax [],Ai [],R,Aj [],Dg [],Bd [],Fs []]),(2,AA 0)] h n ?_ (λm B=>?_);simp[go_sem];refine qz k32 ?_;simp[go_sem];have e:(⟨Oc 4,z0,[C7,Cw],HL⟩:AG).e=.agg [A,AU [],AA 0,AA 0,Ax [],Ai [],R,Aj [],Dg [],Bd [],Fs []]:=by rw[u,w];rfl
 have k:=cp;rw[e]at k;refine qz (v:=.tup [.agg [A,AU [],AA 0,AA 0,Ax [],Ai [],R,Aj [],Dg [],Bd [],Fs []],AA 0]) k ?_;simp[go_sem,IO,AD,Ah];exact⟨by omega,AZ (AS (λj y e=>by have:=a j y e;omega) (qa m)) (AD _ _ _),AL (λj z e=>by have:=a j z e;omega) AC⟩;obtain⟨d,p⟩:∃d:SV,d=(Nd 3 ⟨#[97]⟩).e:=⟨_,rfl⟩
 obtain⟨i,q⟩:∃i:SV,i=P3.e:=⟨_,rfl⟩
 obtain⟨f,b⟩:∃f:SV,f=.agg [AA 1,AA 0,AA 0,.str ⟨#[98,99]⟩,AU [],AA 4,AA 0,Ax [],Ai [],AK [],Aw []]:=⟨_,rfl⟩
 obtain⟨g,c⟩:∃g:SV,g=.agg [AA 1,AA 0,AA 0,.str ⟨#[100]⟩,AU [],AA 3,AA 0,Ax [],Ai [],AK [],Aw []]:=⟨_,rfl⟩
 have l:A=.i 11 [d,f,g,i] false:=by rw[u,p,b,c,q];rfl
 obtain⟨r0,r⟩:∃r0:SV,r0=C7.e:=⟨_,rfl⟩
 obtain⟨t,s⟩:∃t:SV,t=Cw.e:=⟨_,rfl⟩
 have o:R=.i 3 [r0,t] false:=by rw[w,r,s];rfl
 refine AJ ?_;rw[l,o,b,c];simp[go_sem];exact As x rfl rfl
theorem nC{α β γ σ:Type}(c:β×σ->α->β×σ)(d:γ×σ->α->γ×σ):∀(l:List α)(a:β)(b:γ)(s:σ),(∀x∈l,∀a b s,(c (a,s) x).2=(d (b,s) x).2)->(l.foldl c (a,s)).2=(l.foldl d (b,s)).2
 | [],_,_,_,_=>rfl
 | x::l,a,b,s,h=>by
  have e:=h x (by simp) a b s;simp only[J5];have h1:c (a,s) x=((c (a,s) x).1,(c (a,s) x).2):=rfl;have h2:d (b,s) x=((d (b,s) x).1,(c (a,s) x).2):=by rw[e]
  rw[h1,h2];exact nC c d l _ _ _ λy f=>h y (by simp[f])
section
variable{σ:Type}
def zF(u:σ->CI->σ)(s:σ)(x:CI):AF×Bool×σ:=(DN,true,u s x)
theorem lh(u:σ->CI->σ)(it:Int->List AB->Bool->σ->List AB×σ)(fl:Int->List AB->BH->Bool->σ->List AB×σ)(sc:BH)(mid:Bool)(l:List AB)(s:σ)
 (e:∀x∈l,x.k≠7->x.R=[]) (f:∀x∈l,x.k=6->∀s,(it x.id x.W mid s).2=(fl x.id x.W sc mid s).2)
 (g:∀x∈l,∀r∈x.R,∀c∈r.cells,∀s,(it c.id c.W mid s).2=(fl c.id c.W sc mid s).2):(A8 (C1 u) it mid l s).2=(kh (zF u) fl sc mid l s).2:=by
 unfold A8 kh;refine nC _ _ l _ _ _ λx d a b s=>?_;simp only[CL,C1,mP,zF,if_true,Cm,oQ];by_cases k6:x.k=6;have:x.R=[]:=e x d (by omega);simp only[k6,this,lp,if_true,List.foldl_nil];exact f x d k6 _;by_cases k7:x.k=7;simp only[k7,if_true];simp only[show(7:Int)=6↔False by decide,if_false];unfold HY lp;refine nC _ _ _ _ _ _ λr h a b s=>?_;simp only[EG,kP,nG,C1,zF,if_true];unfold Er lE;refine nC _ _ _ _ _ _ λc hc a b s=>?_;simp only[DH,kM,C1,zF,if_true];exact g x d r h c hc _;simp only[k6,k7,if_false,e x d k7,lp,List.foldl_nil]
end
def GJ(T:Int->Prop):Nat->List AB->Prop
 | 0,_=>True
 | N+1,l=>∀x∈l,(x.k≠7->x.R=[])/\(x.k=6->T x.id)/\GJ T N x.W/\∀r∈x.R,∀c∈r.cells,T c.id/\GJ T N c.W
def Nn(T:Int->Prop)(N:Nat)(x:AB):Prop:=(x.k≠7->x.R=[])/\(x.k=6->T x.id)/\GJ T N x.W/\∀r∈x.R,∀c∈r.cells,T c.id/\GJ T N c.W
theorem Wf{T:Int->Prop}{N:Nat}{l:List AB}:GJ T (N+1) l↔∀x∈l,Nn T N x:=Iff.rfl
theorem Wj(T:Int->Prop)(N:Nat):GJ T N []:=by cases N<;>simp[GJ]
theorem No{T:Int->Prop}{N:Nat}(x:AB)(t:ByteArray)(H:Nn T N x):Nn T N (.mk x.k x.code x.id t x.H x.W x.R):=by cases x;exact H
theorem Im{T:Int->Prop}:∀{N:Nat} {l:List AB},GJ T N l->GJ T N (AO l)
 | 0,_,_=>trivial
 | N+1,l,H=>by
  rw[Wf]at H ⊢;unfold AO Cy;rw[Ve];refine Gr (p:=Nn T N) No _ _ (λy f=>by cases f) λy f=>?_;obtain⟨x,o,rfl⟩:=ql.1 f;obtain⟨a,b,c,d⟩:=H x o;obtain⟨g,_,e,_,e1,k,i⟩:=WY x;refine⟨λh=>?_,λh=>?_,by rw[k];exact Im c,?_⟩;rw[g]at h;rw[i,a h];rfl;rw[g]at h;rw[e];exact b h;rw[i];intro r n;obtain⟨r0,h0,rfl⟩:=ql.1 (Kq.1 n).1;have m:(AP.N r0).cells=r0.cells.map cr.N:=by cases r0;rw[AP.N,Ta];rfl
  rw[m];intro c hc;obtain⟨c0,h1,rfl⟩:=ql.1 hc;obtain⟨q,s⟩:=d r0 h0 c0 h1;have j:(cr.N c0).id=c0.id/\(cr.N c0).W=AO c0.W:=by cases c0;rw[cr.N];exact⟨rfl,rfl⟩
  exact⟨by rw[j.1];exact q,by rw[j.2];exact Im s⟩
theorem MM{T:Int->Prop}{N:Nat}{l:List AB}(a:Int)(H:GJ T (N+1) l):GJ T (N+1) (Ad l a).1/\GJ T (N+1) (Ad l a).2:=
 Hk (p:=Nn T N) No l a H _ (qa _)
theorem KI{T:Int->Prop}{N:Nat}{l:List AB}(a b:Int)(H:GJ T (N+1) l):GJ T (N+1) (Ab l a b).1:=by
 unfold Ab;split;exact Im (MM a (MM b H).1).2;exact Wj T _
section
variable{σ:Type}
theorem pd(u:σ->CI->σ)(sc:BH):∀(N:Nat)(id:Int)(l:List AB)(mid:Bool)(s:σ),GJ (λi=>i≠sc.id/\i ≠ -1) N l->(mid=true\/(id≠sc.id/\id ≠ -1))->(AT (C1 u) sc N id l mid s).2=(ch (zF u) N id l Sd mid s).2
 | 0,_,_,_,_,_,_=>rfl
 | N + 1, id, l, mid, s, hg, hid => by
  have d:¬F9 sc id l mid=true:=by rcases hid with rfl|⟨h,_⟩<;>simp[F9, *]
  have e:¬(id=Sd.id/\mid=false):=by rcases hid with rfl|⟨_,h⟩<;>simp[Sd, *]
  rw[AT,ch,if_neg d,if_neg e];exact lh u _ _ _ _ l s (λx a=>(hg x a).1) (λx a k6 s=>pd u sc N _ _ _ _ (hg x a).2.2.1 (.inr ((hg x a).2.1 k6)))
   (λx a r b c hc s=>pd u sc N _ _ _ _ ((hg x a).2.2.2 r b c hc).2 (.inr ((hg x a).2.2.2 r b c hc).1))
theorem lg{m2:List Int}{T:Int->Prop}:∀{N:Nat} {l:List AB},Xr m2 N l->(∀i∈GU N l,T i)->GJ T N l
 | 0,_,_,_=>trivial
 | N+1,l,h,hT=>λx d=>by
  obtain⟨⟨f6,f7,_⟩,_,e,_,f⟩:=h x d;have hI:∀i∈GT N x,T i:=λi hi=>hT i (by rw[JW];exact QD.2 ⟨x,d,hi⟩);refine⟨f7,λk6=>hI _ (by simp[GT,k6]),?_,λr a c hc=>?_⟩;by_cases k6:x.k=6;exact lg e λi hi=>hI i (by simp[GT,k6,hi]);rw[f6 k6];exact Wj T N;by_cases k7:x.k=7;have b:∀i,i=c.id\/i∈GU N c.W->T i:=λi hi=>hI i (by
   simp only[GT,k7,show ¬(7:Int)=6 by decide,if_false,if_true];refine Q9 _ (QD.2 ⟨r,a,QD.2 ⟨c,hc,qt.2 hi⟩⟩))
  exact⟨b _ (.inl rfl),lg ((f r a).2 c hc).2 λi hi=>b i (.inr hi)⟩;rw[f7 k7]at a;cases a
theorem lf{α β:Type}{f:α->List β}{l:List α}(h:(l.flatMap f).Nodup){x:α}(b:x∈l):(f x).Nodup:=by
 induction l with
 | nil=>cases b
 | cons a l ih=>
  rw[QZ,List.nodup_append]at h;rcases qt.1 b with rfl|b;exact h.1;exact ih h.2.1 b
theorem n8(p:BN){l:List AB}{x:AB}(b:x∈l){f:Fl}(c:f∈AB.fl p x):f∈AB.flL p l:=by
 induction l with
 | nil=>cases b
 | cons a l ih=>
  rw[AB.flL,qd];rcases qt.1 b with rfl|b;exact .inl c;exact .inr (ih b)
theorem oU(p:BN){l:List AP}{x:AP}(b:x∈l){f:Fl}(c:f∈AP.fl p x):f∈AP.flL p l:=by
 induction l with
 | nil=>cases b
 | cons a l ih=>
  rw[AP.flL,qd];rcases qt.1 b with rfl|b;exact .inl c;exact .inr (ih b)
theorem oT(p:BN){l:List cr}{x:cr}(b:x∈l){f:Fl}(c:f∈cr.fl p x):f∈cr.flL p l:=by
 induction l with
 | nil=>cases b
 | cons a l ih=>
  rw[cr.flL,qd];rcases qt.1 b with rfl|b;exact .inl c;exact .inr (ih b)
theorem p9(u:σ->CI->σ)(sc:BH){m2:List Int}:∀(N:Nat)(id:Int)(l:List AB)(p:BN)(s:σ),Xr m2 N l->id∉GU N l->(GU N l).Nodup->(∀i∈GU N l,1<=i)->(∀f∈Eh id l p,f.id=sc.id->¬HG sc f.items)->
 (AT (C1 u) sc N id l false s).2=(ch (zF u) N id l sc false s).2
 | 0,_,_,_,_,_,_,_,_,_=>rfl
 | N+1,id,l,p,s,hk,hid,hnd,h1,hb=>by
  by_cases e:id=sc.id;have hg:=lg (T:=λi=>i≠sc.id/\i ≠ -1) hk λi hi=>⟨λg=>hid (by rw[e,<-g];exact hi),by have:=h1 i hi;omega⟩
  have b:=hb ⟨id,l,p⟩ (qV ..) e;have k:F9 sc id l false=true:=by
   unfold HG at b;dsimp only at b;simp only[F9,e,decide_true,Bool.true_and,Bool.not_false,qo,decide_eq_true_eq];omega
  rw[AT,ch,if_pos k,if_pos ⟨e,rfl⟩];have q:∀(mid:Bool)(l:List AB)(s:σ),GJ (λi=>i≠sc.id/\i ≠ -1) (N+1) l->(A8 (C1 u) (AT (C1 u) sc N) mid l s).2=(kh (zF u) (ch (zF u) N) Sd mid l s).2:=λmid l s hg=>
   lh u _ _ _ _ l s (λx a=>(hg x a).1) (λx a k6 s=>pd u sc N _ _ _ _ (hg x a).2.2.1 (.inr ((hg x a).2.1 k6)))
    (λx a r b c hc s=>pd u sc N _ _ _ _ ((hg x a).2.2.2 r b c hc).2 (.inr ((hg x a).2.2.2 r b c hc).1))
  dsimp only;rw[q false _ _ (KI _ _ hg),q true _ _ (KI _ _ hg),q false _ _ (KI _ _ hg)];have m:¬F9 sc id l false=true:=by simp[F9,e]
  have n:¬(id=sc.id/\false=false):=by simp[e]
  rw[AT,ch,if_neg m,if_neg n];have nx:∀x∈l,(GT N x).Nodup/\∀i∈GT N x,1<=i:=λx a=>⟨lf (f:=GT N) hnd a,λi hi=>h1 i (by rw[JW];exact QD.2 ⟨x,a,hi⟩)⟩
  refine lh u _ _ _ _ l s (λx a=>(hk x a).1.2.1) (λx a k6 s=>?_) (λx a r b c hc s=>?_);obtain⟨d,h⟩:=nx x a;simp only[GT,k6,if_true]at d h;rw[vd]at d;refine p9 u sc N _ _ p.inNote s (hk x a).2.2.1 d.1 d.2 (λi hi=>h i (Q9 _ hi)) λf j=>hb f (Q9 _ (n8 p a ?_));cases x;simp only[AB.k]at k6;rw[AB.fl,if_pos k6];exact j;have k7:x.k=7:=by
   by_cases k7:x.k=7;exact k7;rw[(hk x a).1.2.1 k7]at b;cases b
  obtain⟨d,h⟩:=nx x a;simp only[GT,k7,show ¬(7:Int)=6 by decide,if_false,if_true]at d h;rw[vd]at d;have g3:(c.id::GU N c.W).Nodup:=lf (f:=λc:cr=>c.id::GU N c.W) (lf (f:=Io N) d.2 b) hc;rw[vd]at g3;refine p9 u sc N _ _ p.cy s (((hk x a).2.2.2.2 r b).2 c hc).2 g3.1 g3.2 (λi hi=>h i (Q9 _ (QD.2 ⟨r,b,QD.2 ⟨c,hc,Q9 _ hi⟩⟩))) λf j=>hb f (Q9 _ (n8 p a ?_));cases x;simp only[AB.k]at k7;rw[AB.fl,if_neg (by rw[k7];decide),if_pos k7];refine oU _ b ?_;cases r;rw[AP.fl];refine oT _ hc ?_;cases c;exact j
end
theorem mE{α β γ:Type}{f:α->List β}{g:β->γ}{k:α->List γ}:∀{l:List α},(∀x∈l,((f x).map g).Sublist (k x))->((l.flatMap f).map g).Sublist (l.flatMap k)
 | [],_=>by simp
 | a::l,h=>by
  rw[QZ,QZ,qc];exact(h a (by simp)).append (mE λx b=>h x (by simp[b]))
theorem nj(p:BN):∀l:List AB,AB.flL p l=l.flatMap (AB.fl p)
 | []=>by rw[AB.flL];rfl
 | x::l=>by rw[AB.flL,nj p l];rfl
theorem mz(p:BN):∀l:List AP,AP.flL p l=l.flatMap (AP.fl p)
 | []=>by rw[AP.flL];rfl
 | x::l=>by rw[AP.flL,mz p l];rfl
theorem my(p:BN):∀l:List cr,cr.flL p l=l.flatMap (cr.fl p)
 | []=>by rw[cr.flL];rfl
 | x::l=>by rw[cr.flL,my p l];rfl
theorem mf{hp:AF->Prop}{K:Nat}:∀{N:Nat} {l:List AB} (p:BN),Dq hp K N l->((AB.flL p l).map Fl.id).Sublist (GU N l)
 | N + 1, l, p, H => by
  rw[nj,JW];refine mE λx g=>?_;obtain⟨_,a,_,b⟩:=H.2.2 x g;cases x with
  | mk k c i t h f r=>
   have hI:GT N (.mk k c i t h f r)=if k=6 then i::GU N f else if k=7 then i::r.flatMap (Io N)else[]:=rfl
   have a':Dq hp K N f:=a;have d:∀q∈r,hp q.H/\q.cells.length<=K/\∀c∈q.cells,hp c.H/\Dq hp K N c.W:=b;rw[AB.fl,hI];by_cases k6:k=6;rw[if_pos k6,if_pos k6];exact(mf p.inNote a').cons_cons _;rw[if_neg k6,if_neg k6];by_cases k7:k=7;rw[if_pos k7,if_pos k7];refine List.Sublist.cons _ ?_;rw[mz];refine mE λr e=>?_;cases r with
   | mk hd cs=>
    rw[AP.fl,my];refine mE (k:=λc:cr=>c.id::GU N c.W) λc hc=>?_;have:=((d _ e).2.2 c hc).2;cases c;rw[cr.fl];exact(mf _ this).cons_cons _
   rw[if_neg k7,if_neg k7];exact List.nil_sublist _
theorem Pa{id:Int}:∀{l:List BC},(HI id l).2=true->∃r∈l,r.id=id
 | [],h=>by simp[HI]at h
 | r::l,h=>by
  rw[HI]at h;split at h;exact⟨r,by simp,by assumption⟩;obtain⟨q,h1,h2⟩:=Pa h;exact⟨q,by simp[h1],h2⟩
theorem VJ{l:List BC}{id:Int}(h:(CT l id).2=true):∃r∈l,r.id=id:=by
 unfold CT at h;split at h;split at h;rename_i h1 h2;have a:=Fw _ _ h2;simp only[Az,decide_eq_true_eq]at h2 a;obtain⟨k,b⟩:∃k,k=EI (F6 l id) 0 l.length:=⟨_,rfl⟩
 rw[<-b]at h2 a;refine⟨_,qi a,?_⟩;have:=h2.2;unfold F6 at this;rw[qe a]at this;simp only[GD]at this;split at this;omega;split at this;omega;omega;simp at h;exact Pa h
theorem JK{F:Nat->Int}{n:Nat}(h:CD F n=0):∀k,k<n->F k=0:=λk hk=>by
 induction n with
 | zero=>omega
 | succ n ih=>
  rw[CD]at h;split at h;rename_i h0;by_cases e:k=n;rw[e];exact h;exact ih h0 (by omega);omega
def HK(m2:List Int)(h:AF):Prop:=h.D/\UN m2 h
theorem L5:∀(l:List AB),(∀x∈l,x.x.size<=1000)->Ak l<=l.length*1000
 | [],_=>by simp[Ak]
 | x::l,h=>by
  have h1:=L5 l λy a=>h y (by simp[a]);have h2:=h x (by simp);have e:Ak (x::l)=x.x.size+Ak l:=by simp[Ak]
  simp only[qJ];omega
theorem M6{m2:List Int}{B:Nat}:∀{N:Nat} {l:List AB},Dq AF.D B N l->Og N l->Xr m2 N l->Dq (HK m2) 150000 N l
 | 0,_,h,_,_=>h.elim
 | N+1,l,hl,hf,hk=>by
  obtain⟨_,_,k⟩:=Ci.1 hl;obtain⟨f1,f2⟩:=hf;refine Ci.2 ⟨by omega,?_,λx a=>?_⟩;have:=L5 l λx a=>(f2 x a).1.1;omega;obtain⟨a1,a2,a3,a4⟩:=k x a;obtain⟨⟨b1,b2⟩,e,f⟩:=f2 x a;obtain⟨c1,g,i,_,j⟩:=hk x a;refine⟨⟨a1,g.toUN⟩,M6 a2 e i,by omega,λr b=>?_⟩;obtain⟨m,u2,d⟩:=a4 r b;obtain⟨v1,n⟩:=f r b;obtain⟨w1,w2⟩:=j r b;exact⟨⟨m,w1.1.toUN⟩,by omega,λc hc=>⟨⟨(d c hc).1,(w2 c hc).1.toUN⟩,M6 (d c hc).2 (n c hc) (w2 c hc).2⟩⟩
section
variable{hp:AF->Prop}{σ:Type}{f:σ->CI->AF×Bool×σ}{K N:Nat}
end
theorem Tw{m2:List Int}{h:AF}(H:HK m2 h):∀u∈h.all,u∈0::m2:=λu b=>by
 have k:=H.2;simp only[AF.all,qt,qd,ql]at b ⊢;rcases b with rfl|⟨x,a,rfl⟩|⟨x,a,rfl⟩
 rcases k.I with e|e;exact .inl e;exact .inr e;exact .inr (k.Y x a);exact .inr (k.Z x a)
theorem Kn{m2:List Int}{K N:Nat}{W:AG}(hm:m2.length<=1000)(c:K<=1048576)(h:Dq (HK m2) K N W.W)(b:HK m2 W.T0)(d:W.V.length<=1048576)(e:W.S.D):
 W.D/\W.normal.D/\(BU [] (AB.U (AO W.W)++W.T0.all)).length<=1048576:=by
 have h1:=h.D (λx g=>g.1) c;have h2:=(FD h).D (λx g=>g.1) c;refine⟨⟨h1.1,h1.2,b.1,d,e⟩,⟨h2.1,h2.2,b.1,?_,e⟩,?_⟩;exact qI (JM _ _) d;refine qI (Xx (L:=0::m2) λu a=>?_) (by simp only[qJ];omega);rcases qd.1 a with a|a;exact TM (λh g=>Tw g) (FD h) u a;exact Tw b u a
theorem ZL(m2:List Int):HK m2 DN:=⟨⟨by simp[DN],by simp[DN],by simp[DN]⟩,⟨.inl rfl,by simp[DN],by simp[DN],by simp[DN],by simp[DN]⟩⟩
theorem GK{l:List BC}(h:El l=0):l.length<=256:=by
 unfold El at h;have hl:¬(256:Int)<l.length:=λg=>by simp[Bc,g]at h
 omega
def Xm(w:World):Cx:=⟨λ_=>none,λ_=>False,w,λ_=>none⟩
def BB:Nat:=1048576
section
variable{H:Type}(enc:TypeId×Value->H)(P:Program)(w:World)(base:Nat)(spare:Nat->Bool)(Bv:Bool)
variable{α β:Type}
def Rd(k:Nat)(e:TypeId)(F:α->List SV)(z:Nat)(ok:α->Prop)(μ:α->Nat):Prop:=
 ∀cs x,DataW.trod enc P w base spare Bv k e cs=some x->Rows.uptoBulk x.1<=BB->∃a,VL (Xm w) (F a) cs/\cs.length=z/\(∀v∈cs,v.oneCell'=true)/\ok a/\μ a+1<=Rows.uptoBulk x.1
def Cp(n:Nat)(L:Nat)(fs:List Field)(o:Nat)(F:α->List SV)(ok:α->Prop)(μ:α->Nat):Prop:=
 ∀(cs:List Value)(xs:List (DataW H×List MemPlace)),cs.length=L->xs.length=fs.length->(∀(i:Nat)(f:Field),fs[i]? = some f->DataW.trod enc P w base spare Bv n f.type ((cs.drop f.offset).take (P.cellsOf f.type))=xs[i]?)->
  Rows.uptoBulkAll (xs.map (·.1))<=BB->∃b,VL (Xm w) (F b) (cs.drop o)/\(∀v∈cs.drop o,v.oneCell'=true)/\ok b/\μ b<=Rows.uptoBulkAll (xs.map (·.1))
variable{enc P w base spare Bv}
theorem Zi{c:Cx}{a b:List SV}{x y:List Value}(h:VL c a x)(g:VL c b y):VL c (a++b) (x++y):=BP.2 (vh (BP.1 h) (BP.1 g))
theorem Cp.nil{n L:Nat}:Cp enc P w base spare Bv n L [] L (λ_:Unit=>[]) (λ_=>True) (λ_=>0):=λcs xs h1 h2 _ _=>by
 have:cs.drop L=[]:=Vk (by omega);exact⟨(),by rw[this,VL],by rw[this];simp,trivial,qg _⟩
theorem Cp.cons{n L:Nat}{f:Field}{l:List Field}{o z:Nat}{g:α->List SV}{h:β->List SV}{d:α->Prop}{e:β->Prop}{μ1:α->Nat}{μ2:β->Nat}(h1:Rd enc P w base spare Bv n f.type g z d μ1)(B:P.cellsOf f.type=z)(A:f.offset=o)
 (h2:Cp enc P w base spare Bv n L l (o+z) h e μ2):Cp enc P w base spare Bv n L (f::l) o (λp:α×β=>g p.1++h p.2) (λp=>d p.1/\e p.2) (λp=>μ1 p.1+μ2 p.2):=λcs xs t m g3 u=>by
 cases xs with
 | nil=>simp at m
 | cons x xs=>
  simp only[qr,Rows.uptoBulkAll]at u;have j:=g3 0 f rfl;rw[A,B]at j;obtain⟨a,a1,a2,a3,a4,a5⟩:=h1 _ x (by simpa using j) (by omega);obtain⟨b,b1,q,r,b4⟩:=h2 cs xs t (by simpa using m) (λi s y=>by have:=g3 (i+1) s (by simpa using y);simpa using this) (by omega);have k:cs.drop o=(cs.drop o).take z++cs.drop (o+z):=by rw[<-vF,qM]
  refine⟨(a,b),?_,?_,⟨a4,r⟩,?_⟩;rw[k];exact Zi a1 b1;rw[k];intro v c;rcases qd.1 c with c|c;exact a3 v c;exact q v c;simp only[qr,Rows.uptoBulkAll];omega
theorem Cp.rd{n L:Nat}{T:TypeId}{c:Array Field}{F:α->List SV}{ok:α->Prop}{μ:α->Nat}(ht:P.underlying T=some (.struct c))(hz:P.cellsOf T=L)(h:Cp enc P w base spare Bv n L c.toList 0 F ok μ):Rd enc P w base spare Bv (n+1) T F L ok μ:=λcs x k hb=>by
 obtain⟨xs,m,hm,rfl,hl,a,j⟩:=DataW.trod_struct ht k;obtain rfl:n=m:=by omega
 simp only[Rows.uptoBulk]at hb ⊢;obtain⟨b,b1,d,g,b4⟩:=h cs xs (by omega) (by simpa using a) (λi f e=>j i f (by simpa using e)) (by omega);exact⟨b,by simpa using b1,by omega,by simpa using d,g,by omega⟩
theorem Rd.map{k e z:Nat}{F:α->List SV}{ok:α->Prop}{μ:α->Nat}(h:Rd enc P w base spare Bv k e F z ok μ)(g:α->β){d:β->List SV}{b:β->Prop}{μ':β->Nat}(f:∀a,d (g a)=F a)(c:∀a,ok a->b (g a))(j:∀a,μ' (g a)<=μ a):Rd enc P w base spare Bv k e d z b μ':=λcs x i hb=>by
 obtain⟨a,a1,a2,a3,a4,a5⟩:=h cs x i hb;exact⟨g a,by rw[f];exact a1,a2,a3,c a a4,by have:=j a;omega⟩
theorem NJ{c:Cx}{s:SV}{v:Value}(h:V c s v):VL c [s] [v]:=BP.2 ⟨h,trivial⟩
theorem aW{k:Nat}{T:TypeId}(ht:P.underlying T=some (.int .i64)):Rd enc P w base spare Bv k T (λn:Int=>[AA n]) 1 (λ_=>True) (λ_=>0):=λcs x a _=>by
 obtain⟨n,rfl,rfl,_⟩:=DataW.trod_int ht a;exact⟨n,NJ (by rw[V]),rfl,by simp[Value.oneCell'],trivial,by simp[Rows.uptoBulk]⟩
theorem Yn{k:Nat}{T:TypeId}(ht:P.underlying T=some .bool):Rd enc P w base spare Bv k T (λn:Bool=>[.bool n]) 1 (λ_=>True) (λ_=>0):=λcs x a _=>by
 obtain⟨n,rfl,rfl⟩:=DataW.trod_bool ht a;exact⟨n,NJ (by rw[V]),rfl,by simp[Value.oneCell'],trivial,by simp[Rows.uptoBulk]⟩
theorem aX{k:Nat}{T:TypeId}(ht:P.underlying T=some .string):Rd enc P w base spare Bv k T (λs:ByteArray=>[.str s]) 1 (λs=>s.size<=BB) (λs=>s.size):=λcs x a hb=>by
 obtain⟨s,rfl,rfl,_⟩:=DataW.trod_string ht a;have e:s.data.toList.length=s.size:=by rw[vl];rfl
 simp only[Rows.uptoBulk]at hb ⊢;exact⟨s,NJ (by rw[V]),rfl,by simp[Value.oneCell'],by omega,by omega⟩
def Mj(μ:α->Nat)(l:List α):Nat:=(l.map λa=>μ a+1).sum
theorem Dn(μ:α->Nat):∀l:List α,l.length<=Mj μ l
 | []=>by simp
 | a::l=>by have:=Dn μ l;simp only[Mj,qr,XW,qJ]at this ⊢;omega
theorem Ua{k z:Nat}{e:TypeId}{F:α->List SV}{f:α->SV}{ok:α->Prop}{μ:α->Nat}(A:∀a,f a=.agg (F a))(D:∀a,(f a).B=true)(x:Rd enc P w base spare Bv k e F z ok μ)(o:P.cellsOf e=z)(p:0<z)(a:Addr):
 ∀(ys:List (DataW H×List MemPlace))(i:Nat),(∀j,j<ys.length->(w.cells? base (a.add ((i+j)*P.cellsOf e)) (P.cellsOf e)).bind (DataW.trod enc P w base spare Bv k e)=ys[j]?)->Rows.uptoBulkAll (ys.map (·.1))<=BB->
  ∃l:List α,∃us:List Value,l.length=ys.length/\Ag (V (Xm w)) (l.map f) us/\(∀u∈us,u.cells.size=z)/\(∀v∈us.flatMap (·.cells.toList),v.oneCell'=true)/\(∀j v,(us.flatMap (·.cells.toList))[j]? = some v->w.cell? (a.add (i*z+j))=some v)/\(∀a∈l,ok a)/\Mj μ l<=Rows.uptoBulkAll (ys.map (·.1))
 | [],i,_,_=>⟨[],[],rfl,trivial,by simp,by simp,by simp,by simp,by simp[Mj]⟩
 | y::ys,i,hy,hb=>by
  simp only[qr,Rows.uptoBulkAll]at hb;have h0:=hy 0 (by simp);simp only[vw,UO]at h0;obtain⟨cs,h,E⟩:=Yc.1 h0;obtain⟨_,hcl,g⟩:=World.cells?_some h;obtain⟨b,b1,r,s,C,b5⟩:=x cs y E (by omega);obtain⟨l,us,G,I,J,K,L,M,N⟩:=Ua A D x o p a ys (i+1) (λj B=>by have:=hy (j+1) (by simp;omega);rw[show i+1+j=i+(j+1)by omega];simpa using this) (by omega);have hc:(Value.agg cs.toArray).cells.toList=cs:=by simp[Value.cells]
  refine⟨b::l,.agg cs.toArray::us,by simp[G],⟨?_,I⟩,?_,?_,?_,?_,?_⟩;show V (Xm w) (f b) (.agg cs.toArray);rw[A,V];exact⟨cs,rfl,b1,s⟩;intro u n;rcases qt.1 n with rfl|n;simpa[Value.cells]using r;exact J u n;intro v c;rw[QZ,hc]at c;rcases qd.1 c with c|c;exact s v c;exact K v c;intro j v c;rw[QZ,hc]at c;by_cases B:j<z;rw[qZ (by omega)]at c;have:=g j (by rw[o];exact B);rw[o,c]at this;have e:(a.add (i*z)).add j=a.add (i*z+j):=by
   unfold Addr.add;by_cases d:i*z=0;simp[d];by_cases t:j=0;simp[d,t];simp[d,t,qu]
  rw[e]at this;exact this;rw[qT (by omega)]at c;have:=L (j-cs.length) v c;rw[show(i+1)*z+(j-cs.length)=i*z+j by rw[r,UI,Nat.one_mul];omega]at this;exact this;intro q m;rcases qt.1 m with rfl|m;exact C;exact M q m;simp only[qr,Rows.uptoBulkAll,Mj,XW]at N ⊢;omega
theorem D6{k z:Nat}{e T:TypeId}{F:α->List SV}{f:α->SV}{ok:α->Prop}{μ:α->Nat}(E:∀a,f a=.agg (F a))(y:∀a,(f a).B=true)(ht:P.underlying T=some (.slice e))(H:P.cellsOf e=z)(u:0<z)(C:∀m,m+1=k->Rd enc P w base spare Bv m e F z ok μ):
 Rd enc P w base spare Bv k T (λl:List α=>[.i z (l.map f) false]) 1 (λl=>(∀a∈l,ok a)/\Mj μ l<=BB) (Mj μ):=λcs x G hb=>by
 rcases DataW.trod_slice ht G with⟨rfl,rfl⟩|⟨a,len,cap,b,rest,n,hn,rfl,rfl,_,o,_,c,D,_,_⟩
 exact⟨[],NJ (by rw[V];exact .inl ⟨rfl,rfl⟩),rfl,by simp[Value.oneCell'],⟨by simp,by simp[Mj]⟩,by simp[Mj,Rows.uptoBulk]⟩;simp only[Rows.uptoBulk]at hb ⊢;obtain⟨l,us,A,I,J,K,B,L,l7⟩:=Ua E y (C n hn.symm) H u a b 0 (λj hj=>by rw[qU];exact D j (by omega)) (by omega);refine⟨l,NJ ?_,rfl,by simp[Value.oneCell'],⟨L,by omega⟩,by omega⟩;rw[V];right;refine⟨a,cap,us.flatMap (·.cells.toList),by rw[qf,A,c],by rw[qf,A,c];exact o,by simp,?_,J1.2 ⟨us,I,J,λs t=>?_,rfl⟩⟩;have d:us.flatMap (·.cells.toList)≠[]->a.spot=none:=λp=>by
  obtain⟨v,r,g⟩:=List.exists_cons_of_ne_nil p;have:=World.cell?_spot (B 0 v (by rw[g];rfl));simpa[Addr.add]using this
 refine⟨d,λ_ h=>h,λi v g=>?_,K⟩;have h1:=B i v g;have h2:=d (by rintro e;rw[e]at g;simp at g);rw[Nat.zero_mul,qU]at h1;have e:a.add i=⟨a.block,a.off+i,none⟩:=by
  unfold Addr.add;split;subst_vars;cases a;simp_all;rfl
 rw[e]at h1;exact h1;obtain⟨q,_,rfl⟩:=ql.1 t;exact y q
end
section
variable{H:Type}{enc:TypeId×Value->H}{w:World}{base:Nat}{spare:Nat->Bool}{Bv:Bool}{α:Type}
theorem Rd.zero{e:TypeId}{F:α->List SV}{z:Nat}{ok:α->Prop}{μ:α->Nat}:Rd enc prog w base spare Bv 0 e F z ok μ:=λcs x a _=>by simp[DataW.trod]at a
theorem FT(k:Nat):Rd enc prog w base spare Bv k 3 (λn:Int=>[AA n]) 1 (λ_=>True) (λ_=>0):=aW Tryz.underlying3
theorem Rl(k:Nat):Rd enc prog w base spare Bv k 9 (λs:ByteArray=>[.str s]) 1 (λs=>s.size<=BB) (λs=>s.size):=aX Tryz.underlying9
theorem ZU(k:Nat):Rd enc prog w base spare Bv k 4 (λb:Bool=>[.bool b]) 1 (λ_=>True) (λ_=>0):=Yn Tryz.underlying4
def Bi.F(p:Bi):List SV:=[AA p.key,AA p.value]
theorem jm:∀k,Rd enc prog w base spare Bv k 193 Bi.F 2 (λ_=>True) (λ_=>0)
 | 0=>Rd.zero
 | k+1=>(Cp.rd Tryz.underlying193 (by kernel_rfl) (Cp.cons (FT k) (by kernel_rfl) rfl (Cp.cons (FT k) (by kernel_rfl) rfl Cp.nil))).map (λp=>⟨p.1,p.2.1⟩) (λ_=>rfl) (λ_ _=>trivial) (λ_=>qg _)
def Bs.F(p:Bs):List SV:=[AA p.rev,AA p.move]
theorem jk:∀k,Rd enc prog w base spare Bv k 166 Bs.F 2 (λ_=>True) (λ_=>0)
 | 0=>Rd.zero
 | k+1=>(Cp.rd Tryz.underlying166 (by kernel_rfl) (Cp.cons (FT k) (by kernel_rfl) rfl (Cp.cons (FT k) (by kernel_rfl) rfl Cp.nil))).map (λp=>⟨p.1,p.2.1⟩) (λ_=>rfl) (λ_ _=>trivial) (λ_=>qg _)
def AM.F(p:AM):List SV:=[AA p.rev,AA p.key,AA p.before,.bool p.had]
theorem aO:∀k,Rd enc prog w base spare Bv k 164 AM.F 4 (λ_=>True) (λ_=>0)
 | 0=>Rd.zero
 | k+1=>(Cp.rd Tryz.underlying164 (by kernel_rfl) (Cp.cons (FT k) (by kernel_rfl) rfl (Cp.cons (FT k) (by kernel_rfl) rfl (Cp.cons (FT k) (by kernel_rfl) rfl (Cp.cons (ZU k) (by kernel_rfl) rfl Cp.nil))))).map (λp=>⟨p.1,p.2.1,p.2.2.1,p.2.2.2.1⟩) (λ_=>rfl) (λ_ _=>trivial) (λ_=>qg _)
def BC.F(p:BC):List SV:=[AA p.id,.str p.O,AA p.time]
theorem dI:∀k,Rd enc prog w base spare Bv k 42 BC.F 3 (λr=>r.O.size<=BB) (λ_=>0)
 | 0=>Rd.zero
 | k+1=>(Cp.rd Tryz.underlying42 (by kernel_rfl) (Cp.cons (FT k) (by kernel_rfl) rfl (Cp.cons (Rl k) (by kernel_rfl) rfl (Cp.cons (FT k) (by kernel_rfl) rfl Cp.nil)))).map (λp=>(⟨p.1,p.2.1,p.2.2.1⟩:BC)) (λ_=>rfl) (λ_ h=>h.2.1) (λ_=>qg _)
theorem XG(k:Nat):Rd enc prog w base spare Bv k 23 (λl:List Bi=>[AU l]) 1 (λl=>l.length<=BB) (λ_=>0):=
 (D6 (f:=Bi.e) (F:=Bi.F) (λ_=>rfl) Bi.E.st Tryz.underlying23 (by kernel_rfl) (by omega) (λm _=>jm m)).map (λl=>l) (λ_=>rfl) (λl h=>by have:=Dn (λ_=>0) l;have:=h.2;omega) (λ_=>qg _)
theorem dH(k:Nat):Rd enc prog w base spare Bv k 24 (λl:List Bs=>[Ax l]) 1 (λl=>l.length<=BB) (λ_=>0):=
 (D6 (f:=Bs.e) (F:=Bs.F) (λ_=>rfl) Bs.E.st Tryz.underlying24 (by kernel_rfl) (by omega) (λm _=>jk m)).map (λl=>l) (λ_=>rfl) (λl h=>by have:=Dn (λ_=>0) l;have:=h.2;omega) (λ_=>qg _)
theorem Yk(k:Nat):Rd enc prog w base spare Bv k 25 (λl:List AM=>[Ai l]) 1 (λl=>l.length<=BB) (λ_=>0):=
 (D6 (f:=AM.e) (F:=AM.F) (λ_=>rfl) AM.E.st Tryz.underlying25 (by kernel_rfl) (by omega) (λm _=>aO m)).map (λl=>l) (λ_=>rfl) (λl h=>by have:=Dn (λ_=>0) l;have:=h.2;omega) (λ_=>qg _)
theorem dJ(k:Nat):Rd enc prog w base spare Bv k 30 (λl:List BC=>[BE l]) 1 (λl=>l.length<=BB/\∀r∈l,r.O.size<=BB) (λ_=>0):=
 (D6 (f:=BC.e) (F:=BC.F) (λ_=>rfl) BC.E.st Tryz.underlying30 (by kernel_rfl) (by omega) (λm _=>dI m)).map (λl=>l) (λ_=>rfl) (λl h=>⟨by have:=Dn (λ_=>0) l;have:=h.2;omega,h.1⟩) (λ_=>qg _)
theorem aT:∀k,Rd enc prog w base spare Bv k 27 (λm:Int×Int×List Bs×List AM=>[AA m.1,AA m.2.1,Ax m.2.2.1,Ai m.2.2.2]) 4 (λm=>m.2.2.1.length<=BB/\m.2.2.2.length<=BB) (λ_=>0)
 | 0=>Rd.zero
 | k+1=>(Cp.rd Tryz.underlying27 (by kernel_rfl) (Cp.cons (FT k) (by kernel_rfl) rfl (Cp.cons (FT k) (by kernel_rfl) rfl (Cp.cons (dH k) (by kernel_rfl) rfl (Cp.cons (Yk k) (by kernel_rfl) rfl Cp.nil))))).map (λp=>(p.1,p.2.1,p.2.2.1,p.2.2.2.1)) (λ_=>rfl) (λ_ h=>⟨h.2.2.1,h.2.2.2.1⟩) (λ_=>qg _)
theorem UZ:∀k,Rd enc prog w base spare Bv k 29 AF.g 5 AF.D (λ_=>0)
 | 0=>Rd.zero
 | k+1=>(Cp.rd Tryz.underlying29 (by kernel_rfl) (Cp.cons (XG k) (by kernel_rfl) rfl (Cp.cons (aT k) (by kernel_rfl) rfl Cp.nil))).map (λp=>(⟨p.1,p.2.1.1,p.2.1.2.1,p.2.1.2.2.1,p.2.1.2.2.2⟩:AF)) (λ_=>rfl) (λ_ h=>⟨h.1,h.2.1.1,h.2.1.2⟩) (λ_=>qg _)
def AB.F(x:AB):List SV:=[AA x.k,AA x.code,AA x.id,.str x.x,AU x.H.Q,AA x.H.I,AA x.H.move,Ax x.H.Y,Ai x.H.Z,AK x.W,Aw x.R]
def AP.F(x:AP):List SV:=[AU x.H.Q,AA x.H.I,AA x.H.move,Ax x.H.Y,Ai x.H.Z,BZ x.cells]
def cr.F(x:cr):List SV:=[AA x.id,AU x.H.Q,AA x.H.I,AA x.H.move,Ax x.H.Y,Ai x.H.Z,AK x.W]
def Ya(N:Nat)(c:cr):Prop:=c.H.D/\Dq AF.D BB N c.W
def aH(N:Nat)(r:AP):Prop:=r.H.D/\r.cells.length<=BB/\∀c∈r.cells,Ya N c
theorem Pj:∀l:List AB,Ak l<=Mj (λx=>x.x.size) l
 | []=>by simp[Ak]
 | x::l=>by
  have:=Pj l;simp only[Ak,Mj,qr,XW]at this ⊢;omega
theorem aN:∀k,Rd enc prog w base spare Bv k 22 (λl:List AB=>[AK l]) 1 (λl=>∀N,k<N->Dq AF.D BB N l) (Mj λx=>x.x.size):=λk=>by
 induction k using Nat.strongRecOn with
 | ind k ih=>
 have cell:∀m,m<k->Rd enc prog w base spare Bv m 171 cr.F 7 (λc=>∀N,m<=N->Ya N c) (λ_=>0):=λm d=>by
  cases m with
  | zero=>exact Rd.zero
  | succ m=>
   exact(Cp.rd Tryz.underlying171 (by kernel_rfl) (Cp.cons (FT m) (by kernel_rfl) rfl (Cp.cons (UZ m) (by kernel_rfl) rfl (Cp.cons (ih m (by omega)) (by kernel_rfl) rfl Cp.nil)))).map (λp=>cr.mk p.1 p.2.1 p.2.2.1) (λ_=>rfl) (λ_ h N a=>⟨h.2.1,h.2.2.1 N (by omega)⟩) (λ_=>qg _)
 have cells:∀m,m<k->Rd enc prog w base spare Bv m 167 (λl:List cr=>[BZ l]) 1 (λl=>l.length<=BB/\∀c∈l,∀N,m<=N->Ya N c) (λ_=>0):=λm d=>
  (D6 (f:=cr.e) (F:=cr.F) (ok:=λc=>∀N,m<=N->Ya N c) (λc=>Us c) cr.E.st Tryz.underlying167 (by kernel_rfl) (by omega) (λq e=>(cell q (by omega)).map (λc=>c) (λ_=>rfl) (λ_ h N a=>h N (by omega)) (λ_=>qa _))).map (λl=>l) (λ_=>rfl) (λl h=>⟨by have:=Dn (λ_=>0) l;have:=h.2;omega,h.1⟩) (λ_=>qg _)
 have row:∀m,m<k->Rd enc prog w base spare Bv m 169 AP.F 6 (λr=>∀N,m<=N->aH N r) (λ_=>0):=λm d=>by
  cases m with
  | zero=>exact Rd.zero
  | succ m=>
   exact(Cp.rd Tryz.underlying169 (by kernel_rfl) (Cp.cons (UZ m) (by kernel_rfl) rfl (Cp.cons (cells m (by omega)) (by kernel_rfl) rfl Cp.nil))).map (λp=>AP.mk p.1 p.2.1) (λ_=>rfl) (λ_ h N a=>⟨h.1,h.2.1.1,λc hc=>h.2.1.2 c hc N (by omega)⟩) (λ_=>qg _)
 have rows:∀m,m<k->Rd enc prog w base spare Bv m 68 (λl:List AP=>[Aw l]) 1 (λl=>l.length<=BB/\∀c∈l,∀N,m<=N->aH N c) (λ_=>0):=λm d=>
  (D6 (f:=AP.e) (F:=AP.F) (ok:=λc=>∀N,m<=N->aH N c) (λc=>Yw c) AP.E.st Tryz.underlying68 (by kernel_rfl) (by omega) (λq e=>(row q (by omega)).map (λc=>c) (λ_=>rfl) (λ_ h N a=>h N (by omega)) (λ_=>qa _))).map (λl=>l) (λ_=>rfl) (λl h=>⟨by have:=Dn (λ_=>0) l;have:=h.2;omega,h.1⟩) (λ_=>qg _)
 have b:∀m,m<k->Rd enc prog w base spare Bv m 70 AB.F 11 (λx=>∀N,m<=N->QB AF.D BB N x) (λx=>x.x.size):=λm d=>by
  cases m with
  | zero=>exact Rd.zero
  | succ m =>
   exact(Cp.rd Tryz.underlying70 (by kernel_rfl) (Cp.cons (FT m) (by kernel_rfl) rfl (Cp.cons (FT m) (by kernel_rfl) rfl (Cp.cons (FT m) (by kernel_rfl) rfl (Cp.cons (Rl m) (by kernel_rfl) rfl (Cp.cons (UZ m) (by kernel_rfl) rfl (Cp.cons (ih m (by omega)) (by kernel_rfl) rfl (Cp.cons (rows m (by omega)) (by kernel_rfl) rfl Cp.nil)))))))).map (λp=>AB.mk p.1 p.2.1 p.2.2.1 p.2.2.2.1 p.2.2.2.2.1 p.2.2.2.2.2.1 p.2.2.2.2.2.2.1) (λ_=>rfl)
    (λ_ h N a=>⟨h.2.2.2.2.1,h.2.2.2.2.2.1 N (by omega),h.2.2.2.2.2.2.1.1,λr g=>h.2.2.2.2.2.2.1.2 r g N (by omega)⟩) (λp=>by show p.2.2.2.1.size<=_;omega)
 exact(D6 (f:=AB.e) (F:=AB.F) (ok:=λx=>∀N,k<=N+1->QB AF.D BB N x) (λc=>qw c) AB.E.st Tryz.underlying22 (by kernel_rfl) (by omega) (λq e=>(b q (by omega)).map (λc=>c) (λ_=>rfl) (λ_ h N a=>h N (by omega)) (λ_=>qa _))).map (λl=>l) (λ_=>rfl) (λl h N a=>by
  cases N with
  | zero=>omega
  | succ N=>
   have h1:=Dn (λx:AB=>x.x.size) l;have h2:=Pj l;have h3:=h.2;exact Ci.2 ⟨by omega,by omega,λx i=>h.1 x i N (by omega)⟩) (λ_=>qa _)
end
section
variable{H:Type}{enc:TypeId×Value->H}{w:World}{base:Nat}{spare:Nat->Bool}{Bv:Bool}{α:Type}
def A7.F(s:A7):List SV:=[AA s.id,AA s.k,.str s.name,AA s.base,AA s.next,AU s.Q]
theorem aV:∀k,Rd enc prog w base spare Bv k 198 A7.F 6 (λs=>s.Q.length<=BB) (λ_=>0)
 | 0=>Rd.zero
 | k+1=>(Cp.rd Tryz.underlying198 (by kernel_rfl) (Cp.cons (FT k) (by kernel_rfl) rfl (Cp.cons (FT k) (by kernel_rfl) rfl (Cp.cons (Rl k) (by kernel_rfl) rfl (Cp.cons (FT k) (by kernel_rfl) rfl (Cp.cons (FT k) (by kernel_rfl) rfl (Cp.cons (XG k) (by kernel_rfl) rfl Cp.nil))))))).map
  (λp=>(⟨p.1,p.2.1,p.2.2.1,p.2.2.2.1,p.2.2.2.2.1,p.2.2.2.2.2.1⟩:A7)) (λ_=>rfl) (λ_ h=>h.2.2.2.2.2.1) (λ_=>qg _)
def Ce.F(s:Ce):List SV:=[AA s.format,AA s.start,.str s.template,AA s.restart]
theorem aP:∀k,Rd enc prog w base spare Bv k 106 Ce.F 4 (λs=>s.template.size<=BB) (λ_=>0)
 | 0=>Rd.zero
 | k+1=>(Cp.rd Tryz.underlying106 (by kernel_rfl) (Cp.cons (FT k) (by kernel_rfl) rfl (Cp.cons (FT k) (by kernel_rfl) rfl (Cp.cons (Rl k) (by kernel_rfl) rfl (Cp.cons (FT k) (by kernel_rfl) rfl Cp.nil))))).map
  (λp=>(⟨p.1,p.2.1,p.2.2.1,p.2.2.2.1⟩:Ce)) (λ_=>rfl) (λ_ h=>h.2.2.1) (λ_=>qg _)
theorem Yl(k:Nat):Rd enc prog w base spare Bv k 101 (λl:List Ce=>[DV l]) 1 (λl=>l.length<=BB/\∀r∈l,r.template.size<=BB) (λ_=>0):=
 (D6 (f:=Ce.e) (F:=Ce.F) (λ_=>rfl) Ce.E.st Tryz.underlying101 (by kernel_rfl) (by omega) (λm _=>aP m)).map (λl=>l) (λ_=>rfl) (λl h=>⟨by have:=Dn (λ_=>0) l;have:=h.2;omega,h.1⟩) (λ_=>qg _)
def GQ.F(s:GQ):List SV:=[AA s.id,DV s.levels]
theorem jl:∀k,Rd enc prog w base spare Bv k 103 GQ.F 2 (λs=>s.levels.length<=BB/\∀r∈s.levels,r.template.size<=BB) (λ_=>0)
 | 0=>Rd.zero
 | k+1=>(Cp.rd Tryz.underlying103 (by kernel_rfl) (Cp.cons (FT k) (by kernel_rfl) rfl (Cp.cons (Yl k) (by kernel_rfl) rfl Cp.nil))).map (λp=>(⟨p.1,p.2.1⟩:GQ)) (λ_=>rfl) (λ_ h=>h.2.1) (λ_=>qg _)
def A9.F(c:A9):List SV:=[AA c.id,AA c.parent,.str c.O,AA c.time,.str c.x,.bool c.done]
theorem XF:∀k,Rd enc prog w base spare Bv k 115 A9.F 6 (λs=>s.O.size<=BB/\s.x.size<=BB) (λ_=>0)
 | 0=>Rd.zero
 | k+1=>(Cp.rd Tryz.underlying115 (by kernel_rfl) (Cp.cons (FT k) (by kernel_rfl) rfl (Cp.cons (FT k) (by kernel_rfl) rfl (Cp.cons (Rl k) (by kernel_rfl) rfl (Cp.cons (FT k) (by kernel_rfl) rfl (Cp.cons (Rl k) (by kernel_rfl) rfl (Cp.cons (ZU k) (by kernel_rfl) rfl Cp.nil))))))).map
  (λp=>(⟨p.1,p.2.1,p.2.2.1,p.2.2.2.1,p.2.2.2.2.1,p.2.2.2.2.2.1⟩:A9)) (λ_=>rfl) (λ_ h=>⟨h.2.2.1,h.2.2.2.2.1⟩) (λ_=>qg _)
def GY.F(c:GY):List SV:=[.str c.name,.str c.value]
theorem jn:∀k,Rd enc prog w base spare Bv k 118 GY.F 2 (λs=>s.name.size<=BB/\s.value.size<=BB) (λ_=>0)
 | 0=>Rd.zero
 | k+1=>(Cp.rd Tryz.underlying118 (by kernel_rfl) (Cp.cons (Rl k) (by kernel_rfl) rfl (Cp.cons (Rl k) (by kernel_rfl) rfl Cp.nil))).map (λp=>(⟨p.1,p.2.1⟩:GY)) (λ_=>rfl) (λ_ h=>⟨h.1,h.2.1⟩) (λ_=>qg _)
theorem Ym(k:Nat):Rd enc prog w base spare Bv k 31 (λl:List A7=>[Aj l]) 1 (λl=>l.length<=BB/\∀r∈l,r.Q.length<=BB) (λ_=>0):=
 (D6 (f:=A7.e) (F:=A7.F) (λ_=>rfl) A7.E.st Tryz.underlying31 (by kernel_rfl) (by omega) (λm _=>aV m)).map (λl=>l) (λ_=>rfl) (λl h=>⟨by have:=Dn (λ_=>0) l;have:=h.2;omega,h.1⟩) (λ_=>qg _)
theorem aQ(k:Nat):Rd enc prog w base spare Bv k 32 (λl:List GQ=>[Dg l]) 1 (λl=>l.length<=BB/\∀s∈l,s.levels.length<=BB/\∀r∈s.levels,r.template.size<=BB) (λ_=>0):=
 (D6 (f:=GQ.e) (F:=GQ.F) (λ_=>rfl) GQ.E.st Tryz.underlying32 (by kernel_rfl) (by omega) (λm _=>jl m)).map (λl=>l) (λ_=>rfl) (λl h=>⟨by have:=Dn (λ_=>0) l;have:=h.2;omega,h.1⟩) (λ_=>qg _)
theorem VD(k:Nat):Rd enc prog w base spare Bv k 33 (λl:List A9=>[Bd l]) 1 (λl=>l.length<=BB/\∀s∈l,s.O.size<=BB/\s.x.size<=BB) (λ_=>0):=
 (D6 (f:=A9.e) (F:=A9.F) (λ_=>rfl) A9.E.st Tryz.underlying33 (by kernel_rfl) (by omega) (λm _=>XF m)).map (λl=>l) (λ_=>rfl) (λl h=>⟨by have:=Dn (λ_=>0) l;have:=h.2;omega,h.1⟩) (λ_=>qg _)
theorem dK(k:Nat):Rd enc prog w base spare Bv k 34 (λl:List GY=>[Fs l]) 1 (λl=>l.length<=BB/\∀s∈l,s.name.size<=BB/\s.value.size<=BB) (λ_=>0):=
 (D6 (f:=GY.e) (F:=GY.F) (λ_=>rfl) GY.E.st Tryz.underlying34 (by kernel_rfl) (by omega) (λm _=>jn m)).map (λl=>l) (λ_=>rfl) (λl h=>⟨by have:=Dn (λ_=>0) l;have:=h.2;omega,h.1⟩) (λ_=>qg _)
theorem VG:∀k,Rd enc prog w base spare Bv k 36 AI.g 4 AI.sizedT (λ_=>0)
 | 0=>Rd.zero
 | k+1=>(Cp.rd Tryz.underlying36 (by kernel_rfl) (Cp.cons (Ym k) (by kernel_rfl) rfl (Cp.cons (aQ k) (by kernel_rfl) rfl (Cp.cons (VD k) (by kernel_rfl) rfl (Cp.cons (dK k) (by kernel_rfl) rfl Cp.nil))))).map
  (λp=>(⟨p.1,p.2.1,p.2.2.1,p.2.2.2.1⟩:AI)) (λ_=>rfl) (λ_ h=>⟨⟨h.1.1,h.2.1.1,h.2.2.1.1,h.2.2.2.1.1,h.1.2,λx a=>(h.2.1.2 x a).1⟩,λx a=>(h.2.1.2 x a).2,h.2.2.1.2,h.2.2.2.1.2⟩) (λ_=>qg _)
def AG.F(d:AG):List SV:=[AK d.W]++d.T0.g++[BE d.V]++d.S.g
theorem VF:∀k,Rd enc prog w base spare Bv k 38 AG.F 11 (λd=>d.sizedT BB k) (λ_=>0)
 | 0=>Rd.zero
 | k+1=>(Cp.rd Tryz.underlying38 (by kernel_rfl) (Cp.cons (aN k) (by kernel_rfl) rfl (Cp.cons (UZ k) (by kernel_rfl) rfl (Cp.cons (dJ k) (by kernel_rfl) rfl (Cp.cons (VG k) (by kernel_rfl) rfl Cp.nil))))).map
  (λp=>(⟨p.1,p.2.1,p.2.2.1,p.2.2.2.1⟩:AG)) (λ_=>rfl) (λ_ h=>⟨h.1 _ (by omega),h.2.1,h.2.2.1.1,h.2.2.1.2,h.2.2.2.1⟩) (λ_=>qg _)
def BH.F(s:BH):List SV:=[AA s.id,AA s.a,AA s.b]
theorem Rd.arg{k e z:Nat}{F:α->List SV}{ok:α->Prop}{μ:α->Nat}(h:Rd enc prog w base spare Bv k e F z ok μ){c:Array Field}(ht:prog.underlying e=some (.struct c)){r:Reach}{b0:Nat}{v:Value}(b:Value.okWide prog w r b0 e v){x:DataW H×List MemPlace}
 (d:DataW.trod enc prog w base spare Bv k e v.cells.toList=some x) (hb:Rows.uptoBulk x.1<=BB):∃a,V (Xm w) (.agg (F a)) v/\ok a:=by
 simp only[Value.okWide,ht]at b;obtain⟨cs,rfl,_,_⟩:=b;obtain⟨a,a1,a2,a3,a4,a5⟩:=h _ x d hb;refine⟨a,?_,a4⟩;rw[V];exact⟨cs.toList,by simp,by simpa[Value.cells]using a1,by simpa[Value.cells]using a3⟩
end
open Go.ChangeShapes Go.WideShapes Go.ChangeAt Go.RowKit
theorem cq:Kids prog (· < prog.types.size):=kids_rows (by kernel_rfl) (by kernel_rfl)
theorem ck:∀t e,t<prog.types.size->prog.underlying t=some (.slice e)->0<prog.cellsOf e:=slices_full_of prog (by kernel_rfl)
section
variable{H:Type}{enc:TypeId×Value->H}
theorem U0{W:World}{a:Cx}(x:EH (Xm W) a){b:Nat}(h:b<W.heap.size):a.w.heap[b]? = W.heap[b]?:=(x.keep b h (λh=>h)).2
theorem Qy{P:Program}{w w':World}{base:Nat}{d:Nat->Bool}{Bv:Bool}(hw:∀b,b<w.heap.size->w'.heap[b]? = w.heap[b]?):∀{f:List TypeId} {vs:List Value} {c:List (DataW H)} {ps:List MemPlace},DataW.TrodAll enc P w base d Bv f vs c ps->(∀p∈ps,p.block<w.heap.size)->DataW.TrodAll enc P w' base d Bv f vs c ps
 | [],[],[],_,h,_=>h
 | _ :: _, _ :: _, _ :: _, _, ⟨p, q, ⟨n, h1⟩, h2, e⟩, hs => by
  have hp:∀x∈p,w.sameAt w' x:=λx a=>by
   have hb:=hs x (by rw[e];exact qD _ a);cases x with
   | cell b off=>simp only[World.sameAt,World.cell?,hw b hb]
   | map b=>exact hw b hb
  exact⟨p,q,⟨n,DataW.trod_carry n _ _ _ h1 hp⟩,Qy hw h2 (λx a=>hs x (by rw[e];exact Qj _ a)),e⟩
theorem TQ{f:Func}{s:ChangeSpec}{a m c l:Bool}{W g:World}{args:Array Value}{v:Value}{u F:List (DataW H)}{before:List MemPlace}{x:DataW H}
 (z:DataW.Whole enc prog f.params.toList s.vars a W args.toList u F before) (G:s.vars=[]) (C:∀t∈f.params.toList,t<prog.types.size)
 (B:g.os=W.os) (y:g.output=W.output) (hw:∀b,b<W.heap.size->g.heap[b]? = W.heap[b]?)
 (n:s.fn H (u++F)={ results:=[x],args:=u })
 (h:∀(b:Nat)(k:Nat->Bool)(J:Bool),DataW.TrodAll enc prog g b k J f.resultTypes.toList (v.resultList f.resultTypes.size) [x] [])
 (A:∀(j:Nat)(t:TypeId)(r:Value),f.resultTypes[j]? = some t->(v.resultList f.resultTypes.size)[j]? = some r->Value.okWide prog g .any 0 t r):
 s.post enc prog f a m c l W args v g:=by
 have e:=z.lt;have w:=z;obtain⟨p,q,h1,h2,rfl,I,hn⟩:=z;rw[G]at h2;obtain⟨rfl,rfl⟩:=trodVars_none h2;rw[JP]at e I hn w;have c1:=Qy hw h1 e;have E:∀k:Nat->Bool,(∀x∈p,k x.block=true)->DataW.TrodAll enc prog g 0 k true f.params.toList args.toList u p:=λk K=>DataW.TrodAll.respare cq ck C c1 K;have d:∀k:Nat->Bool,DataW.TrodVars enc prog g k s.vars [] []:=λk=>by rw[G];rfl
 refine⟨u,[],p,[],p,[],w,by rw[n];exact h _ _ _,by rw[n];exact E _ (λx D=>by simpa using e x D),by rw[n];exact d _,?_,λ_=>?_⟩;refine⟨B,y,λi hi=>?_⟩;rw[hw i hi];generalize W.heap[i]? = o;cases o with
 | none=>rfl
 | some b=>cases b<;>simp
 refine⟨A,x::u,[],p,⟨p,[],by simpa using trodAll_append (E _ (λ_ _=>rfl)) (h 0 (λ_=>true) true),d _,by simp,?_,hn⟩,λx D _=>D⟩;intro b off hp;have hb:=e _ hp;have:=I b off hp;simp only[World.frozen?]at this ⊢;rw[hw b hb];exact this
theorem jo(W:World):CF (λ_=>none) (Xm W):=⟨λ_ _ h=>(by cases h),λ_ _ _ _ _ h=>(by cases h),λb=>⟨λh=>h.elim,λ⟨_,_,h,_⟩=>(by cases h)⟩⟩
theorem PC.calls{f:FuncId}{a:List SV}{v:SV}(h:PC f a v){W:World}{vs:List Value}(i:Ag (V (Xm W)) a vs):Calls prog f vs.toArray W λe c=>∃u b,e=.returned u/\b.w=c/\V b v u/\EH (Xm W) b:=by
 have:=(h (λ_=>none) 0).2 (Xm W) vs trivial (jo W) (λ_ _=>rfl) i;refine this.mono ?_;rintro e c ⟨u,v',h',n',b,rfl,⟨rfl,_⟩,hw,g,_,_,d⟩;exact⟨u,b,rfl,hw,g,d.ext⟩
end
end Go.Proofs.YtgakninlhfkkmaaGreat.Sh
namespace Go.Proofs.YtgakninlhfkkmaaGreat.Sh
open Go.Proofs.Tryz
open Proofs Go.ChangeShapes Go.WideShapes
set_option maxRecDepth 10000
set_option maxHeartbeats 4000000
section
variable{H:Type}{enc:TypeId×Value->H}{P:Program}{w:World}{base:Nat}{spare:Nat->Bool}{Bv:Bool}
theorem mW{k:Nat}{e:TypeId}{ok:Int->Prop}{μ:Int->Nat}(f:Rd enc P w base spare Bv k e (λn:Int=>[AA n]) 1 ok μ)(h:P.cellsOf e=1)(a:Addr):
 ∀(ys:List (DataW H×List MemPlace))(i:Nat),(∀j,j<ys.length->(w.cells? base (a.add ((i+j)*P.cellsOf e)) (P.cellsOf e)).bind (DataW.trod enc P w base spare Bv k e)=ys[j]?)->Rows.uptoBulkAll (ys.map (·.1))<=BB->
  ∃l:List Int,l.length=ys.length/\∀j n,l[j]? = some n->w.cell? (a.add (i+j))=some (.int .i64 n)
 | [],i,_,_=>⟨[],rfl,by simp⟩
 | y :: ys, i, hy, hb => by
  simp only[qr,Rows.uptoBulkAll]at hb;have h0:=hy 0 (by simp);simp only[vw,UO]at h0;obtain⟨cs,d,p⟩:=Yc.1 h0;obtain⟨_,hcl,c⟩:=World.cells?_some d;obtain⟨b,b1,b2,_,_,_⟩:=f cs y p (by omega);obtain⟨l,q,r⟩:=mW f h a ys (i+1) (λj hj=>by have:=hy (j+1) (by simp;omega);rw[show i+1+j=i+(j+1)by omega];simpa using this) (by omega);refine⟨b::l,by simp[q],λj n hn=>?_⟩;cases j with
  | zero=>
   simp only[vw,qk]at hn;subst hn;have h1:=c 0 (by omega);obtain⟨v,rest,rfl,o,g⟩:=b1;rw[VL]at g;subst g;have m:=DF o;subst m;rw[h,Nat.mul_one]at h1;have e:(a.add i).add 0=a.add (i+0):=by unfold Addr.add;simp
   rw[e]at h1;simpa using h1
  | succ j=>
   have:=r j n (by simpa using hn);rw[show i+(j+1)=i+1+j by omega];exact this
theorem nT{k:Nat}{e T:TypeId}(ht:P.underlying T=some (.slice e))(D:P.cellsOf e=1)(hi:P.underlying e=some (.int .i64)):
 Rd enc P w base spare Bv k T (λl:List Int=>[.i 1 (l.map AA) false]) 1 (λ_=>True) (λ_=>0):=λcs x C hb=>by
 rcases DataW.trod_slice ht C with⟨rfl,rfl⟩|⟨a,len,cap,d,rest,n,hn,rfl,rfl,_,o,_,f,y,_,_⟩
 exact⟨[],NJ (by rw[V];exact .inl ⟨rfl,rfl⟩),rfl,by simp[Value.oneCell'],trivial,by simp[Rows.uptoBulk]⟩;simp only[Rows.uptoBulk]at hb ⊢;obtain⟨l,q,t⟩:=mW (aW hi) D a d 0 (λj hj=>by rw[qU];exact y j (by omega)) (by omega);refine⟨l,NJ ?_,rfl,by simp[Value.oneCell'],trivial,by omega⟩;rw[V];right;refine⟨a,cap,l.map (Value.int .i64),by rw[qf,q,f],by rw[qf,q,f];exact o,by simp,?_,J1.2 ⟨l.map (Value.int .i64),?_,?_,?_,?_⟩⟩;have m:l.map (Value.int .i64)≠[]->a.spot=none:=λp=>by
  obtain⟨n,r,c⟩:=List.exists_cons_of_ne_nil (λg:l=[]=>p (by rw[g];rfl));have:=World.cell?_spot (t 0 n (by rw[c];rfl));simpa[Addr.add]using this
 refine⟨m,λ_ h=>h,λi v c=>?_,λv c=>?_⟩;obtain⟨n,h0,rfl⟩:∃n,l[i]? = some n/\Value.int .i64 n=v:=by
  rw[qX,qN]at c;exact c
 have h1:=t i n h0;have h2:=m (by rintro e;rw[e]at c;simp at c);rw[qU]at h1;have e:a.add i=⟨a.block,a.off+i,none⟩:=by
  unfold Addr.add;split;subst_vars;cases a;simp_all;rfl
 rw[e]at h1;exact h1;obtain⟨z,_,rfl⟩:=ql.1 c;rfl;exact Ag.map (R:=λa b=>a=b) (λa b e=>by subst e;simp[V]) (by
  have:∀l:List Int,Ag (λa b=>a=b) l l:=λl=>by induction l with|nil=>trivial|cons a l ih=>exact⟨rfl,ih⟩
  exact this _)
 intro u B;obtain⟨z,_,rfl⟩:=ql.1 B;rfl;intro s A;obtain⟨z,_,rfl⟩:=ql.1 A;rfl;clear hb y f q t;induction l with
 | nil=>rfl
 | cons a l ih=>rw[qr,QZ,<-ih];rfl
theorem pR(k:Nat):Rd enc prog w base spare Bv k 61 (λl:List Int=>[.i 1 (l.map AA) false]) 1 (λ_=>True) (λ_=>0):=nT Tryz.underlying61 (by kernel_rfl) Tryz.underlying3
end
end Go.Proofs.YtgakninlhfkkmaaGreat.Sh
namespace Go.Proofs.YtgakninlhfkkmaaGreat.Sh
open Go.Proofs.Tryz
open Proofs
set_option maxRecDepth 10000
set_option maxHeartbeats 4000000
inductive NE(s:ByteArray):Nat->Nat->Prop where
 | nil (a:Nat):NE s a a
 | cons {a b:Nat} (h1:a<s.size) (h2:(BJ s a).2=true) (h3:NE s (a+(BJ s a).1) b):NE s a b
theorem O5(s:ByteArray)(a n:Nat):∀(f:Nat)(lo hi:Int)(k:Nat),(DC s a n f lo hi k).2=true->(DC s a n f lo hi k).1=k+f/\
 ∀j,k<=j->j<k+f->a+j<s.size/\(if j=k then lo else 128)<=An s (a+j)/\An s (a+j)<=if j=k then hi else 191
 | 0,_,_,k,_=>by rw[DC];exact⟨rfl,λj h1 h2=>by omega⟩
 | f+1,lo,hi,k,h=>by
  rw[DC]at h ⊢;split at h;cases h;rename_i hc;rw[if_neg hc];obtain⟨h1,h2⟩:=O5 s a n f 128 191 (k+1) h;refine⟨by omega,λj j1 j2=>?_⟩;by_cases e:j=k;subst e;rw[if_pos rfl,if_pos rfl];omega;have:=h2 j (by omega) (by omega);rw[if_neg e,if_neg e];split at this<;>omega
theorem MI{s t:ByteArray}{a a':Nat}(n n':Nat):∀(f:Nat)(lo hi:Int)(k:Nat),(∀j,k<=j->j<k+f->An t (a'+j)=An s (a+j)/\a'+j<t.size)->(DC s a n f lo hi k).2=true->DC t a' n' f lo hi k=DC s a n f lo hi k
 | 0,_,_,k,_,_=>by rw[DC,DC]
 | f+1,lo,hi,k,h,hs=>by
  rw[DC]at hs ⊢;rw[DC.eq_2 s];split at hs;cases hs;rename_i hc;obtain⟨h1,h2⟩:=h k (qa _) (by omega);rw[if_neg hc,if_neg (by rw[h1];omega)];exact MI n n' f 128 191 (k+1) (λj j1 j2=>h j (by omega) (by omega)) hs
theorem Ig{s:ByteArray}{a:Nat}(ha:a<s.size)(h:(BJ s a).2=true):DE (An s a)=(BJ s a).1/\1<=(BJ s a).1/\a+(BJ s a).1<=s.size/\∀j,1<=j->j<(BJ s a).1->128<=An s (a+j)/\An s (a+j)<=191:=by
 obtain⟨z0,z1⟩:=LY (An s a);simp only[BJ]at h ⊢;split at h;cases h
 . rename_i c0;rw[if_neg c0];split at h;rename_i c1;rw[if_pos c1];exact⟨c1,Nat.le_refl _,by show a+1<=_;omega,λj c b=>by dsimp only at b;omega⟩
   . rename_i c1;rw[if_neg c1];obtain⟨h1,h2⟩:=O5 s a _ _ _ _ 1 h;rw[h1];refine⟨by omega,by omega,?_,λj c b=>?_⟩;have:=h2 ((DE (An s a)).toNat-1) (by omega) (by omega);omega
     . have:=h2 j c b;have l1:128<=Kl (An s a)/\IC (An s a)<=191:=by unfold Kl IC;constructor<;>(repeat' split)<;>omega
       split at this<;>omega
theorem Su{s t:ByteArray}{a a':Nat}(c:a<s.size)(b:(BJ s a).2=true)(h:∀j,j<(BJ s a).1->An t (a'+j)=An s (a+j)/\a'+j<t.size):BJ t a'=BJ s a:=by
 obtain⟨e,f,_,_⟩:=Ig c b;have h0:=(h 0 (by omega)).1;simp only[UO]at h0;have d:∀j,j<(DE (An s a)).toNat->An t (a'+j)=An s (a+j)/\a'+j<t.size:=λj hj=>h j (by omega);clear h e f;simp only[BJ]at b ⊢;rw[h0];split;rfl;rename_i c0;rw[if_neg c0]at b;split;rfl;rename_i c1;rw[if_neg c1]at b;exact MI _ _ _ _ _ 1 (λj j1 j2=>d j (by omega)) b
theorem NE.le{s:ByteArray}{a b:Nat}(H:NE s a b):a<=b:=by
 induction H with
 | nil=>exact qa _
 | cons h1 h2 _ ih=>omega
theorem NE.trans{s:ByteArray}{a b c:Nat}(H:NE s a b)(d:NE s b c):NE s a c:=by
 induction H with
 | nil=>exact d
 | cons h1 h2 _ ih=>exact .cons h1 h2 (ih d)
theorem NE.map{s t:ByteArray}{a b:Nat}(H:NE s a b):∀{a':Nat},(∀p,a<=p->p<b->An t (a'+(p-a))=An s p)->a'+(b-a)<=t.size->NE t a' (a'+(b-a)):=by
 induction H with
 | nil a=>intro a' _ _;rw[vU,UO];exact .nil _
 | @cons a b h1 h2 h3 ih=>
  intro a' hb hs;have hle:=h3.le;obtain⟨i1,i2,i3,i4⟩:=Ig h1 h2;have e:=Su (t:=t) (a':=a') h1 h2 λj hj=>⟨by have:=hb (a+j) (by omega) (by omega);rwa [Nat.add_sub_cancel_left]at this,by omega⟩
  refine .cons (by omega) (by rw[e];exact h2) ?_;rw[e];have:=ih (a':=a'+(BJ s a).1) (λp p1 c=>by have:=hb p (by omega) c;rw[<-this];congr 1;omega) (by omega);rw[show a'+(BJ s a).1+(b-(a+(BJ s a).1))=a'+(b-a)by omega]at this;exact this
theorem NE.first{s:ByteArray}{a b:Nat}(H:NE s a b)(hb:b=s.size):E5 s a<0:=by
 induction H with
 | nil a=>rw[E5,dif_neg (by omega)];decide
 | cons h1 h2 _ ih=>rw[E5,dif_pos h1,dif_pos h2];exact ih hb
theorem NE.of{s:ByteArray}:∀(n a:Nat),s.size-a<=n->a<=s.size->E5 s a<0->NE s a s.size
 | n,a,hn,ha,h=>by
  rw[E5]at h;split at h;rename_i h1;split at h;rename_i h2;obtain⟨i1,i2,b,i4⟩:=Ig h1 h2;cases n with
  | zero=>omega
  | succ n=>exact .cons h1 h2 (NE.of n _ (by omega) b h)
  omega;have:a=s.size:=by omega
  rw[this];exact .nil _
theorem GE{s:ByteArray}:A5 s=true↔NE s 0 s.size:=by
 simp only[A5,decide_eq_true_eq];exact⟨λh=>NE.of _ 0 (qa _) (qg _) h,λh=>h.first rfl⟩
theorem FJ(s:ByteArray)(i:Nat):An s i=match s.data[i]? with|some b=>(b.toNat:Int)|none=>0:=by
 rcases YV i s.size with h|h;obtain⟨e1,a⟩:=Ed h;rw[a,KN (show i<s.data.size from h)];rfl;have h1:s.data[i]? = none:=Yv h;rw[h1];unfold An;split;rename_i b e;exfalso;simp only[getElem?_def]at e;split at e;rename_i h2;exact absurd h2 (by show ¬i<s.size;omega);cases e;rfl
theorem MF(s t:ByteArray)(p:Nat)(h:p<s.size):An (s++t) p=An s p:=by
 rw[FJ,FJ,ByteArray.data_append,Uo h]
theorem MG(s t:ByteArray)(p:Nat):An (s++t) (s.size+p)=An t p:=by
 rw[FJ,FJ,ByteArray.data_append,Array.getElem?_append_right (by show s.size<=s.size+p;omega)];rw[show s.size+p-s.data.size=p by have:s.data.size=s.size:=rfl;omega]
theorem Ee(s t:ByteArray)(i:Nat):∀k,(∀p,p<k->An t p=An s (i+p))->Ar s (i+k)=Ar s i+Ar t k
 | 0,_=>by simp[Ar]
 | k+1,h=>by
  rw[<-qu,Ar,Ar,Ee s t i k λp hp=>h p (by omega),h k (by omega)];omega
theorem MH(s t:ByteArray):Ar (s++t) (s++t).size=Ar s s.size+Ar t t.size:=by
 rw[XJ,Ee (s++t) t s.size t.size λp _=>(MG s t p).symm];have:=Ee (s++t) s 0 s.size λp hp=>by rw[qU];exact(MF s t p hp).symm
 rw[qU]at this;rw[this];simp[Ar]
theorem HP{s t:ByteArray}(a:A5 s=true)(ht:A5 t=true):A5 (s++t)=true:=by
 rw[GE]at a ht ⊢;have h1:=a.map (t:=s++t) (a':=0) (λp _ hp=>by rw[qU,vc];exact MF s t p hp) (by rw[XJ];omega);have h2:=ht.map (t:=s++t) (a':=s.size) (λp _ hp=>by rw[vc];exact MG s t p) (by rw[XJ];omega);rw[vc,qU]at h1;rw[vc,<-XJ]at h2;exact h1.trans h2
abbrev Rh(b:Bool):Nat:=if b then 1 else 0
mutual
def AB.wt(u:AF->Bool):AB->List Nat
 | .mk k _ _ t h f r=>if k=1 then List.replicate (if A5 t then Ar t t.size else 0) (Rh (u h))else[Rh (u h)+(if k=6 then AB.wts u f else 0)+(if k=7 then AP.wts u r else 0)]
def AB.wts(u:AF->Bool):List AB->Nat
 | []=>0
 | x::l=>(AB.wt u x).sum+AB.wts u l
def AP.wt(u:AF->Bool):AP->Nat
 | .mk h c=>Rh (u h)+cr.wts u c
def AP.wts(u:AF->Bool):List AP->Nat
 | []=>0
 | x::l=>AP.wt u x+AP.wts u l
def cr.wt(u:AF->Bool):cr->Nat
 | .mk _ h f=>Rh (u h)+AB.wts u f
def cr.wts(u:AF->Bool):List cr->Nat
 | []=>0
 | x::l=>cr.wt u x+cr.wts u l
end
section
variable(u:AF->Bool)
def Gx(l:List AB):List Nat:=l.flatMap (AB.wt u)
theorem E7(a b:List AB):Gx u (a++b)=Gx u a++Gx u b:=by simp[Gx]
theorem H0(x:AB)(l:List AB):Gx u (x::l)=AB.wt u x++Gx u l:=by simp[Gx]
theorem JI(x:AB):AB.wt u x=if x.k=1 then List.replicate (if A5 x.x then Ar x.x x.x.size else 0) (Rh (u x.H))else[Rh (u x.H)+(if x.k=6 then AB.wts u x.W else 0)+(if x.k=7 then AP.wts u x.R else 0)]:=by
 cases x;rw[AB.wt];rfl
def val(x:AB):Prop:=A5 x.x=true/\(x.k=7->x.R≠[])
theorem Qf{out:List AB}{x:AB}(c:∀y∈out,val y)(b:val x):Gx u (AQ out x)=Gx u out++AB.wt u x/\∀y∈AQ out x,val y:=by
 unfold AQ;split;rename_i l;refine⟨?_,c⟩;rcases l with⟨k,h0⟩|⟨h1,h0⟩
 exact absurd h0 (b.2 k);rw[JI,if_pos h1,h0,b.1];simp[Ar]
 . split
   . rename_i y i;have d:out=out.dropLast++[y]:=by obtain⟨ys,f⟩:=List.getLast?_eq_some_iff.1 i;rw[f];simp
     split
     . rename_i hc;obtain⟨m,j,k3⟩:=hc;have g:=c y (List.mem_of_getLast? i);have e:AB.wt u (y.cz x.x)=AB.wt u y++AB.wt u x:=by
        rw[JI,JI u y,JI u x];have a1:(y.cz x.x).k=y.k/\(y.cz x.x).x=y.x++x.x/\(y.cz x.x).H=y.H:=⟨rfl,rfl,rfl⟩
        rw[a1.1,a1.2.1,a1.2.2,if_pos j,if_pos j,if_pos m,HP g.1 b.1,g.1,b.1,k3];simp only[if_true];rw[MH,List.replicate_append_replicate]
       refine⟨?_,λz a=>?_⟩
       . rw[E7,H0,e]
         conv=>rhs;rw[d]
         rw[E7,H0];simp[Gx]
       rcases qd.1 a with a|a;exact c z (List.dropLast_subset _ a);rw[qy.1 a];exact⟨HP g.1 b.1,λh=>absurd (show y.k=7 from h) (by omega)⟩
     refine⟨by rw[E7];simp[Gx],λz a=>?_⟩;rcases qd.1 a with a|a;exact c z a;rw[qy.1 a];exact b
   refine⟨by rw[E7];simp[Gx],λz a=>?_⟩;rcases qd.1 a with a|a;exact c z a;rw[qy.1 a];exact b
def Dp:Nat->List AB->Prop
 | 0,_=>False
 | N+1,l=>∀x∈l,val x/\(x.k=6->Dp N x.W)/\(x.k=7->∀r∈x.R,r.cells≠[]/\∀c∈r.cells,Dp N c.W)
def O6(N:Nat)(x:AB):Prop:=val x/\(x.k=6->Dp N x.W)/\(x.k=7->∀r∈x.R,r.cells≠[]/\∀c∈r.cells,Dp N c.W)
theorem WM{N:Nat}{l:List AB}:Dp (N+1) l↔∀x∈l,O6 N x:=Iff.rfl
theorem GG{l:List AP}(h:∀r∈l,r.cells≠[]):(l.map AP.N).filter (λr=>!decide (r.cells.length=0))=l.map AP.N:=by
 rw[UF];intro r b;obtain⟨r0,h0,rfl⟩:=ql.1 b;have a:(AP.N r0).cells=r0.cells.map cr.N:=by cases r0;rw[AP.N,Ta];rfl
 rw[a,qf];have:=qH.2 (h r0 h0);simp;intro e;rw[e]at this;simp at this
end
section
variable(u:AF->Bool)(w:Bool)(it:Int->List AB->Bool->Nat)(mid:Bool)
end
section
variable(u:AF->Bool)(w:Bool)(sc:BH)
end
abbrev wr(x:Int):Int:=IntKind.i64.wrap x
section
variable(rev:Int)(sc:BH)
end
section
variable(g:Bool->AF->AF)(sc:BH)
end
theorem HE{x:AB}(h:∀r∈x.R,r.cells≠[]):(AB.N x).R=x.R.map AP.N:=by
 rw[(WY x).2.2.2.2.2.2,GG h]
theorem AP.nrm_cells(r:AP):(AP.N r).cells=r.cells.map cr.N/\(AP.N r).H=r.H:=by cases r;rw[AP.N,Ta];exact⟨rfl,rfl⟩
theorem cr.nrm_all(c:cr):(cr.N c).W=AO c.W/\(cr.N c).id=c.id/\(cr.N c).H=c.H:=by cases c;rw[cr.N];exact⟨rfl,rfl,rfl⟩
theorem Iu{m2:List Int}{hp:AF->Prop}{K:Nat}:∀{N:Nat} {l:List AB},Xr m2 N l->Dq hp K N l->Dp N l
 | 0,_,_,h=>h.elim
 | N+1,l,h,hl=>λx e=>by
  obtain⟨⟨f6,f7,f⟩,_,g,b,d⟩:=h x e;obtain⟨_,i,_,j⟩:=hl.2.2 x e;exact⟨⟨f,b⟩,λk=>Iu g i,λk r a=>⟨(d r a).1.2,λc hc=>Iu ((d r a).2 c hc).2 ((j r a).2.2 c hc).2⟩⟩
section
variable(g:Bool->AF->AF)(sc:BH)(u:AF->Bool)
end
section
variable(g:Bool->AF->AF)(sc:BH)
variable(u v:AF->Bool)(w:Bool)
theorem od{N:Nat}{x:AB}(h:O6 N x):val (AB.N x):=by
 obtain⟨⟨h1,h2⟩,h6,c⟩:=h;obtain⟨a,_,_,b,_,_,_⟩:=WY x;refine⟨by rw[b];exact h1,λk=>?_⟩;rw[a]at k;rw[HE λr d=>(c k r d).1];simpa using h2 k
end
def M8(hp:AF->Prop)(L T:Nat):Nat->List AB->Prop
 | 0,_=>False
 | N+1,l=>l.length<=L/\Ak l<=T/\∀x∈l,hp x.H/\M8 hp L T N x.W/\x.R.length<=L/\∀r∈x.R,hp r.H/\r.cells.length<=L/\∀c∈r.cells,hp c.H/\M8 hp L T N c.W
section
variable{hp hp':AF->Prop}(g:Bool->AF->AF)(sc:BH)
end
theorem UB{l:List Bs}{i:Nat}(h:i<l.length):H3 l i∈l:=by
 have:H3 l i=l[i]:=by simp[H3,List.getD,h]
 rw[this];exact qi h
theorem Va{l:List Bs}{j:Nat}(h:j+1<l.length)(x:Bs):x∈JG l j↔x∈l:=by
 have b:H3 l j=l[j]:=by simp[H3,List.getD,show j<l.length by omega]
 have c:H3 l (j+1)=l[j+1]:=by simp[H3,List.getD,h]
 unfold JG;have d1:l.getD j ao=l[j]:=b;have d2:l.getD (j+1) ao=l[j+1]:=c;constructor;intro a;rcases List.mem_or_eq_of_mem_set a with a|rfl;rcases List.mem_or_eq_of_mem_set a with a|rfl;exact a;exact UB (by omega);exact UB h;intro a;obtain⟨i,hi,rfl⟩:=VO.1 a;rw[List.mem_iff_getElem?];by_cases c1:i=j;subst c1;exact⟨i+1,by rw[List.getElem?_set_ne (by omega),List.getElem?_set_self (by omega)];exact congrArg some b⟩;by_cases d:i=j+1;subst d;exact⟨j,by rw[List.getElem?_set_self (by rw[List.length_set];omega)];exact congrArg some c⟩;exact⟨i,by rw[List.getElem?_set_ne (by omega),List.getElem?_set_ne (by omega)];simp[hi]⟩
theorem Pe:∀(j:Nat) {l:List Bs},j<l.length->∀x,x∈Fj l j↔x∈l
 | 0,_,_,x=>by rw[Fj]
 | j+1,l,h,x=>by
  rw[Fj];split;rw[Pe j (by rw[L4];omega),Va h];rfl
theorem FP(l:List Bs):∀i,i<=l.length->∀x,x∈Co l i↔x∈l
 | 0,_,x=>by rw[Co]
 | i+1,h,x=>by rw[Co,Pe i (by rw[Gv];omega),FP l i (by omega)]
section
variable{m2:List Int}{rev nx:Int}
theorem K3{h:AF}(H:HK m2 h):HK (nx::m2) h:=
 ⟨H.1,⟨H.2.I.imp id λe=>by simp[e],H.2.dlen,λx a=>by simp[H.2.Y x a],H.2.llen,λx a=>by simp[H.2.Z x a]⟩⟩
end
section
variable(g:Bool->AF->AF)(sc:BH)
end
theorem Mt{c:Nat->Int}{k n:Nat}(h1:∀m,m<k->c m<0)(h2:∀m,k<=m->m<n->¬c m<0):∀(d i j:Nat),j-i<=d->i<=k->k<=j->j<=n->EI c i j=k
 | d,i,j,hd,hi,hj,hn=>by
  rw[EI];split;rename_i hij;cases d with
  | zero=>omega
  | succ d=>
   split;rename_i hc;refine Mt h1 h2 d _ j (by omega) ?_ hj hn;rcases YV ((i+j) / 2) k with h|h;omega;exact absurd hc (h2 _ h (by omega));rename_i hc;refine Mt h1 h2 d i _ (by omega) hi ?_ (by omega);rcases YV ((i+j) / 2) k with h|h;exact absurd (h1 _ h) hc;exact h
  omega
theorem Qx{f:Nat->Int}{n:Nat}{x:Int}(d:∀i j,i<=j->j<n->f i<=f j)(p:∃j,j<n/\f j=x){c:Nat->Int}(hc:∀i,i<n->(c i<0↔f i<x)/\(c i=0↔f i=x)):(Az c n).2=true:=by
 obtain⟨j,a,hfj⟩:=p;have key:∀j,j<n->x<=f j->∃k,k<=j/\x<=f k/\∀m,m<k->f m<x:=by
  intro j
  induction j with
  | zero=>intro _ h;exact⟨0,qa _,h,λm b=>by omega⟩
  | succ j ih=>
   intro a h;by_cases hc:x<=f j;obtain⟨k,l,o,k3⟩:=ih (by omega) hc;exact⟨k,by omega,o,k3⟩;exact⟨j+1,qa _,h,λm b=>by have:=d m j (by omega) (by omega);omega⟩
 obtain⟨k,l,o,k3⟩:=key j a (by omega);have g:k<n:=by omega
 have e:f k=x:=by have:=d k j l a;omega
 have hg:EI c 0 n=k:=Mt (λm b=>(hc m (by omega)).1.2 (k3 m b)) (λm h1 h2=>by rw[(hc m h2).1];have:=d k m h1 h2;omega) n 0 n (by omega) (qg _) (by omega) (qa _);unfold Az;rw[hg];simp only[decide_eq_true_eq];exact⟨g,(hc k g).2.2 e⟩
theorem N0{U:List Int}(d:U.Pairwise (· ≤ ·)){x:Int}(g:x∈U):(Az (Js U x) U.length).2=true:=by
 obtain⟨j,b,e⟩:=VO.1 g;refine Qx (f:=λi=>U.getD i 0) (x:=x) (λi k hik c=>?_) ⟨j,b,by simp[b,e]⟩ λi hi=>?_;have h1:U.getD i 0=U[i]'(by omega):=by simp[List.getD,show i<U.length by omega]
 have h2:U.getD k 0=U[k]:=by simp[List.getD,c]
 rw[h1,h2];rcases YV i k with h|h;exact J9.1 d i k (by omega) c h;have:i=k:=by omega
 subst this;omega;have h1:U.getD i 0=U[i]:=by simp[List.getD,hi]
 rw[h1];unfold Js;rw[qe hi];dsimp only;by_cases c1:U[i]<x;rw[if_pos c1];omega;rw[if_neg c1];by_cases a:U[i]=x;rw[if_pos a];omega;rw[if_neg a];omega
theorem SU{d:AG}{x:Int}(h0:x≠0)(e:x∈AB.U d.W++d.T0.all):(Az (Js (Gc d) x) (Gc d).length).2=true:=by
 refine N0 ?_ ?_;unfold Gc C9;have:=List.pairwise_mergeSort (le:=λx y:Int=>decide (x<=y)) (λa b c h1 h2=>by simp at *;omega) (λa b=>by simp;omega) ((BU [] (AB.U d.W++d.T0.all)).filter λx=>decide (x≠0));exact this.imp λh=>by simpa using h
 unfold Gc C9;rw[List.mem_mergeSort,Kq];exact⟨(Id x _ _).2 (.inr e),by simpa using h0⟩
theorem I6{L:List BC}(h:Ct L=0):∀i j,(a:i<j)->(b:j<L.length)->(L[i]'(by omega)).id<L[j].id:=by
 have hl:¬256<L.length:=λg=>by rw[Ct,if_pos g]at h;cases h
 rw[Ct,if_neg hl]at h;have step:∀i,(hi:i+1<L.length)->(L[i]'(by omega)).id<L[i+1].id:=λi hi=>by
  have:=JK h (i+1) hi;unfold Fg at this;rw[qe hi,Nat.add_sub_cancel,qe (show i<L.length by omega)]at this;dsimp only at this;by_cases e:Cn L[i+1]=0;rw[if_pos e,if_neg (by omega)]at this;unfold GD at this;by_cases c1:L[i+1].id<(L[i]'(by omega)).id;simp[c1]at this;by_cases c:(L[i]'(by omega)).id<L[i+1].id;exact c;simp[c1,c]at this;rw[if_neg e]at this;exact absurd this e
 intro i j
 induction j with
 | zero=>intro a;omega
 | succ j ih=>
  intro a b;rcases YV i j with g|g;have:=ih g (by omega);have:=step j b;omega;have:i=j:=by omega
  subst this;exact step i b
theorem OD{L:List BC}{id:Int}(h:∃r∈L,r.id=id):(CT L id).2=true:=by
 unfold CT;by_cases hc:Ct L=0;rw[if_pos hc];have o:=I6 hc;obtain⟨r,c,e⟩:=h;obtain⟨j,l,n⟩:=VO.1 c;have:(Az (F6 L id) L.length).2=true:=by
  have g:∀i,(hi:i<L.length)->(L.getD i HJ).id=L[i].id:=λi hi=>by simp[List.getD,hi]
  refine Qx (f:=λi=>(L.getD i HJ).id) (x:=id) (λi k hik m=>?_) ⟨j,l,by rw[g j l,n,e]⟩ λi hi=>?_;rw[g i (by omega),g k m];rcases YV i k with q|q;have:=o i k q m;omega;have:i=k:=by omega
  subst this;omega;rw[g i hi];unfold F6 GD;rw[qe hi];dsimp only;by_cases c1:L[i].id<id;rw[if_pos c1];omega;rw[if_neg c1];by_cases d:id<L[i].id;rw[if_pos d];omega;rw[if_neg d];omega
 rw[if_pos this];rw[if_neg hc];obtain⟨r,c,e⟩:=h
 induction L with
 | nil=>cases c
 | cons a L ih =>
  clear hc;have:∀L:List BC,r∈L->(HI id L).2=true:=λL=>by
   induction L with
   | nil=>intro h;cases h
   | cons b L ih=>
    intro h;rw[HI];split;rfl;rename_i hb;rcases qt.1 h with rfl|h;exact absurd e hb;exact ih h
  exact this _ c
def Gf(p:Int×Int):SV:=.agg [AA p.1,AA p.2]
def AF.mv0(h:AF):List (Int×Int):=if h.move=0 then[]else[(h.I,h.move)]
def MJ(l:List Bs):List (Int×Int):=(l.filter λx=>decide (x.move≠0)).map λx=>(x.rev,x.move)
def AF.moves(h:AF):List (Int×Int):=h.mv0++MJ h.Y
theorem kB(l:List (Int×Int)):∀e∈l.map Gf,e.B=true/\e.cells.length=2:=λe a=>by
 obtain⟨p,_,rfl⟩:=ql.1 a;simp[Gf,SV.B,SV.cells]
theorem O8(l:List Bs):(MJ l).length<=l.length:=by
 unfold MJ;rw[qf];exact JM _ _
theorem Vz{H:Hp}{n m k p:Nat}{es:List SV}{x:Int×Int}{o:Option Nat}(a:BR n m 2 o es)(hl:es.length<=1073741823)(h1:H k=some (.cells [AA x.1,AA x.2]))(h2:∀j,o=some j->H j=some (.cells (es.flatMap SV.cells))):
 Al prog H p .append [86,86] [AW 2 o es,.sl k 0 2 1 true]=some { val:=.sl p 0 2 (es.length+1) false,upd:=o.map λj=>(j,none),new:=some (.cells (es.flatMap SV.cells++[AA x.1,AA x.2])) }:=by
 have:=Fa (P:=prog) (H:=H) (t:=86) (t2:=86) (el:=89) (z:=2) (by simp[go_sem]) (by simp[go_sem]) (by simp[go_sem]) (by simp) (by simp[go_sem]) (by simp[go_sem]) (by simp[go_sem]) (by omega) a (e:=Gf x) rfl h1 h2 p;exact this
theorem Sx(l:List Bs)(i:Nat)(hi:i<l.length):MJ (l.take (i+1))=MJ (l.take i)++if l[i].move=0 then[]else[(l[i].rev,l[i].move)]:=by
 unfold MJ;rw[qb hi,QN,qc];congr 1;by_cases e:l[i].move=0<;>simp[e]
theorem iI(x:AF)(Q:x.D):PC 44 [x.e] (.i 2 (x.moves.map Gf) false):=by
 intro h n;refine DO func44 rfl λL=>?_;have a:=L.lt;refine Aa 1 [(1,.q x.g)] h n ?_ (λm f=>?_);simp[go_sem,AF.e,AF.g];exact⟨AZ (AS a (qa _)) (AD _ _ _),AL a AC⟩;refine Aa 0 [(1,.q x.g),(3,.i 0 [] true)] h n ?_ (λm f=>?_);simp[go_sem,IO,f];refine AX 0 (α:=Option Nat) (λo=>[(1,.q x.g),(3,AW 2 o (x.mv0.map Gf))]) (λo=>AV o (x.mv0.map Gf) h) (λo m=>n<=m/\BR n m 2 o (x.mv0.map Gf)) ?_ (λo m f=>?_);refine Aa 1 [(1,.q x.g),(3,.i 0 [] true),(4,.q [AA x.I,AA x.move,Ax x.Y,Ai x.Z])] h n ?_ (λm f=>?_);have w:∀j y,h j=some y->j<m:=λj y e=>by have:=a j y e;omega
 simp[go_sem,AF.g,IO,AD,Ah];exact⟨by omega,AZ (AS w (qa _)) (AD _ _ _),AL w AC⟩;refine AJ ?_;by_cases m0:x.move=0;simp[go_sem,m0,AF.mv0,IO,AW,AV];exact⟨none,⟨f,vA _ _ _⟩,rfl,AC⟩;have s:(x.move !=0)=true:=by simpa using m0
 have B:=λ(H:Hp)(k p:Nat)(h1:H k=some (.cells [AA x.I,AA x.move]))=>Vz (H:=H) (k:=k) (p:=p) (es:=[]) (x:=(x.I,x.move)) (vA 0 0 2) (by simp) h1 (by simp);simp only[vI,vH,List.flatMap_nil,qE,AW]at B;simp[go_sem,m0,s,AF.mv0];rw[B _ _ _ (by simp[AD])];simp[go_sem];have c:=(vA n (m+1) 2).push (j:=m+1) (m':=m+1+1) (e:=Gf (x.I,x.move)) rfl rfl (by omega) (by omega);have t:AW 2 (some (m+1)) [Gf (x.I,x.move)]=.sl (m+1) 0 2 1 false:=by simp[AW]
 refine⟨some (m+1),⟨by omega,by simpa using c⟩,t.symm,λj y=>?_⟩;have:=a j y;simp only[AV,h_,Gf,SV.cells,QZ,List.flatMap_nil,JP];grind;obtain⟨f,d⟩:=f;obtain⟨M,A⟩:∃M:Nat->List SV,∀i,M i=(x.mv0++MJ (x.Y.take i)).map Gf:=⟨_,λ_=>rfl⟩
 have G:x.mv0.map Gf=M 0:=by rw[A];simp[MJ]
 have K:∀i u,(hi:i<x.Y.length)->x.Y[i]=u->M (i+1)=M i++if u.move=0 then[]else[Gf (u.rev,u.move)]:=λi u hi e=>by
  rw[A,A,Sx _ _ hi,e];by_cases O:u.move=0<;>simp[O]
 have I:M x.Y.length=x.moves.map Gf:=by rw[A,qm];rfl
 have J:∀i,(M i).length<=1+i:=λi=>by
  rw[A,qf,qq];have h1:=O8 (x.Y.take i);have h2:x.mv0.length<=1:=by unfold AF.mv0;split<;>simp
  have h3:=vz i x.Y;omega
 rw[G]at d ⊢;have hsd:=Q.Y;refine AX 0 (α:=Option Nat) (λo=>[(3,AW 2 o (M x.Y.length))]) (λo=>AV o (M x.Y.length) h) (λo m=>n<=m/\BR n m 2 o (M x.Y.length)) ?_ (λo m f=>?_);refine Aa 0 [(1,.q x.g),(3,AW 2 o (M 0)),(22,Ax x.Y),(23,AA x.Y.length),(24,AA 0)] (AV o (M 0) h) m ?_ (λm2 b=>?_);simp[go_sem,IO,AF.g];refine AY (BT 0 (α:=Nat×Option Nat) (λq=>[(1,.q x.g),(3,AW 2 q.2 (M q.1)),(22,Ax x.Y),(23,AA x.Y.length),(24,AA q.1)]) (λq=>AV q.2 (M q.1) h)
  (λq m=>q.1<=x.Y.length/\n<=m/\BR n m 2 q.2 (M q.1)) (λq=>x.Y.length-q.1) (0,o) ⟨qg _,by omega,d.mono b⟩ ?_ AC ?_)
 simp[go_sem,Ao,IO];clear d f b m2 m o;rintro⟨i,o⟩ m ⟨hi,C,d⟩;dsimp only at hi d ⊢;have F:=J i;by_cases r:i<x.Y.length;have w1:=wS i (by omega);obtain⟨y,N⟩:∃y,x.Y[i]=y:=⟨_,rfl⟩
 have D:=K i y r N;generalize hE:M i=E at d F D;have g:∀j y,AV o E h j=some y->j<m:=G0 a C d;refine B5 0 [(1,.q x.g),(3,AW 2 o E),(22,Ax x.Y),(23,AA x.Y.length),(24,AA i),(25,.bool true)] (AV o E h) m ?_ (λm2 b=>?_);simp[go_sem,IO,r];subst b;refine B5 0 [(1,.q x.g),(3,AW 2 o E),(22,Ax x.Y),(23,AA x.Y.length),(24,AA i)] (AV o E h) m ?_ (λm2 b=>?_);simp[go_sem,IO];subst b;refine AX 0 (α:=Option Nat) (λo=>[(1,.q x.g),(3,AW 2 o (M (i+1))),(22,Ax x.Y),(23,AA x.Y.length),(24,AA i)]) (λo=>AV o (M (i+1)) h) (λo m=>n<=m/\BR n m 2 o (M (i+1))) (AY ?_) (λo m f=>?_);refine Aa 1 [(1,.q x.g),(3,AW 2 o E),(22,Ax x.Y),(23,AA x.Y.length),(24,AA i),(6,.q [AA y.rev,AA y.move])] (AV o E h) m ?_ (λm2 b=>?_);simp[go_sem,IO,r,N,Bs.e,AD];exact⟨AZ (AS g (qa _)) (AD _ _ _),AL g (AL g AC)⟩;rw[D];refine AJ ?_;by_cases m0:y.move=0;simp[go_sem,m0,IO];exact⟨o,⟨by omega,d.mono b⟩,rfl,AC⟩;have s:(y.move !=0)=true:=by simpa using m0
 simp[go_sem,m0,s];rw[Vz (x:=(y.rev,y.move)) d (by omega) (by simp[AD]) (by
  intro j e;have:=(d.lt j e).2;rw[AE _ _ (by omega)];exact FX j e)]
 have c:=d.push (j:=m2+1) (m':=m2+1+1) (e:=Gf (y.rev,y.move)) rfl rfl (by omega) (by omega);have l:=D7 (p:=m2+1) (v:=.sl (m2+1) 0 2 (E.length+1) false) (e:=Gf (y.rev,y.move)) a (by omega) d (H:=h_ (AV o E h) m2 (some (.cells [AA y.rev,AA y.move]))) (AL (λj z e=>by have:=a j z e;omega) (Eb a d));have t:AW 2 (some (m2+1)) (E++[Gf (y.rev,y.move)])=.sl (m2+1) 0 2 (E.length+1) false:=by simp[AW]
 simp[go_sem];exact⟨some (m2+1),⟨by omega,c⟩,t.symm,by simpa[C5.app,SV.cells,Gf]using l⟩;refine AJ ?_;simp[go_sem,w1,IO,-Int.natCast_add];exact⟨i+1,by omega,o,⟨by omega,f.1,f.2⟩,⟨IO,IO⟩,AC⟩;have:i=x.Y.length:=by omega
 subst this;refine AJ ?_;simp[go_sem];exact⟨o,⟨C,d⟩,rfl,AC⟩;refine AJ ?_;simp[go_sem];rw[I]at f ⊢;exact I1 L f.2 (λe P=>by obtain⟨p,_,rfl⟩:=ql.1 P;simp[Gf,cc,ca])
end Go.Proofs.YtgakninlhfkkmaaGreat.Sh
