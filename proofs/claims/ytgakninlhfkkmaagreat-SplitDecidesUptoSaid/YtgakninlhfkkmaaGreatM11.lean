/- A part of the proof (part 11 of 17). -/
import Derived.Test.YtgakninlhfkkmaaGreatM10
import Derived.Test.YtgakninlhfkkmaaGreatRows
import Derived.WalkKit
import Derived.ProofKit
import Derived.OpenShut
import Derived.JoinedCond
import Derived.ReadAgain
import Derived.ChangeReads
namespace Go.Proofs.YtgakninlhfkkmaaGreat.Sh
open Proofs
set_option maxRecDepth 10000
theorem bt (v0:SV):PC 254 [v0,AA 0,AA 0,.fn (.func 120) [] []] (.tup []):=by
 intro h n;refine gq Tryz.func254 rfl λa=>?_;simp[go_sem];refine Av 1 (α:=Unit) (λk=>[(2,AA 0),(8,AA 1)]) (λ_=>h) (λk m=>n<=m) (λk=>0) () ?_ ?_ AC ?_;omega;simp[Ao,show IntKind.i64.wrap 1=1 from by decide,IO];rintro _ m hm;simp[go_sem];exact A3 a AC rfl rfl
theorem be (v0:SV):PC 188 [v0,AA 0,.fn (.func 120) [] []] (.tup []):=by
 intro h n;refine gq Tryz.func188 rfl λb=>?_;simp[go_sem];refine Av 1 (α:=Unit) (λk=>[(0,v0),(1,AA 0),(2,.fn (.func 120) [] []),(6,AA 20),(7,AA 0),(8,AA 20)]) (λ_=>h) (λk m=>n<=m) (λk=>0) () ?_ ?_ AC ?_;omega;simp[Ao];rintro _ m a;simp[go_sem];refine qz (bt v0) ?_;simp[go_sem];refine Av 1 (α:=Unit) (λk=>[(1,AA 0),(6,AA 20)]) (λ_=>h) (λk m=>n<=m) (λk=>0) () ?_ ?_ AC ?_;omega;simp[Ao];rintro _ m a;simp[go_sem];exact A3 b AC rfl rfl
theorem bR (o:Nat) (full:Bool):PC 119 [.sl o 0 2 0 full,.fn (.func 120) [] []] (.tup []):=by
 intro h n;refine gq Tryz.func119 rfl λa=>?_;simp[go_sem];refine qz (be _) ?_;simp[go_sem];exact A3 a AC rfl rfl
def QA (l:List AM):List SV:=(l.map AM.enc).flatMap SV.cells
def Vl (x:AF) (h:Hp) (n:Nat) (v1:SV) (o1:Option Nat) (v2:SV) (o2:Option Nat) (y:Int) (E:List Bs) (F:List AM):Hp:=
 Ea (F.map AM.enc) o2 (Ea (E.map Bs.enc) o1 (hset (hset h n (some (.cells [AU x.props,AA y,AA x.move,v1,v2]))) (n+1) (some Y3)))
structure RnW (x:AF) (h:Hp) (n:Nat) (v1:SV) (o1:Option Nat) (v2:SV) (o2:Option Nat) (W:Int->List Bs->List AM->Hp):Prop where
 w0:∀y E F,W y E F n=some (.cells [AU x.props,AA y,AA x.move,v1,v2])
 w1:∀y E F,W y E F (n+1)=some Y3
 wd:∀j,o1=some j->∀y E F,W y E F j=some (.cells (Cg E))
 wl:∀j,o2=some j->∀y E F,W y E F j=some (.cells (QA F))
 sy:∀y z E F,hset (W y E F) n (some (.cells [AU x.props,AA z,AA x.move,v1,v2]))=W z E F
 sd:∀j,o1=some j->∀y E F E',hset (W y E F) j (some (.cells (Cg E')))=W y E' F
 sl:∀j,o2=some j->∀y E F F',hset (W y E F) j (some (.cells (QA F')))=W y E F'
 old:∀y E F j z,h j=some z->W y E F j=some z
theorem rnW {x:AF} {h:Hp} {n m:Nat} {o p:SV} {o1 a:Option Nat} {g k:List SV} (hb:∀j y,h j=some y->j<n) (a1:H6 2 g o o1 (n+2) m) (a2:H6 4 k p a (n+2) m) (b:∀j,o1=some j->a≠some j):RnW x h n o o1 p a (Vl x h n o o1 p a):=by
 have d:=a1.lt;have f:=a2.lt;clear a1 a2;constructor;intro y E F;have l:=d n;have c:=f n;cases o1<;>cases a<;>simp only[Vl,Ea,hset]<;>grind;intro y E F;have l:=d (n+1);have c:=f (n+1);cases o1<;>cases a<;>simp only[Vl,Ea,hset]<;>grind;intro j e y E F;subst e;have c:=b j rfl;cases a<;>simp only[Vl,Ea,hset,Cg]<;>grind;intro j e y E F;subst e;cases o1<;>simp only[Vl,Ea,hset,QA]<;>grind;intro y z E F;funext j;have l:=d n;have c:=f n;cases o1<;>cases a<;>simp only[Vl,Ea,hset]<;>grind;intro j e y E F E';subst e;have c:=b j rfl;funext i;cases a<;>simp only[Vl,Ea,hset,Cg]<;>grind;intro j e y E F F';subst e;funext i;cases o1<;>simp only[Vl,Ea,hset,QA]<;>grind;intro y E F j z e;have l:=d j;have c:=f j;have:=hb j z e;cases o1<;>cases a<;>simp only[Vl,Ea,hset]<;>grind
section
variable {g : FuncId} {a b : List SV} {p : Int → Bool}
set_option maxHeartbeats 4000000 in
theorem iJ (x:AF) (hs:x.sized) (hd:x.dels.length<20) (hg:∀y,PC g (a++[AA y]++b) (.bool (p y))) (id:Int):PC 47 [x.enc,AA id,.fn (.func g) a b] (E3 p id x).enc:=by
 intro h n;refine DO Tryz.func47 rfl λho=>?_;have V:=ho.lt;have q1:n≠n+1:=by omega
 refine By 0 [(1,AA id),(2,.fn (.func g) a b),(3,.ptr n 0),(6,.ptr (n+1) 0)] (hset (hset h n (some (.cells x.flat))) (n+1) (some Y3)) (λm=>n+2=m) ?_ (λm hm=>?_);simp[go_sem,AF.enc,AF.flat,IO];subst hm;refine B8 0 (α:=SV×Option Nat×SV×Option Nat) (λq=>[(1,AA id),(2,.fn (.func g) a b),(3,.ptr n 0),(6,.ptr (n+1) 0)]) (λq=>Vl x h n q.1 q.2.1 q.2.2.1 q.2.2.2 x.ins x.dels x.layers)
  (λq m'=>H6 2 (x.dels.map Bs.enc) q.1 q.2.1 (n+2) m'/\H6 4 (x.layers.map AM.enc) q.2.2.1 q.2.2.2 (n+2) m'/\(∀j,q.2.1=some j->q.2.2.2≠some j)/\n+2<=m') ?_ ?_
 simp[go_sem,AF.flat,AE _ _ q1,AD];refine qP (eP x hs) ?_;rintro v H' n' ⟨v1,o1,v2,o2,rfl,a1,a2,L,hn',hH⟩;obtain⟨s1,t1⟩:=a1.st;obtain⟨s2,t2⟩:=a2.st;have L1:=a1.lt;have L2:=a2.lt;have hn:H' n=some (.cells [AU x.props,AA x.ins,AA x.move,Ax x.dels,Ai x.layers]):=by
  refine hH n _ ?_;have r3:=L1 n;have r4:=L2 n;cases o1<;>cases o2<;>simp only[Ea,hset]<;>grind
 simp[go_sem,hn];refine⟨v1,o1,v2,o2,⟨a1,a2,L,hn'⟩,λj y e=>?_⟩;have r1:=hH j y;have r3:=L1 j;have r4:=L2 j;have q6:=V j y;clear hH L1 L2 a1 a2 hn;revert e;cases o1<;>cases o2<;>simp only[Vl,Ea,hset]at r1 ⊢ <;> grind;rintro⟨v1,o1,v2,o2⟩ m ⟨a1,a2,L,hm⟩;dsimp only at a1 a2 L hm ⊢;have R:=rnW (x:=x) V a1 a2 L;generalize Vl x h n v1 o1 v2 o2=W at R ⊢;refine Aa 0 [(1,AA id),(2,.fn (.func g) a b),(3,.ptr n 0),(6,.ptr (n+1) 0),(7,.ptr n 1)] (W x.ins x.dels x.layers) m ?_ (λm2 hm2=>?_);simp[go_sem,IO];have Z:∀y,PC g (a++AA y::b) (.bool (p y)):=λy=>by simpa using hg y
 refine CW 0 [(1,AA id),(2,.fn (.func g) a b),(3,.ptr n 0),(6,.ptr (n+1) 0),(7,.ptr n 1)] (W (B9 p id x.ins) x.dels x.layers) m ?_ (λm3 hm3=>?_);refine AJ ?_;by_cases i0:x.ins=0;have hr:B9 p id x.ins=x.ins:=by simp[B9,i0]
 rw[hr];simp[go_sem,R.w0,i0,IO,hm2];have i1:(x.ins !=0)=true:=by simpa using i0
 simp[go_sem,R.w0,i1];refine qz (Z x.ins) ?_;cases hp:p x.ins with
 | true=>
  have hr:B9 p id x.ins=id:=by simp[B9,i0,hp]
  rw[hr];simp[go_sem,R.w0,R.sy,IO,hm2]
 | false=>
  have hr:B9 p id x.ins=x.ins:=by simp[B9,hp]
  rw[hr];simp[go_sem,IO,hm2]
 generalize hy:B9 p id x.ins=y;refine CW 0 [(1,AA id),(2,.fn (.func g) a b),(3,.ptr n 0),(6,.ptr (n+1) 0),(7,.ptr n 1)] (W y (x.dels.map (Ba p id)) x.layers) m ?_ (λm4 P=>?_);rcases a1 with⟨_,M,z',f,rfl⟩|⟨j,f,rfl,N,O,rfl⟩
 have s:x.dels=[]:=by simpa using M
 refine AJ ?_;simp[go_sem,R.w0,s];refine Av 0 (α:=Unit) (λ_=>[(1,AA id),(2,.fn (.func g) a b),(3,.ptr n 0),(6,.ptr (n+1) 0),(7,.ptr n 1),(34,AA 0),(35,AA 0)]) (λ_=>W y [] x.layers) (λ_ m'=>m<=m') (λ_=>0) () hm3 ?_ AC ?_;simp[Ao,IO];rintro _ m5 B;simp[go_sem,IO,B];refine Aa 0 [(1,AA id),(2,.fn (.func g) a b),(3,.ptr n 0),(6,.ptr (n+1) 0),(7,.ptr n 1),(34,AA x.dels.length),(35,AA 0)] (W y x.dels x.layers) m ?_ (λm5 B=>?_);simp[go_sem,R.w0,IO,hm3];refine AY (BT 0 (α:=Nat) (λi=>[(1,AA id),(2,.fn (.func g) a b),(3,.ptr n 0),(6,.ptr (n+1) 0),(7,.ptr n 1),(34,AA x.dels.length),(35,AA i)]) (λi=>W y (Ex (Ba p id) x.dels i) x.layers) (λi m'=>i<=x.dels.length/\m<=m') (λi=>x.dels.length-i) 0 ⟨qg _,B⟩ ?_ ?_ ?_);simp[Ao,IO];rw[N4];exact AC;rintro i m6 ⟨hi,J⟩;by_cases r:i<x.dels.length;have w1:=wS i (by omega);have u:=N3 (Ba p id) x.dels i r;have U:=PU (Ba p id) x.dels i (vV r);have l:=PT (Ba p id) x.dels i r;obtain⟨d,X⟩:∃d,x.dels[i]=d:=⟨_,rfl⟩
 rw[X]at u l;generalize hE:Ex (Ba p id) x.dels i=E at u U l;have t:(E.map Bs.enc)[i]? = some d.enc:=by rw[qX,l];rfl
 obtain⟨K,S⟩:=Mv (Bs.E.size E) t (k:=0) (c:=AA d.rev) rfl;have g3:p d.rev=true->((E.map Bs.enc).flatMap SV.cells).take (i*2+0)++AA id::((E.map Bs.enc).flatMap SV.cells).drop (i*2+0+1)=Cg (Ex (Ba p id) x.dels (i+1)):=λhp=>by
  rw[NP (e':=(Ba p id d).enc) (Bs.E.size E) t (by omega) (by simp[Ba,ED,hp,Bs.enc,SV.cells]),<-u,Cg,List.map_set]
 have g4:p d.rev=false->Ex (Ba p id) x.dels (i+1)=E:=λhp=>by
  rw[<-u,show Ba p id d=d by simp[Ba,ED,hp]];obtain⟨k1,k2⟩:=qh.1 l;rw[<-k2];exact List.set_getElem_self k1
 obtain⟨Q,C⟩:∃Q,Ex (Ba p id) x.dels (i+1)=Q:=⟨_,rfl⟩
 rw[C]at g3 g4;have H:∀y F,W y E F j=some (.cells (Cg E)):=λy F=>R.wd j rfl y E F;rw[show(E.map Bs.enc).flatMap SV.cells=Cg E from rfl]at K S g3;simp only[kP]at K S g3;refine Aa 0 [(1,AA id),(2,.fn (.func g) a b),(3,.ptr n 0),(6,.ptr (n+1) 0),(7,.ptr n 1),(34,AA x.dels.length),(35,AA i),(36,.bool true)] (W y E x.layers) m ?_ (λm7 hm7=>?_);simp[go_sem,IO,r,J];refine Aa 0 [(1,AA id),(2,.fn (.func g) a b),(3,.ptr n 0),(6,.ptr (n+1) 0),(7,.ptr n 1),(34,AA x.dels.length),(35,AA i)] (W y E x.layers) m ?_ (λm8 hm8=>?_);simp[go_sem,IO,hm7];refine AX 0 (α:=Unit) (λ_=>[(1,AA id),(2,.fn (.func g) a b),(3,.ptr n 0),(6,.ptr (n+1) 0),(7,.ptr n 1),(34,AA x.dels.length),(35,AA i)]) (λ_=>W y Q x.layers) (λ_ m'=>m<=m') (AY ?_) (λ_ m9 A=>?_);refine Aa 0 [(1,AA id),(2,.fn (.func g) a b),(3,.ptr n 0),(6,.ptr (n+1) 0),(7,.ptr n 1),(34,AA x.dels.length),(35,AA i),(8,AA i)] (W y E x.layers) m ?_ (λm9 A=>?_);simp[go_sem,IO,hm8];refine Aa 0 [(1,AA id),(2,.fn (.func g) a b),(3,.ptr n 0),(6,.ptr (n+1) 0),(7,.ptr n 1),(34,AA x.dels.length),(35,AA i),(8,AA i),(47,.bool (p d.rev))] (W y E x.layers) m ?_ (λm10 w=>?_);simp[go_sem,R.w0,H,r,K,S];refine qz (Z d.rev) ?_;simp[go_sem,IO,A];cases hp:p d.rev with
 | true=>
  refine Au (b:=true) (by simp[go_sem]) (AJ ?_);have g3:=g3 hp;simp[go_sem,R.w0,H,r,K,g3,R.sd j rfl,IO,w]
 | false=>
  refine Au (b:=false) (by simp[go_sem]) (AJ ?_);rw[g4 hp];simp[go_sem,IO,w]
 refine AJ ?_;simp[go_sem,w1,IO,-Int.natCast_add];exact⟨i+1,by omega,⟨by omega,A⟩,IO,by rw[C];exact AC⟩;have:i=x.dels.length:=by omega
 subst this;rw[PS];refine AJ ?_;simp[go_sem,IO];exact J;have Y:(x.dels.map (Ba p id)).length=x.dels.length:=qf _;refine CW 0 [(1,AA id),(2,.fn (.func g) a b),(3,.ptr n 0),(6,.ptr (n+1) 0),(7,.ptr n 1)] (W y (Co (x.dels.map (Ba p id)) x.dels.length) x.layers) m ?_ (λm5 B=>?_);rcases a1 with⟨_,M,z',f,rfl⟩|⟨j,f,rfl,N,O,rfl⟩
 have s:x.dels=[]:=by simpa using M
 refine AJ ?_;simp[go_sem,R.w0,s];refine qz (by exact eq.wk (us:=[.imm z' [] f,.fn (.func 120) [] []]) 1 ⟨Bj (by simp),IO,trivial⟩) ?_;simp[go_sem,IO,P,Co];refine AJ ?_;simp[go_sem,R.w0];by_cases s:x.dels=[];simp only[s,vI];refine qz (bR j f) ?_;simp[go_sem,IO,P,Co];have hl1:1<=(x.dels.map (Ba p id)).length:=by rw[Y];exact qH.2 s
 have c:=iN (x.dels.map (Ba p id)) hl1 (by omega) (full:=f) (n:=m4) (R.wd j rfl y (x.dels.map (Ba p id)) x.layers);rw[Y,R.sd j rfl]at c;refine qP c ?_;rintro v H' n' ⟨rfl,rfl,rfl⟩;simp[go_sem,IO,P];have hll:=hs.layers;have T:(Co (x.dels.map (Ba p id)) x.dels.length).length=x.dels.length:=by rw[Gv,Y]
 obtain⟨D,hD⟩:∃D,Co (x.dels.map (Ba p id)) x.dels.length=D:=⟨_,rfl⟩
 rw[hD]at T ⊢;refine CW 0 [(1,AA id),(2,.fn (.func g) a b),(3,.ptr n 0),(6,.ptr (n+1) 0),(7,.ptr n 1)] (W y D (x.layers.map (Bp p id))) m ?_ (λm4 P=>?_);rcases a2 with⟨_,M,z',f,rfl⟩|⟨j,f,rfl,N,O,rfl⟩
 have s:x.layers=[]:=by simpa using M
 refine AJ ?_;simp[go_sem,R.w0,s];refine Av 0 (α:=Unit) (λ_=>[(1,AA id),(2,.fn (.func g) a b),(3,.ptr n 0),(6,.ptr (n+1) 0),(7,.ptr n 1),(66,AA 0),(67,AA 0)]) (λ_=>W y D []) (λ_ m'=>m<=m') (λ_=>0) () B ?_ AC ?_;simp[Ao,IO];rintro _ m5 I;simp[go_sem,IO,I];refine Aa 0 [(1,AA id),(2,.fn (.func g) a b),(3,.ptr n 0),(6,.ptr (n+1) 0),(7,.ptr n 1),(66,AA x.layers.length),(67,AA 0)] (W y D x.layers) m ?_ (λm5 I=>?_);simp[go_sem,R.w0,IO,B];refine AY (BT 0 (α:=Nat) (λi=>[(1,AA id),(2,.fn (.func g) a b),(3,.ptr n 0),(6,.ptr (n+1) 0),(7,.ptr n 1),(66,AA x.layers.length),(67,AA i)]) (λi=>W y D (Ex (Bp p id) x.layers i)) (λi m'=>i<=x.layers.length/\m<=m') (λi=>x.layers.length-i) 0 ⟨qg _,I⟩ ?_ ?_ ?_);simp[Ao,IO];rw[N4];exact AC;rintro i m6 ⟨hi,J⟩;by_cases r:i<x.layers.length;have w1:=wS i (by omega);have u:=N3 (Bp p id) x.layers i r;have U:=PU (Bp p id) x.layers i (vV r);have l:=PT (Bp p id) x.layers i r;obtain⟨d,X⟩:∃d,x.layers[i]=d:=⟨_,rfl⟩
 rw[X]at u l;generalize hE:Ex (Bp p id) x.layers i=E at u U l;have t:(E.map AM.enc)[i]? = some d.enc:=by rw[qX,l];rfl
 obtain⟨K,S⟩:=Mv (AM.E.size E) t (k:=0) (c:=AA d.rev) rfl;have g3:p d.rev=true->((E.map AM.enc).flatMap SV.cells).take (i*4+0)++AA id::((E.map AM.enc).flatMap SV.cells).drop (i*4+0+1)=QA (Ex (Bp p id) x.layers (i+1)):=λhp=>by
  rw[NP (e':=(Bp p id d).enc) (AM.E.size E) t (by omega) (by simp[Bp,ED,hp,AM.enc,SV.cells]),<-u,QA,List.map_set]
 have g4:p d.rev=false->Ex (Bp p id) x.layers (i+1)=E:=λhp=>by
  rw[<-u,show Bp p id d=d by simp[Bp,ED,hp]];obtain⟨k1,k2⟩:=qh.1 l;rw[<-k2];exact List.set_getElem_self k1
 obtain⟨Q,C⟩:∃Q,Ex (Bp p id) x.layers (i+1)=Q:=⟨_,rfl⟩
 rw[C]at g3 g4;rw[show(E.map AM.enc).flatMap SV.cells=QA E from rfl]at K S g3;have H:∀y G,W y G E j=some (.cells (QA E)):=λy G=>R.wl j rfl y G E;simp only[kP]at K S g3;refine Aa 0 [(1,AA id),(2,.fn (.func g) a b),(3,.ptr n 0),(6,.ptr (n+1) 0),(7,.ptr n 1),(66,AA x.layers.length),(67,AA i),(68,.bool true)] (W y D E) m ?_ (λm7 hm7=>?_);simp[go_sem,IO,r,J];refine Aa 0 [(1,AA id),(2,.fn (.func g) a b),(3,.ptr n 0),(6,.ptr (n+1) 0),(7,.ptr n 1),(66,AA x.layers.length),(67,AA i)] (W y D E) m ?_ (λm8 hm8=>?_);simp[go_sem,IO,hm7];refine AX 0 (α:=Unit) (λ_=>[(1,AA id),(2,.fn (.func g) a b),(3,.ptr n 0),(6,.ptr (n+1) 0),(7,.ptr n 1),(66,AA x.layers.length),(67,AA i)]) (λ_=>W y D Q) (λ_ m'=>m<=m') (AY ?_) (λ_ m9 A=>?_);refine Aa 0 [(1,AA id),(2,.fn (.func g) a b),(3,.ptr n 0),(6,.ptr (n+1) 0),(7,.ptr n 1),(66,AA x.layers.length),(67,AA i),(9,AA i)] (W y D E) m ?_ (λm9 A=>?_);simp[go_sem,IO,hm8];refine Aa 0 [(1,AA id),(2,.fn (.func g) a b),(3,.ptr n 0),(6,.ptr (n+1) 0),(7,.ptr n 1),(66,AA x.layers.length),(67,AA i),(9,AA i),(79,.bool (p d.rev))] (W y D E) m ?_ (λm10 w=>?_);simp[go_sem,R.w0,H,r,K,S];refine qz (Z d.rev) ?_;simp[go_sem,IO,A];cases hp:p d.rev with
 | true=>
  refine Au (b:=true) (by simp[go_sem]) (AJ ?_);have g3:=g3 hp;simp[go_sem,R.w0,H,r,K,g3,R.sl j rfl,IO,w]
 | false=>
  refine Au (b:=false) (by simp[go_sem]) (AJ ?_);rw[g4 hp];simp[go_sem,IO,w]
 refine AJ ?_;simp[go_sem,w1,IO,-Int.natCast_add];exact⟨i+1,by omega,⟨by omega,A⟩,IO,by rw[C];exact AC⟩;have:i=x.layers.length:=by omega
 subst this;rw[PS];refine AJ ?_;simp[go_sem,IO];exact J;have hval:(E3 p id x).enc=.agg [AU x.props,AA y,AA x.move,Ax D,Ai (x.layers.map (Bp p id))]:=by
  rw[<-hy,<-hD];rfl
 have e1:∀h',(∀j,o1=some j->h' j=some (.cells (Cg D)))->Fz h' h 1 v1 (Ax D):=λh' hh=>by
  rcases a1 with⟨_,M,z',f,rfl⟩|⟨j,f,rfl,N,O,rfl⟩
  have s:x.dels=[]:=by simpa using M
  have:D=[]:=vu (by rw[T,s];rfl);rw[this];exact Bj (by simp);have:=Cz (h':=h') (h:=h) (k:=0) (z:=2) (es:=D.map Bs.enc) (full:=f) (full':=false) (o:=j) (ho.none (by omega)) (by simp) (hh j rfl) (Bs.E.size D);rw[qf,T]at this;rw[qf];exact this
 have e2:∀h',(∀j,o2=some j->h' j=some (.cells (QA (x.layers.map (Bp p id)))))->Fz h' h 1 v2 (Ai (x.layers.map (Bp p id))):=λh' hh=>by
  rcases a2 with⟨_,M,z',f,rfl⟩|⟨j,f,rfl,N,O,rfl⟩
  have s:x.layers=[]:=by simpa using M
  rw[s];exact Bj (by simp);have:=Cz (h':=h') (h:=h) (k:=0) (z:=4) (es:=(x.layers.map (Bp p id)).map AM.enc) (full:=f) (full':=false) (o:=j) (ho.none (by omega)) (by simp) (hh j rfl) (AM.E.size _);rw[qf,qf]at this;rw[qf];exact this
 obtain⟨s1,t1⟩:=a1.st;obtain⟨s2,t2⟩:=a2.st;have L1:=a1.lt;have L2:=a2.lt;simp only[SV.storable,SV.cells]at s1 t1 s2 t2;rw[hval];refine AJ ?_;have W0:=R.w0 y D (x.layers.map (Bp p id));have W1:=R.w1 y D (x.layers.map (Bp p id));have WD:=λj e=>R.wd j e y D (x.layers.map (Bp p id));have WL:=λj e=>R.wl j e y D (x.layers.map (Bp p id));have WO:=R.old y D (x.layers.map (Bp p id));simp[go_sem,W0,W1,AD];refine Dj (v:=.agg [AU x.props,AA y,AA x.move,Ax D,Ai (x.layers.map (Bp p id))]) 2 ho (AL (λj z e=>by have:=V j z e;omega) WO) (.inr ⟨IO,IO,IO,e1 _ (λj e=>?_),e2 _ (λj e=>?_),trivial⟩) (by simp[closed,closedL,Bi.E.closedL,Bs.E.closedL,AM.E.closedL,-List.map_map]);have:=L1 j e;rw[AE _ _ (by omega)];exact WD j e;have:=L2 j e;rw[AE _ _ (by omega)];exact WL j e
end
def LG (a id:Int) (s:Unit) (p:CI):AF×Bool×Unit:=(if p.mid then E3 (λy=>y==a) id p.head else p.head,true,s)
theorem df (n0:Nat) (r:BC) (a:Int):Pn R9 n0 46 [] [.iptr [AA r.id,.str r.author,AA r.time],.iptr [AA a]] (LG a r.id) (λx=>x.sized/\x.dels.length<20) where
 lt _ _ _:=rfl
 dom _ _ _ _:=rfl
 cl _ _ _ e:=by cases e
 call s p H n hp _ hn hs:=by
  rw[db];refine DO Tryz.func46 rfl λh=>?_;have d:=h.lt;have k:n+1≠n:=by omega
  obtain⟨X,i⟩:∃X:SV,X=.iptr (p.head.flat++[.bool p.mid,AA p.units]):=⟨_,rfl⟩
  refine By 1 [(1,.iptr [AA r.id,.str r.author,AA r.time]),(2,.iptr [AA a]),(3,X),(4,.ptr (n+1) 0)] (hset H (n+1) (some (.cells [.imm 0 [] true,AA 0,AA 0,.imm 0 [] true,.imm 0 [] true]))) (λm=>n+2<=m) ?_ (λm hm=>?_);rw[i];simp[go_sem,CI.enc,AF.flat,IO];refine⟨AZ (by rw[AE _ _ k.symm];exact h.none (qa n)) (by simp[hset]),λj y=>?_⟩;have:=d j y;simp only[hset];grind;have f:∀x:AF,closed n (.tup [x.enc,.bool true])=true:=λx=>by simp[closed,closedL,AF.E.cl]
  have fin:∀(x:AF) (y:Bb) (m':Nat),LG a r.id s p=(x,true,s)->CO n (hset H (n+1) (some y)) m' (.tup [x.enc,.bool true]) (λv h' n'=>v=.tup [(LG a r.id s p).1.enc,.bool (LG a r.id s p).2.1]/\h'=H/\n'=n):=λx y m' e=>by rw[e];exact DK h (f x) (AL (λj z e=>by have:=d j z e;omega) AC)
  rw[i];refine AJ ?_;cases c:p.mid with
  | false=>
   simp[go_sem,AF.flat,AD,Ah];exact fin p.head _ _ (by simp[LG,c])
  | true=>
   simp[go_sem,AF.flat];refine qz (by simpa[AF.enc,AF.flat]using iJ (g:=48) (a:=[]) (b:=[.iptr [AA a]]) (p:=λy=>y==a) p.head hp.1 hp.2 (λy=>c48 a y) r.id) ?_;simp[go_sem,AF.enc,AF.flat,AD,Ah];exact fin (E3 (λy=>y==a) r.id p.head) _ _ (by simp[LG,c])
def Nc (x:AB):Bool:=(x.kind==7&&(match x.rows with|[]=>true|_::_=>false))||(x.kind==1&&x.text.size==0)
theorem Kp (x:AB):BS x↔Nc x=true:=by
 unfold BS Nc;cases h:x.rows<;>simp[]
def QF (out:List AB) (x:AB):List AB:=
 if Nc x then out else match out.getLast? with
  | some y=>if x.kind=1/\y.kind=1/\y.head=x.head then out.dropLast++[y.addText x.text]else out++[x]
  | none=>out++[x]
theorem U9:AQ=QF:=by
 funext out x;unfold AQ QF;by_cases h:BS x;rw[if_pos h,if_pos ((Kp x).1 h)];rw[if_neg h,if_neg (λe=>h ((Kp x).2 e))];cases out.getLast? <;> rfl
theorem I2 (l:List AB):AO l=(AB.nrmL l).foldl QF []:=by rw[AO,Cy,U9]
def C7:BC:=⟨3,⟨#[65,110]⟩,0⟩
def Cw:BC:=⟨4,⟨#[65,110]⟩,0⟩
def z0:AF:=⟨[],0,0,[],[]⟩
def hI (i:Int):AF:=⟨[],i,0,[],[]⟩
def Nd (i:Int) (t:ByteArray):AB:=.mk 1 0 0 t (hI i) [] []
def Vi:AB:=Nd 3 ⟨#[97,98,99,100]⟩
def P3:AB:=.mk 2 0 0 ⟨#[]⟩ z0 [] []
def HL:AI:=⟨[],[],[],[]⟩
def Cv:AG:=⟨[Vi,P3],z0,[C7],HL⟩
def Ft:BH:=⟨0,1,3⟩
def Oc (i:Int):List AB:=[Nd 3 ⟨#[97]⟩,Nd i ⟨#[98,99]⟩,Nd 3 ⟨#[100]⟩,P3]
theorem jp (l:List AB) (a b:Int) (r:List AB) (h:DL l a b=0) (c:(AB.nrmL (Ad (Ad l b).1 a).2).foldl QF []=r):Ab l a b=(r,0):=by
 rw[Ab,if_pos h,I2,c]
theorem rs1:Ab [Vi,P3] 0 1=([Nd 3 ⟨#[97]⟩],0):=jp _ _ _ _ (by kernel_rfl) (by kernel_rfl)
theorem rs2:Ab [Vi,P3] 1 3=([Nd 3 ⟨#[98,99]⟩],0):=jp _ _ _ _ (by kernel_rfl) (by kernel_rfl)
theorem rs3:Ab [Vi,P3] 3 5=([Nd 3 ⟨#[100]⟩,P3],0):=jp _ _ _ _ (by kernel_rfl) (by kernel_rfl)
theorem cW:BF [Vi,P3]=(5,0):=by kernel_rfl
section
variable {σ : Type}
theorem jv (f:σ->CI->AF×Bool×σ) (revs:List BC) (s:σ) (r:List AB×σ) (h:((A8 f (AT f Ft 1) false [Nd 3 ⟨#[97]⟩] s).1++(A8 f (AT f Ft 1) true [Nd 3 ⟨#[98,99]⟩] (A8 f (AT f Ft 1) false [Nd 3 ⟨#[97]⟩] s).2).1++(A8 f (AT f Ft 1) false [Nd 3 ⟨#[100]⟩,P3] (A8 f (AT f Ft 1) true [Nd 3 ⟨#[98,99]⟩] (A8 f (AT f Ft 1) false [Nd 3 ⟨#[97]⟩] s).2).2).1,
 (A8 f (AT f Ft 1) false [Nd 3 ⟨#[100]⟩,P3] (A8 f (AT f Ft 1) true [Nd 3 ⟨#[98,99]⟩] (A8 f (AT f Ft 1) false [Nd 3 ⟨#[97]⟩] s).2).2).2)=r):
 BM f Ft 2 Cv revs s=(⟨r.1,(f r.2 ⟨z0,false,1⟩).1,revs,HL⟩,(f r.2 ⟨z0,false,1⟩).2.2):=by
 have e:AT f Ft 2 0 Cv.flow false s=r:=by
  rw[<-h];show AT f Ft 2 0 [Vi,P3] false s=_;rw[AT,if_pos (by kernel_rfl),cW];show(_,_)=_;rw[show Ft.a=1 from rfl,show Ft.b=3 from rfl,rs1,rs2,rs3]
 rw[BM,e];rfl
end
theorem w1:BM (C1 (Hj 3)) Ft 2 Cv [C7] (0,0)=(⟨Oc 3,z0,[C7],HL⟩,(2,2)):=by
 rw[jv _ _ _ (Oc 3,(2,2)) (by kernel_rfl)];kernel_rfl
theorem w2:BM (C1 λ(s:Unit) _=>s) Ft 2 Cv [C7] ()=(⟨Oc 3,z0,[C7],HL⟩,()):=by
 rw[jv _ _ _ (Oc 3,()) (by kernel_rfl)];kernel_rfl
theorem w3:BM (LG 3 4) Ft 2 Cv [C7,Cw] ()=(⟨Oc 4,z0,[C7,Cw],HL⟩,()):=by
 rw[jv _ _ _ (Oc 4,()) (by kernel_rfl)];kernel_rfl
theorem jV:AO (Oc 3)=[Vi,P3]:=by rw[I2];kernel_rfl
theorem nP4:AO (Oc 4)=Oc 4:=by rw[I2];kernel_rfl
theorem n3:(⟨Oc 3,z0,[C7],HL⟩:AG).normal=Cv:=by
 rw[AG.normal,AG.norm1,jV];kernel_rfl
theorem s34:C9 [3,4]=[3,4]:=by unfold C9;first|exact List.mergeSort_of_sorted (by simp)|exact List.mergeSort_of_pairwise (by simp)|simp[List.mergeSort]
theorem u34:Gc ⟨Oc 4,z0,[C7,Cw],HL⟩=[3,4]:=by
 rw[Gc,show((BU [] (AB.usL (Oc 4)++z0.all)).filter λx=>decide (x≠0))=[3,4]by kernel_rfl,s34]
theorem n4:(⟨Oc 4,z0,[C7,Cw],HL⟩:AG).normal=⟨Oc 4,z0,[C7,Cw],HL⟩:=by
 rw[AG.normal,AG.norm1,nP4,u34];kernel_rfl
theorem jB:DM 2 Cv 3 Ft=(2,2,0):=by
 rw[DM,if_neg (of_decide_eq_false (by kernel_rfl)),if_neg (of_decide_eq_false (by kernel_rfl)),if_neg (of_decide_eq_false (by kernel_rfl))];rw[show Cv.revs=[C7]from rfl,w1]
def Z8 (h:AF):Prop:=h=z0\/h=hI 3
theorem Gp {h:AF} (e:Z8 h):h.sized:=by
 rcases e with rfl|rfl<;>exact⟨by simp[z0,hI],by simp[z0,hI],by simp[z0,hI]⟩
theorem RF {h:AF} (e:Z8 h):Yx h:=by
 rcases e with rfl|rfl<;>exact⟨rfl,rfl,rfl⟩
theorem WW {h:AF} (e:Z8 h):h.revs.length<=1048576:=by
 rcases e with rfl|rfl<;>exact of_decide_eq_true (by kernel_rfl)
theorem WX:Dq Z8 10 2 Cv.flow:=by
 refine⟨of_decide_eq_true (by kernel_rfl),of_decide_eq_true (by kernel_rfl),λx a=>?_⟩;have:x=Vi\/x=P3:=by simpa[Cv]using a
 rcases this with rfl|rfl;exact⟨.inr rfl,⟨by simp[Vi,Nd,AB.flow],of_decide_eq_true (by kernel_rfl),by simp[Vi,Nd,AB.flow]⟩,by simp[Vi,Nd,AB.rows],by simp[Vi,Nd,AB.rows]⟩;exact⟨.inl rfl,⟨by simp[P3,AB.flow],of_decide_eq_true (by kernel_rfl),by simp[P3,AB.flow]⟩,by simp[P3,AB.rows],by simp[P3,AB.rows]⟩
theorem JR (i:Int) (t:ByteArray) (ht:t.size<=10):(Nd i t).sized:=by
 simp[Nd,AB.sized,AB.sizedL,AP.sizedL];exact⟨by omega,by simp[hI],by simp[hI],by simp[hI]⟩
theorem PB:P3.sized:=by
 simp[P3,AB.sized,AB.sizedL,AP.sizedL];exact⟨of_decide_eq_true (by kernel_rfl),by simp[z0],by simp[z0],by simp[z0]⟩
theorem OH:HL.sized:=⟨by simp[HL],by simp[HL],by simp[HL],by simp[HL],by simp[HL],by simp[HL]⟩
theorem SZ:z0.sized:=Gp (.inl rfl)
theorem JQ (i:Int) (revs:List BC) (h:revs.length<=10):(⟨Oc i,z0,revs,HL⟩:AG).sized:=
 ⟨by simp[Oc],by simp only[Oc,AB.sizedL];exact⟨JR _ _ (of_decide_eq_true (by kernel_rfl)),JR _ _ (of_decide_eq_true (by kernel_rfl)),JR _ _ (of_decide_eq_true (by kernel_rfl)),PB,trivial⟩,SZ,by show revs.length<=_;omega,OH⟩
theorem HQ:Cv.sized:=
 ⟨by simp[Cv],by simp only[Cv,AB.sizedL];exact⟨JR _ _ (of_decide_eq_true (by kernel_rfl)),PB,trivial⟩,SZ,by simp[Cv],OH⟩
theorem Sy {d:AG} (hl:d.flow.length<=1048576) (a:AB.sizedL d.flow) {id:Int} {fl:Fl} (e:Eg d id=some fl):fl.items.length<=1048576/\∀x∈fl.items,x.text.size<=1048576:=by
 have o:=KB hl a fl (List.mem_of_find?_eq_some e);exact⟨o.1,vZ o.2⟩
theorem co:PC 13 [Cv.enc,AA 3,Ft.enc] (.tup [AA 2,AA 2,AA 0]):=by
 have b:Cv.revs=[C7]:=rfl;have:=c13 Z8 10 (by omega) (λh e=>⟨⟨Gp e,WW e⟩,Gp e⟩) 2 Cv 3 Ft WX (.inl rfl) (by simp[Cv]) (λfl a=>?_) ?_ ?_ ?_;rw[jB]at this;exact this;exact Sy HQ.len HQ.flow a;rw[b,w1];exact JQ _ _ (by simp);rw[b,w1,n3];exact HQ;rw[b,w1,jV];exact of_decide_eq_true (by kernel_rfl)
theorem k42:PC 42 [Cw.enc] (AA 0):=by
 have:=d7 Cw
 rwa [show Cn Cw=0 by kernel_rfl]at this
theorem k20:PC 20 [BE [C7],AA 4] (.tup [HJ.enc,.bool false]):=by
 have:=fW [C7] (by simp) 4;have e:CT [C7] 4=(HJ,false):=by kernel_rfl
 rw[e]at this;exact this
theorem jM:PC 45 [BE [C7],Cw.enc] (.tup [BE [C7,Cw],AA 0]):=b9 [C7] (by simp) (by simp) Cw (by kernel_rfl) (by kernel_rfl) 1 (by simp) (by kernel_rfl)
theorem jK {n0 t:Nat} {H:Hp} {n:Nat} (hn:n0<=n):BL Tryz.prog 36 [Cv.enc,Ft.enc,.fn (.func 43) [] [.ptr t 0]] H n (λv h' n'=>v=.tup []/\h'=H/\n'=n):=by
 have a:Cv.revs=[C7]:=rfl;have:=io (sc:=Ft) (v43 n0 t) Z8 10 (by omega) (λh e=>⟨RF e,Gp e⟩) 2 Cv () WX (.inl rfl) ?_ ?_ ?_ (H:=H) hn (by rintro o y ⟨⟩);rw[db]at this;exact this;rw[a,w2];exact JQ _ _ (by simp);rw[a,w2,n3];exact HQ;rw[a,w2,jV];exact of_decide_eq_true (by kernel_rfl)
theorem jN {n0:Nat} {H:Hp} {n:Nat} (hn:n0<=n):BL Tryz.prog 49 [.fn (.func 46) [] [.iptr [AA 4,.str ⟨#[65,110]⟩,AA 0],.iptr [AA 3]],Cv.enc,Ft.enc,BE [C7,Cw]] H n (λv h' n'=>v=(⟨Oc 4,z0,[C7,Cw],HL⟩:AG).enc/\h'=H/\n'=n):=by
 have:=d49 (sc:=Ft) (df n0 Cw 3) Z8 10 (by omega) (λh e=>⟨⟨Gp e,by rw[(RF e).dels];simp⟩,Gp e⟩) 2 Cv [C7,Cw] () WX (.inl rfl) ?_ ?_ ?_ (H:=H) hn (by rintro o y ⟨⟩);rw[db,show Cw.id=4 from rfl,w3,n4]at this;exact this;rw[show Cw.id=4 from rfl,w3];exact JQ _ _ (by simp);rw[show Cw.id=4 from rfl,w3,n4];exact JQ _ _ (by simp);rw[show Cw.id=4 from rfl,w3,nP4];exact of_decide_eq_true (by kernel_rfl)
set_option maxHeartbeats 4000000 in
theorem cp:PC 15 [Cv.enc,AA 3,Ft.enc,Cw.enc] (.tup [(⟨Oc 4,z0,[C7,Cw],HL⟩:AG).enc,AA 0]):=by
 intro h n;refine DO Tryz.func15 rfl λl=>?_;have d:=l.lt;obtain⟨X,g⟩:∃X:SV,X=.iptr ([AK Cv.flow]++Cv.«end».flat++[BE Cv.revs]++Cv.settings.flat):=⟨_,rfl⟩
 obtain⟨S,s⟩:∃S:SV,S=.iptr [AA Ft.id,AA Ft.a,AA Ft.b]:=⟨_,rfl⟩
 obtain⟨V,p⟩:∃V:SV,V=.iptr [AA Cw.id,.str Cw.author,AA Cw.time]:=⟨_,rfl⟩
 obtain⟨G,r⟩:∃G:Hp,G=hset h (n+4) (some (.cells Cq)):=⟨_,rfl⟩
 have f:∀j y,G j=some y->j<n+5:=λj y e=>by
  rw[r]at e;simp only[hset]at e;split at e;omega;have:=d j y e;omega
 have u:∀j y,h j=some y->G j=some y:=λj y e=>by rw[r];exact AL (λj z e=>by have:=d j z e;omega) AC j y e
 have t:G (n+4)=some (.cells Cq):=by rw[r,AD]
 refine By 1 [(4,X),(5,.iptr [AA 3]),(6,S),(7,V),(8,.ptr (n+4) 0)] G (λm=>n+5<=m) ?_ (λm c=>?_);rw[g,s,p,r];simp[go_sem,BH.enc,AG.enc,AF.flat,AI.flat,BC.enc,IO,qu,Cq];refine⟨⟨AZ (by simp[hset];exact l.none (by omega)) (by simp[hset]),AZ (by simp[hset];exact l.none (by omega)) (by simp[hset]),AZ (by simp[hset];exact l.none (by omega)) (by simp[hset]),AZ (by simp[hset];exact l.none (by omega)) (by simp[hset])⟩,λj y=>?_⟩;have:=d j y;simp only[hset];grind;have w:∀E:AG,closed n (.tup [E.enc,AA 0])=true:=λE=>by simp[AG.enc,AF.flat,AI.flat,closed,closedL,AB.E.closedL,Bi.E.closedL,Bs.E.closedL,AM.E.closedL,BC.E.closedL,A7.E.closedL,GQ.E.closedL,A9.E.closedL,GY.E.closedL]
 refine By 0 [(4,X),(5,.iptr [AA 3]),(6,S),(7,V),(8,.ptr (n+4) 0),(10,AA 2),(11,AA 2),(12,AA 0)] G (λm=>n+5<=m) ?_ (λm c=>?_);rw[g,s];simp[go_sem,AF.flat,AI.flat];refine qz (by simpa[BH.enc,AG.enc,AF.flat,AI.flat]using co) ?_;simp[go_sem,IO,c];refine Bg 0 [(4,X),(5,.iptr [AA 3]),(6,S),(7,V),(8,.ptr (n+4) 0),(10,AA 2),(11,AA 2)] G (λm=>n+5<=m) (AJ ?_) (λm c=>?_);simp[go_sem,IO,c];refine Bg 0 [(4,X),(5,.iptr [AA 3]),(6,S),(7,V),(8,.ptr (n+4) 0),(10,AA 2),(11,AA 2)] G (λm=>n+5<=m) (AJ ?_) (λm c=>?_);rw[p];simp[go_sem];refine qz (by simpa[BC.enc]using k42) ?_;simp[go_sem,IO,c];refine Bg 0 [(4,X),(5,.iptr [AA 3]),(6,S),(7,V),(8,.ptr (n+4) 0),(10,AA 2),(11,AA 2)] G (λm=>n+5<=m) (AJ ?_) (λm c=>?_);rw[g,p];simp[go_sem,AF.flat,AI.flat];refine qz (by simpa[Cw,Cv]using k20) ?_;simp[go_sem,IO,BC.enc,AD,Ah];exact⟨by omega,AL (λj z e=>by have:=f j z e;omega) AC⟩;refine Bg 0 [(4,X),(5,.iptr [AA 3]),(6,S),(7,V),(8,.ptr (n+4) 0)] G (λm=>n+5<=m) (AJ ?_) (λm c=>?_);rw[g];simp[go_sem,AF.flat,AI.flat,IO,c,Cv];refine B8 0 (α:=Nat) (λk=>[(4,X),(5,.iptr [AA 3]),(6,S),(7,V),(8,.ptr (n+4) 0),(16,.ptr (k+1) 0)]) (λk=>hset (hset G k (some (.map []))) (k+1) (some (.cells [.map k]))) (λk m=>n+5<=k/\k+1<m) ?_ (λk m c=>?_);simp[go_sem,IO,Ah,AD];exact⟨m,⟨by omega,by omega⟩,rfl,AC⟩;obtain⟨hk1,x⟩:=c;refine By 0 [(4,X),(5,.iptr [AA 3]),(6,S),(7,V),(8,.ptr (n+4) 0),(16,.ptr (k+1) 0)] (hset (hset G k (some (.map []))) (k+1) (some (.cells [.map k]))) (λm=>k+1<m) ?_ (λm c=>?_);rw[g,s];simp[go_sem,AF.flat,AI.flat];refine qP (by simpa[BH.enc,AG.enc,AF.flat,AI.flat]using jK (n0:=0) (qg _)) ?_;rintro v B n' ⟨rfl,rfl,rfl⟩;simp[go_sem,IO,x];refine Bg 0 [(4,X),(5,.iptr [AA 3]),(6,S),(7,V),(8,.ptr (n+4) 0)] G (λm=>n+5<=m) (AJ ?_) (λm c=>?_);simp[go_sem,AD];refine Lv (m:=k) (es:=[]) rfl (by simp[go_sem]) (by simp[go_sem]) (by simp[hset]) ?_;simp[go_sem];refine Av 0 (α:=Unit) (λ_=>[(69,.ptr m 0),(4,X),(5,.iptr [AA 3]),(6,S),(7,V),(8,.ptr (n+4) 0)]) (λ_=>hset G m (some (.iter [] none))) (λ_ m2=>m<m2) (λ_=>0) () (qY m) ?_ ?_ ?_;simp[Ao,IO];intro o y e;simp only[hset]at e ⊢;by_cases A:o=m;rw[if_pos A]at e ⊢;exact e;rw[if_neg A]at e ⊢;have:=f o y e;rw[if_neg (by omega),if_neg (by omega),if_neg (by omega)];exact e;rintro _ m2 hm2;simp[go_sem];refine OG (q:=m) (left:=[]) (last:=none) rfl (by simp[go_sem]) (AD _ _ _) (λi hi=>absurd hi (by simp)) λ_=>?_;simp[go_sem,IO];exact⟨by omega,AL (λj z e=>by have:=f j z e;omega) AC⟩;refine By 0 [(4,X),(5,.iptr [AA 3]),(6,S),(7,V),(8,.ptr (n+4) 0),(19,BE [C7,Cw]),(12,AA 0)] G (λm=>n+5<=m) ?_ (λm c=>?_);rw[g,p];simp[go_sem,AF.flat,AI.flat];refine qz (by simpa[BC.enc,Cv]using jM) ?_;simp[go_sem,IO,c];refine Bg 0 [(4,X),(5,.iptr [AA 3]),(6,S),(7,V),(8,.ptr (n+4) 0),(19,BE [C7,Cw])] G (λm=>n+5<=m) (AJ ?_) (λm c=>?_);simp[go_sem,IO,c];refine By 0 [(4,X),(6,S),(8,.ptr (n+4) 0),(19,BE [C7,Cw]),(20,.fn (.func 46) [] [V,.iptr [AA 3]])] G (λm=>n+5<=m) ?_ (λm c=>?_);simp[go_sem,IO,c];refine AJ ?_;rw[g,s,p];simp[go_sem,AF.flat,AI.flat];refine qP (by simpa[BH.enc,AG.enc,AF.flat,AI.flat,Cw]using jN (n0:=0) (qg _)) ?_;rintro v B n' ⟨rfl,rfl,rfl⟩;simp[go_sem,t,Cq,AG.enc,AF.flat,AI.flat,AD];exact A3 l (AL (λj z e=>by have:=d j z e;omega) u) rfl (w ⟨Oc 4,z0,[C7,Cw],HL⟩)
theorem AG.cl (n:Nat) (E:AG):closed n E.enc=true:=by simp[AG.enc,AF.flat,AI.flat,closed,closedL,AB.E.closedL,Bi.E.closedL,Bs.E.closedL,AM.E.closedL,BC.E.closedL,A7.E.closedL,GQ.E.closedL,A9.E.closedL,GY.E.closedL]
theorem k32:PC 32 [] Cv.enc:=by
 intro h n;refine gq Tryz.func32 rfl λa=>?_;have i:n≠n+1:=by omega
 have j:n≠n+1+1:=by omega
 have d:n+1≠n:=by omega
 have f:n+1+1≠n:=by omega
 have g:n+1≠n+1+1:=by omega
 simp[go_sem,AD,AE,j];refine Dj 3 a (λo y e=>?_) ?_ (AG.cl n Cv);have:=(a o y e).1;rw[AE _ _ (by omega),AE _ _ (by omega),AE _ _ (by omega),AE _ _ (by omega)];exact e;have b:h (n+1)=none:=a.none (by omega);have c:h (n+1+1)=none:=a.none (by omega);refine .inr ⟨.inr ⟨b,by simp,rfl,rfl,_,_,by rw[AE _ _ d,AE _ _ g,AD],rfl,?_,?_⟩,?_,IO,IO,?_,?_,.inr ⟨c,by simp,rfl,rfl,_,_,by rw[AE _ _ f,AD],rfl,?_,?_⟩,?_,?_,?_,?_,trivial⟩;exact AB.E.size _;exact⟨IO,IO,IO,IO,Bj (by simp),IO,IO,Bj (by simp),Bj (by simp),Bj (by simp),Bj (by simp),IO,IO,IO,IO,Bj (by simp),IO,IO,Bj (by simp),Bj (by simp),Bj (by simp),Bj (by simp),trivial⟩;exact Bj (by simp);exact Bj (by simp);exact Bj (by simp);exact BC.E.size _;exact⟨IO,IO,IO,trivial⟩;exact Bj (by simp);exact Bj (by simp);exact Bj (by simp);exact Bj (by simp)
set_option maxHeartbeats 2000000 in
theorem k11:PC 11 [] (.bool true):=by
 intro h n;refine DO Tryz.func11 rfl λx=>?_;have a:=x.lt;obtain⟨A,u⟩:∃A:SV,A=.imm 11 ((Oc 4).map AB.enc) false:=⟨_,rfl⟩
 obtain⟨R,w⟩:∃R:SV,R=BE [C7,Cw]:=⟨_,rfl⟩
 refine Aa 0 [] h n ?_ (λm B=>?_);simp[go_sem];refine Aa 1 [(1,.iptr [A,AU [],AA 0,AA 0,Ax [],Ai [],R,Aj [],Dg [],Bd [],Fs []]),(2,AA 0)] h n ?_ (λm B=>?_);simp[go_sem];refine qz k32 ?_;simp[go_sem];have e:(⟨Oc 4,z0,[C7,Cw],HL⟩:AG).enc=.agg [A,AU [],AA 0,AA 0,Ax [],Ai [],R,Aj [],Dg [],Bd [],Fs []]:=by rw[u,w];rfl
 have k:=cp;rw[e]at k;refine qz (v:=.tup [.agg [A,AU [],AA 0,AA 0,Ax [],Ai [],R,Aj [],Dg [],Bd [],Fs []],AA 0]) k ?_;simp[go_sem,IO,AD,Ah];exact⟨by omega,AZ (AS (λj y e=>by have:=a j y e;omega) (qa m)) (AD _ _ _),AL (λj z e=>by have:=a j z e;omega) AC⟩;obtain⟨d,p⟩:∃d:SV,d=(Nd 3 ⟨#[97]⟩).enc:=⟨_,rfl⟩
 obtain⟨i,q⟩:∃i:SV,i=P3.enc:=⟨_,rfl⟩
 obtain⟨f,b⟩:∃f:SV,f=.agg [AA 1,AA 0,AA 0,.str ⟨#[98,99]⟩,AU [],AA 4,AA 0,Ax [],Ai [],AK [],Aw []]:=⟨_,rfl⟩
 obtain⟨g,c⟩:∃g:SV,g=.agg [AA 1,AA 0,AA 0,.str ⟨#[100]⟩,AU [],AA 3,AA 0,Ax [],Ai [],AK [],Aw []]:=⟨_,rfl⟩
 have l:A=.imm 11 [d,f,g,i] false:=by rw[u,p,b,c,q];rfl
 obtain⟨r0,r⟩:∃r0:SV,r0=C7.enc:=⟨_,rfl⟩
 obtain⟨t,s⟩:∃t:SV,t=Cw.enc:=⟨_,rfl⟩
 have o:R=.imm 3 [r0,t] false:=by rw[w,r,s];rfl
 refine AJ ?_;rw[l,o,b,c];simp[go_sem];exact As x rfl rfl
section
variable {σ : Type}
end
def GJ (T:Int->Prop):Nat->List AB->Prop
 | 0,_=>True
 | N+1,l=>∀x∈l,(x.kind≠7->x.rows=[])/\(x.kind=6->T x.id)/\GJ T N x.flow/\∀r∈x.rows,∀c∈r.cells,T c.id/\GJ T N c.flow
def Nn (T:Int->Prop) (N:Nat) (x:AB):Prop:=(x.kind≠7->x.rows=[])/\(x.kind=6->T x.id)/\GJ T N x.flow/\∀r∈x.rows,∀c∈r.cells,T c.id/\GJ T N c.flow
theorem Wf {T:Int->Prop} {N:Nat} {l:List AB}:GJ T (N+1) l↔∀x∈l,Nn T N x:=Iff.rfl
theorem Wj (T:Int->Prop) (N:Nat):GJ T N []:=by cases N<;>simp[GJ]
theorem No {T:Int->Prop} {N:Nat} (x:AB) (t:ByteArray) (H:Nn T N x):Nn T N (.mk x.kind x.code x.id t x.head x.flow x.rows):=by cases x;exact H
theorem Im {T:Int->Prop}:∀{N:Nat} {l:List AB},GJ T N l->GJ T N (AO l)
 | 0,_,_=>trivial
 | N+1,l,H=>by
  rw[Wf]at H ⊢;unfold AO Cy;rw[kM];refine Gr (p:=Nn T N) No _ _ (λy f=>by cases f) λy f=>?_;obtain⟨x,o,rfl⟩:=ql.1 f;obtain⟨a,b,c,d⟩:=H x o;obtain⟨g,_,e,_,e1,k,i⟩:=kB x;refine⟨λh=>?_,λh=>?_,by rw[k];exact Im c,?_⟩;rw[g]at h;rw[i,a h];rfl;rw[g]at h;rw[e];exact b h;rw[i];intro r n;obtain⟨r0,h0,rfl⟩:=ql.1 (kD.1 n).1;have m:(AP.nrm r0).cells=r0.cells.map AH.nrm:=by cases r0;rw[AP.nrm,vY];rfl
  rw[m];intro c hc;obtain⟨c0,h1,rfl⟩:=ql.1 hc;obtain⟨q,s⟩:=d r0 h0 c0 h1;have j:(AH.nrm c0).id=c0.id/\(AH.nrm c0).flow=AO c0.flow:=by cases c0;rw[AH.nrm];exact⟨rfl,rfl⟩
  exact⟨by rw[j.1];exact q,by rw[j.2];exact Im s⟩
theorem MM {T:Int->Prop} {N:Nat} {l:List AB} (cu:Int) (H:GJ T (N+1) l):GJ T (N+1) (Ad l cu).1/\GJ T (N+1) (Ad l cu).2:=
 Hk (p:=Nn T N) No l cu H _ (qa _)
theorem KI {T:Int->Prop} {N:Nat} {l:List AB} (a b:Int) (H:GJ T (N+1) l):GJ T (N+1) (Ab l a b).1:=by
 unfold Ab;split;exact Im (MM a (MM b H).1).2;exact Wj T _
section
variable {σ : Type}
end
theorem Pa {id:Int}:∀{l:List BC},(HI id l).2=true->∃r∈l,r.id=id
 | [],h=>by simp[HI]at h
 | r::l,h=>by
  rw[HI]at h;split at h;exact⟨r,by simp,by assumption⟩;obtain⟨q,h1,h2⟩:=Pa h;exact⟨q,by simp[h1],h2⟩
theorem VJ {l:List BC} {id:Int} (h:(CT l id).2=true):∃r∈l,r.id=id:=by
 unfold CT at h;split at h;split at h;rename_i h1 h2;have a:=Fw _ _ h2;simp only[Az,decide_eq_true_eq]at h2 a;obtain⟨k,b⟩:∃k,k=EI (F6 l id) 0 l.length:=⟨_,rfl⟩
 rw[<-b]at h2 a;refine⟨_,qi a,?_⟩;have:=h2.2;unfold F6 at this;rw[qe a]at this;simp only[GD]at this;split at this;omega;split at this;omega;omega;simp at h;exact Pa h
theorem JK {F:Nat->Int} {n:Nat} (h:CD F n=0):∀k,k<n->F k=0:=λk hk=>by
 induction n with
 | zero=>omega
 | succ n ih=>
  rw[CD]at h;split at h;rename_i h0;by_cases e:k=n;rw[e];exact h;exact ih h0 (by omega);omega
def HK (m2:List Int) (h:AF):Prop:=h.sized/\UN m2 h
theorem L5:∀(l:List AB),(∀x∈l,x.text.size<=1000)->Ak l<=l.length*1000
 | [],_=>by simp[Ak]
 | x::l,h=>by
  have h1:=L5 l λy a=>h y (by simp[a]);have h2:=h x (by simp);have e:Ak (x::l)=x.text.size+Ak l:=by simp[Ak]
  simp only[qJ];omega
theorem M6 {m2:List Int} {B:Nat}:∀{N:Nat} {l:List AB},Dq AF.sized B N l->Og N l->Xr m2 N l->Dq (HK m2) 150000 N l
 | 0,_,h,_,_=>h.elim
 | N+1,l,hl,hf,hk=>by
  obtain⟨_,_,k⟩:=Ci.1 hl;obtain⟨f1,f2⟩:=hf;refine Ci.2 ⟨by omega,?_,λx a=>?_⟩;have:=L5 l λx a=>(f2 x a).1.1;omega;obtain⟨a1,a2,a3,a4⟩:=k x a;obtain⟨⟨b1,b2⟩,e,f⟩:=f2 x a;obtain⟨c1,g,i,_,j⟩:=hk x a;refine⟨⟨a1,g.toUN⟩,M6 a2 e i,by omega,λr b=>?_⟩;obtain⟨m,u2,d⟩:=a4 r b;obtain⟨v1,n⟩:=f r b;obtain⟨w1,w2⟩:=j r b;exact⟨⟨m,w1.1.toUN⟩,by omega,λc hc=>⟨⟨(d c hc).1,(w2 c hc).1.toUN⟩,M6 (d c hc).2 (n c hc) (w2 c hc).2⟩⟩
section
variable {hp : AF → Prop} {σ : Type} {f : σ → CI → AF × Bool × σ} {K N : Nat}
end
theorem Tw {m2:List Int} {h:AF} (H:HK m2 h):∀u∈h.all,u∈0::m2:=λu b=>by
 have k:=H.2;simp only[AF.all,qt,qd,ql]at b ⊢;rcases b with rfl|⟨x,a,rfl⟩|⟨x,a,rfl⟩
 rcases k.ins with e|e;exact .inl e;exact .inr e;exact .inr (k.dels x a);exact .inr (k.layers x a)
theorem Kn {m2:List Int} {K N:Nat} {W:AG} (hm:m2.length<=1000) (c:K<=1048576) (h:Dq (HK m2) K N W.flow) (b:HK m2 W.«end») (d:W.revs.length<=1048576) (e:W.settings.sized):
 W.sized/\W.normal.sized/\(BU [] (AB.usL (AO W.flow)++W.«end».all)).length<=1048576:=by
 have h1:=h.sized (λx g=>g.1) c;have h2:=(FD h).sized (λx g=>g.1) c;refine⟨⟨h1.1,h1.2,b.1,d,e⟩,⟨h2.1,h2.2,b.1,?_,e⟩,?_⟩;exact qI (kr _ _) d;refine qI (Xx (L:=0::m2) λu a=>?_) (by simp only[qJ];omega);rcases qd.1 a with a|a;exact TM (λh g=>Tw g) (FD h) u a;exact Tw b u a
theorem ZL (m2:List Int):HK m2 DN:=⟨⟨by simp[DN],by simp[DN],by simp[DN]⟩,⟨.inl rfl,by simp[DN],by simp[DN],by simp[DN],by simp[DN]⟩⟩
theorem Wn {m2:List Int} {h:AF} (g:HK m2 h):h.revs.length<=1048576:=by
 have a:=g.2.dlen;have b:=g.2.llen;unfold AF.revs;split<;>simp<;>omega
theorem GK {l:List BC} (h:El l=0):l.length<=256:=by
 unfold El at h;have hl:¬(256:Int)<l.length:=λg=>by simp[Bc,g]at h
 omega
structure Xk where
 rev:Int
 sc:BH
 next:BC
def Xk.enc (c:Xk):SV:=.agg [AA c.rev,AA c.sc.id,AA c.sc.a,AA c.sc.b,AA c.next.id,.str c.next.author,AA c.next.time]
def Xm (w:World):Cx:=⟨λ_=>none,λ_=>False,w,λ_=>none⟩
def BB:Nat:=1048576
section
variable {H : Type} (enc : TypeId × Value → H) (P : Program) (w : World) (base : Nat) (spare : Nat → Bool) (Bv : Bool)
variable {α β : Type}
def Rd (k:Nat) (e:TypeId) (F:α->List SV) (z:Nat) (ok:α->Prop) (μ:α->Nat):Prop:=
 ∀cs x,DataW.trod enc P w base spare Bv k e cs=some x->Rows.uptoBulk x.1<=BB->∃a,VL (Xm w) (F a) cs/\cs.length=z/\(∀v∈cs,v.oneCell'=true)/\ok a/\μ a+1<=Rows.uptoBulk x.1
def Cp (n:Nat) (L:Nat) (fs:List Field) (o:Nat) (F:α->List SV) (ok:α->Prop) (μ:α->Nat):Prop:=
 ∀(cs:List Value) (xs:List (DataW H×List MemPlace)),cs.length=L->xs.length=fs.length->(∀(i:Nat) (f:Field),fs[i]? = some f->DataW.trod enc P w base spare Bv n f.type ((cs.drop f.offset).take (P.cellsOf f.type))=xs[i]?)->
  Rows.uptoBulkAll (xs.map (·.1))<=BB->∃b,VL (Xm w) (F b) (cs.drop o)/\(∀v∈cs.drop o,v.oneCell'=true)/\ok b/\μ b<=Rows.uptoBulkAll (xs.map (·.1))
variable {enc P w base spare Bv}
theorem Zi {c:Cx} {a b:List SV} {x y:List Value} (h:VL c a x) (g:VL c b y):VL c (a++b) (x++y):=BP.2 (vh (BP.1 h) (BP.1 g))
theorem Cp.nil {n L:Nat}:Cp enc P w base spare Bv n L [] L (λ_:Unit=>[]) (λ_=>True) (λ_=>0):=λcs xs h1 h2 _ _=>by
 have:cs.drop L=[]:=List.drop_eq_nil_of_le (by omega);exact⟨(),by rw[this,VL],by rw[this];simp,trivial,qg _⟩
theorem Cp.cons {n L:Nat} {f:Field} {l:List Field} {o z:Nat} {g:α->List SV} {h:β->List SV} {d:α->Prop} {e:β->Prop} {μ1:α->Nat} {μ2:β->Nat} (h1:Rd enc P w base spare Bv n f.type g z d μ1) (B:P.cellsOf f.type=z) (A:f.offset=o)
 (h2:Cp enc P w base spare Bv n L l (o+z) h e μ2):Cp enc P w base spare Bv n L (f::l) o (λp:α×β=>g p.1++h p.2) (λp=>d p.1/\e p.2) (λp=>μ1 p.1+μ2 p.2):=λcs xs t m g3 u=>by
 cases xs with
 | nil=>simp at m
 | cons x xs=>
  simp only[qr,Rows.uptoBulkAll]at u;have j:=g3 0 f rfl;rw[A,B]at j;obtain⟨a,a1,a2,a3,a4,a5⟩:=h1 _ x (by simpa using j) (by omega);obtain⟨b,b1,q,r,b4⟩:=h2 cs xs t (by simpa using m) (λi s y=>by have:=g3 (i+1) s (by simpa using y);simpa using this) (by omega);have k:cs.drop o=(cs.drop o).take z++cs.drop (o+z):=by rw[<-vF,qM]
  refine⟨(a,b),?_,?_,⟨a4,r⟩,?_⟩;rw[k];exact Zi a1 b1;rw[k];intro v c;rcases qd.1 c with c|c;exact a3 v c;exact q v c;simp only[qr,Rows.uptoBulkAll];omega
theorem Cp.rd {n L:Nat} {T:TypeId} {c:Array Field} {F:α->List SV} {ok:α->Prop} {μ:α->Nat} (ht:P.underlying T=some (.struct c)) (hz:P.cellsOf T=L) (h:Cp enc P w base spare Bv n L c.toList 0 F ok μ):Rd enc P w base spare Bv (n+1) T F L ok μ:=λcs x k hb=>by
 obtain⟨xs,m,hm,rfl,hl,a,j⟩:=DataW.trod_struct ht k;obtain rfl:n=m:=by omega
 simp only[Rows.uptoBulk]at hb ⊢;obtain⟨b,b1,d,g,b4⟩:=h cs xs (by omega) (by simpa using a) (λi f e=>j i f (by simpa using e)) (by omega);exact⟨b,by simpa using b1,by omega,by simpa using d,g,by omega⟩
theorem Rd.map {k e z:Nat} {F:α->List SV} {ok:α->Prop} {μ:α->Nat} (h:Rd enc P w base spare Bv k e F z ok μ) (g:α->β) {d:β->List SV} {b:β->Prop} {μ':β->Nat} (f:∀a,d (g a)=F a) (c:∀a,ok a->b (g a)) (j:∀a,μ' (g a)<=μ a):Rd enc P w base spare Bv k e d z b μ':=λcs x i hb=>by
 obtain⟨a,a1,a2,a3,a4,a5⟩:=h cs x i hb;exact⟨g a,by rw[f];exact a1,a2,a3,c a a4,by have:=j a;omega⟩
theorem NJ {c:Cx} {s:SV} {v:Value} (h:V c s v):VL c [s] [v]:=BP.2 ⟨h,trivial⟩
theorem aW {k:Nat} {T:TypeId} (ht:P.underlying T=some (.int .i64)):Rd enc P w base spare Bv k T (λn:Int=>[AA n]) 1 (λ_=>True) (λ_=>0):=λcs x a _=>by
 obtain⟨n,rfl,rfl,_⟩:=DataW.trod_int ht a;exact⟨n,NJ (by rw[V]),rfl,by simp[Value.oneCell'],trivial,by simp[Rows.uptoBulk]⟩
theorem Yn {k:Nat} {T:TypeId} (ht:P.underlying T=some .bool):Rd enc P w base spare Bv k T (λn:Bool=>[.bool n]) 1 (λ_=>True) (λ_=>0):=λcs x a _=>by
 obtain⟨n,rfl,rfl⟩:=DataW.trod_bool ht a;exact⟨n,NJ (by rw[V]),rfl,by simp[Value.oneCell'],trivial,by simp[Rows.uptoBulk]⟩
theorem aX {k:Nat} {T:TypeId} (ht:P.underlying T=some .string):Rd enc P w base spare Bv k T (λs:ByteArray=>[.str s]) 1 (λs=>s.size<=BB) (λs=>s.size):=λcs x a hb=>by
 obtain⟨s,rfl,rfl,_⟩:=DataW.trod_string ht a;have e:s.data.toList.length=s.size:=by rw[vl];rfl
 simp only[Rows.uptoBulk]at hb ⊢;exact⟨s,NJ (by rw[V]),rfl,by simp[Value.oneCell'],by omega,by omega⟩
def Mj (μ:α->Nat) (l:List α):Nat:=(l.map λa=>μ a+1).sum
theorem Dn (μ:α->Nat):∀l:List α,l.length<=Mj μ l
 | []=>by simp
 | a::l=>by have:=Dn μ l;simp only[Mj,qr,List.sum_cons,qJ]at this ⊢;omega
theorem Ua {k z:Nat} {e:TypeId} {F:α->List SV} {f:α->SV} {ok:α->Prop} {μ:α->Nat} (A:∀a,f a=.agg (F a)) (D:∀a,(f a).storable=true) (x:Rd enc P w base spare Bv k e F z ok μ) (o:P.cellsOf e=z) (p:0<z) (a:Addr):
 ∀(ys:List (DataW H×List MemPlace)) (i:Nat),(∀j,j<ys.length->(w.cells? base (a.add ((i+j)*P.cellsOf e)) (P.cellsOf e)).bind (DataW.trod enc P w base spare Bv k e)=ys[j]?)->Rows.uptoBulkAll (ys.map (·.1))<=BB->
  ∃l:List α,∃us:List Value,l.length=ys.length/\Ag (V (Xm w)) (l.map f) us/\(∀u∈us,u.cells.size=z)/\(∀v∈us.flatMap (·.cells.toList),v.oneCell'=true)/\(∀j v,(us.flatMap (·.cells.toList))[j]? = some v->w.cell? (a.add (i*z+j))=some v)/\(∀a∈l,ok a)/\Mj μ l<=Rows.uptoBulkAll (ys.map (·.1))
 | [],i,_,_=>⟨[],[],rfl,trivial,by simp,by simp,by simp,by simp,by simp[Mj]⟩
 | y::ys,i,hy,hb=>by
  simp only[qr,Rows.uptoBulkAll]at hb;have h0:=hy 0 (by simp);simp only[vw,kP]at h0;obtain⟨cs,h,E⟩:=kF.1 h0;obtain⟨_,hcl,g⟩:=World.cells?_some h;obtain⟨b,b1,r,s,C,b5⟩:=x cs y E (by omega);obtain⟨l,us,G,I,J,K,L,M,N⟩:=Ua A D x o p a ys (i+1) (λj B=>by have:=hy (j+1) (by simp;omega);rw[show i+1+j=i+(j+1)by omega];simpa using this) (by omega);have hc:(Value.agg cs.toArray).cells.toList=cs:=by simp[Value.cells]
  refine⟨b::l,.agg cs.toArray::us,by simp[G],⟨?_,I⟩,?_,?_,?_,?_,?_⟩;show V (Xm w) (f b) (.agg cs.toArray);rw[A,V];exact⟨cs,rfl,b1,s⟩;intro u n;rcases qt.1 n with rfl|n;simpa[Value.cells]using r;exact J u n;intro v c;rw[jx,hc]at c;rcases qd.1 c with c|c;exact s v c;exact K v c;intro j v c;rw[jx,hc]at c;by_cases B:j<z;rw[qZ (by omega)]at c;have:=g j (by rw[o];exact B);rw[o,c]at this;have e:(a.add (i*z)).add j=a.add (i*z+j):=by
   unfold Addr.add;by_cases d:i*z=0;simp[d];by_cases t:j=0;simp[d,t];simp[d,t,qu]
  rw[e]at this;exact this;rw[qT (by omega)]at c;have:=L (j-cs.length) v c;rw[show(i+1)*z+(j-cs.length)=i*z+j by rw[r,kN,Nat.one_mul];omega]at this;exact this;intro q m;rcases qt.1 m with rfl|m;exact C;exact M q m;simp only[qr,Rows.uptoBulkAll,Mj,List.sum_cons]at N ⊢;omega
theorem D6 {k z:Nat} {e T:TypeId} {F:α->List SV} {f:α->SV} {ok:α->Prop} {μ:α->Nat} (E:∀a,f a=.agg (F a)) (y:∀a,(f a).storable=true) (ht:P.underlying T=some (.slice e)) (H:P.cellsOf e=z) (u:0<z) (C:∀m,m+1=k->Rd enc P w base spare Bv m e F z ok μ):
 Rd enc P w base spare Bv k T (λl:List α=>[.imm z (l.map f) false]) 1 (λl=>(∀a∈l,ok a)/\Mj μ l<=BB) (Mj μ):=λcs x G hb=>by
 rcases DataW.trod_slice ht G with⟨rfl,rfl⟩|⟨a,len,cap,b,rest,n,hn,rfl,rfl,_,o,_,c,D,_,_⟩
 exact⟨[],NJ (by rw[V];exact .inl ⟨rfl,rfl⟩),rfl,by simp[Value.oneCell'],⟨by simp,by simp[Mj]⟩,by simp[Mj,Rows.uptoBulk]⟩;simp only[Rows.uptoBulk]at hb ⊢;obtain⟨l,us,A,I,J,K,B,L,l7⟩:=Ua E y (C n hn.symm) H u a b 0 (λj hj=>by rw[qU];exact D j (by omega)) (by omega);refine⟨l,NJ ?_,rfl,by simp[Value.oneCell'],⟨L,by omega⟩,by omega⟩;rw[V];right;refine⟨a,cap,us.flatMap (·.cells.toList),by rw[qf,A,c],by rw[qf,A,c];exact o,by simp,?_,J1.2 ⟨us,I,J,λs t=>?_,rfl⟩⟩;have d:us.flatMap (·.cells.toList)≠[]->a.spot=none:=λp=>by
  obtain⟨v,r,g⟩:=List.exists_cons_of_ne_nil p;have:=World.cell?_spot (B 0 v (by rw[g];rfl));simpa[Addr.add]using this
 refine⟨d,λ_ h=>h,λi v g=>?_,K⟩;have h1:=B i v g;have h2:=d (by rintro e;rw[e]at g;simp at g);rw[Nat.zero_mul,qU]at h1;have e:a.add i=⟨a.block,a.off+i,none⟩:=by
  unfold Addr.add;split;subst_vars;cases a;simp_all;rfl
 rw[e]at h1;exact h1;obtain⟨q,_,rfl⟩:=ql.1 t;exact y q
end
section
variable {H : Type} {enc : TypeId × Value → H} {w : World} {base : Nat} {spare : Nat → Bool} {Bv : Bool} {α : Type}
theorem Rd.zero {e:TypeId} {F:α->List SV} {z:Nat} {ok:α->Prop} {μ:α->Nat}:Rd enc Tryz.prog w base spare Bv 0 e F z ok μ:=λcs x a _=>by simp[DataW.trod]at a
theorem FT (k:Nat):Rd enc Tryz.prog w base spare Bv k 3 (λn:Int=>[AA n]) 1 (λ_=>True) (λ_=>0):=aW Tryz.underlying3
theorem Rl (k:Nat):Rd enc Tryz.prog w base spare Bv k 9 (λs:ByteArray=>[.str s]) 1 (λs=>s.size<=BB) (λs=>s.size):=aX Tryz.underlying9
theorem ZU (k:Nat):Rd enc Tryz.prog w base spare Bv k 4 (λb:Bool=>[.bool b]) 1 (λ_=>True) (λ_=>0):=Yn Tryz.underlying4
def Bi.F (p:Bi):List SV:=[AA p.key,AA p.value]
theorem jm:∀k,Rd enc Tryz.prog w base spare Bv k 193 Bi.F 2 (λ_=>True) (λ_=>0)
 | 0=>Rd.zero
 | k+1=>(Cp.rd Tryz.underlying193 (by kernel_rfl) (Cp.cons (FT k) (by kernel_rfl) rfl (Cp.cons (FT k) (by kernel_rfl) rfl Cp.nil))).map (λp=>⟨p.1,p.2.1⟩) (λ_=>rfl) (λ_ _=>trivial) (λ_=>qg _)
def Bs.F (p:Bs):List SV:=[AA p.rev,AA p.move]
theorem jk:∀k,Rd enc Tryz.prog w base spare Bv k 166 Bs.F 2 (λ_=>True) (λ_=>0)
 | 0=>Rd.zero
 | k+1=>(Cp.rd Tryz.underlying166 (by kernel_rfl) (Cp.cons (FT k) (by kernel_rfl) rfl (Cp.cons (FT k) (by kernel_rfl) rfl Cp.nil))).map (λp=>⟨p.1,p.2.1⟩) (λ_=>rfl) (λ_ _=>trivial) (λ_=>qg _)
def AM.F (p:AM):List SV:=[AA p.rev,AA p.key,AA p.before,.bool p.had]
theorem aO:∀k,Rd enc Tryz.prog w base spare Bv k 164 AM.F 4 (λ_=>True) (λ_=>0)
 | 0=>Rd.zero
 | k+1=>(Cp.rd Tryz.underlying164 (by kernel_rfl) (Cp.cons (FT k) (by kernel_rfl) rfl (Cp.cons (FT k) (by kernel_rfl) rfl (Cp.cons (FT k) (by kernel_rfl) rfl (Cp.cons (ZU k) (by kernel_rfl) rfl Cp.nil))))).map (λp=>⟨p.1,p.2.1,p.2.2.1,p.2.2.2.1⟩) (λ_=>rfl) (λ_ _=>trivial) (λ_=>qg _)
def BC.F (p:BC):List SV:=[AA p.id,.str p.author,AA p.time]
theorem dI:∀k,Rd enc Tryz.prog w base spare Bv k 42 BC.F 3 (λr=>r.author.size<=BB) (λ_=>0)
 | 0=>Rd.zero
 | k+1=>(Cp.rd Tryz.underlying42 (by kernel_rfl) (Cp.cons (FT k) (by kernel_rfl) rfl (Cp.cons (Rl k) (by kernel_rfl) rfl (Cp.cons (FT k) (by kernel_rfl) rfl Cp.nil)))).map (λp=>(⟨p.1,p.2.1,p.2.2.1⟩:BC)) (λ_=>rfl) (λ_ h=>h.2.1) (λ_=>qg _)
theorem XG (k:Nat):Rd enc Tryz.prog w base spare Bv k 23 (λl:List Bi=>[AU l]) 1 (λl=>l.length<=BB) (λ_=>0):=
 (D6 (f:=Bi.enc) (F:=Bi.F) (λ_=>rfl) Bi.E.st Tryz.underlying23 (by kernel_rfl) (by omega) (λm _=>jm m)).map (λl=>l) (λ_=>rfl) (λl h=>by have:=Dn (λ_=>0) l;have:=h.2;omega) (λ_=>qg _)
theorem dH (k:Nat):Rd enc Tryz.prog w base spare Bv k 24 (λl:List Bs=>[Ax l]) 1 (λl=>l.length<=BB) (λ_=>0):=
 (D6 (f:=Bs.enc) (F:=Bs.F) (λ_=>rfl) Bs.E.st Tryz.underlying24 (by kernel_rfl) (by omega) (λm _=>jk m)).map (λl=>l) (λ_=>rfl) (λl h=>by have:=Dn (λ_=>0) l;have:=h.2;omega) (λ_=>qg _)
theorem Yk (k:Nat):Rd enc Tryz.prog w base spare Bv k 25 (λl:List AM=>[Ai l]) 1 (λl=>l.length<=BB) (λ_=>0):=
 (D6 (f:=AM.enc) (F:=AM.F) (λ_=>rfl) AM.E.st Tryz.underlying25 (by kernel_rfl) (by omega) (λm _=>aO m)).map (λl=>l) (λ_=>rfl) (λl h=>by have:=Dn (λ_=>0) l;have:=h.2;omega) (λ_=>qg _)
theorem dJ (k:Nat):Rd enc Tryz.prog w base spare Bv k 30 (λl:List BC=>[BE l]) 1 (λl=>l.length<=BB/\∀r∈l,r.author.size<=BB) (λ_=>0):=
 (D6 (f:=BC.enc) (F:=BC.F) (λ_=>rfl) BC.E.st Tryz.underlying30 (by kernel_rfl) (by omega) (λm _=>dI m)).map (λl=>l) (λ_=>rfl) (λl h=>⟨by have:=Dn (λ_=>0) l;have:=h.2;omega,h.1⟩) (λ_=>qg _)
theorem aT:∀k,Rd enc Tryz.prog w base spare Bv k 27 (λm:Int×Int×List Bs×List AM=>[AA m.1,AA m.2.1,Ax m.2.2.1,Ai m.2.2.2]) 4 (λm=>m.2.2.1.length<=BB/\m.2.2.2.length<=BB) (λ_=>0)
 | 0=>Rd.zero
 | k+1=>(Cp.rd Tryz.underlying27 (by kernel_rfl) (Cp.cons (FT k) (by kernel_rfl) rfl (Cp.cons (FT k) (by kernel_rfl) rfl (Cp.cons (dH k) (by kernel_rfl) rfl (Cp.cons (Yk k) (by kernel_rfl) rfl Cp.nil))))).map (λp=>(p.1,p.2.1,p.2.2.1,p.2.2.2.1)) (λ_=>rfl) (λ_ h=>⟨h.2.2.1,h.2.2.2.1⟩) (λ_=>qg _)
theorem UZ:∀k,Rd enc Tryz.prog w base spare Bv k 29 AF.flat 5 AF.sized (λ_=>0)
 | 0=>Rd.zero
 | k+1=>(Cp.rd Tryz.underlying29 (by kernel_rfl) (Cp.cons (XG k) (by kernel_rfl) rfl (Cp.cons (aT k) (by kernel_rfl) rfl Cp.nil))).map (λp=>(⟨p.1,p.2.1.1,p.2.1.2.1,p.2.1.2.2.1,p.2.1.2.2.2⟩:AF)) (λ_=>rfl) (λ_ h=>⟨h.1,h.2.1.1,h.2.1.2⟩) (λ_=>qg _)
def AB.F (x:AB):List SV:=[AA x.kind,AA x.code,AA x.id,.str x.text,AU x.head.props,AA x.head.ins,AA x.head.move,Ax x.head.dels,Ai x.head.layers,AK x.flow,Aw x.rows]
def AP.F (x:AP):List SV:=[AU x.head.props,AA x.head.ins,AA x.head.move,Ax x.head.dels,Ai x.head.layers,BZ x.cells]
def AH.F (x:AH):List SV:=[AA x.id,AU x.head.props,AA x.head.ins,AA x.head.move,Ax x.head.dels,Ai x.head.layers,AK x.flow]
def Ya (N:Nat) (c:AH):Prop:=c.head.sized/\Dq AF.sized BB N c.flow
def aH (N:Nat) (r:AP):Prop:=r.head.sized/\r.cells.length<=BB/\∀c∈r.cells,Ya N c
theorem Pj:∀l:List AB,Ak l<=Mj (λx=>x.text.size) l
 | []=>by simp[Ak]
 | x::l=>by
  have:=Pj l;simp only[Ak,Mj,qr,List.sum_cons]at this ⊢;omega
theorem aN:∀k,Rd enc Tryz.prog w base spare Bv k 22 (λl:List AB=>[AK l]) 1 (λl=>∀N,k<N->Dq AF.sized BB N l) (Mj λx=>x.text.size):=λk=>by
 induction k using Nat.strongRecOn with
 | ind k ih=>
 have cell:∀m,m<k->Rd enc Tryz.prog w base spare Bv m 171 AH.F 7 (λc=>∀N,m<=N->Ya N c) (λ_=>0):=λm d=>by
  cases m with
  | zero=>exact Rd.zero
  | succ m=>
   exact(Cp.rd Tryz.underlying171 (by kernel_rfl) (Cp.cons (FT m) (by kernel_rfl) rfl (Cp.cons (UZ m) (by kernel_rfl) rfl (Cp.cons (ih m (by omega)) (by kernel_rfl) rfl Cp.nil)))).map (λp=>AH.mk p.1 p.2.1 p.2.2.1) (λ_=>rfl) (λ_ h N a=>⟨h.2.1,h.2.2.1 N (by omega)⟩) (λ_=>qg _)
 have cells:∀m,m<k->Rd enc Tryz.prog w base spare Bv m 167 (λl:List AH=>[BZ l]) 1 (λl=>l.length<=BB/\∀c∈l,∀N,m<=N->Ya N c) (λ_=>0):=λm d=>
  (D6 (f:=AH.enc) (F:=AH.F) (ok:=λc=>∀N,m<=N->Ya N c) (λc=>kO c) AH.E.st Tryz.underlying167 (by kernel_rfl) (by omega) (λq e=>(cell q (by omega)).map (λc=>c) (λ_=>rfl) (λ_ h N a=>h N (by omega)) (λ_=>qa _))).map (λl=>l) (λ_=>rfl) (λl h=>⟨by have:=Dn (λ_=>0) l;have:=h.2;omega,h.1⟩) (λ_=>qg _)
 have row:∀m,m<k->Rd enc Tryz.prog w base spare Bv m 169 AP.F 6 (λr=>∀N,m<=N->aH N r) (λ_=>0):=λm d=>by
  cases m with
  | zero=>exact Rd.zero
  | succ m=>
   exact(Cp.rd Tryz.underlying169 (by kernel_rfl) (Cp.cons (UZ m) (by kernel_rfl) rfl (Cp.cons (cells m (by omega)) (by kernel_rfl) rfl Cp.nil))).map (λp=>AP.mk p.1 p.2.1) (λ_=>rfl) (λ_ h N a=>⟨h.1,h.2.1.1,λc hc=>h.2.1.2 c hc N (by omega)⟩) (λ_=>qg _)
 have rows:∀m,m<k->Rd enc Tryz.prog w base spare Bv m 68 (λl:List AP=>[Aw l]) 1 (λl=>l.length<=BB/\∀c∈l,∀N,m<=N->aH N c) (λ_=>0):=λm d=>
  (D6 (f:=AP.enc) (F:=AP.F) (ok:=λc=>∀N,m<=N->aH N c) (λc=>kl c) AP.E.st Tryz.underlying68 (by kernel_rfl) (by omega) (λq e=>(row q (by omega)).map (λc=>c) (λ_=>rfl) (λ_ h N a=>h N (by omega)) (λ_=>qa _))).map (λl=>l) (λ_=>rfl) (λl h=>⟨by have:=Dn (λ_=>0) l;have:=h.2;omega,h.1⟩) (λ_=>qg _)
 have b:∀m,m<k->Rd enc Tryz.prog w base spare Bv m 70 AB.F 11 (λx=>∀N,m<=N->QB AF.sized BB N x) (λx=>x.text.size):=λm d=>by
  cases m with
  | zero=>exact Rd.zero
  | succ m =>
   exact(Cp.rd Tryz.underlying70 (by kernel_rfl) (Cp.cons (FT m) (by kernel_rfl) rfl (Cp.cons (FT m) (by kernel_rfl) rfl (Cp.cons (FT m) (by kernel_rfl) rfl (Cp.cons (Rl m) (by kernel_rfl) rfl (Cp.cons (UZ m) (by kernel_rfl) rfl (Cp.cons (ih m (by omega)) (by kernel_rfl) rfl (Cp.cons (rows m (by omega)) (by kernel_rfl) rfl Cp.nil)))))))).map (λp=>AB.mk p.1 p.2.1 p.2.2.1 p.2.2.2.1 p.2.2.2.2.1 p.2.2.2.2.2.1 p.2.2.2.2.2.2.1) (λ_=>rfl)
    (λ_ h N a=>⟨h.2.2.2.2.1,h.2.2.2.2.2.1 N (by omega),h.2.2.2.2.2.2.1.1,λr g=>h.2.2.2.2.2.2.1.2 r g N (by omega)⟩) (λp=>by show p.2.2.2.1.size<=_;omega)
 exact(D6 (f:=AB.enc) (F:=AB.F) (ok:=λx=>∀N,k<=N+1->QB AF.sized BB N x) (λc=>qw c) AB.E.st Tryz.underlying22 (by kernel_rfl) (by omega) (λq e=>(b q (by omega)).map (λc=>c) (λ_=>rfl) (λ_ h N a=>h N (by omega)) (λ_=>qa _))).map (λl=>l) (λ_=>rfl) (λl h N a=>by
  cases N with
  | zero=>omega
  | succ N=>
   have h1:=Dn (λx:AB=>x.text.size) l;have h2:=Pj l;have h3:=h.2;exact Ci.2 ⟨by omega,by omega,λx i=>h.1 x i N (by omega)⟩) (λ_=>qa _)
end
section
variable {H : Type} {enc : TypeId × Value → H} {w : World} {base : Nat} {spare : Nat → Bool} {Bv : Bool} {α : Type}
def A7.F (s:A7):List SV:=[AA s.id,AA s.kind,.str s.name,AA s.base,AA s.next,AU s.props]
theorem aV:∀k,Rd enc Tryz.prog w base spare Bv k 198 A7.F 6 (λs=>s.props.length<=BB) (λ_=>0)
 | 0=>Rd.zero
 | k+1=>(Cp.rd Tryz.underlying198 (by kernel_rfl) (Cp.cons (FT k) (by kernel_rfl) rfl (Cp.cons (FT k) (by kernel_rfl) rfl (Cp.cons (Rl k) (by kernel_rfl) rfl (Cp.cons (FT k) (by kernel_rfl) rfl (Cp.cons (FT k) (by kernel_rfl) rfl (Cp.cons (XG k) (by kernel_rfl) rfl Cp.nil))))))).map
  (λp=>(⟨p.1,p.2.1,p.2.2.1,p.2.2.2.1,p.2.2.2.2.1,p.2.2.2.2.2.1⟩:A7)) (λ_=>rfl) (λ_ h=>h.2.2.2.2.2.1) (λ_=>qg _)
def Ce.F (s:Ce):List SV:=[AA s.format,AA s.start,.str s.template,AA s.restart]
theorem aP:∀k,Rd enc Tryz.prog w base spare Bv k 106 Ce.F 4 (λs=>s.template.size<=BB) (λ_=>0)
 | 0=>Rd.zero
 | k+1=>(Cp.rd Tryz.underlying106 (by kernel_rfl) (Cp.cons (FT k) (by kernel_rfl) rfl (Cp.cons (FT k) (by kernel_rfl) rfl (Cp.cons (Rl k) (by kernel_rfl) rfl (Cp.cons (FT k) (by kernel_rfl) rfl Cp.nil))))).map
  (λp=>(⟨p.1,p.2.1,p.2.2.1,p.2.2.2.1⟩:Ce)) (λ_=>rfl) (λ_ h=>h.2.2.1) (λ_=>qg _)
theorem Yl (k:Nat):Rd enc Tryz.prog w base spare Bv k 101 (λl:List Ce=>[DV l]) 1 (λl=>l.length<=BB/\∀r∈l,r.template.size<=BB) (λ_=>0):=
 (D6 (f:=Ce.enc) (F:=Ce.F) (λ_=>rfl) Ce.E.st Tryz.underlying101 (by kernel_rfl) (by omega) (λm _=>aP m)).map (λl=>l) (λ_=>rfl) (λl h=>⟨by have:=Dn (λ_=>0) l;have:=h.2;omega,h.1⟩) (λ_=>qg _)
def GQ.F (s:GQ):List SV:=[AA s.id,DV s.levels]
theorem jl:∀k,Rd enc Tryz.prog w base spare Bv k 103 GQ.F 2 (λs=>s.levels.length<=BB/\∀r∈s.levels,r.template.size<=BB) (λ_=>0)
 | 0=>Rd.zero
 | k+1=>(Cp.rd Tryz.underlying103 (by kernel_rfl) (Cp.cons (FT k) (by kernel_rfl) rfl (Cp.cons (Yl k) (by kernel_rfl) rfl Cp.nil))).map (λp=>(⟨p.1,p.2.1⟩:GQ)) (λ_=>rfl) (λ_ h=>h.2.1) (λ_=>qg _)
def A9.F (c:A9):List SV:=[AA c.id,AA c.parent,.str c.author,AA c.time,.str c.text,.bool c.done]
theorem XF:∀k,Rd enc Tryz.prog w base spare Bv k 115 A9.F 6 (λs=>s.author.size<=BB/\s.text.size<=BB) (λ_=>0)
 | 0=>Rd.zero
 | k+1=>(Cp.rd Tryz.underlying115 (by kernel_rfl) (Cp.cons (FT k) (by kernel_rfl) rfl (Cp.cons (FT k) (by kernel_rfl) rfl (Cp.cons (Rl k) (by kernel_rfl) rfl (Cp.cons (FT k) (by kernel_rfl) rfl (Cp.cons (Rl k) (by kernel_rfl) rfl (Cp.cons (ZU k) (by kernel_rfl) rfl Cp.nil))))))).map
  (λp=>(⟨p.1,p.2.1,p.2.2.1,p.2.2.2.1,p.2.2.2.2.1,p.2.2.2.2.2.1⟩:A9)) (λ_=>rfl) (λ_ h=>⟨h.2.2.1,h.2.2.2.2.1⟩) (λ_=>qg _)
def GY.F (c:GY):List SV:=[.str c.name,.str c.value]
theorem jn:∀k,Rd enc Tryz.prog w base spare Bv k 118 GY.F 2 (λs=>s.name.size<=BB/\s.value.size<=BB) (λ_=>0)
 | 0=>Rd.zero
 | k+1=>(Cp.rd Tryz.underlying118 (by kernel_rfl) (Cp.cons (Rl k) (by kernel_rfl) rfl (Cp.cons (Rl k) (by kernel_rfl) rfl Cp.nil))).map (λp=>(⟨p.1,p.2.1⟩:GY)) (λ_=>rfl) (λ_ h=>⟨h.1,h.2.1⟩) (λ_=>qg _)
theorem Ym (k:Nat):Rd enc Tryz.prog w base spare Bv k 31 (λl:List A7=>[Aj l]) 1 (λl=>l.length<=BB/\∀r∈l,r.props.length<=BB) (λ_=>0):=
 (D6 (f:=A7.enc) (F:=A7.F) (λ_=>rfl) A7.E.st Tryz.underlying31 (by kernel_rfl) (by omega) (λm _=>aV m)).map (λl=>l) (λ_=>rfl) (λl h=>⟨by have:=Dn (λ_=>0) l;have:=h.2;omega,h.1⟩) (λ_=>qg _)
theorem aQ (k:Nat):Rd enc Tryz.prog w base spare Bv k 32 (λl:List GQ=>[Dg l]) 1 (λl=>l.length<=BB/\∀s∈l,s.levels.length<=BB/\∀r∈s.levels,r.template.size<=BB) (λ_=>0):=
 (D6 (f:=GQ.enc) (F:=GQ.F) (λ_=>rfl) GQ.E.st Tryz.underlying32 (by kernel_rfl) (by omega) (λm _=>jl m)).map (λl=>l) (λ_=>rfl) (λl h=>⟨by have:=Dn (λ_=>0) l;have:=h.2;omega,h.1⟩) (λ_=>qg _)
theorem VD (k:Nat):Rd enc Tryz.prog w base spare Bv k 33 (λl:List A9=>[Bd l]) 1 (λl=>l.length<=BB/\∀s∈l,s.author.size<=BB/\s.text.size<=BB) (λ_=>0):=
 (D6 (f:=A9.enc) (F:=A9.F) (λ_=>rfl) A9.E.st Tryz.underlying33 (by kernel_rfl) (by omega) (λm _=>XF m)).map (λl=>l) (λ_=>rfl) (λl h=>⟨by have:=Dn (λ_=>0) l;have:=h.2;omega,h.1⟩) (λ_=>qg _)
theorem dK (k:Nat):Rd enc Tryz.prog w base spare Bv k 34 (λl:List GY=>[Fs l]) 1 (λl=>l.length<=BB/\∀s∈l,s.name.size<=BB/\s.value.size<=BB) (λ_=>0):=
 (D6 (f:=GY.enc) (F:=GY.F) (λ_=>rfl) GY.E.st Tryz.underlying34 (by kernel_rfl) (by omega) (λm _=>jn m)).map (λl=>l) (λ_=>rfl) (λl h=>⟨by have:=Dn (λ_=>0) l;have:=h.2;omega,h.1⟩) (λ_=>qg _)
theorem VG:∀k,Rd enc Tryz.prog w base spare Bv k 36 AI.flat 4 AI.sizedT (λ_=>0)
 | 0=>Rd.zero
 | k+1=>(Cp.rd Tryz.underlying36 (by kernel_rfl) (Cp.cons (Ym k) (by kernel_rfl) rfl (Cp.cons (aQ k) (by kernel_rfl) rfl (Cp.cons (VD k) (by kernel_rfl) rfl (Cp.cons (dK k) (by kernel_rfl) rfl Cp.nil))))).map
  (λp=>(⟨p.1,p.2.1,p.2.2.1,p.2.2.2.1⟩:AI)) (λ_=>rfl) (λ_ h=>⟨⟨h.1.1,h.2.1.1,h.2.2.1.1,h.2.2.2.1.1,h.1.2,λx a=>(h.2.1.2 x a).1⟩,λx a=>(h.2.1.2 x a).2,h.2.2.1.2,h.2.2.2.1.2⟩) (λ_=>qg _)
def AG.F (d:AG):List SV:=[AK d.flow]++d.«end».flat++[BE d.revs]++d.settings.flat
theorem VF:∀k,Rd enc Tryz.prog w base spare Bv k 38 AG.F 11 (λd=>d.sizedT BB k) (λ_=>0)
 | 0=>Rd.zero
 | k+1=>(Cp.rd Tryz.underlying38 (by kernel_rfl) (Cp.cons (aN k) (by kernel_rfl) rfl (Cp.cons (UZ k) (by kernel_rfl) rfl (Cp.cons (dJ k) (by kernel_rfl) rfl (Cp.cons (VG k) (by kernel_rfl) rfl Cp.nil))))).map
  (λp=>(⟨p.1,p.2.1,p.2.2.1,p.2.2.2.1⟩:AG)) (λ_=>rfl) (λ_ h=>⟨h.1 _ (by omega),h.2.1,h.2.2.1.1,h.2.2.1.2,h.2.2.2.1⟩) (λ_=>qg _)
def BH.F (s:BH):List SV:=[AA s.id,AA s.a,AA s.b]
theorem aU:∀k,Rd enc Tryz.prog w base spare Bv k 40 BH.F 3 (λ_=>True) (λ_=>0)
 | 0=>Rd.zero
 | k+1=>(Cp.rd Tryz.underlying40 (by kernel_rfl) (Cp.cons (FT k) (by kernel_rfl) rfl (Cp.cons (FT k) (by kernel_rfl) rfl (Cp.cons (FT k) (by kernel_rfl) rfl Cp.nil)))).map (λp=>(⟨p.1,p.2.1,p.2.2.1⟩:BH)) (λ_=>rfl) (λ_ _=>trivial) (λ_=>qg _)
def Xk.F (c:Xk):List SV:=[AA c.rev,AA c.sc.id,AA c.sc.a,AA c.sc.b,AA c.next.id,.str c.next.author,AA c.next.time]
theorem jj:∀k,Rd enc Tryz.prog w base spare Bv k 44 Xk.F 7 (λc=>c.next.author.size<=BB) (λ_=>0)
 | 0=>Rd.zero
 | k+1=>(Cp.rd Tryz.underlying44 (by kernel_rfl) (Cp.cons (FT k) (by kernel_rfl) rfl (Cp.cons (aU k) (by kernel_rfl) rfl (Cp.cons (dI k) (by kernel_rfl) rfl Cp.nil)))).map (λp=>(⟨p.1,p.2.1,p.2.2.1⟩:Xk)) (λ_=>rfl) (λ_ h=>h.2.2.1) (λ_=>qg _)
theorem Rd.arg {k e z:Nat} {F:α->List SV} {ok:α->Prop} {μ:α->Nat} (h:Rd enc Tryz.prog w base spare Bv k e F z ok μ) {c:Array Field} (ht:Tryz.prog.underlying e=some (.struct c)) {r:Reach} {b0:Nat} {v:Value} (b:Value.okWide Tryz.prog w r b0 e v) {x:DataW H×List MemPlace}
 (d:DataW.trod enc Tryz.prog w base spare Bv k e v.cells.toList=some x) (hb:Rows.uptoBulk x.1<=BB):∃a,V (Xm w) (.agg (F a)) v/\ok a:=by
 simp only[Value.okWide,ht]at b;obtain⟨cs,rfl,_,_⟩:=b;obtain⟨a,a1,a2,a3,a4,a5⟩:=h _ x d hb;refine⟨a,?_,a4⟩;rw[V];exact⟨cs.toList,by simp,by simpa[Value.cells]using a1,by simpa[Value.cells]using a3⟩
end
open Go.ChangeShapes Go.WideShapes Go.ChangeAt Go.RowKit
theorem cq:Kids Tryz.prog (· < Tryz.prog.types.size):=kids_rows (by kernel_rfl) (by kernel_rfl)
theorem ck:∀t e,t<Tryz.prog.types.size->Tryz.prog.underlying t=some (.slice e)->0<Tryz.prog.cellsOf e:=slices_full_of Tryz.prog (by kernel_rfl)
section
variable {H : Type} {enc : TypeId × Value → H}
theorem U0 {W:World} {a:Cx} (x:EH (Xm W) a) {b:Nat} (h:b<W.heap.size):a.w.heap[b]? = W.heap[b]?:=(x.keep b h (λh=>h)).2
theorem Qy {P:Program} {w w':World} {base:Nat} {d:Nat->Bool} {Bv:Bool} (hw:∀b,b<w.heap.size->w'.heap[b]? = w.heap[b]?):∀{f:List TypeId} {vs:List Value} {c:List (DataW H)} {ps:List MemPlace},DataW.TrodAll enc P w base d Bv f vs c ps->(∀p∈ps,p.block<w.heap.size)->DataW.TrodAll enc P w' base d Bv f vs c ps
 | [],[],[],_,h,_=>h
 | _ :: _, _ :: _, _ :: _, _, ⟨p, q, ⟨n, h1⟩, h2, e⟩, hs => by
  have hp:∀x∈p,w.sameAt w' x:=λx a=>by
   have hb:=hs x (by rw[e];exact qD _ a);cases x with
   | cell b off=>simp only[World.sameAt,World.cell?,hw b hb]
   | map b=>exact hw b hb
  exact⟨p,q,⟨n,DataW.trod_carry n _ _ _ h1 hp⟩,Qy hw h2 (λx a=>hs x (by rw[e];exact qB _ a)),e⟩
theorem TQ {f:Func} {s:ChangeSpec} {a m c l:Bool} {W g:World} {args:Array Value} {v:Value} {u F:List (DataW H)} {before:List MemPlace} {x:DataW H}
 (z:DataW.Whole enc Tryz.prog f.params.toList s.vars a W args.toList u F before) (G:s.vars=[]) (C:∀t∈f.params.toList,t<Tryz.prog.types.size)
 (B:g.os=W.os) (y:g.output=W.output) (hw:∀b,b<W.heap.size->g.heap[b]? = W.heap[b]?)
 (n:s.fn H (u++F)={ results:=[x],args:=u })
 (h:∀(b:Nat) (k:Nat->Bool) (J:Bool),DataW.TrodAll enc Tryz.prog g b k J f.resultTypes.toList (v.resultList f.resultTypes.size) [x] [])
 (A:∀(j:Nat) (t:TypeId) (r:Value),f.resultTypes[j]? = some t->(v.resultList f.resultTypes.size)[j]? = some r->Value.okWide Tryz.prog g .any 0 t r):
 s.post enc Tryz.prog f a m c l W args v g:=by
 have e:=z.lt;have w:=z;obtain⟨p,q,h1,h2,rfl,I,hn⟩:=z;rw[G]at h2;obtain⟨rfl,rfl⟩:=trodVars_none h2;rw[kv]at e I hn w;have c1:=Qy hw h1 e;have E:∀k:Nat->Bool,(∀x∈p,k x.block=true)->DataW.TrodAll enc Tryz.prog g 0 k true f.params.toList args.toList u p:=λk K=>DataW.TrodAll.respare cq ck C c1 K;have d:∀k:Nat->Bool,DataW.TrodVars enc Tryz.prog g k s.vars [] []:=λk=>by rw[G];rfl
 refine⟨u,[],p,[],p,[],w,by rw[n];exact h _ _ _,by rw[n];exact E _ (λx D=>by simpa using e x D),by rw[n];exact d _,?_,λ_=>?_⟩;refine⟨B,y,λi hi=>?_⟩;rw[hw i hi];generalize W.heap[i]? = o;cases o with
 | none=>rfl
 | some b=>cases b<;>simp
 refine⟨A,x::u,[],p,⟨p,[],by simpa using trodAll_append (E _ (λ_ _=>rfl)) (h 0 (λ_=>true) true),d _,by simp,?_,hn⟩,λx D _=>D⟩;intro b off hp;have hb:=e _ hp;have:=I b off hp;simp only[World.frozen?]at this ⊢;rw[hw b hb];exact this
theorem jo (W:World):CF (λ_=>none) (Xm W):=⟨λ_ _ h=>(by cases h),λ_ _ _ _ _ h=>(by cases h),λb=>⟨λh=>h.elim,λ⟨_,_,h,_⟩=>(by cases h)⟩⟩
theorem PC.calls {f:FuncId} {a:List SV} {v:SV} (h:PC f a v) {W:World} {vs:List Value} (i:Ag (V (Xm W)) a vs):Calls Tryz.prog f vs.toArray W λe c=>∃u b,e=.returned u/\b.w=c/\V b v u/\EH (Xm W) b:=by
 have:=(h (λ_=>none) 0).2 (Xm W) vs trivial (jo W) (λ_ _=>rfl) i;refine this.mono ?_;rintro e c ⟨u,v',h',n',b,rfl,⟨rfl,_⟩,hw,g,_,_,d⟩;exact⟨u,b,rfl,hw,g,d.ext⟩
end
end Go.Proofs.YtgakninlhfkkmaaGreat.Sh
namespace Go.Proofs.YtgakninlhfkkmaaGreat.Sh
open Proofs
set_option maxRecDepth 10000
def Gf (p:Int×Int):SV:=.agg [AA p.1,AA p.2]
def AF.mv0 (h:AF):List (Int×Int):=if h.move=0 then[]else[(h.ins,h.move)]
def MJ (l:List Bs):List (Int×Int):=(l.filter λx=>decide (x.move≠0)).map λx=>(x.rev,x.move)
def AF.moves (h:AF):List (Int×Int):=h.mv0++MJ h.dels
theorem O8 (l:List Bs):(MJ l).length<=l.length:=by
 unfold MJ;rw[qf];exact kr _ _
theorem Vz {H:Hp} {n m k p:Nat} {es:List SV} {x:Int×Int} {o:Option Nat} (a:BR n m 2 o es) (hl:es.length<=1073741823) (h1:H k=some (.cells [AA x.1,AA x.2])) (h2:∀j,o=some j->H j=some (.cells (es.flatMap SV.cells))):
 Al Tryz.prog H p .append [86,86] [AW 2 o es,.sl k 0 2 1 true]=some { val:=.sl p 0 2 (es.length+1) false,upd:=o.map λj=>(j,none),new:=some (.cells (es.flatMap SV.cells++[AA x.1,AA x.2])) }:=by
 have:=Fa (P:=Tryz.prog) (H:=H) (t:=86) (t2:=86) (el:=89) (z:=2) (by simp[go_sem]) (by simp[go_sem]) (by simp[go_sem]) (by simp) (by simp[go_sem]) (by simp[go_sem]) (by simp[go_sem]) (by omega) a (e:=Gf x) rfl h1 h2 p;exact this
theorem Sx (l:List Bs) (i:Nat) (hi:i<l.length):MJ (l.take (i+1))=MJ (l.take i)++if l[i].move=0 then[]else[(l[i].rev,l[i].move)]:=by
 unfold MJ;rw[qb hi,ku,qc];congr 1;by_cases e:l[i].move=0<;>simp[e]
set_option maxHeartbeats 2000000 in
theorem iI (x:AF) (Q:x.sized):PC 44 [x.enc] (.imm 2 (x.moves.map Gf) false):=by
 intro h n;refine DO Tryz.func44 rfl λL=>?_;have a:=L.lt;refine Aa 1 [(1,.iptr x.flat)] h n ?_ (λm f=>?_);simp[go_sem,AF.enc,AF.flat];exact⟨AZ (AS a (qa _)) (AD _ _ _),AL a AC⟩;refine Aa 0 [(1,.iptr x.flat),(3,.imm 0 [] true)] h n ?_ (λm f=>?_);simp[go_sem,IO,f];refine AX 0 (α:=Option Nat) (λo=>[(1,.iptr x.flat),(3,AW 2 o (x.mv0.map Gf))]) (λo=>AV o (x.mv0.map Gf) h) (λo m=>n<=m/\BR n m 2 o (x.mv0.map Gf)) ?_ (λo m f=>?_);refine Aa 1 [(1,.iptr x.flat),(3,.imm 0 [] true),(4,.iptr [AA x.ins,AA x.move,Ax x.dels,Ai x.layers])] h n ?_ (λm f=>?_);have w:∀j y,h j=some y->j<m:=λj y e=>by have:=a j y e;omega
 simp[go_sem,AF.flat,IO,AD,Ah];exact⟨by omega,AZ (AS w (qa _)) (AD _ _ _),AL w AC⟩;refine AJ ?_;by_cases m0:x.move=0;simp[go_sem,m0,AF.mv0,IO,AW,AV];exact⟨none,⟨f,vA _ _ _⟩,rfl,AC⟩;have s:(x.move !=0)=true:=by simpa using m0
 have B:=λ(H:Hp) (k p:Nat) (h1:H k=some (.cells [AA x.ins,AA x.move]))=>Vz (H:=H) (k:=k) (p:=p) (es:=[]) (x:=(x.ins,x.move)) (vA 0 0 2) (by simp) h1 (by simp);simp only[vI,vH,vn,qE,AW]at B;simp[go_sem,m0,s,AF.mv0];rw[B _ _ _ (by simp[AD])];simp[go_sem];have c:=(vA n (m+1) 2).push (j:=m+1) (m':=m+1+1) (e:=Gf (x.ins,x.move)) rfl rfl (by omega) (by omega);have t:AW 2 (some (m+1)) [Gf (x.ins,x.move)]=.sl (m+1) 0 2 1 false:=by simp[AW]
 refine⟨some (m+1),⟨by omega,by simpa using c⟩,t.symm,λj y=>?_⟩;have:=a j y;simp only[AV,hset,Gf,SV.cells,jx,vn,kv];grind;obtain⟨f,d⟩:=f;obtain⟨M,A⟩:∃M:Nat->List SV,∀i,M i=(x.mv0++MJ (x.dels.take i)).map Gf:=⟨_,λ_=>rfl⟩
 have G:x.mv0.map Gf=M 0:=by rw[A];simp[MJ]
 have K:∀i u,(hi:i<x.dels.length)->x.dels[i]=u->M (i+1)=M i++if u.move=0 then[]else[Gf (u.rev,u.move)]:=λi u hi e=>by
  rw[A,A,Sx _ _ hi,e];by_cases O:u.move=0<;>simp[O]
 have I:M x.dels.length=x.moves.map Gf:=by rw[A,qm];rfl
 have J:∀i,(M i).length<=1+i:=λi=>by
  rw[A,qf,qq];have h1:=O8 (x.dels.take i);have h2:x.mv0.length<=1:=by unfold AF.mv0;split<;>simp
  have h3:=vz i x.dels;omega
 rw[G]at d ⊢;have hsd:=Q.dels;refine AX 0 (α:=Option Nat) (λo=>[(3,AW 2 o (M x.dels.length))]) (λo=>AV o (M x.dels.length) h) (λo m=>n<=m/\BR n m 2 o (M x.dels.length)) ?_ (λo m f=>?_);refine Aa 0 [(1,.iptr x.flat),(3,AW 2 o (M 0)),(22,Ax x.dels),(23,AA x.dels.length),(24,AA 0)] (AV o (M 0) h) m ?_ (λm2 b=>?_);simp[go_sem,IO,AF.flat];refine AY (BT 0 (α:=Nat×Option Nat) (λq=>[(1,.iptr x.flat),(3,AW 2 q.2 (M q.1)),(22,Ax x.dels),(23,AA x.dels.length),(24,AA q.1)]) (λq=>AV q.2 (M q.1) h)
  (λq m=>q.1<=x.dels.length/\n<=m/\BR n m 2 q.2 (M q.1)) (λq=>x.dels.length-q.1) (0,o) ⟨qg _,by omega,d.mono b⟩ ?_ AC ?_)
 simp[go_sem,Ao,IO];clear d f b m2 m o;rintro⟨i,o⟩ m ⟨hi,C,d⟩;dsimp only at hi d ⊢;have F:=J i;by_cases r:i<x.dels.length;have w1:=wS i (by omega);obtain⟨y,N⟩:∃y,x.dels[i]=y:=⟨_,rfl⟩
 have D:=K i y r N;generalize hE:M i=E at d F D;have g:∀j y,AV o E h j=some y->j<m:=G0 a C d;refine B5 0 [(1,.iptr x.flat),(3,AW 2 o E),(22,Ax x.dels),(23,AA x.dels.length),(24,AA i),(25,.bool true)] (AV o E h) m ?_ (λm2 b=>?_);simp[go_sem,IO,r];subst b;refine B5 0 [(1,.iptr x.flat),(3,AW 2 o E),(22,Ax x.dels),(23,AA x.dels.length),(24,AA i)] (AV o E h) m ?_ (λm2 b=>?_);simp[go_sem,IO];subst b;refine AX 0 (α:=Option Nat) (λo=>[(1,.iptr x.flat),(3,AW 2 o (M (i+1))),(22,Ax x.dels),(23,AA x.dels.length),(24,AA i)]) (λo=>AV o (M (i+1)) h) (λo m=>n<=m/\BR n m 2 o (M (i+1))) (AY ?_) (λo m f=>?_);refine Aa 1 [(1,.iptr x.flat),(3,AW 2 o E),(22,Ax x.dels),(23,AA x.dels.length),(24,AA i),(6,.iptr [AA y.rev,AA y.move])] (AV o E h) m ?_ (λm2 b=>?_);simp[go_sem,IO,r,N,Bs.enc,AD];exact⟨AZ (AS g (qa _)) (AD _ _ _),AL g (AL g AC)⟩;rw[D];refine AJ ?_;by_cases m0:y.move=0;simp[go_sem,m0,IO];exact⟨o,⟨by omega,d.mono b⟩,rfl,AC⟩;have s:(y.move !=0)=true:=by simpa using m0
 simp[go_sem,m0,s];rw[Vz (x:=(y.rev,y.move)) d (by omega) (by simp[AD]) (by
  intro j e;have:=(d.lt j e).2;rw[AE _ _ (by omega)];exact FX j e)]
 have c:=d.push (j:=m2+1) (m':=m2+1+1) (e:=Gf (y.rev,y.move)) rfl rfl (by omega) (by omega);have l:=D7 (p:=m2+1) (v:=.sl (m2+1) 0 2 (E.length+1) false) (e:=Gf (y.rev,y.move)) a (by omega) d (H:=hset (AV o E h) m2 (some (.cells [AA y.rev,AA y.move]))) (AL (λj z e=>by have:=a j z e;omega) (Eb a d));have t:AW 2 (some (m2+1)) (E++[Gf (y.rev,y.move)])=.sl (m2+1) 0 2 (E.length+1) false:=by simp[AW]
 simp[go_sem];exact⟨some (m2+1),⟨by omega,c⟩,t.symm,by simpa[C5.app,SV.cells,Gf]using l⟩;refine AJ ?_;simp[go_sem,w1,IO,-Int.natCast_add];exact⟨i+1,by omega,o,⟨by omega,f.1,f.2⟩,⟨IO,IO⟩,AC⟩;have:i=x.dels.length:=by omega
 subst this;refine AJ ?_;simp[go_sem];exact⟨o,⟨C,d⟩,rfl,AC⟩;refine AJ ?_;simp[go_sem];rw[I]at f ⊢;exact I1 L f.2 (λe P=>by obtain⟨p,_,rfl⟩:=ql.1 P;simp[Gf,closed,closedL])
section
variable {E : CC} {P : Program} {N : Nat} {code : Code} {Q : Cu} {sa : SA} {h h' : Hp} {n n' : Nat} {c : Cx}
end
section
variable {E : CC} {P : Program} {N : Nat} {code : Code} {Q : Cu} {sa : SA} {G : Hp} {n m p z : Nat} {es : List SV}
end
inductive NE (s:ByteArray):Nat->Nat->Prop where
 | nil (a:Nat):NE s a a
 | cons {a b:Nat} (h1:a<s.size) (h2:(BJ s a).2=true) (h3:NE s (a+(BJ s a).1) b):NE s a b
theorem O5 (s:ByteArray) (a n:Nat):∀(f:Nat) (lo hi:Int) (k:Nat),(DC s a n f lo hi k).2=true->(DC s a n f lo hi k).1=k+f/\
 ∀j,k<=j->j<k+f->a+j<s.size/\(if j=k then lo else 128)<=An s (a+j)/\An s (a+j)<=if j=k then hi else 191
 | 0,_,_,k,_=>by rw[DC];exact⟨rfl,λj h1 h2=>by omega⟩
 | f+1,lo,hi,k,h=>by
  rw[DC]at h ⊢;split at h;cases h;rename_i hc;rw[if_neg hc];obtain⟨h1,h2⟩:=O5 s a n f 128 191 (k+1) h;refine⟨by omega,λj j1 j2=>?_⟩;by_cases e:j=k;subst e;rw[if_pos rfl,if_pos rfl];omega;have:=h2 j (by omega) (by omega);rw[if_neg e,if_neg e];split at this<;>omega
theorem MI {s t:ByteArray} {a a':Nat} (n n':Nat):∀(f:Nat) (lo hi:Int) (k:Nat),(∀j,k<=j->j<k+f->An t (a'+j)=An s (a+j)/\a'+j<t.size)->(DC s a n f lo hi k).2=true->DC t a' n' f lo hi k=DC s a n f lo hi k
 | 0,_,_,k,_,_=>by rw[DC,DC]
 | f+1,lo,hi,k,h,hs=>by
  rw[DC]at hs ⊢;rw[DC.eq_2 s];split at hs;cases hs;rename_i hc;obtain⟨h1,h2⟩:=h k (qa _) (by omega);rw[if_neg hc,if_neg (by rw[h1];omega)];exact MI n n' f 128 191 (k+1) (λj j1 j2=>h j (by omega) (by omega)) hs
theorem Ig {s:ByteArray} {a:Nat} (ha:a<s.size) (h:(BJ s a).2=true):DE (An s a)=(BJ s a).1/\1<=(BJ s a).1/\a+(BJ s a).1<=s.size/\∀j,1<=j->j<(BJ s a).1->128<=An s (a+j)/\An s (a+j)<=191:=by
 obtain⟨z0,z1⟩:=LY (An s a);simp only[BJ]at h ⊢;split at h;cases h
 . rename_i c0;rw[if_neg c0];split at h;rename_i c1;rw[if_pos c1];exact⟨c1,Nat.le_refl _,by show a+1<=_;omega,λj c b=>by dsimp only at b;omega⟩
   . rename_i c1;rw[if_neg c1];obtain⟨h1,h2⟩:=O5 s a _ _ _ _ 1 h;rw[h1];refine⟨by omega,by omega,?_,λj c b=>?_⟩;have:=h2 ((DE (An s a)).toNat-1) (by omega) (by omega);omega
     . have:=h2 j c b;have l1:128<=Kl (An s a)/\IC (An s a)<=191:=by unfold Kl IC;constructor<;>(repeat' split)<;>omega
       split at this<;>omega
theorem Su {s t:ByteArray} {a a':Nat} (c:a<s.size) (b:(BJ s a).2=true) (h:∀j,j<(BJ s a).1->An t (a'+j)=An s (a+j)/\a'+j<t.size):BJ t a'=BJ s a:=by
 obtain⟨e,f,_,_⟩:=Ig c b;have h0:=(h 0 (by omega)).1;simp only[kP]at h0;have d:∀j,j<(DE (An s a)).toNat->An t (a'+j)=An s (a+j)/\a'+j<t.size:=λj hj=>h j (by omega);clear h e f;simp only[BJ]at b ⊢;rw[h0];split;rfl;rename_i c0;rw[if_neg c0]at b;split;rfl;rename_i c1;rw[if_neg c1]at b;exact MI _ _ _ _ _ 1 (λj j1 j2=>d j (by omega)) b
theorem NE.le {s:ByteArray} {a b:Nat} (H:NE s a b):a<=b:=by
 induction H with
 | nil=>exact qa _
 | cons h1 h2 _ ih=>omega
theorem NE.trans {s:ByteArray} {a b c:Nat} (H:NE s a b) (d:NE s b c):NE s a c:=by
 induction H with
 | nil=>exact d
 | cons h1 h2 _ ih=>exact .cons h1 h2 (ih d)
theorem NE.map {s t:ByteArray} {a b:Nat} (H:NE s a b):∀{a':Nat},(∀p,a<=p->p<b->An t (a'+(p-a))=An s p)->a'+(b-a)<=t.size->NE t a' (a'+(b-a)):=by
 induction H with
 | nil a=>intro a' _ _;rw[vU,kP];exact .nil _
 | @cons a b h1 h2 h3 ih=>
  intro a' hb hs;have hle:=h3.le;obtain⟨i1,i2,i3,i4⟩:=Ig h1 h2;have e:=Su (t:=t) (a':=a') h1 h2 λj hj=>⟨by have:=hb (a+j) (by omega) (by omega);rwa [Nat.add_sub_cancel_left]at this,by omega⟩
  refine .cons (by omega) (by rw[e];exact h2) ?_;rw[e];have:=ih (a':=a'+(BJ s a).1) (λp p1 c=>by have:=hb p (by omega) c;rw[<-this];congr 1;omega) (by omega);rw[show a'+(BJ s a).1+(b-(a+(BJ s a).1))=a'+(b-a)by omega]at this;exact this
theorem NE.first {s:ByteArray} {a b:Nat} (H:NE s a b) (hb:b=s.size):E5 s a<0:=by
 induction H with
 | nil a=>rw[E5,dif_neg (by omega)];decide
 | cons h1 h2 _ ih=>rw[E5,dif_pos h1,dif_pos h2];exact ih hb
theorem NE.of {s:ByteArray}:∀(n a:Nat),s.size-a<=n->a<=s.size->E5 s a<0->NE s a s.size
 | n,a,hn,ha,h=>by
  rw[E5]at h;split at h;rename_i h1;split at h;rename_i h2;obtain⟨i1,i2,b,i4⟩:=Ig h1 h2;cases n with
  | zero=>omega
  | succ n=>exact .cons h1 h2 (NE.of n _ (by omega) b h)
  omega;have:a=s.size:=by omega
  rw[this];exact .nil _
theorem GE {s:ByteArray}:A5 s=true↔NE s 0 s.size:=by
 simp only[A5,decide_eq_true_eq];exact⟨λh=>NE.of _ 0 (qa _) (qg _) h,λh=>h.first rfl⟩
theorem Wm:(List.range 256).all (λb=>if 128<=b/\b<=191 then !EQ b else(DE b==0||EQ b))=true:=by kernel_rfl
theorem Kh (s:ByteArray) (i:Nat):0<=An s i/\An s i<256:=by
 unfold An;split;rename_i b _;have:=b.toNat_lt;omega;omega
theorem UO (b:Int) (h0:0<=b) (h1:b<256):if 128<=b/\b<=191 then EQ b=false else(DE b≠0->EQ b=true):=by
 have:=ka.1 Wm b.toNat (by rw[List.mem_range];omega);have e:((b.toNat:Nat):Int)=b:=by omega
 rw[e]at this;by_cases c:128<=b/\b<=191;rw[if_pos c];rw[if_pos (by omega)]at this;simpa using this;rw[if_neg c];rw[if_neg (by omega)]at this;simp only[vJ,beq_iff_eq]at this;exact λa=>this.resolve_left a
def JM (s:ByteArray) (o:Nat):Prop:=o=s.size\/EQ (An s o)=true
theorem NE.cut {s:ByteArray} {a b:Nat} (H:NE s a b) (hb:b=s.size):∀o,a<=o->o<=b->JM s o->NE s a o/\NE s o b:=by
 induction H with
 | nil a => intro o h1 h2 _; have : o = a := by omega
            rw[this];exact⟨.nil _,.nil _⟩
 | @cons a b h1 h2 h3 ih =>
  intro o o1 o2 ho;by_cases e:o=a;rw[e];exact⟨.nil _,.cons h1 h2 h3⟩;obtain⟨i1,i2,i3,i4⟩:=Ig h1 h2;have:a+(BJ s a).1<=o:=by
   rcases kh o (a+(BJ s a).1)with hlt|hge;exfalso;have hc:=i4 (o-a) (by omega) (by omega);rw[show a+(o-a)=o by omega]at hc;obtain⟨r1,r2⟩:=Kh s o;have hh:=UO _ r1 r2;rw[if_pos hc]at hh;rcases ho with ho|ho;omega;rw[hh]at ho;cases ho;exact hge
  obtain⟨k1,k2⟩:=ih hb o this o2 ho;exact⟨.cons h1 h2 k1,k2⟩
theorem FJ (s:ByteArray) (i:Nat):An s i=match s.data[i]? with|some b=>(b.toNat:Int)|none=>0:=by
 rcases kh i s.size with h|h;obtain⟨e1,a⟩:=Ed h;rw[a,kq (show i<s.data.size from h)];rfl;have h1:s.data[i]? = none:=kA h;rw[h1];unfold An;split;rename_i b e;exfalso;simp only[getElem?_def]at e;split at e;rename_i h2;exact absurd h2 (by show ¬i<s.size;omega);cases e;rfl
theorem EN (s:ByteArray) (i j p:Nat) (h1:p<j-i) (h2:j<=s.size):An (s.extract i j) p=An s (i+p):=by
 rw[FJ,FJ,ByteArray.data_extract,Array.getElem?_extract_of_lt (by show p<min j s.data.size-i;have:s.data.size=s.size:=rfl;omega),kq (show i+p<s.data.size by have:s.data.size=s.size:=rfl;omega)]
theorem size_extract (s:ByteArray) (i j:Nat) (h2:j<=s.size):(s.extract i j).size=j-i:=by
 rw[ByteArray.size_extract];omega
theorem MF (s t:ByteArray) (p:Nat) (h:p<s.size):An (s++t) p=An s p:=by
 rw[FJ,FJ,ByteArray.data_append,kX h]
theorem MG (s t:ByteArray) (p:Nat):An (s++t) (s.size+p)=An t p:=by
 rw[FJ,FJ,ByteArray.data_append,Array.getElem?_append_right (by show s.size<=s.size+p;omega)];rw[show s.size+p-s.data.size=p by have:s.data.size=s.size:=rfl;omega]
theorem Ee (s t:ByteArray) (i:Nat):∀k,(∀p,p<k->An t p=An s (i+p))->Ar s (i+k)=Ar s i+Ar t k
 | 0,_=>by simp[Ar]
 | k+1,h=>by
  rw[<-qu,Ar,Ar,Ee s t i k λp hp=>h p (by omega),h k (by omega)];omega
theorem MH (s t:ByteArray):Ar (s++t) (s++t).size=Ar s s.size+Ar t t.size:=by
 rw[kT,Ee (s++t) t s.size t.size λp _=>(MG s t p).symm];have:=Ee (s++t) s 0 s.size λp hp=>by rw[qU];exact(MF s t p hp).symm
 rw[qU]at this;rw[this];simp[Ar]
theorem HP {s t:ByteArray} (a:A5 s=true) (ht:A5 t=true):A5 (s++t)=true:=by
 rw[GE]at a ht ⊢;have h1:=a.map (t:=s++t) (a':=0) (λp _ hp=>by rw[qU,vc];exact MF s t p hp) (by rw[kT];omega);have h2:=ht.map (t:=s++t) (a':=s.size) (λp _ hp=>by rw[vc];exact MG s t p) (by rw[kT];omega);rw[vc,qU]at h1;rw[vc,<-kT]at h2;exact h1.trans h2
theorem IA (s:ByteArray):∀k u,u<Ar s k->∃o:Nat,(Bh s k)[u]? = some (o:Int)/\o<k/\EQ (An s o)=true/\Ar s o=u
 | 0,u,h=>by simp[Ar]at h
 | k+1,u,h=>by
  have hl:=Dt s k;simp only[Ar,Bh]at h ⊢;split;rename_i a;rw[if_pos a]at h;rcases kh u (Ar s k)with h1|h1;obtain⟨o,h2,d,b,c⟩:=IA s k u h1;exact⟨o,by rw[qZ (by omega)];exact h2,by omega,b,c⟩;have:u=Ar s k:=by omega
  exact⟨k,by rw[qT (by omega),this,hl];simp,by omega,a,this.symm⟩;rename_i a;rw[if_neg a]at h;obtain⟨o,h2,d,b,c⟩:=IA s k u (by omega);exact⟨o,h2,by omega,b,c⟩
theorem Ge {s:ByteArray} (b:A5 s=true) {u:Int} (h0:0<=u) (h1:u<=Ar s s.size):∃o:Nat,(Be s u).1.toNat=o/\o<=s.size/\JM s o/\(Ar s o:Int)=u:=by
 have hl:=Dt s s.size;have e:(Be s u).1=(Bh s s.size++[(s.size:Int)]).getD u.toNat 0:=by
  unfold Be;rw[if_neg (by rw[b];decide),if_neg (by omega)]
 rw[e,List.getD_eq_getElem?_getD];rcases kh u.toNat (Ar s s.size)with h2|h2;obtain⟨o,c,k2,k3,k4⟩:=IA s s.size u.toNat h2;refine⟨o,by rw[qZ (by omega),c];rfl,by omega,.inr k3,by omega⟩;have a:u.toNat=Ar s s.size:=by omega
 refine⟨s.size,by rw[qT (by omega),a,hl];simp,qa _,.inl rfl,by omega⟩
theorem Ef {s:ByteArray} (b:A5 s=true) {u:Int} (h0:0<=u) (h1:u<=Ar s s.size):∃o:Nat,(Be s u).1.toNat=o/\o<=s.size/\A5 (s.extract 0 o)=true/\A5 (s.extract o s.size)=true/\
 (Ar (s.extract 0 o) (s.extract 0 o).size:Int)=u/\(Ar (s.extract o s.size) (s.extract o s.size).size:Int)=Ar s s.size-u:=by
 obtain⟨o,f,a,k3,k4⟩:=Ge b h0 h1;obtain⟨c1,e⟩:=(GE.1 b).cut rfl o (qg _) a k3;have c:=size_extract s 0 o a;have d:=size_extract s o s.size (qa _);refine⟨o,f,a,?_,?_,?_,?_⟩;rw[GE,c];have:=c1.map (t:=s.extract 0 o) (a':=0) (λp _ hp=>by rw[qU,vc,EN s 0 o p (by omega) a,qU]) (by omega);rw[qU]at this;exact this;rw[GE,d];have:=e.map (t:=s.extract o s.size) (a':=0) (λp hp1 hp=>by rw[qU,EN s o s.size (p-o) (by omega) (qa _)];congr 1;omega) (by omega);rw[qU]at this;exact this;rw[c];have:=Ee s (s.extract 0 o) 0 o λp hp=>EN s 0 o p (by omega) a;rw[qU]at this;have e0:Ar s 0=0:=rfl;rw[vc];omega;rw[d];have:=Ee s (s.extract o s.size) o (s.size-o) λp hp=>EN s o s.size p (by omega) (qa _);rw[show o+(s.size-o)=s.size by omega]at this;omega
abbrev Rh (b:Bool):Nat:=if b then 1 else 0
mutual
def AB.wt (u:AF->Bool):AB->List Nat
 | .mk k _ _ t h f r=>if k=1 then List.replicate (if A5 t then Ar t t.size else 0) (Rh (u h))else[Rh (u h)+(if k=6 then AB.wts u f else 0)+(if k=7 then AP.wts u r else 0)]
def AB.wts (u:AF->Bool):List AB->Nat
 | []=>0
 | x::l=>(AB.wt u x).sum+AB.wts u l
def AP.wt (u:AF->Bool):AP->Nat
 | .mk h c=>Rh (u h)+AH.wts u c
def AP.wts (u:AF->Bool):List AP->Nat
 | []=>0
 | x::l=>AP.wt u x+AP.wts u l
def AH.wt (u:AF->Bool):AH->Nat
 | .mk _ h f=>Rh (u h)+AB.wts u f
def AH.wts (u:AF->Bool):List AH->Nat
 | []=>0
 | x::l=>AH.wt u x+AH.wts u l
end
section
variable (u : AF → Bool)
def Gx (l:List AB):List Nat:=l.flatMap (AB.wt u)
theorem JJ:∀l:List AB,AB.wts u l=(Gx u l).sum
 | []=>by rw[AB.wts];rfl
 | x::l=>by rw[AB.wts,JJ l];simp[Gx]
theorem NC:∀l:List AP,AP.wts u l=(l.map (AP.wt u)).sum
 | []=>by rw[AP.wts];rfl
 | x::l=>by rw[AP.wts,NC l];simp
theorem Km:∀l:List AH,AH.wts u l=(l.map (AH.wt u)).sum
 | []=>by rw[AH.wts];rfl
 | x::l=>by rw[AH.wts,Km l];simp
theorem E7 (a b:List AB):Gx u (a++b)=Gx u a++Gx u b:=by simp[Gx]
theorem H0 (x:AB) (l:List AB):Gx u (x::l)=AB.wt u x++Gx u l:=by simp[Gx]
theorem JI (x:AB):AB.wt u x=if x.kind=1 then List.replicate (if A5 x.text then Ar x.text x.text.size else 0) (Rh (u x.head))else[Rh (u x.head)+(if x.kind=6 then AB.wts u x.flow else 0)+(if x.kind=7 then AP.wts u x.rows else 0)]:=by
 cases x;rw[AB.wt];rfl
theorem Xj (x:AB):((AB.wt u x).length:Int)=x.units:=by
 rw[JI,AB.units];split;rw[List.length_replicate];split<;>rfl;rfl
theorem LS:∀l:List AB,((Gx u l).length:Int)=BQ l
 | []=>rfl
 | x::l=>by rw[H0,qq,BQ,<-LS l,<-Xj u x];omega
def val (x:AB):Prop:=A5 x.text=true/\(x.kind=7->x.rows≠[])
theorem Qf {out:List AB} {x:AB} (c:∀y∈out,val y) (b:val x):Gx u (AQ out x)=Gx u out++AB.wt u x/\∀y∈AQ out x,val y:=by
 unfold AQ;split;rename_i l;refine⟨?_,c⟩;rcases l with⟨k,h0⟩|⟨h1,h0⟩
 exact absurd h0 (b.2 k);rw[JI,if_pos h1,h0,b.1];simp[Ar]
 . split
   . rename_i y i;have d:out=out.dropLast++[y]:=by obtain⟨ys,f⟩:=List.getLast?_eq_some_iff.1 i;rw[f];simp
     split
     . rename_i hc;obtain⟨m,j,k3⟩:=hc;have g:=c y (List.mem_of_getLast? i);have e:AB.wt u (y.addText x.text)=AB.wt u y++AB.wt u x:=by
        rw[JI,JI u y,JI u x];have a1:(y.addText x.text).kind=y.kind/\(y.addText x.text).text=y.text++x.text/\(y.addText x.text).head=y.head:=⟨rfl,rfl,rfl⟩
        rw[a1.1,a1.2.1,a1.2.2,if_pos j,if_pos j,if_pos m,HP g.1 b.1,g.1,b.1,k3];simp only[if_true];rw[MH,List.replicate_append_replicate]
       refine⟨?_,λz a=>?_⟩
       . rw[E7,H0,e]
         conv=>rhs;rw[d]
         rw[E7,H0];simp[Gx]
       rcases qd.1 a with a|a;exact c z (List.dropLast_subset _ a);rw[qy.1 a];exact⟨HP g.1 b.1,λh=>absurd (show y.kind=7 from h) (by omega)⟩
     refine⟨by rw[E7];simp[Gx],λz a=>?_⟩;rcases qd.1 a with a|a;exact c z a;rw[qy.1 a];exact b
   refine⟨by rw[E7];simp[Gx],λz a=>?_⟩;rcases qd.1 a with a|a;exact c z a;rw[qy.1 a];exact b
theorem Uo:∀(l out:List AB),(∀y∈out,val y)->(∀y∈l,val y)->Gx u (l.foldl AQ out)=Gx u out++Gx u l
 | [],out,_,_=>by simp[Gx]
 | x::l,out,ho,hl=>by
  obtain⟨h1,h2⟩:=Qf u ho (hl x (by simp));rw[jy,Uo l _ h2 λy a=>hl y (by simp[a]),h1,H0,qj]
def Dp:Nat->List AB->Prop
 | 0,_=>False
 | N+1,l=>∀x∈l,val x/\(x.kind=6->Dp N x.flow)/\(x.kind=7->∀r∈x.rows,r.cells≠[]/\∀c∈r.cells,Dp N c.flow)
def O6 (N:Nat) (x:AB):Prop:=val x/\(x.kind=6->Dp N x.flow)/\(x.kind=7->∀r∈x.rows,r.cells≠[]/\∀c∈r.cells,Dp N c.flow)
theorem WM {N:Nat} {l:List AB}:Dp (N+1) l↔∀x∈l,O6 N x:=Iff.rfl
theorem GG {l:List AP} (h:∀r∈l,r.cells≠[]):(l.map AP.nrm).filter (λr=>!decide (r.cells.length=0))=l.map AP.nrm:=by
 rw[kQ];intro r b;obtain⟨r0,h0,rfl⟩:=ql.1 b;have a:(AP.nrm r0).cells=r0.cells.map AH.nrm:=by cases r0;rw[AP.nrm,vY];rfl
 rw[a,qf];have:=qH.2 (h r0 h0);simp;intro e;rw[e]at this;simp at this
theorem MB:∀{N:Nat} {l:List AB},Dp N l->Gx u (AO l)=Gx u l
 | 0,_,h=>h.elim
 | N + 1, l, h => by
  rw[WM]at h;have hn:∀x∈l,AB.wt u (AB.nrm x)=AB.wt u x/\val (AB.nrm x):=λx f=>by
   obtain⟨h1,q,g⟩:=h x f;obtain⟨j,_,e00,n,o,p,m⟩:=kB x;refine⟨?_,?_⟩;rw[JI,JI u x,j,n,o,p,m];have f6:(if x.kind=6 then AB.wts u (AO x.flow)else 0)=if x.kind=6 then AB.wts u x.flow else 0:=by
    by_cases k:x.kind=6;rw[if_pos k,if_pos k,JJ,JJ,MB (q k)];rw[if_neg k,if_neg k]
   have f7:(if x.kind=7 then AP.wts u ((x.rows.map AP.nrm).filter λr=>!decide (r.cells.length=0))else 0)=if x.kind=7 then AP.wts u x.rows else 0:=by
    by_cases k:x.kind=7;rw[if_pos k,if_pos k,GG λr d=>(g k r d).1,NC,NC,ke];congr 1;refine qL λr d=>?_;cases r with
    | mk rh rc =>
     have hc:=(g k _ d).2;simp only[Function.comp];rw[AP.nrm,AP.wt,AP.wt,Km,Km,vY,ke];congr 2;refine qL λc i=>?_;have:=hc c i;cases c with
     | mk ci ch cf=>
      simp only[Function.comp];rw[AH.nrm,AH.wt,AH.wt,JJ,JJ];have e:=MB this;unfold AO at e;rw[show(AH.mk ci ch cf).flow=cf from rfl]at e;rw[e]
    rw[if_neg k,if_neg k]
   rw[f6,f7];refine⟨by rw[n];exact h1.1,λk=>?_⟩;rw[j]at k;rw[m,GG λr d=>(g k r d).1];have:=h1.2 k;simpa using this
  unfold AO Cy;rw[kM,Uo u _ [] (by simp) λy s=>by obtain⟨x,f,rfl⟩:=ql.1 s;exact(hn x f).2];simp only[Gx,vn,qE];rw[List.flatMap_map];have:∀b:List AB,(∀x∈b,x∈l)->b.flatMap (λa=>AB.wt u (AB.nrm a))=b.flatMap (AB.wt u):=λb=>by
   induction b with
   | nil=>intro _;rfl
   | cons a b ih=>intro hl;rw[jx,jx,ih λx f=>hl x (by simp[f]),(hn a (hl a (by simp))).1]
  exact this l λ_ h=>h
theorem UF (l:List AB) (cu:Int) (h0:0<=cu) (j:∀x∈l,A5 x.text=true):∀k,k<=l.length->Gx u (CV l cu k).1=(Gx u (l.take k)).take cu.toNat/\Gx u (CV l cu k).2=(Gx u (l.take k)).drop cu.toNat
 | 0,_=>by simp[CV,Gx]
 | k + 1, hk => by
  obtain⟨f,g⟩:=UF l cu h0 j k (by omega);have a:=FM 0 l k (by omega);have d:=HU 0 l;have b:CV l cu (k+1)=B7 cu (CV l cu k) (0+BQ (l.take k),l[k]):=by
   unfold CV;obtain⟨h1,h2⟩:=qh.1 a;rw[qb h1,jw,h2];rfl
  have e:Gx u (l.take (k+1))=Gx u (l.take k)++AB.wt u l[k]:=by
   rw[qb (by omega),E7];simp[Gx]
  have n:=LS u (l.take k);have hU:=Xj u l[k];have c:=j l[k] (qi _);generalize BQ (l.take k)=p at b n;generalize l[k]=x at *;rw[b,e];clear b e a d;generalize Gx u (l.take k)=A at *;unfold B7;dsimp only;by_cases c1:0+p+x.units<=cu;rw[if_pos c1];refine⟨?_,?_⟩;rw[E7,f,qv (l:=A) (by omega),qv (l:=A++AB.wt u x) (by rw[qq];omega)];simp[Gx];rw[g,kj (l:=A) (by omega),kj (l:=A++AB.wt u x) (by rw[qq];omega)];rw[if_neg c1];by_cases i:cu<=0+p;rw[if_pos i];refine⟨?_,?_⟩;rw[f,vb (by omega)];rw[E7,g,vT (by omega)];simp[Gx];rw[if_neg i];have h:x.kind=1:=by
   by_cases k:x.kind=1;exact k;have:x.units=1:=by rw[AB.units,if_neg k]
   omega
  have hu:x.units=Ar x.text x.text.size:=by rw[AB.units,if_pos h,c];rfl
  obtain⟨o,m,e2,q,r,n1,n2⟩:=Ef c (u:=cu-(0+p)) (by omega) (by omega);rw[m];have w1:∀t,A5 t=true->AB.wt u (x.setText t)=List.replicate (Ar t t.size) (Rh (u x.head)):=λt ht=>by
   rw[JI];have a1:(x.setText t).kind=x.kind/\(x.setText t).text=t/\(x.setText t).head=x.head:=⟨rfl,rfl,rfl⟩
   rw[a1.1,a1.2.1,a1.2.2,if_pos h,ht];rfl
  have w0:AB.wt u x=List.replicate (Ar x.text x.text.size) (Rh (u x.head)):=by rw[JI,if_pos h,c];rfl
  refine⟨?_,?_⟩;rw[E7,f,List.take_append,qv (by omega:A.length<=cu.toNat),w0];simp only[Gx,jx,vn,kv];rw[w1 _ q,List.take_replicate];congr 2;omega;rw[E7,g,List.drop_append,kj (by omega:A.length<=cu.toNat),w0];simp only[Gx,jx,vn,kv];rw[w1 _ r,List.drop_replicate];congr 2;omega
theorem O9 (l:List AB) (cu:Int) (h0:0<=cu) (a:∀x∈l,A5 x.text=true):Gx u (Ad l cu).1=(Gx u l).take cu.toNat/\Gx u (Ad l cu).2=(Gx u l).drop cu.toNat:=by
 have:=UF u l cu h0 a l.length (qa _);rw[qm]at this;exact this
end
section
variable (u : AF → Bool) (w : Bool) (it : Int → List AB → Bool → Nat) (mid : Bool)
end
section
variable (u : AF → Bool) (w : Bool) (sc : BH)
end
abbrev wr (x:Int):Int:=IntKind.i64.wrap x
theorem Ta (x:AB):(BF [x]).1=x.units/\0<=x.units:=by
 have h0:0<=x.units:=by unfold AB.units;split<;>(try split)<;>omega
 refine⟨?_,h0⟩;unfold BF LK;simp only[List.any_cons,List.any_nil,Bool.or_false,BQ,decide_eq_true_eq];split;rename_i h;unfold AB.uerr at h;unfold AB.units;split at h;rename_i k;rw[if_pos k];split at h;exact absurd rfl h;rename_i c;rw[if_neg c];exact absurd rfl h;simp
section
variable (rev : Int) (sc : BH)
end
section
variable (g : Bool → AF → AF) (sc : BH)
def gF (s:Unit) (p:CI):AF×Bool×Unit:=(g p.mid p.head,true,s)
def Vk (it:Int->List AB->Bool->Unit->List AB×Unit) (mid:Bool) (c:AH):AH:=.mk c.id (g mid c.head) (it c.id c.flow mid ()).1
def Sb (it:Int->List AB->Bool->Unit->List AB×Unit) (mid:Bool) (r:AP):AP:=.mk (g mid r.head) (r.cells.map (Vk g it mid))
def NA (it:Int->List AB->Bool->Unit->List AB×Unit) (mid:Bool) (x:AB):AB:=x.put (g mid x.head) (if x.kind=6 then(it x.id x.flow mid ()).1 else x.flow) (if x.kind=7 then x.rows.map (Sb g it mid)else x.rows)
theorem Kw {α β:Type} (f:α->β) (st:List β×Unit->α->List β×Unit):∀(l:List α) (q:List β×Unit),(∀x∈l,∀q,(st q x).1=q.1++[f x])->(l.foldl st q).1=q.1++l.map f
 | [],q,_=>by simp
 | x::l,q,h=>by rw[jy,Kw f st l _ λy a=>h y (by simp[a]),h x (by simp)];simp
theorem Ej (it:Int->List AB->Bool->Unit->List AB×Unit) (mid:Bool) (l:List AB):(A8 (gF g) it mid l ()).1=l.map (NA g it mid):=by
 unfold A8;rw[Kw (NA g it mid) _ l _ λx hx q=>?_];simp;simp only[CL,gF,if_true,NA,Cm];by_cases k6:x.kind=6;simp[k6];by_cases k7:x.kind=7;simp only[k7,show ¬(7:Int)=6 by decide,if_true,if_false];congr 3;unfold HY;rw[Kw (Sb g it mid) _ _ _ λr hr q=>?_];simp;simp only[EG,gF,if_true,Sb];congr 3;unfold Er;rw[Kw (Vk g it mid) _ _ _ λc hc q=>?_];simp;simp only[DH,gF,if_true,Vk];simp[k6,k7]
end
def NX (N:Nat) (x:AB):Prop:=(x.kind=7->x.rows≠[])/\(x.kind=6->Dp N x.flow)/\(x.kind=7->∀r∈x.rows,r.cells≠[]/\∀c∈r.cells,Dp N c.flow)
theorem JP {N:Nat} {x:AB}:O6 N x↔A5 x.text=true/\NX N x:=by unfold O6 NX val;exact⟨λh=>⟨h.1.1,h.1.2,h.2⟩,λh=>⟨⟨h.1,h.2.1⟩,h.2.2⟩⟩
theorem NY {N:Nat} (x:AB) (t:ByteArray) (H:NX N x):NX N (.mk x.kind x.code x.id t x.head x.flow x.rows):=by cases x;exact H
theorem Q9 (l:List AB) (cu:Int) (h0:0<=cu) (g:∀x∈l,A5 x.text=true):∀k,k<=l.length->(∀y∈(CV l cu k).1,A5 y.text=true)/\∀y∈(CV l cu k).2,A5 y.text=true
 | 0,_=>by simp[CV]
 | k + 1, hk => by
  obtain⟨d,e⟩:=Q9 l cu h0 g k (by omega);have b:=FM 0 l k (by omega);have c:CV l cu (k+1)=B7 cu (CV l cu k) (0+BQ (l.take k),l[k]):=by
   unfold CV;obtain⟨h1,h2⟩:=qh.1 b;rw[qb h1,jw,h2];rfl
  have a:=g l[k] (qi _);rw[c];generalize BQ (l.take k)=p;generalize l[k]=x at *;unfold B7;dsimp only;by_cases c1:0+p+x.units<=cu;rw[if_pos c1];exact⟨Eu d a,e⟩;rw[if_neg c1];by_cases f:cu<=0+p;rw[if_pos f];exact⟨d,Eu e a⟩;rw[if_neg f];have i:x.kind=1:=by
   by_cases k:x.kind=1;exact k;have:x.units=1:=by rw[AB.units,if_neg k]
   omega
  have hu:x.units=Ar x.text x.text.size:=by rw[AB.units,if_pos i,a];rfl
  obtain⟨o,h,e2,j,m,n1,n2⟩:=Ef a (u:=cu-(0+p)) (by omega) (by omega);rw[h];exact⟨Eu d j,Eu e m⟩
theorem GF {N:Nat} {l:List AB} (cu:Int) (h0:0<=cu) (H:Dp (N+1) l):Dp (N+1) (Ad l cu).1/\Dp (N+1) (Ad l cu).2:=by
 have h1:=Q9 l cu h0 (λx a=>(H x a).1.1) l.length (qa _);have h2:=Hk (p:=NX N) NY l cu (λx a=>(JP.1 (H x a)).2) l.length (qa _);exact⟨λx a=>JP.2 ⟨h1.1 x a,h2.1 x a⟩,λx a=>JP.2 ⟨h1.2 x a,h2.2 x a⟩⟩
theorem SW:∀(l out:List AB),(∀y∈out,val y)->(∀y∈l,val y)->∀y∈l.foldl AQ out,val y
 | [],_,ho,_=>ho
 | x::l,out,ho,hl=>by
  rw[jy];exact SW l _ (Qf (λ_=>true) ho (hl x (by simp))).2 λy a=>hl y (by simp[a])
theorem HE {x:AB} (h:∀r∈x.rows,r.cells≠[]):(AB.nrm x).rows=x.rows.map AP.nrm:=by
 rw[(kB x).2.2.2.2.2.2,GG h]
theorem AP.nrm_cells (r:AP):(AP.nrm r).cells=r.cells.map AH.nrm/\(AP.nrm r).head=r.head:=by cases r;rw[AP.nrm,vY];exact⟨rfl,rfl⟩
theorem AH.nrm_all (c:AH):(AH.nrm c).flow=AO c.flow/\(AH.nrm c).id=c.id/\(AH.nrm c).head=c.head:=by cases c;rw[AH.nrm];exact⟨rfl,rfl,rfl⟩
theorem Ij:∀{N:Nat} {l:List AB},Dp N l->Dp N (AO l)
 | 0,_,h=>h.elim
 | N + 1, l, H => by
  have m:∀y∈AB.nrmL l,val y/\NX N y:=λy a=>by
   rw[kM]at a;obtain⟨x,g,rfl⟩:=ql.1 a;obtain⟨⟨h1,h2⟩,q,i⟩:=H x g;obtain⟨f,_,_,o,_,n,e3⟩:=kB x;have b:x.kind=7->(AB.nrm x).rows=x.rows.map AP.nrm:=λk=>HE λr b=>(i k r b).1;refine⟨⟨by rw[o];exact h1,λk=>?_⟩,λk=>?_,λk=>?_,λk r d=>?_⟩;rw[f]at k;rw[b k];simpa using h2 k;rw[f]at k;rw[b k];simpa using h2 k;rw[f]at k;rw[n];exact Ij (q k);rw[f]at k;rw[b k]at d;obtain⟨r0,e,rfl⟩:=ql.1 d;rw[(AP.nrm_cells r0).1];refine⟨by simpa using(i k r0 e).1,λc hc=>?_⟩;obtain⟨c0,j,rfl⟩:=ql.1 hc;rw[(AH.nrm_all c0).1];exact Ij ((i k r0 e).2 c0 j)
  unfold AO Cy;have h1:=SW (AB.nrmL l) [] (by simp) λy a=>(m y a).1;have h2:=Gr (p:=NX N) NY (AB.nrmL l) [] (by simp) λy a=>(m y a).2;exact λx g=>JP.2 ⟨(h1 x g).1,h2 x g⟩
theorem C6 {N:Nat} {l:List AB} (a b:Int) (c:0<=a) (hb:0<=b) (H:Dp (N+1) l):Dp (N+1) (Ab l a b).1:=by
 unfold Ab;split;exact Ij (GF a c (GF b hb H).1).2;intro x d;cases d
theorem DQ {N:Nat} {l:List AB} (H:Dp (N+1) l):BF l=(BQ l,0):=by
 unfold BF;have:LK l=false:=by
  unfold LK;rw[List.any_eq_false];intro x a;have:=(H x a).1.1;simp[AB.uerr,this]
 rw[this];rfl
theorem OK (u:AF->Bool) {N:Nat} {l:List AB} (H:Dp (N+1) l) (a b:Int) (h0:0<=a) (h1:a<=b) (h2:b<=BQ l):Gx u (Ab l a b).1=((Gx u l).take b.toNat).drop a.toNat:=by
 have c:DL l a b=0:=by
  unfold DL;rw[DQ H];have:¬(a<0\/b<a\/BQ l<b):=by omega
  simp[this]
 unfold Ab;rw[if_pos c];have e:=(GF b (by omega) H).1;have w1:=(O9 u l b (by omega) λx d=>(H x d).1.1).1;have w2:=(O9 u (Ad l b).1 a h0 λx d=>(e x d).1.1).2;rw[MB u (GF a h0 e).2,w2,w1]
theorem Iu {m2:List Int} {hp:AF->Prop} {K:Nat}:∀{N:Nat} {l:List AB},Xr m2 N l->Dq hp K N l->Dp N l
 | 0,_,_,h=>h.elim
 | N+1,l,h,hl=>λx e=>by
  obtain⟨⟨f6,f7,f⟩,_,g,b,d⟩:=h x e;obtain⟨_,i,_,j⟩:=hl.2.2 x e;exact⟨⟨f,b⟩,λk=>Iu g i,λk r a=>⟨(d r a).1.2,λc hc=>Iu ((d r a).2 c hc).2 ((j r a).2.2 c hc).2⟩⟩
end Go.Proofs.YtgakninlhfkkmaaGreat.Sh
