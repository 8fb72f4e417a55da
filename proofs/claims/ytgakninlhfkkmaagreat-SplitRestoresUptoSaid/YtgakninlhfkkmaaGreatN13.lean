/- A part of the proof (part 13 of 17). -/
import Derived.Test.YtgakninlhfkkmaaGreatN12
import Derived.Test.YtgakninlhfkkmaaGreatRows
import Derived.WalkKit
import Derived.ProofKit
import Derived.OpenShut
import Derived.JoinedCond
import Derived.ReadAgain
import Derived.ChangeReads
namespace Go.Proofs.YtgakninlhfkkmaaGreat.Sh
open Proofs
set_option maxRecDepth 10000
theorem Xi (v0:SV):PC 254 [v0,AA 0,AA 0,.fn (.func 120) [] []] (.tup []):=by
 intro h n;refine gq Tryz.func254 rfl λa=>?_;simp[go_sem];refine An 1 (α:=Unit) (λk=>[(2,AA 0),(8,AA 1)]) (λ_=>h) (λk m=>n<=m) (λk=>0) () ?_ ?_ AB ?_;omega;simp[Ai,show IntKind.i64.wrap 1=1 from by decide,IO];rintro _ m hm;simp[go_sem];exact Ay a AB rfl rfl
theorem Xd (v0:SV):PC 188 [v0,AA 0,.fn (.func 120) [] []] (.tup []):=by
 intro h n;refine gq Tryz.func188 rfl λb=>?_;simp[go_sem];refine An 1 (α:=Unit) (λk=>[(0,v0),(1,AA 0),(2,.fn (.func 120) [] []),(6,AA 20),(7,AA 0),(8,AA 20)]) (λ_=>h) (λk m=>n<=m) (λk=>0) () ?_ ?_ AB ?_;omega;simp[Ai];rintro _ m a;simp[go_sem];refine qw (Xi v0) ?_;simp[go_sem];refine An 1 (α:=Unit) (λk=>[(1,AA 0),(6,AA 20)]) (λ_=>h) (λk m=>n<=m) (λk=>0) () ?_ ?_ AB ?_;omega;simp[Ai];rintro _ m a;simp[go_sem];exact Ay b AB rfl rfl
theorem XT (o:Nat) (full:Bool):PC 119 [.sl o 0 2 0 full,.fn (.func 120) [] []] (.tup []):=by
 intro h n;refine gq Tryz.func119 rfl λa=>?_;simp[go_sem];refine qw (Xd _) ?_;simp[go_sem];exact Ay a AB rfl rfl
def Nv (l:List Am):List SV:=(l.map Am.enc).flatMap SV.cells
def j9 (x:AF) (h:Hp) (n:Nat) (v1:SV) (o1:Option Nat) (v2:SV) (o2:Option Nat) (y:Int) (E:List Az) (F:List Am):Hp:=
 D8 (F.map Am.enc) o2 (D8 (E.map Az.enc) o1 (hset (hset h n (some (.cells [Af x.props,AA y,AA x.move,v1,v2]))) (n+1) (some VJ)))
structure RnW (x:AF) (h:Hp) (n:Nat) (v1:SV) (o1:Option Nat) (v2:SV) (o2:Option Nat) (W:Int->List Az->List Am->Hp):Prop where
 w0:∀y E F,W y E F n=some (.cells [Af x.props,AA y,AA x.move,v1,v2])
 w1:∀y E F,W y E F (n+1)=some VJ
 wd:∀j,o1=some j->∀y E F,W y E F j=some (.cells (CS E))
 wl:∀j,o2=some j->∀y E F,W y E F j=some (.cells (Nv F))
 sy:∀y z E F,hset (W y E F) n (some (.cells [Af x.props,AA z,AA x.move,v1,v2]))=W z E F
 sd:∀j,o1=some j->∀y E F E',hset (W y E F) j (some (.cells (CS E')))=W y E' F
 sl:∀j,o2=some j->∀y E F F',hset (W y E F) j (some (.cells (Nv F')))=W y E F'
 old:∀y E F j z,h j=some z->W y E F j=some z
theorem rnW {x:AF} {h:Hp} {n m:Nat} {l o:SV} {o1 a:Option Nat} {g es2:List SV} (hb:∀j y,h j=some y->j<n) (a1:HL 2 g l o1 (n+2) m) (a2:HL 4 es2 o a (n+2) m) (b:∀j,o1=some j->a≠some j):RnW x h n l o1 o a (j9 x h n l o1 o a):=by
 have d:=a1.lt;have f:=a2.lt;clear a1 a2;constructor;intro y E F;have k:=d n;have c:=f n;cases o1<;>cases a<;>simp only[j9,D8,hset]<;>grind;intro y E F;have k:=d (n+1);have c:=f (n+1);cases o1<;>cases a<;>simp only[j9,D8,hset]<;>grind;intro j e y E F;subst e;have c:=b j rfl;cases a<;>simp only[j9,D8,hset,CS]<;>grind;intro j e y E F;subst e;cases o1<;>simp only[j9,D8,hset,Nv]<;>grind;intro y z E F;funext j;have k:=d n;have c:=f n;cases o1<;>cases a<;>simp only[j9,D8,hset]<;>grind;intro j e y E F E';subst e;have c:=b j rfl;funext i;cases a<;>simp only[j9,D8,hset,CS]<;>grind;intro j e y E F F';subst e;funext i;cases o1<;>simp only[j9,D8,hset,Nv]<;>grind;intro y E F j z e;have k:=d j;have c:=f j;have:=hb j z e;cases o1<;>cases a<;>simp only[j9,D8,hset]<;>grind
section
variable {g : FuncId} {a b : List SV} {p : Int → Bool}
set_option maxHeartbeats 4000000 in
theorem Xn (x:AF) (hs:x.sized) (hd:x.dels.length<20) (hg:∀y,PC g (a++[AA y]++b) (.bool (p y))) (id:Int):PC 47 [x.enc,AA id,.fn (.func g) a b] (Ji p id x).enc:=by
 intro h n;refine Db Tryz.func47 rfl λho=>?_;have X:=ho.lt;have q1:n≠n+1:=by omega
 refine BP 0 [(1,AA id),(2,.fn (.func g) a b),(3,.ptr n 0),(6,.ptr (n+1) 0)] (hset (hset h n (some (.cells x.flat))) (n+1) (some VJ)) (λm=>n+2=m) ?_ (λm hm=>?_);simp[go_sem,AF.enc,AF.flat,IO];subst hm;refine BM 0 (α:=SV×Option Nat×SV×Option Nat) (λq=>[(1,AA id),(2,.fn (.func g) a b),(3,.ptr n 0),(6,.ptr (n+1) 0)]) (λq=>j9 x h n q.1 q.2.1 q.2.2.1 q.2.2.2 x.ins x.dels x.layers)
  (λq m'=>HL 2 (x.dels.map Az.enc) q.1 q.2.1 (n+2) m'/\HL 4 (x.layers.map Am.enc) q.2.2.1 q.2.2.2 (n+2) m'/\(∀j,q.2.1=some j->q.2.2.2≠some j)/\n+2<=m') ?_ ?_
 simp[go_sem,AF.flat,AD _ _ q1,AC];refine qC (Zg x hs) ?_;rintro v H' n' ⟨v1,o1,v2,o2,rfl,a1,a2,M,hn',hH⟩;obtain⟨s1,t1⟩:=a1.st;obtain⟨s2,t2⟩:=a2.st;have L1:=a1.lt;have L2:=a2.lt;have hn:H' n=some (.cells [Af x.props,AA x.ins,AA x.move,AP x.dels,AL x.layers]):=by
  refine hH n _ ?_;have r3:=L1 n;have r4:=L2 n;cases o1<;>cases o2<;>simp only[D8,hset]<;>grind
 simp[go_sem,hn];refine⟨v1,o1,v2,o2,⟨a1,a2,M,hn'⟩,λj y e=>?_⟩;have r1:=hH j y;have r3:=L1 j;have r4:=L2 j;have q6:=X j y;clear hH L1 L2 a1 a2 hn;revert e;cases o1<;>cases o2<;>simp only[j9,D8,hset]at r1 ⊢ <;> grind;rintro⟨v1,o1,v2,o2⟩ m ⟨a1,a2,M,hm⟩;dsimp only at a1 a2 M hm ⊢;have R:=rnW (x:=x) X a1 a2 M;generalize j9 x h n v1 o1 v2 o2=W at R ⊢;refine AY 0 [(1,AA id),(2,.fn (.func g) a b),(3,.ptr n 0),(6,.ptr (n+1) 0),(7,.ptr n 1)] (W x.ins x.dels x.layers) m ?_ (λm2 hm2=>?_);simp[go_sem,IO];have hid:∀y,PC g (a++AA y::b) (.bool (p y)):=λy=>by simpa using hg y
 refine Bc 0 [(1,AA id),(2,.fn (.func g) a b),(3,.ptr n 0),(6,.ptr (n+1) 0),(7,.ptr n 1)] (W (FV p id x.ins) x.dels x.layers) m ?_ (λm3 hm3=>?_);refine AH ?_;by_cases i0:x.ins=0;have hr:FV p id x.ins=x.ins:=by simp[FV,i0]
 rw[hr];simp[go_sem,R.w0,i0,IO,hm2];have i1:(x.ins !=0)=true:=by simpa using i0
 simp[go_sem,R.w0,i1];refine qw (hid x.ins) ?_;cases hp:p x.ins with
 | true=>
  have hr:FV p id x.ins=id:=by simp[FV,i0,hp]
  rw[hr];simp[go_sem,R.w0,R.sy,IO,hm2]
 | false=>
  have hr:FV p id x.ins=x.ins:=by simp[FV,hp]
  rw[hr];simp[go_sem,IO,hm2]
 generalize hy:FV p id x.ins=y;refine Bc 0 [(1,AA id),(2,.fn (.func g) a b),(3,.ptr n 0),(6,.ptr (n+1) 0),(7,.ptr n 1)] (W y (x.dels.map (Bz p id)) x.layers) m ?_ (λm4 Q=>?_);rcases a1 with⟨_,N,z',f,rfl⟩|⟨j,f,rfl,O,P,rfl⟩
 have s:x.dels=[]:=by simpa using N
 refine AH ?_;simp[go_sem,R.w0,s];refine An 0 (α:=Unit) (λ_=>[(1,AA id),(2,.fn (.func g) a b),(3,.ptr n 0),(6,.ptr (n+1) 0),(7,.ptr n 1),(34,AA 0),(35,AA 0)]) (λ_=>W y [] x.layers) (λ_ m'=>m<=m') (λ_=>0) () hm3 ?_ AB ?_;simp[Ai,IO];rintro _ m5 C;simp[go_sem,IO,C];refine AY 0 [(1,AA id),(2,.fn (.func g) a b),(3,.ptr n 0),(6,.ptr (n+1) 0),(7,.ptr n 1),(34,AA x.dels.length),(35,AA 0)] (W y x.dels x.layers) m ?_ (λm5 C=>?_);simp[go_sem,R.w0,IO,hm3];refine AR (BG 0 (α:=Nat) (λi=>[(1,AA id),(2,.fn (.func g) a b),(3,.ptr n 0),(6,.ptr (n+1) 0),(7,.ptr n 1),(34,AA x.dels.length),(35,AA i)]) (λi=>W y (EO (Bz p id) x.dels i) x.layers) (λi m'=>i<=x.dels.length/\m<=m') (λi=>x.dels.length-i) 0 ⟨qg _,C⟩ ?_ ?_ ?_);simp[Ai,IO];rw[Ll];exact AB;rintro i m6 ⟨hi,K⟩;by_cases r:i<x.dels.length;have w1:=wS i (by omega);have u:=Lk (Bz p id) x.dels i r;have V:=NF (Bz p id) x.dels i (kx r);have l:=NE (Bz p id) x.dels i r;obtain⟨d,Y⟩:∃d,x.dels[i]=d:=⟨_,rfl⟩
 rw[Y]at u l;generalize hE:EO (Bz p id) x.dels i=E at u V l;have t:(E.map Az.enc)[i]? = some d.enc:=by rw[qO,l];rfl
 obtain⟨L,T⟩:=K1 (Az.E.size E) t (k:=0) (c:=AA d.rev) rfl;have B:p d.rev=true->((E.map Az.enc).flatMap SV.cells).take (i*2+0)++AA id::((E.map Az.enc).flatMap SV.cells).drop (i*2+0+1)=CS (EO (Bz p id) x.dels (i+1)):=λhp=>by
  rw[Og (e':=(Bz p id d).enc) (Az.E.size E) t (by omega) (by simp[Bz,Kl,hp,Az.enc,SV.cells]),<-u,CS,List.map_set]
 have g4:p d.rev=false->EO (Bz p id) x.dels (i+1)=E:=λhp=>by
  rw[<-u,show Bz p id d=d by simp[Bz,Kl,hp]];obtain⟨k1,k2⟩:=qo.1 l;rw[<-k2];exact List.set_getElem_self k1
 obtain⟨S,H⟩:∃S,EO (Bz p id) x.dels (i+1)=S:=⟨_,rfl⟩
 rw[H]at B g4;have I:∀y F,W y E F j=some (.cells (CS E)):=λy F=>R.wd j rfl y E F;rw[show(E.map Az.enc).flatMap SV.cells=CS E from rfl]at L T B;simp only[jJ]at L T B;refine AY 0 [(1,AA id),(2,.fn (.func g) a b),(3,.ptr n 0),(6,.ptr (n+1) 0),(7,.ptr n 1),(34,AA x.dels.length),(35,AA i),(36,.bool true)] (W y E x.layers) m ?_ (λm7 hm7=>?_);simp[go_sem,IO,r,K];refine AY 0 [(1,AA id),(2,.fn (.func g) a b),(3,.ptr n 0),(6,.ptr (n+1) 0),(7,.ptr n 1),(34,AA x.dels.length),(35,AA i)] (W y E x.layers) m ?_ (λm8 hm8=>?_);simp[go_sem,IO,hm7];refine AT 0 (α:=Unit) (λ_=>[(1,AA id),(2,.fn (.func g) a b),(3,.ptr n 0),(6,.ptr (n+1) 0),(7,.ptr n 1),(34,AA x.dels.length),(35,AA i)]) (λ_=>W y S x.layers) (λ_ m'=>m<=m') (AR ?_) (λ_ m9 A=>?_);refine AY 0 [(1,AA id),(2,.fn (.func g) a b),(3,.ptr n 0),(6,.ptr (n+1) 0),(7,.ptr n 1),(34,AA x.dels.length),(35,AA i),(8,AA i)] (W y E x.layers) m ?_ (λm9 A=>?_);simp[go_sem,IO,hm8];refine AY 0 [(1,AA id),(2,.fn (.func g) a b),(3,.ptr n 0),(6,.ptr (n+1) 0),(7,.ptr n 1),(34,AA x.dels.length),(35,AA i),(8,AA i),(47,.bool (p d.rev))] (W y E x.layers) m ?_ (λm10 w=>?_);simp[go_sem,R.w0,I,r,L,T];refine qw (hid d.rev) ?_;simp[go_sem,IO,A];cases hp:p d.rev with
 | true=>
  refine Ah (b:=true) (by simp[go_sem]) (AH ?_);have B:=B hp;simp[go_sem,R.w0,I,r,L,B,R.sd j rfl,IO,w]
 | false=>
  refine Ah (b:=false) (by simp[go_sem]) (AH ?_);rw[g4 hp];simp[go_sem,IO,w]
 refine AH ?_;simp[go_sem,w1,IO,-Int.natCast_add];exact⟨i+1,by omega,⟨by omega,A⟩,IO,by rw[H];exact AB⟩;have:i=x.dels.length:=by omega
 subst this;rw[ND];refine AH ?_;simp[go_sem,IO];exact K;have Z:(x.dels.map (Bz p id)).length=x.dels.length:=qd _;refine Bc 0 [(1,AA id),(2,.fn (.func g) a b),(3,.ptr n 0),(6,.ptr (n+1) 0),(7,.ptr n 1)] (W y (Cz (x.dels.map (Bz p id)) x.dels.length) x.layers) m ?_ (λm5 C=>?_);rcases a1 with⟨_,N,z',f,rfl⟩|⟨j,f,rfl,O,P,rfl⟩
 have s:x.dels=[]:=by simpa using N
 refine AH ?_;simp[go_sem,R.w0,s];refine qw (by exact Zq.wk (us:=[.imm z' [] f,.fn (.func 120) [] []]) 1 ⟨BC (by simp),IO,trivial⟩) ?_;simp[go_sem,IO,Q,Cz];refine AH ?_;simp[go_sem,R.w0];by_cases s:x.dels=[];simp only[s,jI];refine qw (XT j f) ?_;simp[go_sem,IO,Q,Cz];have hl1:1<=(x.dels.map (Bz p id)).length:=by rw[Z];exact qA.2 s
 have c:=bR (x.dels.map (Bz p id)) hl1 (by omega) (full:=f) (n:=m4) (R.wd j rfl y (x.dels.map (Bz p id)) x.layers);rw[Z,R.sd j rfl]at c;refine qC c ?_;rintro v H' n' ⟨rfl,rfl,rfl⟩;simp[go_sem,IO,Q];have hll:=hs.layers;have U:(Cz (x.dels.map (Bz p id)) x.dels.length).length=x.dels.length:=by rw[HH,Z]
 obtain⟨D,hD⟩:∃D,Cz (x.dels.map (Bz p id)) x.dels.length=D:=⟨_,rfl⟩
 rw[hD]at U ⊢;refine Bc 0 [(1,AA id),(2,.fn (.func g) a b),(3,.ptr n 0),(6,.ptr (n+1) 0),(7,.ptr n 1)] (W y D (x.layers.map (CE p id))) m ?_ (λm4 Q=>?_);rcases a2 with⟨_,N,z',f,rfl⟩|⟨j,f,rfl,O,P,rfl⟩
 have s:x.layers=[]:=by simpa using N
 refine AH ?_;simp[go_sem,R.w0,s];refine An 0 (α:=Unit) (λ_=>[(1,AA id),(2,.fn (.func g) a b),(3,.ptr n 0),(6,.ptr (n+1) 0),(7,.ptr n 1),(66,AA 0),(67,AA 0)]) (λ_=>W y D []) (λ_ m'=>m<=m') (λ_=>0) () C ?_ AB ?_;simp[Ai,IO];rintro _ m5 J;simp[go_sem,IO,J];refine AY 0 [(1,AA id),(2,.fn (.func g) a b),(3,.ptr n 0),(6,.ptr (n+1) 0),(7,.ptr n 1),(66,AA x.layers.length),(67,AA 0)] (W y D x.layers) m ?_ (λm5 J=>?_);simp[go_sem,R.w0,IO,C];refine AR (BG 0 (α:=Nat) (λi=>[(1,AA id),(2,.fn (.func g) a b),(3,.ptr n 0),(6,.ptr (n+1) 0),(7,.ptr n 1),(66,AA x.layers.length),(67,AA i)]) (λi=>W y D (EO (CE p id) x.layers i)) (λi m'=>i<=x.layers.length/\m<=m') (λi=>x.layers.length-i) 0 ⟨qg _,J⟩ ?_ ?_ ?_);simp[Ai,IO];rw[Ll];exact AB;rintro i m6 ⟨hi,K⟩;by_cases r:i<x.layers.length;have w1:=wS i (by omega);have u:=Lk (CE p id) x.layers i r;have V:=NF (CE p id) x.layers i (kx r);have l:=NE (CE p id) x.layers i r;obtain⟨d,Y⟩:∃d,x.layers[i]=d:=⟨_,rfl⟩
 rw[Y]at u l;generalize hE:EO (CE p id) x.layers i=E at u V l;have t:(E.map Am.enc)[i]? = some d.enc:=by rw[qO,l];rfl
 obtain⟨L,T⟩:=K1 (Am.E.size E) t (k:=0) (c:=AA d.rev) rfl;have B:p d.rev=true->((E.map Am.enc).flatMap SV.cells).take (i*4+0)++AA id::((E.map Am.enc).flatMap SV.cells).drop (i*4+0+1)=Nv (EO (CE p id) x.layers (i+1)):=λhp=>by
  rw[Og (e':=(CE p id d).enc) (Am.E.size E) t (by omega) (by simp[CE,Kl,hp,Am.enc,SV.cells]),<-u,Nv,List.map_set]
 have g4:p d.rev=false->EO (CE p id) x.layers (i+1)=E:=λhp=>by
  rw[<-u,show CE p id d=d by simp[CE,Kl,hp]];obtain⟨k1,k2⟩:=qo.1 l;rw[<-k2];exact List.set_getElem_self k1
 obtain⟨S,H⟩:∃S,EO (CE p id) x.layers (i+1)=S:=⟨_,rfl⟩
 rw[H]at B g4;rw[show(E.map Am.enc).flatMap SV.cells=Nv E from rfl]at L T B;have I:∀y G,W y G E j=some (.cells (Nv E)):=λy G=>R.wl j rfl y G E;simp only[jJ]at L T B;refine AY 0 [(1,AA id),(2,.fn (.func g) a b),(3,.ptr n 0),(6,.ptr (n+1) 0),(7,.ptr n 1),(66,AA x.layers.length),(67,AA i),(68,.bool true)] (W y D E) m ?_ (λm7 hm7=>?_);simp[go_sem,IO,r,K];refine AY 0 [(1,AA id),(2,.fn (.func g) a b),(3,.ptr n 0),(6,.ptr (n+1) 0),(7,.ptr n 1),(66,AA x.layers.length),(67,AA i)] (W y D E) m ?_ (λm8 hm8=>?_);simp[go_sem,IO,hm7];refine AT 0 (α:=Unit) (λ_=>[(1,AA id),(2,.fn (.func g) a b),(3,.ptr n 0),(6,.ptr (n+1) 0),(7,.ptr n 1),(66,AA x.layers.length),(67,AA i)]) (λ_=>W y D S) (λ_ m'=>m<=m') (AR ?_) (λ_ m9 A=>?_);refine AY 0 [(1,AA id),(2,.fn (.func g) a b),(3,.ptr n 0),(6,.ptr (n+1) 0),(7,.ptr n 1),(66,AA x.layers.length),(67,AA i),(9,AA i)] (W y D E) m ?_ (λm9 A=>?_);simp[go_sem,IO,hm8];refine AY 0 [(1,AA id),(2,.fn (.func g) a b),(3,.ptr n 0),(6,.ptr (n+1) 0),(7,.ptr n 1),(66,AA x.layers.length),(67,AA i),(9,AA i),(79,.bool (p d.rev))] (W y D E) m ?_ (λm10 w=>?_);simp[go_sem,R.w0,I,r,L,T];refine qw (hid d.rev) ?_;simp[go_sem,IO,A];cases hp:p d.rev with
 | true=>
  refine Ah (b:=true) (by simp[go_sem]) (AH ?_);have B:=B hp;simp[go_sem,R.w0,I,r,L,B,R.sl j rfl,IO,w]
 | false=>
  refine Ah (b:=false) (by simp[go_sem]) (AH ?_);rw[g4 hp];simp[go_sem,IO,w]
 refine AH ?_;simp[go_sem,w1,IO,-Int.natCast_add];exact⟨i+1,by omega,⟨by omega,A⟩,IO,by rw[H];exact AB⟩;have:i=x.layers.length:=by omega
 subst this;rw[ND];refine AH ?_;simp[go_sem,IO];exact K;have hval:(Ji p id x).enc=.agg [Af x.props,AA y,AA x.move,AP D,AL (x.layers.map (CE p id))]:=by
  rw[<-hy,<-hD];rfl
 have e1:∀h',(∀j,o1=some j->h' j=some (.cells (CS D)))->Fz h' h 1 v1 (AP D):=λh' hh=>by
  rcases a1 with⟨_,N,z',f,rfl⟩|⟨j,f,rfl,O,P,rfl⟩
  have s:x.dels=[]:=by simpa using N
  have:D=[]:=kD (by rw[U,s];rfl);rw[this];exact BC (by simp);have:=DV (h':=h') (h:=h) (k:=0) (z:=2) (es:=D.map Az.enc) (full:=f) (full':=false) (o:=j) (ho.none (by omega)) (by simp) (hh j rfl) (Az.E.size D);rw[qd,U]at this;rw[qd];exact this
 have e2:∀h',(∀j,o2=some j->h' j=some (.cells (Nv (x.layers.map (CE p id)))))->Fz h' h 1 v2 (AL (x.layers.map (CE p id))):=λh' hh=>by
  rcases a2 with⟨_,N,z',f,rfl⟩|⟨j,f,rfl,O,P,rfl⟩
  have s:x.layers=[]:=by simpa using N
  rw[s];exact BC (by simp);have:=DV (h':=h') (h:=h) (k:=0) (z:=4) (es:=(x.layers.map (CE p id)).map Am.enc) (full:=f) (full':=false) (o:=j) (ho.none (by omega)) (by simp) (hh j rfl) (Am.E.size _);rw[qd,qd]at this;rw[qd];exact this
 obtain⟨s1,t1⟩:=a1.st;obtain⟨s2,t2⟩:=a2.st;have L1:=a1.lt;have L2:=a2.lt;simp only[SV.storable,SV.cells]at s1 t1 s2 t2;rw[hval];refine AH ?_;have W0:=R.w0 y D (x.layers.map (CE p id));have W1:=R.w1 y D (x.layers.map (CE p id));have WD:=λj e=>R.wd j e y D (x.layers.map (CE p id));have WL:=λj e=>R.wl j e y D (x.layers.map (CE p id));have WO:=R.old y D (x.layers.map (CE p id));simp[go_sem,W0,W1,AC];refine Dy (v:=.agg [Af x.props,AA y,AA x.move,AP D,AL (x.layers.map (CE p id))]) 2 ho (AJ (λj z e=>by have:=X j z e;omega) WO) (.inr ⟨IO,IO,IO,e1 _ (λj e=>?_),e2 _ (λj e=>?_),trivial⟩) (by simp[closed,closedL,Er.E.closedL,Az.E.closedL,Am.E.closedL,-List.map_map]);have:=L1 j e;rw[AD _ _ (by omega)];exact WD j e;have:=L2 j e;rw[AD _ _ (by omega)];exact WL j e
end
def Lw (a id:Int) (s:Unit) (p:BW):AF×Bool×Unit:=(if p.mid then Ji (λy=>y==a) id p.head else p.head,true,s)
theorem dI (n0:Nat) (r:Ax) (a:Int):ML Po n0 46 [] [.iptr [AA r.id,.str r.author,AA r.time],.iptr [AA a]] (Lw a r.id) (λx=>x.sized/\x.dels.length<20) where
 lt _ _ _:=rfl
 dom _ _ _ _:=rfl
 cl _ _ _ e:=by cases e
 call s p H n hp _ hn hs:=by
  rw[ZX];refine Db Tryz.func46 rfl λh=>?_;have d:=h.lt;have k:n+1≠n:=by omega
  obtain⟨X,i⟩:∃X:SV,X=.iptr (p.head.flat++[.bool p.mid,AA p.units]):=⟨_,rfl⟩
  refine BP 1 [(1,.iptr [AA r.id,.str r.author,AA r.time]),(2,.iptr [AA a]),(3,X),(4,.ptr (n+1) 0)] (hset H (n+1) (some (.cells [.imm 0 [] true,AA 0,AA 0,.imm 0 [] true,.imm 0 [] true]))) (λm=>n+2<=m) ?_ (λm hm=>?_);rw[i];simp[go_sem,BW.enc,AF.flat,IO];refine⟨AV (by rw[AD _ _ k.symm];exact h.none (qa n)) (by simp[hset]),λj y=>?_⟩;have:=d j y;simp only[hset];grind;have f:∀x:AF,closed n (.tup [x.enc,.bool true])=true:=λx=>by simp[closed,closedL,AF.E.cl]
  have fin:∀(x:AF) (y:BT) (m':Nat),Lw a r.id s p=(x,true,s)->B8 n (hset H (n+1) (some y)) m' (.tup [x.enc,.bool true]) (λv h' n'=>v=.tup [(Lw a r.id s p).1.enc,.bool (Lw a r.id s p).2.1]/\h'=H/\n'=n):=λx y m' e=>by rw[e];exact B9 h (f x) (AJ (λj z e=>by have:=d j z e;omega) AB)
  rw[i];refine AH ?_;cases c:p.mid with
  | false=>
   simp[go_sem,AF.flat,AC,AS];exact fin p.head _ _ (by simp[Lw,c])
  | true=>
   simp[go_sem,AF.flat];refine qw (by simpa[AF.enc,AF.flat]using Xn (g:=48) (a:=[]) (b:=[.iptr [AA a]]) (p:=λy=>y==a) p.head hp.1 hp.2 (λy=>c48 a y) r.id) ?_;simp[go_sem,AF.enc,AF.flat,AC,AS];exact fin (Ji (λy=>y==a) r.id p.head) _ _ (by simp[Lw,c])
def LP (x:AE):Bool:=(x.kind==7&&(match x.rows with|[]=>true|_::_=>false))||(x.kind==1&&x.text.size==0)
theorem JQ (x:AE):Co x↔LP x=true:=by
 unfold Co LP;cases h:x.rows<;>simp[]
def N1 (out:List AE) (x:AE):List AE:=
 if LP x then out else match out.getLast? with
  | some y=>if x.kind=1/\y.kind=1/\y.head=x.head then out.dropLast++[y.addText x.text]else out++[x]
  | none=>out++[x]
theorem Rx:BK=N1:=by
 funext out x;unfold BK N1;by_cases h:Co x;rw[if_pos h,if_pos ((JQ x).1 h)];rw[if_neg h,if_neg (λe=>h ((JQ x).2 e))];cases out.getLast? <;> rfl
theorem IE (l:List AE):Ac l=(AE.nrmL l).foldl N1 []:=by rw[Ac,EM,Rx]
def Cw:Ax:=⟨3,⟨#[65,110]⟩,0⟩
def Ci:Ax:=⟨4,⟨#[65,110]⟩,0⟩
def z0:AF:=⟨[],0,0,[],[]⟩
def hI (i:Int):AF:=⟨[],i,0,[],[]⟩
def LQ (i:Int) (t:ByteArray):AE:=.mk 1 0 0 t (hI i) [] []
def T5:AE:=LQ 3 ⟨#[97,98,99,100]⟩
def No:AE:=.mk 2 0 0 ⟨#[]⟩ z0 [] []
def FG:AK:=⟨[],[],[],[]⟩
def Ch:AI:=⟨[T5,No],z0,[Cw],FG⟩
def FF:Av:=⟨0,1,3⟩
def MJ (i:Int):List AE:=[LQ 3 ⟨#[97]⟩,LQ i ⟨#[98,99]⟩,LQ 3 ⟨#[100]⟩,No]
theorem mE (l:List AE) (a b:Int) (r:List AE) (h:ET l a b=0) (c:(AE.nrmL (Bj (Bj l b).1 a).2).foldl N1 []=r):Ad l a b=(r,0):=by
 rw[Ad,if_pos h,IE,c]
theorem rs1:Ad [T5,No] 0 1=([LQ 3 ⟨#[97]⟩],0):=mE _ _ _ _ (by kernel_rfl) (by kernel_rfl)
theorem rs2:Ad [T5,No] 1 3=([LQ 3 ⟨#[98,99]⟩],0):=mE _ _ _ _ (by kernel_rfl) (by kernel_rfl)
theorem rs3:Ad [T5,No] 3 5=([LQ 3 ⟨#[100]⟩,No],0):=mE _ _ _ _ (by kernel_rfl) (by kernel_rfl)
theorem YD:A8 [T5,No]=(5,0):=by kernel_rfl
section
variable {σ : Type}
theorem dJ (f:σ->BW->AF×Bool×σ) (revs:List Ax) (s:σ) (r:List AE×σ) (h:((BL f (Al f FF 1) false [LQ 3 ⟨#[97]⟩] s).1++(BL f (Al f FF 1) true [LQ 3 ⟨#[98,99]⟩] (BL f (Al f FF 1) false [LQ 3 ⟨#[97]⟩] s).2).1++(BL f (Al f FF 1) false [LQ 3 ⟨#[100]⟩,No] (BL f (Al f FF 1) true [LQ 3 ⟨#[98,99]⟩] (BL f (Al f FF 1) false [LQ 3 ⟨#[97]⟩] s).2).2).1,
 (BL f (Al f FF 1) false [LQ 3 ⟨#[100]⟩,No] (BL f (Al f FF 1) true [LQ 3 ⟨#[98,99]⟩] (BL f (Al f FF 1) false [LQ 3 ⟨#[97]⟩] s).2).2).2)=r):
 BR f FF 2 Ch revs s=(⟨r.1,(f r.2 ⟨z0,false,1⟩).1,revs,FG⟩,(f r.2 ⟨z0,false,1⟩).2.2):=by
 have e:Al f FF 2 0 Ch.flow false s=r:=by
  rw[<-h];show Al f FF 2 0 [T5,No] false s=_;rw[Al,if_pos (by kernel_rfl),YD];show(_,_)=_;rw[show FF.a=1 from rfl,show FF.b=3 from rfl,rs1,rs2,rs3]
 rw[BR,e];rfl
end
theorem w1:BR (CH (HQ 3)) FF 2 Ch [Cw] (0,0)=(⟨MJ 3,z0,[Cw],FG⟩,(2,2)):=by
 rw[dJ _ _ _ (MJ 3,(2,2)) (by kernel_rfl)];kernel_rfl
theorem w2:BR (CH λ(s:Unit) _=>s) FF 2 Ch [Cw] ()=(⟨MJ 3,z0,[Cw],FG⟩,()):=by
 rw[dJ _ _ _ (MJ 3,()) (by kernel_rfl)];kernel_rfl
theorem w3:BR (Lw 3 4) FF 2 Ch [Cw,Ci] ()=(⟨MJ 4,z0,[Cw,Ci],FG⟩,()):=by
 rw[dJ _ _ _ (MJ 4,()) (by kernel_rfl)];kernel_rfl
theorem cO:Ac (MJ 3)=[T5,No]:=by rw[IE];kernel_rfl
theorem nP4:Ac (MJ 4)=MJ 4:=by rw[IE];kernel_rfl
theorem n3:(⟨MJ 3,z0,[Cw],FG⟩:AI).normal=Ch:=by
 rw[AI.normal,AI.norm1,cO];kernel_rfl
theorem s34:DI [3,4]=[3,4]:=by unfold DI;first|exact List.mergeSort_of_sorted (by simp)|exact List.mergeSort_of_pairwise (by simp)|simp[List.mergeSort]
theorem u34:IS ⟨MJ 4,z0,[Cw,Ci],FG⟩=[3,4]:=by
 rw[IS,show((Bd [] (AE.usL (MJ 4)++z0.all)).filter λx=>decide (x≠0))=[3,4]by kernel_rfl,s34]
theorem n4:(⟨MJ 4,z0,[Cw,Ci],FG⟩:AI).normal=⟨MJ 4,z0,[Cw,Ci],FG⟩:=by
 rw[AI.normal,AI.norm1,nP4,u34];kernel_rfl
theorem b8:E9 2 Ch 3 FF=(2,2,0):=by
 rw[E9,if_neg (of_decide_eq_false (by kernel_rfl)),if_neg (of_decide_eq_false (by kernel_rfl)),if_neg (of_decide_eq_false (by kernel_rfl))];rw[show Ch.revs=[Cw]from rfl,w1]
def WF (h:AF):Prop:=h=z0\/h=hI 3
theorem GE {h:AF} (e:WF h):h.sized:=by
 rcases e with rfl|rfl<;>exact⟨by simp[z0,hI],by simp[z0,hI],by simp[z0,hI]⟩
theorem Ot {h:AF} (e:WF h):VB h:=by
 rcases e with rfl|rfl<;>exact⟨rfl,rfl,rfl⟩
theorem TJ {h:AF} (e:WF h):h.revs.length<=1048576:=by
 rcases e with rfl|rfl<;>exact of_decide_eq_true (by kernel_rfl)
theorem TK:Da WF 10 2 Ch.flow:=by
 refine⟨of_decide_eq_true (by kernel_rfl),of_decide_eq_true (by kernel_rfl),λx a=>?_⟩;have:x=T5\/x=No:=by simpa[Ch]using a
 rcases this with rfl|rfl;exact⟨.inr rfl,⟨by simp[T5,LQ,AE.flow],of_decide_eq_true (by kernel_rfl),by simp[T5,LQ,AE.flow]⟩,by simp[T5,LQ,AE.rows],by simp[T5,LQ,AE.rows]⟩;exact⟨.inl rfl,⟨by simp[No,AE.flow],of_decide_eq_true (by kernel_rfl),by simp[No,AE.flow]⟩,by simp[No,AE.rows],by simp[No,AE.rows]⟩
theorem Ia (i:Int) (t:ByteArray) (ht:t.size<=10):(LQ i t).sized:=by
 simp[LQ,AE.sized,AE.sizedL,Aa.sizedL];exact⟨by omega,by simp[hI],by simp[hI],by simp[hI]⟩
theorem Mj:No.sized:=by
 simp[No,AE.sized,AE.sizedL,Aa.sizedL];exact⟨of_decide_eq_true (by kernel_rfl),by simp[z0],by simp[z0],by simp[z0]⟩
theorem Lz:FG.sized:=⟨by simp[FG],by simp[FG],by simp[FG],by simp[FG],by simp[FG],by simp[FG]⟩
theorem Pv:z0.sized:=GE (.inl rfl)
theorem IZ (i:Int) (revs:List Ax) (h:revs.length<=10):(⟨MJ i,z0,revs,FG⟩:AI).sized:=
 ⟨by simp[MJ],by simp only[MJ,AE.sizedL];exact⟨Ia _ _ (of_decide_eq_true (by kernel_rfl)),Ia _ _ (of_decide_eq_true (by kernel_rfl)),Ia _ _ (of_decide_eq_true (by kernel_rfl)),Mj,trivial⟩,Pv,by show revs.length<=_;omega,Lz⟩
theorem Gb:Ch.sized:=
 ⟨by simp[Ch],by simp only[Ch,AE.sizedL];exact⟨Ia _ _ (of_decide_eq_true (by kernel_rfl)),Mj,trivial⟩,Pv,by simp[Ch],Lz⟩
theorem QG {d:AI} (hl:d.flow.length<=1048576) (a:AE.sizedL d.flow) {id:Int} {fl:Fl} (e:D9 d id=some fl):fl.items.length<=1048576/\∀x∈fl.items,x.text.size<=1048576:=by
 have o:=LU hl a fl (List.mem_of_find?_eq_some e);exact⟨o.1,kQ o.2⟩
theorem lZ:PC 13 [Ch.enc,AA 3,FF.enc] (.tup [AA 2,AA 2,AA 0]):=by
 have b:Ch.revs=[Cw]:=rfl;have:=ll WF 10 (by omega) (λh e=>⟨⟨GE e,TJ e⟩,GE e⟩) 2 Ch 3 FF TK (.inl rfl) (by simp[Ch]) (λfl a=>?_) ?_ ?_ ?_;rw[b8]at this;exact this;exact QG Gb.len Gb.flow a;rw[b,w1];exact IZ _ _ (by simp);rw[b,w1,n3];exact Gb;rw[b,w1,cO];exact of_decide_eq_true (by kernel_rfl)
theorem k42:PC 42 [Ci.enc] (AA 0):=by
 have:=W9 Ci
 rwa [show CL Ci=0 by kernel_rfl]at this
theorem k20:PC 20 [Ao [Cw],AA 4] (.tup [GV.enc,.bool false]):=by
 have:=V4 [Cw] (by simp) 4;have e:CA [Cw] 4=(GV,false):=by kernel_rfl
 rw[e]at this;exact this
theorem l8:PC 45 [Ao [Cw],Ci.enc] (.tup [Ao [Cw,Ci],AA 0]):=Xm [Cw] (by simp) (by simp) Ci (by kernel_rfl) (by kernel_rfl) 1 (by simp) (by kernel_rfl)
theorem cF {n0 t:Nat} {H:Hp} {n:Nat} (hn:n0<=n):BA Tryz.prog 36 [Ch.enc,FF.enc,.fn (.func 43) [] [.ptr t 0]] H n (λv h' n'=>v=.tup []/\h'=H/\n'=n):=by
 have a:Ch.revs=[Cw]:=rfl;have:=lv (sc:=FF) (v43 n0 t) WF 10 (by omega) (λh e=>⟨Ot e,GE e⟩) 2 Ch () TK (.inl rfl) ?_ ?_ ?_ (H:=H) hn (by rintro o y ⟨⟩);rw[ZX]at this;exact this;rw[a,w2];exact IZ _ _ (by simp);rw[a,w2,n3];exact Gb;rw[a,w2,cO];exact of_decide_eq_true (by kernel_rfl)
theorem cG {n0:Nat} {H:Hp} {n:Nat} (hn:n0<=n):BA Tryz.prog 49 [.fn (.func 46) [] [.iptr [AA 4,.str ⟨#[65,110]⟩,AA 0],.iptr [AA 3]],Ch.enc,FF.enc,Ao [Cw,Ci]] H n (λv h' n'=>v=(⟨MJ 4,z0,[Cw,Ci],FG⟩:AI).enc/\h'=H/\n'=n):=by
 have:=lx (sc:=FF) (dI n0 Ci 3) WF 10 (by omega) (λh e=>⟨⟨GE e,by rw[(Ot e).dels];simp⟩,GE e⟩) 2 Ch [Cw,Ci] () TK (.inl rfl) ?_ ?_ ?_ (H:=H) hn (by rintro o y ⟨⟩);rw[ZX,show Ci.id=4 from rfl,w3,n4]at this;exact this;rw[show Ci.id=4 from rfl,w3];exact IZ _ _ (by simp);rw[show Ci.id=4 from rfl,w3,n4];exact IZ _ _ (by simp);rw[show Ci.id=4 from rfl,w3,nP4];exact of_decide_eq_true (by kernel_rfl)
set_option maxHeartbeats 4000000 in
theorem ld:PC 15 [Ch.enc,AA 3,FF.enc,Ci.enc] (.tup [(⟨MJ 4,z0,[Cw,Ci],FG⟩:AI).enc,AA 0]):=by
 intro h n;refine Db Tryz.func15 rfl λl=>?_;have d:=l.lt;obtain⟨X,g⟩:∃X:SV,X=.iptr ([AG Ch.flow]++Ch.«end».flat++[Ao Ch.revs]++Ch.settings.flat):=⟨_,rfl⟩
 obtain⟨S,s⟩:∃S:SV,S=.iptr [AA FF.id,AA FF.a,AA FF.b]:=⟨_,rfl⟩
 obtain⟨V,p⟩:∃V:SV,V=.iptr [AA Ci.id,.str Ci.author,AA Ci.time]:=⟨_,rfl⟩
 obtain⟨G,r⟩:∃G:Hp,G=hset h (n+4) (some (.cells C8)):=⟨_,rfl⟩
 have f:∀j y,G j=some y->j<n+5:=λj y e=>by
  rw[r]at e;simp only[hset]at e;split at e;omega;have:=d j y e;omega
 have u:∀j y,h j=some y->G j=some y:=λj y e=>by rw[r];exact AJ (λj z e=>by have:=d j z e;omega) AB j y e
 have t:G (n+4)=some (.cells C8):=by rw[r,AC]
 refine BP 1 [(4,X),(5,.iptr [AA 3]),(6,S),(7,V),(8,.ptr (n+4) 0)] G (λm=>n+5<=m) ?_ (λm c=>?_);rw[g,s,p,r];simp[go_sem,Av.enc,AI.enc,AF.flat,AK.flat,Ax.enc,IO,qD,C8];refine⟨⟨AV (by simp[hset];exact l.none (by omega)) (by simp[hset]),AV (by simp[hset];exact l.none (by omega)) (by simp[hset]),AV (by simp[hset];exact l.none (by omega)) (by simp[hset]),AV (by simp[hset];exact l.none (by omega)) (by simp[hset])⟩,λj y=>?_⟩;have:=d j y;simp only[hset];grind;have w:∀E:AI,closed n (.tup [E.enc,AA 0])=true:=λE=>by simp[AI.enc,AF.flat,AK.flat,closed,closedL,AE.E.closedL,Er.E.closedL,Az.E.closedL,Am.E.closedL,Ax.E.closedL,A6.E.closedL,Fb.E.closedL,Au.E.closedL,Ft.E.closedL]
 refine BP 0 [(4,X),(5,.iptr [AA 3]),(6,S),(7,V),(8,.ptr (n+4) 0),(10,AA 2),(11,AA 2),(12,AA 0)] G (λm=>n+5<=m) ?_ (λm c=>?_);rw[g,s];simp[go_sem,AF.flat,AK.flat];refine qw (by simpa[Av.enc,AI.enc,AF.flat,AK.flat]using lZ) ?_;simp[go_sem,IO,c];refine Bo 0 [(4,X),(5,.iptr [AA 3]),(6,S),(7,V),(8,.ptr (n+4) 0),(10,AA 2),(11,AA 2)] G (λm=>n+5<=m) (AH ?_) (λm c=>?_);simp[go_sem,IO,c];refine Bo 0 [(4,X),(5,.iptr [AA 3]),(6,S),(7,V),(8,.ptr (n+4) 0),(10,AA 2),(11,AA 2)] G (λm=>n+5<=m) (AH ?_) (λm c=>?_);rw[p];simp[go_sem];refine qw (by simpa[Ax.enc]using k42) ?_;simp[go_sem,IO,c];refine Bo 0 [(4,X),(5,.iptr [AA 3]),(6,S),(7,V),(8,.ptr (n+4) 0),(10,AA 2),(11,AA 2)] G (λm=>n+5<=m) (AH ?_) (λm c=>?_);rw[g,p];simp[go_sem,AF.flat,AK.flat];refine qw (by simpa[Ci,Ch]using k20) ?_;simp[go_sem,IO,Ax.enc,AC,AS];exact⟨by omega,AJ (λj z e=>by have:=f j z e;omega) AB⟩;refine Bo 0 [(4,X),(5,.iptr [AA 3]),(6,S),(7,V),(8,.ptr (n+4) 0)] G (λm=>n+5<=m) (AH ?_) (λm c=>?_);rw[g];simp[go_sem,AF.flat,AK.flat,IO,c,Ch];refine BM 0 (α:=Nat) (λk=>[(4,X),(5,.iptr [AA 3]),(6,S),(7,V),(8,.ptr (n+4) 0),(16,.ptr (k+1) 0)]) (λk=>hset (hset G k (some (.map []))) (k+1) (some (.cells [.map k]))) (λk m=>n+5<=k/\k+1<m) ?_ (λk m c=>?_);simp[go_sem,IO,AS,AC];exact⟨m,⟨by omega,by omega⟩,rfl,AB⟩;obtain⟨hk1,x⟩:=c;refine BP 0 [(4,X),(5,.iptr [AA 3]),(6,S),(7,V),(8,.ptr (n+4) 0),(16,.ptr (k+1) 0)] (hset (hset G k (some (.map []))) (k+1) (some (.cells [.map k]))) (λm=>k+1<m) ?_ (λm c=>?_);rw[g,s];simp[go_sem,AF.flat,AK.flat];refine qC (by simpa[Av.enc,AI.enc,AF.flat,AK.flat]using cF (n0:=0) (qg _)) ?_;rintro v B n' ⟨rfl,rfl,rfl⟩;simp[go_sem,IO,x];refine Bo 0 [(4,X),(5,.iptr [AA 3]),(6,S),(7,V),(8,.ptr (n+4) 0)] G (λm=>n+5<=m) (AH ?_) (λm c=>?_);simp[go_sem,AC];refine NQ (m:=k) (es:=[]) rfl (by simp[go_sem]) (by simp[go_sem]) (by simp[hset]) ?_;simp[go_sem];refine An 0 (α:=Unit) (λ_=>[(69,.ptr m 0),(4,X),(5,.iptr [AA 3]),(6,S),(7,V),(8,.ptr (n+4) 0)]) (λ_=>hset G m (some (.iter [] none))) (λ_ m2=>m<m2) (λ_=>0) () (qP m) ?_ ?_ ?_;simp[Ai,IO];intro o y e;simp only[hset]at e ⊢;by_cases A:o=m;rw[if_pos A]at e ⊢;exact e;rw[if_neg A]at e ⊢;have:=f o y e;rw[if_neg (by omega),if_neg (by omega),if_neg (by omega)];exact e;rintro _ m2 hm2;simp[go_sem];refine Pg (q:=m) (left:=[]) (last:=none) rfl (by simp[go_sem]) (AC _ _ _) (λi hi=>absurd hi (by simp)) λ_=>?_;simp[go_sem,IO];exact⟨by omega,AJ (λj z e=>by have:=f j z e;omega) AB⟩;refine BP 0 [(4,X),(5,.iptr [AA 3]),(6,S),(7,V),(8,.ptr (n+4) 0),(19,Ao [Cw,Ci]),(12,AA 0)] G (λm=>n+5<=m) ?_ (λm c=>?_);rw[g,p];simp[go_sem,AF.flat,AK.flat];refine qw (by simpa[Ax.enc,Ch]using l8) ?_;simp[go_sem,IO,c];refine Bo 0 [(4,X),(5,.iptr [AA 3]),(6,S),(7,V),(8,.ptr (n+4) 0),(19,Ao [Cw,Ci])] G (λm=>n+5<=m) (AH ?_) (λm c=>?_);simp[go_sem,IO,c];refine BP 0 [(4,X),(6,S),(8,.ptr (n+4) 0),(19,Ao [Cw,Ci]),(20,.fn (.func 46) [] [V,.iptr [AA 3]])] G (λm=>n+5<=m) ?_ (λm c=>?_);simp[go_sem,IO,c];refine AH ?_;rw[g,s,p];simp[go_sem,AF.flat,AK.flat];refine qC (by simpa[Av.enc,AI.enc,AF.flat,AK.flat,Ci]using cG (n0:=0) (qg _)) ?_;rintro v B n' ⟨rfl,rfl,rfl⟩;simp[go_sem,t,C8,AI.enc,AF.flat,AK.flat,AC];exact Ay l (AJ (λj z e=>by have:=d j z e;omega) u) rfl (w ⟨MJ 4,z0,[Cw,Ci],FG⟩)
theorem AI.cl (n:Nat) (E:AI):closed n E.enc=true:=by simp[AI.enc,AF.flat,AK.flat,closed,closedL,AE.E.closedL,Er.E.closedL,Az.E.closedL,Am.E.closedL,Ax.E.closedL,A6.E.closedL,Fb.E.closedL,Au.E.closedL,Ft.E.closedL]
theorem k32:PC 32 [] Ch.enc:=by
 intro h n;refine gq Tryz.func32 rfl λa=>?_;have i:n≠n+1:=by omega
 have j:n≠n+1+1:=by omega
 have d:n+1≠n:=by omega
 have f:n+1+1≠n:=by omega
 have g:n+1≠n+1+1:=by omega
 simp[go_sem,AC,AD,j];refine Dy 3 a (λo y e=>?_) ?_ (AI.cl n Ch);have:=(a o y e).1;rw[AD _ _ (by omega),AD _ _ (by omega),AD _ _ (by omega),AD _ _ (by omega)];exact e;have b:h (n+1)=none:=a.none (by omega);have c:h (n+1+1)=none:=a.none (by omega);refine .inr ⟨.inr ⟨b,by simp,rfl,rfl,_,_,by rw[AD _ _ d,AD _ _ g,AC],rfl,?_,?_⟩,?_,IO,IO,?_,?_,.inr ⟨c,by simp,rfl,rfl,_,_,by rw[AD _ _ f,AC],rfl,?_,?_⟩,?_,?_,?_,?_,trivial⟩;exact AE.E.size _;exact⟨IO,IO,IO,IO,BC (by simp),IO,IO,BC (by simp),BC (by simp),BC (by simp),BC (by simp),IO,IO,IO,IO,BC (by simp),IO,IO,BC (by simp),BC (by simp),BC (by simp),BC (by simp),trivial⟩;exact BC (by simp);exact BC (by simp);exact BC (by simp);exact Ax.E.size _;exact⟨IO,IO,IO,trivial⟩;exact BC (by simp);exact BC (by simp);exact BC (by simp);exact BC (by simp)
set_option maxHeartbeats 2000000 in
theorem k11:PC 11 [] (.bool true):=by
 intro h n;refine Db Tryz.func11 rfl λx=>?_;have a:=x.lt;obtain⟨A,u⟩:∃A:SV,A=.imm 11 ((MJ 4).map AE.enc) false:=⟨_,rfl⟩
 obtain⟨R,w⟩:∃R:SV,R=Ao [Cw,Ci]:=⟨_,rfl⟩
 refine AY 0 [] h n ?_ (λm B=>?_);simp[go_sem];refine AY 1 [(1,.iptr [A,Af [],AA 0,AA 0,AP [],AL [],R,Ae [],Di [],BZ [],FI []]),(2,AA 0)] h n ?_ (λm B=>?_);simp[go_sem];refine qw k32 ?_;simp[go_sem];have e:(⟨MJ 4,z0,[Cw,Ci],FG⟩:AI).enc=.agg [A,Af [],AA 0,AA 0,AP [],AL [],R,Ae [],Di [],BZ [],FI []]:=by rw[u,w];rfl
 have k:=ld;rw[e]at k;refine qw (v:=.tup [.agg [A,Af [],AA 0,AA 0,AP [],AL [],R,Ae [],Di [],BZ [],FI []],AA 0]) k ?_;simp[go_sem,IO,AC,AS];exact⟨by omega,AV (AW (λj y e=>by have:=a j y e;omega) (qa m)) (AC _ _ _),AJ (λj z e=>by have:=a j z e;omega) AB⟩;obtain⟨d,p⟩:∃d:SV,d=(LQ 3 ⟨#[97]⟩).enc:=⟨_,rfl⟩
 obtain⟨i,q⟩:∃i:SV,i=No.enc:=⟨_,rfl⟩
 obtain⟨f,b⟩:∃f:SV,f=.agg [AA 1,AA 0,AA 0,.str ⟨#[98,99]⟩,Af [],AA 4,AA 0,AP [],AL [],AG [],A3 []]:=⟨_,rfl⟩
 obtain⟨g,c⟩:∃g:SV,g=.agg [AA 1,AA 0,AA 0,.str ⟨#[100]⟩,Af [],AA 3,AA 0,AP [],AL [],AG [],A3 []]:=⟨_,rfl⟩
 have l:A=.imm 11 [d,f,g,i] false:=by rw[u,p,b,c,q];rfl
 obtain⟨r0,r⟩:∃r0:SV,r0=Cw.enc:=⟨_,rfl⟩
 obtain⟨t,s⟩:∃t:SV,t=Ci.enc:=⟨_,rfl⟩
 have o:R=.imm 3 [r0,t] false:=by rw[w,r,s];rfl
 refine AH ?_;rw[l,o,b,c];simp[go_sem];exact As x rfl rfl
theorem Q9 {α β γ σ:Type} (c:β×σ->α->β×σ) (d:γ×σ->α->γ×σ):∀(l:List α) (a:β) (b:γ) (s:σ),(∀x∈l,∀a b s,(c (a,s) x).2=(d (b,s) x).2)->(l.foldl c (a,s)).2=(l.foldl d (b,s)).2
 | [],_,_,_,_=>rfl
 | x::l,a,b,s,h=>by
  have e:=h x (by simp) a b s;simp only[qM];have f:c (a,s) x=((c (a,s) x).1,(c (a,s) x).2):=rfl;have h2:d (b,s) x=((d (b,s) x).1,(c (a,s) x).2):=by rw[e]
  rw[f,h2];exact Q9 c d l _ _ _ λy g=>h y (by simp[g])
section
variable {σ : Type}
def zF (u:σ->BW->σ) (s:σ) (x:BW):AF×Bool×σ:=(Fo,true,u s x)
theorem Lr (u:σ->BW->σ) (it:Int->List AE->Bool->σ->List AE×σ) (fl:Int->List AE->Av->Bool->σ->List AE×σ) (sc:Av) (mid:Bool) (l:List AE) (s:σ)
 (e:∀x∈l,x.kind≠7->x.rows=[]) (f:∀x∈l,x.kind=6->∀s,(it x.id x.flow mid s).2=(fl x.id x.flow sc mid s).2)
 (g:∀x∈l,∀r∈x.rows,∀c∈r.cells,∀s,(it c.id c.flow mid s).2=(fl c.id c.flow sc mid s).2):(BL (CH u) it mid l s).2=(Bq (zF u) fl sc mid l s).2:=by
 unfold BL Bq;refine Q9 _ _ l _ _ _ λx d a b s=>?_;simp only[Bt,CH,Dq,zF,if_true,By,K3];by_cases k6:x.kind=6;have:x.rows=[]:=e x d (by omega);simp only[k6,this,FH,if_true,List.foldl_nil];exact f x d k6 _;by_cases k7:x.kind=7;simp only[k7,if_true];simp only[show(7:Int)=6↔False by decide,if_false];unfold GT FH;refine Q9 _ _ _ _ _ _ λr h a b s=>?_;simp only[DM,CW,Hj,CH,zF,if_true];unfold DQ Dh;refine Q9 _ _ _ _ _ _ λc hc a b s=>?_;simp only[Cg,CG,CH,zF,if_true];exact g x d r h c hc _;simp only[k6,k7,if_false,e x d k7,FH,List.foldl_nil]
end
def Gy (T:Int->Prop):Nat->List AE->Prop
 | 0,_=>True
 | N+1,l=>∀x∈l,(x.kind≠7->x.rows=[])/\(x.kind=6->T x.id)/\Gy T N x.flow/\∀r∈x.rows,∀c∈r.cells,T c.id/\Gy T N c.flow
section
variable {σ : Type}
theorem ZW (u:σ->BW->σ) (sc:Av):∀(N:Nat) (id:Int) (l:List AE) (mid:Bool) (s:σ),Gy (λi=>i≠sc.id/\i ≠ -1) N l->(mid=true\/(id≠sc.id/\id ≠ -1))->(Al (CH u) sc N id l mid s).2=(Aw (zF u) N id l AX mid s).2
 | 0,_,_,_,_,_,_=>rfl
 | N + 1, id, l, mid, s, hg, hid => by
  have d:¬EX sc id l mid=true:=by rcases hid with rfl|⟨h,_⟩<;>simp[EX, *]
  have e:¬(id=AX.id/\mid=false):=by rcases hid with rfl|⟨_,h⟩<;>simp[AX, *]
  rw[Al,Aw,if_neg d,if_neg e];exact Lr u _ _ _ _ l s (λx a=>(hg x a).1) (λx a k6 s=>ZW u sc N _ _ _ _ (hg x a).2.2.1 (.inr ((hg x a).2.1 k6)))
   (λx a r b c hc s=>ZW u sc N _ _ _ _ ((hg x a).2.2.2 r b c hc).2 (.inr ((hg x a).2.2.2 r b c hc).1))
theorem Lo {α β:Type} {f:α->List β} {l:List α} (h:(l.flatMap f).Nodup) {x:α} (b:x∈l):(f x).Nodup:=by
 induction l with
 | nil=>cases b
 | cons a l ih=>
  rw[qK,List.nodup_append]at h;rcases qk.1 b with rfl|b;exact h.1;exact ih h.2.1 b
end
theorem NN {id:Int}:∀{l:List Ax},(GU id l).2=true->∃r∈l,r.id=id
 | [],h=>by simp[GU]at h
 | r::l,h=>by
  rw[GU]at h;split at h;exact⟨r,by simp,by assumption⟩;obtain⟨q,a,h2⟩:=NN h;exact⟨q,by simp[a],h2⟩
theorem NM {l:List Ax} {id:Int} (h:(CA l id).2=true):∃r∈l,r.id=id:=by
 unfold CA at h;split at h;split at h;rename_i h1 h2;have a:=LF _ _ h2;simp only[BI,decide_eq_true_eq]at h2 a;obtain⟨k,b⟩:∃k,k=Fd (Gr l id) 0 l.length:=⟨_,rfl⟩
 rw[<-b]at h2 a;refine⟨_,ql a,?_⟩;have:=h2.2;unfold Gr at this;rw[qf a]at this;simp only[Do]at this;split at this;omega;split at this;omega;omega;simp at h;exact NN h
theorem Jv {F:Nat->Int} {n:Nat} (h:FK F n=0):∀k,k<n->F k=0:=λk hk=>by
 induction n with
 | zero=>omega
 | succ n ih=>
  rw[FK]at h;split at h;rename_i h0;by_cases e:k=n;rw[e];exact h;exact ih h0 (by omega);omega
def J5 (m2:List Int) (h:AF):Prop:=h.sized/\RB m2 h
theorem NV:∀(l:List AE),(∀x∈l,x.text.size<=1000)->Ap l<=l.length*1000
 | [],_=>by simp[Ap]
 | x::l,h=>by
  have h1:=NV l λy a=>h y (by simp[a]);have h2:=h x (by simp);have e:Ap (x::l)=x.text.size+Ap l:=by simp[Ap]
  simp only[qF];omega
theorem Np {m2:List Int} {B:Nat}:∀{N:Nat} {l:List AE},Da AF.sized B N l->MP N l->RJ m2 N l->Da (J5 m2) 150000 N l
 | 0,_,h,_,_=>h.elim
 | N+1,l,hl,hf,hk=>by
  obtain⟨_,_,k⟩:=dS.1 hl;obtain⟨f1,f2⟩:=hf;refine dS.2 ⟨by omega,?_,λx a=>?_⟩;have:=NV l λx a=>(f2 x a).1.1;omega;obtain⟨a1,a2,a3,a4⟩:=k x a;obtain⟨⟨b1,b2⟩,e,f⟩:=f2 x a;obtain⟨c1,g,i,_,j⟩:=hk x a;refine⟨⟨a1,g.toRB⟩,Np a2 e i,by omega,λr b=>?_⟩;obtain⟨m,u2,d⟩:=a4 r b;obtain⟨v1,n⟩:=f r b;obtain⟨w1,w2⟩:=j r b;exact⟨⟨m,w1.1.toRB⟩,by omega,λc hc=>⟨⟨(d c hc).1,(w2 c hc).1.toRB⟩,Np (d c hc).2 (n c hc) (w2 c hc).2⟩⟩
section
variable {hp : AF → Prop} {σ : Type} {f : σ → BW → AF × Bool × σ} {K N : Nat}
theorem If (k:∀s p,hp p.head->hp (f s p).1):∀(N:Nat) (id:Int) (l:List AE) (sc:Av) (mid:Bool) (s:σ),Da hp K N l->Da hp (3*K) N (Aw f N id l sc mid s).1
 | 0,_,_,_,_,_,h=>h.elim
 | N + 1, id, l, sc, mid, s, h => by
  have d:∀sc mid l s,Da hp K (N+1) l->(Bq f (Aw f N) sc mid l s).1.length<=K/\Ap (Bq f (Aw f N) sc mid l s).1<=K/\∀x∈(Bq f (Aw f N) sc mid l s).1,Lh hp (3*K) N x:=by
   clear h;intro sc mid l s h;obtain⟨u,h2,v⟩:=dS.1 h;have cells:∀(cs:List Wl) s,cs.length<=K->(∀c∈cs,hp c.head/\Da hp K N c.flow)->(Dh f (Aw f N) sc mid cs s).1.length<=3*K/\∀c∈(Dh f (Aw f N) sc mid cs s).1,hp c.head/\Da hp (3*K) N c.flow:=λcs s hl hc=>by
    refine⟨by have:=Lg (f:=f) (fl:=Aw f N) (sc:=sc) (mid:=mid) cs ([],s);simp at this;unfold Dh;omega,?_⟩;refine FQ _ (λq:List Wl×σ=>∀c∈q.1,hp c.head/\Da hp (3*K) N c.flow) cs _ (by simp) λq c g i=>?_;unfold CG;dsimp only;split;exact Eu i ⟨k _ _ (hc c g).1,If k N _ _ _ _ _ (hc c g).2⟩;exact i
   have rows:∀(rs:List Aa) s,rs.length<=K->(∀r∈rs,hp r.head/\r.cells.length<=K/\∀c∈r.cells,hp c.head/\Da hp K N c.flow)->(FH f (Aw f N) sc mid rs s).1.length<=3*K/\∀r∈(FH f (Aw f N) sc mid rs s).1,hp r.head/\r.cells.length<=3*K/\∀c∈r.cells,hp c.head/\Da hp (3*K) N c.flow:=λrs s hl hc=>by
    refine⟨by have:=NB (f:=f) (fl:=Aw f N) (sc:=sc) (mid:=mid) rs ([],s);simp at this;unfold FH;omega,?_⟩;refine FQ _ (λq:List Aa×σ=>∀r∈q.1,hp r.head/\r.cells.length<=3*K/\∀c∈r.cells,hp c.head/\Da hp (3*K) N c.flow) rs _ (by simp) λq r g i=>?_;unfold CW;dsimp only;split;exact Eu i ⟨k _ _ (hc r g).1,cells _ _ (hc r g).2.1 (hc r g).2.2⟩;exact i
   refine⟨by have:=G6 (f:=f) (fl:=Aw f N) (sc:=sc) (mid:=mid) l ([],s);simp at this;unfold Bq;omega,?_,?_⟩;have:∀(l:List AE) (q:List AE×σ),Ap (l.foldl (Dq f (Aw f N) sc mid) q).1<=Ap q.1+Ap l:=by
    intro l
    induction l with
    | nil=>intro q;simp
    | cons a l ih =>
     intro q;have e:Ap (a::l)=a.text.size+Ap l:=by simp[Ap]
     have u:=ih (Dq f (Aw f N) sc mid q a);have h2:Ap (Dq f (Aw f N) sc mid q a).1<=Ap q.1+a.text.size:=by
      unfold Dq;dsimp only;split;rw[Cq];simp[Ap,AE.put,AE.text];omega
     simp only[qM];omega
   have:=this l ([],s);have t:Ap []=0:=rfl;unfold Bq;simp only[t]at this;omega;refine FQ _ (λq:List AE×σ=>∀x∈q.1,Lh hp (3*K) N x) l _ (by simp) λq x g i=>?_;obtain⟨a1,a2,a3,a4⟩:=v x g;unfold Dq;dsimp only;split;refine Eu i ?_;have w:K<=3*K:=by omega
   have up:Da hp (3*K) N x.flow:=a2.mono (λ_ h=>h) w;refine⟨k _ _ a1,?_,rows _ _ a3 a4⟩;show Da hp (3*K) N (K3 (Aw f N) sc mid x _).1;unfold K3;split;exact If k N _ _ _ _ _ a2;exact up;exact i
  rw[Aw];split;have m:=d AX false _ s (DB 0 sc.a h);generalize Bq f (Aw f N) AX false (Ad l 0 sc.a).1 s=q1 at m ⊢;have n:=d AX true _ q1.2 (DB sc.a sc.b h);dsimp only;generalize Bq f (Aw f N) AX true (Ad l sc.a sc.b).1 q1.2=q2 at n ⊢;have o:=d AX false _ q2.2 (DB sc.b (A8 l).1 h);generalize Bq f (Aw f N) AX false (Ad l sc.b (A8 l).1).1 q2.2=q3 at o ⊢;refine dS.2 ⟨by simp;omega,by simp only[Cq];omega,λx j=>?_⟩;simp only[qe]at j;rcases j with(j|j)|j;exact m.2.2 x j;exact n.2.2 x j;exact o.2.2 x j;have m:=d sc mid _ s h;exact dS.2 ⟨by omega,by omega,m.2.2⟩
end
theorem Qo {m2:List Int} {h:AF} (H:J5 m2 h):∀u∈h.all,u∈0::m2:=λu b=>by
 have k:=H.2;simp only[AF.all,qk,qe,qy]at b ⊢;rcases b with rfl|⟨x,a,rfl⟩|⟨x,a,rfl⟩
 rcases k.ins with e|e;exact .inl e;exact .inr e;exact .inr (k.dels x a);exact .inr (k.layers x a)
theorem JP {m2:List Int} {K N:Nat} {W:AI} (hm:m2.length<=1000) (d:K<=1048576) (h:Da (J5 m2) K N W.flow) (b:J5 m2 W.«end») (e:W.revs.length<=1048576) (f:W.settings.sized):
 W.sized/\W.normal.sized/\(Bd [] (AE.usL (Ac W.flow)++W.«end».all)).length<=1048576:=by
 have c:=h.sized (λx g=>g.1) d;have h2:=(FT h).sized (λx g=>g.1) d;refine⟨⟨c.1,c.2,b.1,e,f⟩,⟨h2.1,h2.2,b.1,?_,f⟩,?_⟩;exact qr (qU _ _) e;refine qr (UW (L:=0::m2) λu a=>?_) (by simp only[qF];omega);rcases qe.1 a with a|a;exact QR (λh g=>Qo g) (FT h) u a;exact Qo b u a
theorem TV (m2:List Int):J5 m2 Fo:=⟨⟨by simp[Fo],by simp[Fo],by simp[Fo]⟩,⟨.inl rfl,by simp[Fo],by simp[Fo],by simp[Fo],by simp[Fo]⟩⟩
theorem ij {m2:List Int} {h:AF} (g:J5 m2 h):h.revs.length<=1048576:=by
 have a:=g.2.dlen;have b:=g.2.llen;unfold AF.revs;split<;>simp<;>omega
theorem Ka {l:List Ax} (h:EY l=0):l.length<=256:=by
 unfold EY at h;have hl:¬(256:Int)<l.length:=λg=>by simp[CJ,g]at h
 omega
structure ki where
 rev:Int
 sc:Av
 next:Ax
def ki.enc (c:ki):SV:=.agg [AA c.rev,AA c.sc.id,AA c.sc.a,AA c.sc.b,AA c.next.id,.str c.next.author,AA c.next.time]
def TA (w:World):Cx:=⟨λ_=>none,λ_=>False,w,λ_=>none⟩
def BB:Nat:=1048576
section
variable {H : Type} (enc : TypeId × Value → H) (P : Program) (w : World) (base : Nat) (spare : Nat → Bool) (Bf : Bool)
variable {α β : Type}
def Rd (k:Nat) (e:TypeId) (F:α->List SV) (z:Nat) (ok:α->Prop) (μ:α->Nat):Prop:=
 ∀cs x,DataW.trod enc P w base spare Bf k e cs=some x->Rows.uptoBulk x.1<=BB->∃a,VL (TA w) (F a) cs/\cs.length=z/\(∀v∈cs,v.oneCell'=true)/\ok a/\μ a+1<=Rows.uptoBulk x.1
def Ct (n:Nat) (L:Nat) (fs:List Field) (o:Nat) (F:α->List SV) (ok:α->Prop) (μ:α->Nat):Prop:=
 ∀(cs:List Value) (xs:List (DataW H×List MemPlace)),cs.length=L->xs.length=fs.length->(∀(i:Nat) (f:Field),fs[i]? = some f->DataW.trod enc P w base spare Bf n f.type ((cs.drop f.offset).take (P.cellsOf f.type))=xs[i]?)->
  Rows.uptoBulkAll (xs.map (·.1))<=BB->∃b,VL (TA w) (F b) (cs.drop o)/\(∀v∈cs.drop o,v.oneCell'=true)/\ok b/\μ b<=Rows.uptoBulkAll (xs.map (·.1))
variable {enc P w base spare Bf}
theorem Vt {c:Cx} {a b:List SV} {x y:List Value} (h:VL c a x) (g:VL c b y):VL c (a++b) (x++y):=BN.2 (jS (BN.1 h) (BN.1 g))
theorem Ct.nil {n L:Nat}:Ct enc P w base spare Bf n L [] L (λ_:Unit=>[]) (λ_=>True) (λ_=>0):=λcs xs h1 h2 _ _=>by
 have:cs.drop L=[]:=jF (by omega);exact⟨(),by rw[this,VL],by rw[this];simp,trivial,qg _⟩
theorem Ct.cons {n L:Nat} {f:Field} {l:List Field} {o z:Nat} {g:α->List SV} {h:β->List SV} {d:α->Prop} {e:β->Prop} {μ1:α->Nat} {μ2:β->Nat} (y:Rd enc P w base spare Bf n f.type g z d μ1) (C:P.cellsOf f.type=z) (B:f.offset=o)
 (h2:Ct enc P w base spare Bf n L l (o+z) h e μ2):Ct enc P w base spare Bf n L (f::l) o (λp:α×β=>g p.1++h p.2) (λp=>d p.1/\e p.2) (λp=>μ1 p.1+μ2 p.2):=λcs xs t m q u=>by
 cases xs with
 | nil=>simp at m
 | cons x xs=>
  simp only[qu,Rows.uptoBulkAll]at u;have j:=q 0 f rfl;rw[B,C]at j;obtain⟨a,a1,a2,a3,a4,a5⟩:=y _ x (by simpa using j) (by omega);obtain⟨b,b1,r,s,b4⟩:=h2 cs xs t (by simpa using m) (λi f' A=>by have:=q (i+1) f' (by simpa using A);simpa using this) (by omega);have k:cs.drop o=(cs.drop o).take z++cs.drop (o+z):=by rw[<-List.drop_drop,ja]
  refine⟨(a,b),?_,?_,⟨a4,s⟩,?_⟩;rw[k];exact Vt a1 b1;rw[k];intro v c;rcases qe.1 c with c|c;exact a3 v c;exact r v c;simp only[qu,Rows.uptoBulkAll];omega
theorem Ct.rd {n L:Nat} {T:TypeId} {c:Array Field} {F:α->List SV} {ok:α->Prop} {μ:α->Nat} (ht:P.underlying T=some (.struct c)) (hz:P.cellsOf T=L) (h:Ct enc P w base spare Bf n L c.toList 0 F ok μ):Rd enc P w base spare Bf (n+1) T F L ok μ:=λcs x k hb=>by
 obtain⟨xs,m,hm,rfl,hl,a,j⟩:=DataW.trod_struct ht k;obtain rfl:n=m:=by omega
 simp only[Rows.uptoBulk]at hb ⊢;obtain⟨b,b1,d,g,b4⟩:=h cs xs (by omega) (by simpa using a) (λi f e=>j i f (by simpa using e)) (by omega);exact⟨b,by simpa using b1,by omega,by simpa using d,g,by omega⟩
theorem Rd.map {k e z:Nat} {F:α->List SV} {ok:α->Prop} {μ:α->Nat} (h:Rd enc P w base spare Bf k e F z ok μ) (g:α->β) {d:β->List SV} {b:β->Prop} {μ':β->Nat} (f:∀a,d (g a)=F a) (c:∀a,ok a->b (g a)) (j:∀a,μ' (g a)<=μ a):Rd enc P w base spare Bf k e d z b μ':=λcs x i hb=>by
 obtain⟨a,a1,a2,a3,a4,a5⟩:=h cs x i hb;exact⟨g a,by rw[f];exact a1,a2,a3,c a a4,by have:=j a;omega⟩
theorem It {c:Cx} {s:SV} {v:Value} (h:V c s v):VL c [s] [v]:=BN.2 ⟨h,trivial⟩
theorem Tz {k:Nat} {T:TypeId} (ht:P.underlying T=some (.int .i64)):Rd enc P w base spare Bf k T (λn:Int=>[AA n]) 1 (λ_=>True) (λ_=>0):=λcs x a _=>by
 obtain⟨n,rfl,rfl,_⟩:=DataW.trod_int ht a;exact⟨n,It (by rw[V]),rfl,by simp[Value.oneCell'],trivial,by simp[Rows.uptoBulk]⟩
theorem U5 {k:Nat} {T:TypeId} (ht:P.underlying T=some .bool):Rd enc P w base spare Bf k T (λn:Bool=>[.bool n]) 1 (λ_=>True) (λ_=>0):=λcs x a _=>by
 obtain⟨n,rfl,rfl⟩:=DataW.trod_bool ht a;exact⟨n,It (by rw[V]),rfl,by simp[Value.oneCell'],trivial,by simp[Rows.uptoBulk]⟩
theorem Wk {k:Nat} {T:TypeId} (ht:P.underlying T=some .string):Rd enc P w base spare Bf k T (λs:ByteArray=>[.str s]) 1 (λs=>s.size<=BB) (λs=>s.size):=λcs x a hb=>by
 obtain⟨s,rfl,rfl,_⟩:=DataW.trod_string ht a;have e:s.data.toList.length=s.size:=by rw[jU];rfl
 simp only[Rows.uptoBulk]at hb ⊢;exact⟨s,It (by rw[V]),rfl,by simp[Value.oneCell'],by omega,by omega⟩
def Kn (μ:α->Nat) (l:List α):Nat:=(l.map λa=>μ a+1).sum
theorem DW (μ:α->Nat):∀l:List α,l.length<=Kn μ l
 | []=>by simp
 | a::l=>by have:=DW μ l;simp only[Kn,qu,kK,qF]at this ⊢;omega
theorem RP {k z:Nat} {e:TypeId} {F:α->List SV} {f:α->SV} {ok:α->Prop} {μ:α->Nat} (A:∀a,f a=.agg (F a)) (D:∀a,(f a).storable=true) (x:Rd enc P w base spare Bf k e F z ok μ) (o:P.cellsOf e=z) (p:0<z) (a:Addr):
 ∀(ys:List (DataW H×List MemPlace)) (i:Nat),(∀j,j<ys.length->(w.cells? base (a.add ((i+j)*P.cellsOf e)) (P.cellsOf e)).bind (DataW.trod enc P w base spare Bf k e)=ys[j]?)->Rows.uptoBulkAll (ys.map (·.1))<=BB->
  ∃l:List α,∃us:List Value,l.length=ys.length/\AZ (V (TA w)) (l.map f) us/\(∀u∈us,u.cells.size=z)/\(∀v∈us.flatMap (·.cells.toList),v.oneCell'=true)/\(∀j v,(us.flatMap (·.cells.toList))[j]? = some v->w.cell? (a.add (i*z+j))=some v)/\(∀a∈l,ok a)/\Kn μ l<=Rows.uptoBulkAll (ys.map (·.1))
 | [],i,_,_=>⟨[],[],rfl,trivial,by simp,by simp,by simp,by simp,by simp[Kn]⟩
 | y::ys,i,hy,hb=>by
  simp only[qu,Rows.uptoBulkAll]at hb;have h0:=hy 0 (by simp);simp only[jG,jJ]at h0;obtain⟨cs,h,E⟩:=Option.bind_eq_some_iff.1 h0;obtain⟨_,hcl,g⟩:=World.cells?_some h;obtain⟨b,b1,r,s,C,b5⟩:=x cs y E (by omega);obtain⟨l,us,G,I,J,K,L,M,N⟩:=RP A D x o p a ys (i+1) (λj B=>by have:=hy (j+1) (by simp;omega);rw[show i+1+j=i+(j+1)by omega];simpa using this) (by omega);have hc:(Value.agg cs.toArray).cells.toList=cs:=by simp[Value.cells]
  refine⟨b::l,.agg cs.toArray::us,by simp[G],⟨?_,I⟩,?_,?_,?_,?_,?_⟩;show V (TA w) (f b) (.agg cs.toArray);rw[A,V];exact⟨cs,rfl,b1,s⟩;intro u n;rcases qk.1 n with rfl|n;simpa[Value.cells]using r;exact J u n;intro v c;rw[qK,hc]at c;rcases qe.1 c with c|c;exact s v c;exact K v c;intro j v c;rw[qK,hc]at c;by_cases B:j<z;rw[jD (by omega)]at c;have:=g j (by rw[o];exact B);rw[o,c]at this;have e:(a.add (i*z)).add j=a.add (i*z+j):=by
   unfold Addr.add;by_cases d:i*z=0;simp[d];by_cases t:j=0;simp[d,t];simp[d,t,qD]
  rw[e]at this;exact this;rw[qV (by omega)]at c;have:=L (j-cs.length) v c;rw[show(i+1)*z+(j-cs.length)=i*z+j by rw[r,jB,Nat.one_mul];omega]at this;exact this;intro q m;rcases qk.1 m with rfl|m;exact C;exact M q m;simp only[qu,Rows.uptoBulkAll,Kn,kK]at N ⊢;omega
theorem Dk {k z:Nat} {e T:TypeId} {F:α->List SV} {f:α->SV} {ok:α->Prop} {μ:α->Nat} (G:∀a,f a=.agg (F a)) (A:∀a,(f a).storable=true) (ht:P.underlying T=some (.slice e)) (I:P.cellsOf e=z) (y:0<z) (D:∀m,m+1=k->Rd enc P w base spare Bf m e F z ok μ):
 Rd enc P w base spare Bf k T (λl:List α=>[.imm z (l.map f) false]) 1 (λl=>(∀a∈l,ok a)/\Kn μ l<=BB) (Kn μ):=λcs x H hb=>by
 rcases DataW.trod_slice ht H with⟨rfl,rfl⟩|⟨a,len,cap,b,rest,n,hn,rfl,rfl,_,p,_,c,E,_,_⟩
 exact⟨[],It (by rw[V];exact .inl ⟨rfl,rfl⟩),rfl,by simp[Value.oneCell'],⟨by simp,by simp[Kn]⟩,by simp[Kn,Rows.uptoBulk]⟩;simp only[Rows.uptoBulk]at hb ⊢;obtain⟨l,us,B,J,K,L,C,M,l7⟩:=RP G A (D n hn.symm) I y a b 0 (λj hj=>by rw[jc];exact E j (by omega)) (by omega);refine⟨l,It ?_,rfl,by simp[Value.oneCell'],⟨M,by omega⟩,by omega⟩;rw[V];right;refine⟨a,cap,us.flatMap (·.cells.toList),by rw[qd,B,c],by rw[qd,B,c];exact p,by simp,?_,Ho.2 ⟨us,J,K,λs u=>?_,rfl⟩⟩;have d:us.flatMap (·.cells.toList)≠[]->a.spot=none:=λt=>by
  obtain⟨v,r,g⟩:=List.exists_cons_of_ne_nil t;have:=World.cell?_spot (C 0 v (by rw[g];rfl));simpa[Addr.add]using this
 refine⟨d,λ_ h=>h,λi v g=>?_,L⟩;have o:=C i v g;have h2:=d (by rintro e;rw[e]at g;simp at g);rw[Nat.zero_mul,jc]at o;have e:a.add i=⟨a.block,a.off+i,none⟩:=by
  unfold Addr.add;split;subst_vars;cases a;simp_all;rfl
 rw[e]at o;exact o;obtain⟨q,_,rfl⟩:=qy.1 u;exact A q
end
section
variable {H : Type} {enc : TypeId × Value → H} {w : World} {base : Nat} {spare : Nat → Bool} {Bf : Bool} {α : Type}
theorem Rd.zero {e:TypeId} {F:α->List SV} {z:Nat} {ok:α->Prop} {μ:α->Nat}:Rd enc Tryz.prog w base spare Bf 0 e F z ok μ:=λcs x a _=>by simp[DataW.trod]at a
theorem Fh (k:Nat):Rd enc Tryz.prog w base spare Bf k 3 (λn:Int=>[AA n]) 1 (λ_=>True) (λ_=>0):=Tz Tryz.underlying3
theorem PT (k:Nat):Rd enc Tryz.prog w base spare Bf k 9 (λs:ByteArray=>[.str s]) 1 (λs=>s.size<=BB) (λs=>s.size):=Wk Tryz.underlying9
theorem Vh (k:Nat):Rd enc Tryz.prog w base spare Bf k 4 (λb:Bool=>[.bool b]) 1 (λ_=>True) (λ_=>0):=U5 Tryz.underlying4
def Er.F (p:Er):List SV:=[AA p.key,AA p.value]
theorem ce:∀k,Rd enc Tryz.prog w base spare Bf k 193 Er.F 2 (λ_=>True) (λ_=>0)
 | 0=>Rd.zero
 | k+1=>(Ct.rd Tryz.underlying193 (by kernel_rfl) (Ct.cons (Fh k) (by kernel_rfl) rfl (Ct.cons (Fh k) (by kernel_rfl) rfl Ct.nil))).map (λp=>⟨p.1,p.2.1⟩) (λ_=>rfl) (λ_ _=>trivial) (λ_=>qg _)
def Az.F (p:Az):List SV:=[AA p.rev,AA p.move]
theorem mB:∀k,Rd enc Tryz.prog w base spare Bf k 166 Az.F 2 (λ_=>True) (λ_=>0)
 | 0=>Rd.zero
 | k+1=>(Ct.rd Tryz.underlying166 (by kernel_rfl) (Ct.cons (Fh k) (by kernel_rfl) rfl (Ct.cons (Fh k) (by kernel_rfl) rfl Ct.nil))).map (λp=>⟨p.1,p.2.1⟩) (λ_=>rfl) (λ_ _=>trivial) (λ_=>qg _)
def Am.F (p:Am):List SV:=[AA p.rev,AA p.key,AA p.before,.bool p.had]
theorem lP:∀k,Rd enc Tryz.prog w base spare Bf k 164 Am.F 4 (λ_=>True) (λ_=>0)
 | 0=>Rd.zero
 | k+1=>(Ct.rd Tryz.underlying164 (by kernel_rfl) (Ct.cons (Fh k) (by kernel_rfl) rfl (Ct.cons (Fh k) (by kernel_rfl) rfl (Ct.cons (Fh k) (by kernel_rfl) rfl (Ct.cons (Vh k) (by kernel_rfl) rfl Ct.nil))))).map (λp=>⟨p.1,p.2.1,p.2.2.1,p.2.2.2.1⟩) (λ_=>rfl) (λ_ _=>trivial) (λ_=>qg _)
def Ax.F (p:Ax):List SV:=[AA p.id,.str p.author,AA p.time]
theorem Yk:∀k,Rd enc Tryz.prog w base spare Bf k 42 Ax.F 3 (λr=>r.author.size<=BB) (λ_=>0)
 | 0=>Rd.zero
 | k+1=>(Ct.rd Tryz.underlying42 (by kernel_rfl) (Ct.cons (Fh k) (by kernel_rfl) rfl (Ct.cons (PT k) (by kernel_rfl) rfl (Ct.cons (Fh k) (by kernel_rfl) rfl Ct.nil)))).map (λp=>(⟨p.1,p.2.1,p.2.2.1⟩:Ax)) (λ_=>rfl) (λ_ h=>h.2.1) (λ_=>qg _)
theorem Tx (k:Nat):Rd enc Tryz.prog w base spare Bf k 23 (λl:List Er=>[Af l]) 1 (λl=>l.length<=BB) (λ_=>0):=
 (Dk (f:=Er.enc) (F:=Er.F) (λ_=>rfl) Er.E.st Tryz.underlying23 (by kernel_rfl) (by omega) (λm _=>ce m)).map (λl=>l) (λ_=>rfl) (λl h=>by have:=DW (λ_=>0) l;have:=h.2;omega) (λ_=>qg _)
theorem Yi (k:Nat):Rd enc Tryz.prog w base spare Bf k 24 (λl:List Az=>[AP l]) 1 (λl=>l.length<=BB) (λ_=>0):=
 (Dk (f:=Az.enc) (F:=Az.F) (λ_=>rfl) Az.E.st Tryz.underlying24 (by kernel_rfl) (by omega) (λm _=>mB m)).map (λl=>l) (λ_=>rfl) (λl h=>by have:=DW (λ_=>0) l;have:=h.2;omega) (λ_=>qg _)
theorem U2 (k:Nat):Rd enc Tryz.prog w base spare Bf k 25 (λl:List Am=>[AL l]) 1 (λl=>l.length<=BB) (λ_=>0):=
 (Dk (f:=Am.enc) (F:=Am.F) (λ_=>rfl) Am.E.st Tryz.underlying25 (by kernel_rfl) (by omega) (λm _=>lP m)).map (λl=>l) (λ_=>rfl) (λl h=>by have:=DW (λ_=>0) l;have:=h.2;omega) (λ_=>qg _)
theorem Yl (k:Nat):Rd enc Tryz.prog w base spare Bf k 30 (λl:List Ax=>[Ao l]) 1 (λl=>l.length<=BB/\∀r∈l,r.author.size<=BB) (λ_=>0):=
 (Dk (f:=Ax.enc) (F:=Ax.F) (λ_=>rfl) Ax.E.st Tryz.underlying30 (by kernel_rfl) (by omega) (λm _=>Yk m)).map (λl=>l) (λ_=>rfl) (λl h=>⟨by have:=DW (λ_=>0) l;have:=h.2;omega,h.1⟩) (λ_=>qg _)
theorem Wh:∀k,Rd enc Tryz.prog w base spare Bf k 27 (λm:Int×Int×List Az×List Am=>[AA m.1,AA m.2.1,AP m.2.2.1,AL m.2.2.2]) 4 (λm=>m.2.2.1.length<=BB/\m.2.2.2.length<=BB) (λ_=>0)
 | 0=>Rd.zero
 | k+1=>(Ct.rd Tryz.underlying27 (by kernel_rfl) (Ct.cons (Fh k) (by kernel_rfl) rfl (Ct.cons (Fh k) (by kernel_rfl) rfl (Ct.cons (Yi k) (by kernel_rfl) rfl (Ct.cons (U2 k) (by kernel_rfl) rfl Ct.nil))))).map (λp=>(p.1,p.2.1,p.2.2.1,p.2.2.2.1)) (λ_=>rfl) (λ_ h=>⟨h.2.2.1,h.2.2.2.1⟩) (λ_=>qg _)
theorem RO:∀k,Rd enc Tryz.prog w base spare Bf k 29 AF.flat 5 AF.sized (λ_=>0)
 | 0=>Rd.zero
 | k+1=>(Ct.rd Tryz.underlying29 (by kernel_rfl) (Ct.cons (Tx k) (by kernel_rfl) rfl (Ct.cons (Wh k) (by kernel_rfl) rfl Ct.nil))).map (λp=>(⟨p.1,p.2.1.1,p.2.1.2.1,p.2.1.2.2.1,p.2.1.2.2.2⟩:AF)) (λ_=>rfl) (λ_ h=>⟨h.1,h.2.1.1,h.2.1.2⟩) (λ_=>qg _)
def AE.F (x:AE):List SV:=[AA x.kind,AA x.code,AA x.id,.str x.text,Af x.head.props,AA x.head.ins,AA x.head.move,AP x.head.dels,AL x.head.layers,AG x.flow,A3 x.rows]
def Aa.F (x:Aa):List SV:=[Af x.head.props,AA x.head.ins,AA x.head.move,AP x.head.dels,AL x.head.layers,BS x.cells]
def Wl.F (x:Wl):List SV:=[AA x.id,Af x.head.props,AA x.head.ins,AA x.head.move,AP x.head.dels,AL x.head.layers,AG x.flow]
def Ut (N:Nat) (c:Wl):Prop:=c.head.sized/\Da AF.sized BB N c.flow
def lM (N:Nat) (r:Aa):Prop:=r.head.sized/\r.cells.length<=BB/\∀c∈r.cells,Ut N c
theorem NW:∀l:List AE,Ap l<=Kn (λx=>x.text.size) l
 | []=>by simp[Ap]
 | x::l=>by
  have:=NW l;simp only[Ap,Kn,qu,kK]at this ⊢;omega
theorem Wc:∀k,Rd enc Tryz.prog w base spare Bf k 22 (λl:List AE=>[AG l]) 1 (λl=>∀N,k<N->Da AF.sized BB N l) (Kn λx=>x.text.size):=λk=>by
 induction k using Nat.strongRecOn with
 | ind k ih=>
 have cell:∀m,m<k->Rd enc Tryz.prog w base spare Bf m 171 Wl.F 7 (λc=>∀N,m<=N->Ut N c) (λ_=>0):=λm d=>by
  cases m with
  | zero=>exact Rd.zero
  | succ m=>
   exact(Ct.rd Tryz.underlying171 (by kernel_rfl) (Ct.cons (Fh m) (by kernel_rfl) rfl (Ct.cons (RO m) (by kernel_rfl) rfl (Ct.cons (ih m (by omega)) (by kernel_rfl) rfl Ct.nil)))).map (λp=>Wl.mk p.1 p.2.1 p.2.2.1) (λ_=>rfl) (λ_ h N a=>⟨h.2.1,h.2.2.1 N (by omega)⟩) (λ_=>qg _)
 have cells:∀m,m<k->Rd enc Tryz.prog w base spare Bf m 167 (λl:List Wl=>[BS l]) 1 (λl=>l.length<=BB/\∀c∈l,∀N,m<=N->Ut N c) (λ_=>0):=λm d=>
  (Dk (f:=Wl.enc) (F:=Wl.F) (ok:=λc=>∀N,m<=N->Ut N c) (λc=>QS c) Wl.E.st Tryz.underlying167 (by kernel_rfl) (by omega) (λq e=>(cell q (by omega)).map (λc=>c) (λ_=>rfl) (λ_ h N a=>h N (by omega)) (λ_=>qa _))).map (λl=>l) (λ_=>rfl) (λl h=>⟨by have:=DW (λ_=>0) l;have:=h.2;omega,h.1⟩) (λ_=>qg _)
 have row:∀m,m<k->Rd enc Tryz.prog w base spare Bf m 169 Aa.F 6 (λr=>∀N,m<=N->lM N r) (λ_=>0):=λm d=>by
  cases m with
  | zero=>exact Rd.zero
  | succ m=>
   exact(Ct.rd Tryz.underlying169 (by kernel_rfl) (Ct.cons (RO m) (by kernel_rfl) rfl (Ct.cons (cells m (by omega)) (by kernel_rfl) rfl Ct.nil))).map (λp=>Aa.mk p.1 p.2.1) (λ_=>rfl) (λ_ h N a=>⟨h.1,h.2.1.1,λc hc=>h.2.1.2 c hc N (by omega)⟩) (λ_=>qg _)
 have rows:∀m,m<k->Rd enc Tryz.prog w base spare Bf m 68 (λl:List Aa=>[A3 l]) 1 (λl=>l.length<=BB/\∀c∈l,∀N,m<=N->lM N c) (λ_=>0):=λm d=>
  (Dk (f:=Aa.enc) (F:=Aa.F) (ok:=λc=>∀N,m<=N->lM N c) (λc=>qQ c) Aa.E.st Tryz.underlying68 (by kernel_rfl) (by omega) (λq e=>(row q (by omega)).map (λc=>c) (λ_=>rfl) (λ_ h N a=>h N (by omega)) (λ_=>qa _))).map (λl=>l) (λ_=>rfl) (λl h=>⟨by have:=DW (λ_=>0) l;have:=h.2;omega,h.1⟩) (λ_=>qg _)
 have b:∀m,m<k->Rd enc Tryz.prog w base spare Bf m 70 AE.F 11 (λx=>∀N,m<=N->Lh AF.sized BB N x) (λx=>x.text.size):=λm d=>by
  cases m with
  | zero=>exact Rd.zero
  | succ m =>
   exact(Ct.rd Tryz.underlying70 (by kernel_rfl) (Ct.cons (Fh m) (by kernel_rfl) rfl (Ct.cons (Fh m) (by kernel_rfl) rfl (Ct.cons (Fh m) (by kernel_rfl) rfl (Ct.cons (PT m) (by kernel_rfl) rfl (Ct.cons (RO m) (by kernel_rfl) rfl (Ct.cons (ih m (by omega)) (by kernel_rfl) rfl (Ct.cons (rows m (by omega)) (by kernel_rfl) rfl Ct.nil)))))))).map (λp=>AE.mk p.1 p.2.1 p.2.2.1 p.2.2.2.1 p.2.2.2.2.1 p.2.2.2.2.2.1 p.2.2.2.2.2.2.1) (λ_=>rfl)
    (λ_ h N a=>⟨h.2.2.2.2.1,h.2.2.2.2.2.1 N (by omega),h.2.2.2.2.2.2.1.1,λr g=>h.2.2.2.2.2.2.1.2 r g N (by omega)⟩) (λp=>by show p.2.2.2.1.size<=_;omega)
 exact(Dk (f:=AE.enc) (F:=AE.F) (ok:=λx=>∀N,k<=N+1->Lh AF.sized BB N x) (λc=>qx c) AE.E.st Tryz.underlying22 (by kernel_rfl) (by omega) (λq e=>(b q (by omega)).map (λc=>c) (λ_=>rfl) (λ_ h N a=>h N (by omega)) (λ_=>qa _))).map (λl=>l) (λ_=>rfl) (λl h N a=>by
  cases N with
  | zero=>omega
  | succ N=>
   have h1:=DW (λx:AE=>x.text.size) l;have h2:=NW l;have h3:=h.2;exact dS.2 ⟨by omega,by omega,λx i=>h.1 x i N (by omega)⟩) (λ_=>qa _)
end
section
variable {H : Type} {enc : TypeId × Value → H} {w : World} {base : Nat} {spare : Nat → Bool} {Bf : Bool} {α : Type}
def A6.F (s:A6):List SV:=[AA s.id,AA s.kind,.str s.name,AA s.base,AA s.next,Af s.props]
theorem Wi:∀k,Rd enc Tryz.prog w base spare Bf k 198 A6.F 6 (λs=>s.props.length<=BB) (λ_=>0)
 | 0=>Rd.zero
 | k+1=>(Ct.rd Tryz.underlying198 (by kernel_rfl) (Ct.cons (Fh k) (by kernel_rfl) rfl (Ct.cons (Fh k) (by kernel_rfl) rfl (Ct.cons (PT k) (by kernel_rfl) rfl (Ct.cons (Fh k) (by kernel_rfl) rfl (Ct.cons (Fh k) (by kernel_rfl) rfl (Ct.cons (Tx k) (by kernel_rfl) rfl Ct.nil))))))).map
  (λp=>(⟨p.1,p.2.1,p.2.2.1,p.2.2.2.1,p.2.2.2.2.1,p.2.2.2.2.2.1⟩:A6)) (λ_=>rfl) (λ_ h=>h.2.2.2.2.2.1) (λ_=>qg _)
def CX.F (s:CX):List SV:=[AA s.format,AA s.start,.str s.template,AA s.restart]
theorem Wf:∀k,Rd enc Tryz.prog w base spare Bf k 106 CX.F 4 (λs=>s.template.size<=BB) (λ_=>0)
 | 0=>Rd.zero
 | k+1=>(Ct.rd Tryz.underlying106 (by kernel_rfl) (Ct.cons (Fh k) (by kernel_rfl) rfl (Ct.cons (Fh k) (by kernel_rfl) rfl (Ct.cons (PT k) (by kernel_rfl) rfl (Ct.cons (Fh k) (by kernel_rfl) rfl Ct.nil))))).map
  (λp=>(⟨p.1,p.2.1,p.2.2.1,p.2.2.2.1⟩:CX)) (λ_=>rfl) (λ_ h=>h.2.2.1) (λ_=>qg _)
theorem U3 (k:Nat):Rd enc Tryz.prog w base spare Bf k 101 (λl:List CX=>[DL l]) 1 (λl=>l.length<=BB/\∀r∈l,r.template.size<=BB) (λ_=>0):=
 (Dk (f:=CX.enc) (F:=CX.F) (λ_=>rfl) CX.E.st Tryz.underlying101 (by kernel_rfl) (by omega) (λm _=>Wf m)).map (λl=>l) (λ_=>rfl) (λl h=>⟨by have:=DW (λ_=>0) l;have:=h.2;omega,h.1⟩) (λ_=>qg _)
def Fb.F (s:Fb):List SV:=[AA s.id,DL s.levels]
theorem cd:∀k,Rd enc Tryz.prog w base spare Bf k 103 Fb.F 2 (λs=>s.levels.length<=BB/\∀r∈s.levels,r.template.size<=BB) (λ_=>0)
 | 0=>Rd.zero
 | k+1=>(Ct.rd Tryz.underlying103 (by kernel_rfl) (Ct.cons (Fh k) (by kernel_rfl) rfl (Ct.cons (U3 k) (by kernel_rfl) rfl Ct.nil))).map (λp=>(⟨p.1,p.2.1⟩:Fb)) (λ_=>rfl) (λ_ h=>h.2.1) (λ_=>qg _)
def Au.F (c:Au):List SV:=[AA c.id,AA c.parent,.str c.author,AA c.time,.str c.text,.bool c.done]
theorem Tv:∀k,Rd enc Tryz.prog w base spare Bf k 115 Au.F 6 (λs=>s.author.size<=BB/\s.text.size<=BB) (λ_=>0)
 | 0=>Rd.zero
 | k+1=>(Ct.rd Tryz.underlying115 (by kernel_rfl) (Ct.cons (Fh k) (by kernel_rfl) rfl (Ct.cons (Fh k) (by kernel_rfl) rfl (Ct.cons (PT k) (by kernel_rfl) rfl (Ct.cons (Fh k) (by kernel_rfl) rfl (Ct.cons (PT k) (by kernel_rfl) rfl (Ct.cons (Vh k) (by kernel_rfl) rfl Ct.nil))))))).map
  (λp=>(⟨p.1,p.2.1,p.2.2.1,p.2.2.2.1,p.2.2.2.2.1,p.2.2.2.2.2.1⟩:Au)) (λ_=>rfl) (λ_ h=>⟨h.2.2.1,h.2.2.2.2.1⟩) (λ_=>qg _)
def Ft.F (c:Ft):List SV:=[.str c.name,.str c.value]
theorem mC:∀k,Rd enc Tryz.prog w base spare Bf k 118 Ft.F 2 (λs=>s.name.size<=BB/\s.value.size<=BB) (λ_=>0)
 | 0=>Rd.zero
 | k+1=>(Ct.rd Tryz.underlying118 (by kernel_rfl) (Ct.cons (PT k) (by kernel_rfl) rfl (Ct.cons (PT k) (by kernel_rfl) rfl Ct.nil))).map (λp=>(⟨p.1,p.2.1⟩:Ft)) (λ_=>rfl) (λ_ h=>⟨h.1,h.2.1⟩) (λ_=>qg _)
theorem U4 (k:Nat):Rd enc Tryz.prog w base spare Bf k 31 (λl:List A6=>[Ae l]) 1 (λl=>l.length<=BB/\∀r∈l,r.props.length<=BB) (λ_=>0):=
 (Dk (f:=A6.enc) (F:=A6.F) (λ_=>rfl) A6.E.st Tryz.underlying31 (by kernel_rfl) (by omega) (λm _=>Wi m)).map (λl=>l) (λ_=>rfl) (λl h=>⟨by have:=DW (λ_=>0) l;have:=h.2;omega,h.1⟩) (λ_=>qg _)
theorem Wg (k:Nat):Rd enc Tryz.prog w base spare Bf k 32 (λl:List Fb=>[Di l]) 1 (λl=>l.length<=BB/\∀s∈l,s.levels.length<=BB/\∀r∈s.levels,r.template.size<=BB) (λ_=>0):=
 (Dk (f:=Fb.enc) (F:=Fb.F) (λ_=>rfl) Fb.E.st Tryz.underlying32 (by kernel_rfl) (by omega) (λm _=>cd m)).map (λl=>l) (λ_=>rfl) (λl h=>⟨by have:=DW (λ_=>0) l;have:=h.2;omega,h.1⟩) (λ_=>qg _)
theorem R6 (k:Nat):Rd enc Tryz.prog w base spare Bf k 33 (λl:List Au=>[BZ l]) 1 (λl=>l.length<=BB/\∀s∈l,s.author.size<=BB/\s.text.size<=BB) (λ_=>0):=
 (Dk (f:=Au.enc) (F:=Au.F) (λ_=>rfl) Au.E.st Tryz.underlying33 (by kernel_rfl) (by omega) (λm _=>Tv m)).map (λl=>l) (λ_=>rfl) (λl h=>⟨by have:=DW (λ_=>0) l;have:=h.2;omega,h.1⟩) (λ_=>qg _)
theorem Yn (k:Nat):Rd enc Tryz.prog w base spare Bf k 34 (λl:List Ft=>[FI l]) 1 (λl=>l.length<=BB/\∀s∈l,s.name.size<=BB/\s.value.size<=BB) (λ_=>0):=
 (Dk (f:=Ft.enc) (F:=Ft.F) (λ_=>rfl) Ft.E.st Tryz.underlying34 (by kernel_rfl) (by omega) (λm _=>mC m)).map (λl=>l) (λ_=>rfl) (λl h=>⟨by have:=DW (λ_=>0) l;have:=h.2;omega,h.1⟩) (λ_=>qg _)
theorem R8:∀k,Rd enc Tryz.prog w base spare Bf k 36 AK.flat 4 AK.sizedT (λ_=>0)
 | 0=>Rd.zero
 | k+1=>(Ct.rd Tryz.underlying36 (by kernel_rfl) (Ct.cons (U4 k) (by kernel_rfl) rfl (Ct.cons (Wg k) (by kernel_rfl) rfl (Ct.cons (R6 k) (by kernel_rfl) rfl (Ct.cons (Yn k) (by kernel_rfl) rfl Ct.nil))))).map
  (λp=>(⟨p.1,p.2.1,p.2.2.1,p.2.2.2.1⟩:AK)) (λ_=>rfl) (λ_ h=>⟨⟨h.1.1,h.2.1.1,h.2.2.1.1,h.2.2.2.1.1,h.1.2,λx a=>(h.2.1.2 x a).1⟩,λx a=>(h.2.1.2 x a).2,h.2.2.1.2,h.2.2.2.1.2⟩) (λ_=>qg _)
def AI.F (d:AI):List SV:=[AG d.flow]++d.«end».flat++[Ao d.revs]++d.settings.flat
theorem R7:∀k,Rd enc Tryz.prog w base spare Bf k 38 AI.F 11 (λd=>d.sizedT BB k) (λ_=>0)
 | 0=>Rd.zero
 | k+1=>(Ct.rd Tryz.underlying38 (by kernel_rfl) (Ct.cons (Wc k) (by kernel_rfl) rfl (Ct.cons (RO k) (by kernel_rfl) rfl (Ct.cons (Yl k) (by kernel_rfl) rfl (Ct.cons (R8 k) (by kernel_rfl) rfl Ct.nil))))).map
  (λp=>(⟨p.1,p.2.1,p.2.2.1,p.2.2.2.1⟩:AI)) (λ_=>rfl) (λ_ h=>⟨h.1 _ (by omega),h.2.1,h.2.2.1.1,h.2.2.1.2,h.2.2.2.1⟩) (λ_=>qg _)
def Av.F (s:Av):List SV:=[AA s.id,AA s.a,AA s.b]
theorem lQ:∀k,Rd enc Tryz.prog w base spare Bf k 40 Av.F 3 (λ_=>True) (λ_=>0)
 | 0=>Rd.zero
 | k+1=>(Ct.rd Tryz.underlying40 (by kernel_rfl) (Ct.cons (Fh k) (by kernel_rfl) rfl (Ct.cons (Fh k) (by kernel_rfl) rfl (Ct.cons (Fh k) (by kernel_rfl) rfl Ct.nil)))).map (λp=>(⟨p.1,p.2.1,p.2.2.1⟩:Av)) (λ_=>rfl) (λ_ _=>trivial) (λ_=>qg _)
def ki.F (c:ki):List SV:=[AA c.rev,AA c.sc.id,AA c.sc.a,AA c.sc.b,AA c.next.id,.str c.next.author,AA c.next.time]
theorem mA:∀k,Rd enc Tryz.prog w base spare Bf k 44 ki.F 7 (λc=>c.next.author.size<=BB) (λ_=>0)
 | 0=>Rd.zero
 | k+1=>(Ct.rd Tryz.underlying44 (by kernel_rfl) (Ct.cons (Fh k) (by kernel_rfl) rfl (Ct.cons (lQ k) (by kernel_rfl) rfl (Ct.cons (Yk k) (by kernel_rfl) rfl Ct.nil)))).map (λp=>(⟨p.1,p.2.1,p.2.2.1⟩:ki)) (λ_=>rfl) (λ_ h=>h.2.2.1) (λ_=>qg _)
theorem Rd.arg {k e z:Nat} {F:α->List SV} {ok:α->Prop} {μ:α->Nat} (h:Rd enc Tryz.prog w base spare Bf k e F z ok μ) {c:Array Field} (ht:Tryz.prog.underlying e=some (.struct c)) {r:Reach} {b0:Nat} {v:Value} (b:Value.okWide Tryz.prog w r b0 e v) {x:DataW H×List MemPlace}
 (d:DataW.trod enc Tryz.prog w base spare Bf k e v.cells.toList=some x) (hb:Rows.uptoBulk x.1<=BB):∃a,V (TA w) (.agg (F a)) v/\ok a:=by
 simp only[Value.okWide,ht]at b;obtain⟨cs,rfl,_,_⟩:=b;obtain⟨a,a1,a2,a3,a4,a5⟩:=h _ x d hb;refine⟨a,?_,a4⟩;rw[V];exact⟨cs.toList,by simp,by simpa[Value.cells]using a1,by simpa[Value.cells]using a3⟩
end
open Go.ChangeShapes Go.WideShapes Go.ChangeAt Go.RowKit
theorem YQ:Kids Tryz.prog (· < Tryz.prog.types.size):=kids_rows (by kernel_rfl) (by kernel_rfl)
theorem YN:∀t e,t<Tryz.prog.types.size->Tryz.prog.underlying t=some (.slice e)->0<Tryz.prog.cellsOf e:=slices_full_of Tryz.prog (by kernel_rfl)
section
variable {H : Type} {enc : TypeId × Value → H}
theorem Rm {W:World} {a:Cx} (x:DZ (TA W) a) {b:Nat} (h:b<W.heap.size):a.w.heap[b]? = W.heap[b]?:=(x.keep b h (λh=>h)).2
theorem Oc {P:Program} {w w':World} {base:Nat} {d:Nat->Bool} {Bf:Bool} (hw:∀b,b<w.heap.size->w'.heap[b]? = w.heap[b]?):∀{f:List TypeId} {vs:List Value} {c:List (DataW H)} {ps:List MemPlace},DataW.TrodAll enc P w base d Bf f vs c ps->(∀p∈ps,p.block<w.heap.size)->DataW.TrodAll enc P w' base d Bf f vs c ps
 | [],[],[],_,h,_=>h
 | _ :: _, _ :: _, _ :: _, _, ⟨p, q, ⟨n, h1⟩, h2, e⟩, hs => by
  have hp:∀x∈p,w.sameAt w' x:=λx a=>by
   have hb:=hs x (by rw[e];exact kc _ a);cases x with
   | cell b off=>simp only[World.sameAt,World.cell?,hw b hb]
   | map b=>exact hw b hb
  exact⟨p,q,⟨n,DataW.trod_carry n _ _ _ h1 hp⟩,Oc hw h2 (λx a=>hs x (by rw[e];exact jN _ a)),e⟩
theorem QT {f:Func} {s:ChangeSpec} {a m c l:Bool} {W g:World} {args:Array Value} {v:Value} {u F:List (DataW H)} {before:List MemPlace} {x:DataW H}
 (z:DataW.Whole enc Tryz.prog f.params.toList s.vars a W args.toList u F before) (G:s.vars=[]) (C:∀t∈f.params.toList,t<Tryz.prog.types.size)
 (B:g.os=W.os) (y:g.output=W.output) (hw:∀b,b<W.heap.size->g.heap[b]? = W.heap[b]?)
 (n:s.fn H (u++F)={ results:=[x],args:=u })
 (h:∀(b:Nat) (k:Nat->Bool) (K:Bool),DataW.TrodAll enc Tryz.prog g b k K f.resultTypes.toList (v.resultList f.resultTypes.size) [x] [])
 (A:∀(j:Nat) (t:TypeId) (r:Value),f.resultTypes[j]? = some t->(v.resultList f.resultTypes.size)[j]? = some r->Value.okWide Tryz.prog g .any 0 t r):
 s.post enc Tryz.prog f a m c l W args v g:=by
 have e:=z.lt;have w:=z;obtain⟨p,q,J,h2,rfl,I,hn⟩:=z;rw[G]at h2;obtain⟨rfl,rfl⟩:=trodVars_none h2;rw[jq]at e I hn w;have c1:=Oc hw J e;have E:∀k:Nat->Bool,(∀x∈p,k x.block=true)->DataW.TrodAll enc Tryz.prog g 0 k true f.params.toList args.toList u p:=λk L=>DataW.TrodAll.respare YQ YN C c1 L;have d:∀k:Nat->Bool,DataW.TrodVars enc Tryz.prog g k s.vars [] []:=λk=>by rw[G];rfl
 refine⟨u,[],p,[],p,[],w,by rw[n];exact h _ _ _,by rw[n];exact E _ (λx D=>by simpa using e x D),by rw[n];exact d _,?_,λ_=>?_⟩;refine⟨B,y,λi hi=>?_⟩;rw[hw i hi];generalize W.heap[i]? = o;cases o with
 | none=>rfl
 | some b=>cases b<;>simp
 refine⟨A,x::u,[],p,⟨p,[],by simpa using trodAll_append (E _ (λ_ _=>rfl)) (h 0 (λ_=>true) true),d _,by simp,?_,hn⟩,λx D _=>D⟩;intro b off hp;have hb:=e _ hp;have:=I b off hp;simp only[World.frozen?]at this ⊢;rw[hw b hb];exact this
theorem cg (W:World):Bn (λ_=>none) (TA W):=⟨λ_ _ h=>(by cases h),λ_ _ _ _ _ h=>(by cases h),λb=>⟨λh=>h.elim,λ⟨_,_,h,_⟩=>(by cases h)⟩⟩
theorem PC.calls {f:FuncId} {a:List SV} {v:SV} (h:PC f a v) {W:World} {vs:List Value} (i:AZ (V (TA W)) a vs):Calls Tryz.prog f vs.toArray W λe c=>∃u b,e=.returned u/\b.w=c/\V b v u/\DZ (TA W) b:=by
 have:=(h (λ_=>none) 0).2 (TA W) vs trivial (cg W) (λ_ _=>rfl) i;refine this.mono ?_;rintro e c ⟨u,v',h',n',b,rfl,⟨rfl,_⟩,hw,g,_,_,d⟩;exact⟨u,b,rfl,hw,g,d.ext⟩
end
end Go.Proofs.YtgakninlhfkkmaaGreat.Sh
namespace Go.Proofs.YtgakninlhfkkmaaGreat.Sh
open Proofs
set_option maxRecDepth 10000
def B5 (p:Int×Int):SV:=.agg [AA p.1,AA p.2]
def AF.mv0 (h:AF):List (Int×Int):=if h.move=0 then[]else[(h.ins,h.move)]
def Hg (l:List Az):List (Int×Int):=(l.filter λx=>decide (x.move≠0)).map λx=>(x.rev,x.move)
def AF.moves (h:AF):List (Int×Int):=h.mv0++Hg h.dels
theorem E3 (l:List (Int×Int)):∀e∈l.map B5,e.storable=true/\e.cells.length=2:=λe a=>by
 obtain⟨p,_,rfl⟩:=qy.1 a;simp[B5,SV.storable,SV.cells]
theorem IY (l:List Az):(Hg l).length<=l.length:=by
 unfold Hg;rw[qd];exact qU _ _
theorem Su {H:Hp} {n m k p:Nat} {es:List SV} {x:Int×Int} {o:Option Nat} (b:Ar n m 2 o es) (hl:es.length<=1073741823) (a:H k=some (.cells [AA x.1,AA x.2])) (h2:∀j,o=some j->H j=some (.cells (es.flatMap SV.cells))):
 AU Tryz.prog H p .append [86,86] [AM 2 o es,.sl k 0 2 1 true]=some { val:=.sl p 0 2 (es.length+1) false,upd:=o.map λj=>(j,none),new:=some (.cells (es.flatMap SV.cells++[AA x.1,AA x.2])) }:=by
 have:=Dp (P:=Tryz.prog) (H:=H) (t:=86) (t2:=86) (el:=89) (z:=2) (by simp[go_sem]) (by simp[go_sem]) (by simp[go_sem]) (by simp) (by simp[go_sem]) (by simp[go_sem]) (by simp[go_sem]) (by omega) b (e:=B5 x) rfl a h2 p;exact this
theorem LM (l:List Az) (i:Nat) (hi:i<l.length):Hg (l.take (i+1))=Hg (l.take i)++if l[i].move=0 then[]else[(l[i].rev,l[i].move)]:=by
 unfold Hg;rw[qb hi,qI,qc];congr 1;by_cases e:l[i].move=0<;>simp[e]
set_option maxHeartbeats 2000000 in
theorem bF (x:AF) (R:x.sized):PC 44 [x.enc] (.imm 2 (x.moves.map B5) false):=by
 intro h n;refine Db Tryz.func44 rfl λN=>?_;have a:=N.lt;refine AY 1 [(1,.iptr x.flat)] h n ?_ (λm f=>?_);simp[go_sem,AF.enc,AF.flat];exact⟨AV (AW a (qa _)) (AC _ _ _),AJ a AB⟩;refine AY 0 [(1,.iptr x.flat),(3,.imm 0 [] true)] h n ?_ (λm f=>?_);simp[go_sem,IO,f];refine AT 0 (α:=Option Nat) (λo=>[(1,.iptr x.flat),(3,AM 2 o (x.mv0.map B5))]) (λo=>AN o (x.mv0.map B5) h) (λo m=>n<=m/\Ar n m 2 o (x.mv0.map B5)) ?_ (λo m f=>?_);refine AY 1 [(1,.iptr x.flat),(3,.imm 0 [] true),(4,.iptr [AA x.ins,AA x.move,AP x.dels,AL x.layers])] h n ?_ (λm f=>?_);have w:∀j y,h j=some y->j<m:=λj y e=>by have:=a j y e;omega
 simp[go_sem,AF.flat,IO,AC,AS];exact⟨by omega,AV (AW w (qa _)) (AC _ _ _),AJ w AB⟩;refine AH ?_;by_cases m0:x.move=0;simp[go_sem,m0,AF.mv0,IO,AM,AN];exact⟨none,⟨f,jK _ _ _⟩,rfl,AB⟩;have s:(x.move !=0)=true:=by simpa using m0
 have B:=λ(H:Hp) (k p:Nat) (L:H k=some (.cells [AA x.ins,AA x.move]))=>Su (H:=H) (k:=k) (p:=p) (es:=[]) (x:=(x.ins,x.move)) (jK 0 0 2) (by simp) L (by simp);simp only[jI,kh,jY,qE,AM]at B;simp[go_sem,m0,s,AF.mv0];rw[B _ _ _ (by simp[AC])];simp[go_sem];have c:=(jK n (m+1) 2).push (j:=m+1) (m':=m+1+1) (e:=B5 (x.ins,x.move)) rfl rfl (by omega) (by omega);have t:AM 2 (some (m+1)) [B5 (x.ins,x.move)]=.sl (m+1) 0 2 1 false:=by simp[AM]
 refine⟨some (m+1),⟨by omega,by simpa using c⟩,t.symm,λj y=>?_⟩;have:=a j y;simp only[AN,hset,B5,SV.cells,qK,jY,jq];grind;obtain⟨f,d⟩:=f;obtain⟨M,A⟩:∃M:Nat->List SV,∀i,M i=(x.mv0++Hg (x.dels.take i)).map B5:=⟨_,λ_=>rfl⟩
 have G:x.mv0.map B5=M 0:=by rw[A];simp[Hg]
 have K:∀i u,(hi:i<x.dels.length)->x.dels[i]=u->M (i+1)=M i++if u.move=0 then[]else[B5 (u.rev,u.move)]:=λi u hi e=>by
  rw[A,A,LM _ _ hi,e];by_cases P:u.move=0<;>simp[P]
 have I:M x.dels.length=x.moves.map B5:=by rw[A,qi];rfl
 have J:∀i,(M i).length<=1+i:=λi=>by
  rw[A,qd,qt];have L:=IY (x.dels.take i);have h2:x.mv0.length<=1:=by unfold AF.mv0;split<;>simp
  have h3:=List.length_take_le i x.dels;omega
 rw[G]at d ⊢;have hsd:=R.dels;refine AT 0 (α:=Option Nat) (λo=>[(3,AM 2 o (M x.dels.length))]) (λo=>AN o (M x.dels.length) h) (λo m=>n<=m/\Ar n m 2 o (M x.dels.length)) ?_ (λo m f=>?_);refine AY 0 [(1,.iptr x.flat),(3,AM 2 o (M 0)),(22,AP x.dels),(23,AA x.dels.length),(24,AA 0)] (AN o (M 0) h) m ?_ (λm2 b=>?_);simp[go_sem,IO,AF.flat];refine AR (BG 0 (α:=Nat×Option Nat) (λq=>[(1,.iptr x.flat),(3,AM 2 q.2 (M q.1)),(22,AP x.dels),(23,AA x.dels.length),(24,AA q.1)]) (λq=>AN q.2 (M q.1) h)
  (λq m=>q.1<=x.dels.length/\n<=m/\Ar n m 2 q.2 (M q.1)) (λq=>x.dels.length-q.1) (0,o) ⟨qg _,by omega,d.mono b⟩ ?_ AB ?_)
 simp[go_sem,Ai,IO];clear d f b m2 m o;rintro⟨i,o⟩ m ⟨hi,C,d⟩;dsimp only at hi d ⊢;have F:=J i;by_cases r:i<x.dels.length;have w1:=wS i (by omega);obtain⟨y,O⟩:∃y,x.dels[i]=y:=⟨_,rfl⟩
 have D:=K i y r O;generalize hE:M i=E at d F D;have g:∀j y,AN o E h j=some y->j<m:=Dm a C d;refine Bp 0 [(1,.iptr x.flat),(3,AM 2 o E),(22,AP x.dels),(23,AA x.dels.length),(24,AA i),(25,.bool true)] (AN o E h) m ?_ (λm2 b=>?_);simp[go_sem,IO,r];subst b;refine Bp 0 [(1,.iptr x.flat),(3,AM 2 o E),(22,AP x.dels),(23,AA x.dels.length),(24,AA i)] (AN o E h) m ?_ (λm2 b=>?_);simp[go_sem,IO];subst b;refine AT 0 (α:=Option Nat) (λo=>[(1,.iptr x.flat),(3,AM 2 o (M (i+1))),(22,AP x.dels),(23,AA x.dels.length),(24,AA i)]) (λo=>AN o (M (i+1)) h) (λo m=>n<=m/\Ar n m 2 o (M (i+1))) (AR ?_) (λo m f=>?_);refine AY 1 [(1,.iptr x.flat),(3,AM 2 o E),(22,AP x.dels),(23,AA x.dels.length),(24,AA i),(6,.iptr [AA y.rev,AA y.move])] (AN o E h) m ?_ (λm2 b=>?_);simp[go_sem,IO,r,O,Az.enc,AC];exact⟨AV (AW g (qa _)) (AC _ _ _),AJ g (AJ g AB)⟩;rw[D];refine AH ?_;by_cases m0:y.move=0;simp[go_sem,m0,IO];exact⟨o,⟨by omega,d.mono b⟩,rfl,AB⟩;have s:(y.move !=0)=true:=by simpa using m0
 simp[go_sem,m0,s];rw[Su (x:=(y.rev,y.move)) d (by omega) (by simp[AC]) (by
  intro j e;have:=(d.lt j e).2;rw[AD _ _ (by omega)];exact Cu j e)]
 have c:=d.push (j:=m2+1) (m':=m2+1+1) (e:=B5 (y.rev,y.move)) rfl rfl (by omega) (by omega);have l:=CY (p:=m2+1) (v:=.sl (m2+1) 0 2 (E.length+1) false) (e:=B5 (y.rev,y.move)) a (by omega) d (H:=hset (AN o E h) m2 (some (.cells [AA y.rev,AA y.move]))) (AJ (λj z e=>by have:=a j z e;omega) (Be a d));have t:AM 2 (some (m2+1)) (E++[B5 (y.rev,y.move)])=.sl (m2+1) 0 2 (E.length+1) false:=by simp[AM]
 simp[go_sem];exact⟨some (m2+1),⟨by omega,c⟩,t.symm,by simpa[dW.app,SV.cells,B5]using l⟩;refine AH ?_;simp[go_sem,w1,IO,-Int.natCast_add];exact⟨i+1,by omega,o,⟨by omega,f.1,f.2⟩,⟨IO,IO⟩,AB⟩;have:i=x.dels.length:=by omega
 subst this;refine AH ?_;simp[go_sem];exact⟨o,⟨C,d⟩,rfl,AB⟩;refine AH ?_;simp[go_sem];rw[I]at f ⊢;exact GR N f.2 (λe Q=>by obtain⟨p,_,rfl⟩:=qy.1 Q;simp[B5,closed,closedL])
def Fx (rev:Int) (l:List (Int×Int)):List Int:=(l.filter λp=>p.1==rev).map Prod.snd
theorem PN (rev:Int) (a b:List (Int×Int)):Fx rev (a++b)=Fx rev a++Fx rev b:=by unfold Fx;rw[qI,qc]
theorem PO (rev:Int) (l:List (Int×Int)):(Fx rev l).length<=l.length:=by unfold Fx;rw[qd];exact qU _ _
theorem kB {H:Hp} {n m k p:Nat} {es:List SV} {x:Int} {o:Option Nat} (b:Ar n m 1 o es) (hl:es.length<=1073741823) (a:H k=some (.cells [AA x])) (h2:∀j,o=some j->H j=some (.cells (es.flatMap SV.cells))):
 AU Tryz.prog H p .append [61,61] [AM 1 o es,.sl k 0 1 1 true]=some { val:=.sl p 0 1 (es.length+1) false,upd:=o.map λj=>(j,none),new:=some (.cells (es.flatMap SV.cells++[AA x])) }:=by
 have:=Dp (P:=Tryz.prog) (H:=H) (t:=61) (t2:=61) (el:=3) (z:=1) (by simp[go_sem]) (by simp[go_sem]) (by simp[go_sem]) (by simp) (by simp[go_sem]) (by simp[go_sem]) (by simp[go_sem]) (by omega) b (e:=AA x) rfl a h2 p;exact this
set_option maxHeartbeats 2000000 in
theorem c51 (x:AF) (S:x.sized) (rev:Int):PC 51 [x.enc,AA rev] (.imm 1 ((Fx rev x.moves).map AA) false):=by
 intro h n;refine Db Tryz.func51 rfl λP=>?_;have a:=P.lt;refine AY 1 [(1,AA rev),(2,.iptr x.flat)] h n ?_ (λm f=>?_);simp[go_sem,AF.enc,AF.flat,IO];exact⟨AV (AW a (qa _)) (AC _ _ _),AJ a AB⟩;obtain⟨M,B⟩:∃M:Nat->List SV,∀i,M i=(Fx rev (x.mv0++Hg (x.dels.take i))).map AA:=⟨_,λ_=>rfl⟩
 have J:(Fx rev x.mv0).map AA=M 0:=by rw[B];simp[Hg]
 have N:∀i A,(hi:i<x.dels.length)->x.dels[i]=A->M (i+1)=M i++if A.rev=rev/\A.move≠0 then[AA A.move]else[]:=λi A hi e=>by
  rw[B,B,LM _ _ hi,e,<-qn,PN,qc];congr 1;by_cases l:A.move=0;simp[l,Fx];by_cases g:A.rev=rev<;>simp[l,g,Fx]
 have K:M x.dels.length=(Fx rev x.moves).map AA:=by rw[B,qi];rfl
 have L:∀i,(M i).length<=1+i:=λi=>by
  rw[B,qd];have h0:=PO rev (x.mv0++Hg (x.dels.take i));rw[qt]at h0;have O:=IY (x.dels.take i);have h2:x.mv0.length<=1:=by unfold AF.mv0;split<;>simp
  have h3:=List.length_take_le i x.dels;omega
 have C:M 0=if x.ins=rev/\x.move≠0 then[AA x.move]else[]:=by
  rw[<-J];unfold AF.mv0 Fx;by_cases l:x.move=0;simp[l];by_cases g:x.ins=rev<;>simp[l,g]
 refine AY 0 [(1,AA rev),(2,.iptr x.flat),(5,.imm 0 [] true)] h n ?_ (λm f=>?_);simp[go_sem,IO,f];refine AT 0 (α:=Option Nat) (λo=>[(1,AA rev),(2,.iptr x.flat),(5,AM 1 o (M 0))]) (λo=>AN o (M 0) h) (λo m=>n<=m/\Ar n m 1 o (M 0)) (AH ?_) (λo m f=>?_);rw[C];by_cases g:x.ins=rev;by_cases l:x.move=0;simp[go_sem,AF.flat,l,g,IO,AM,AN];exact⟨none,⟨f,jK _ _ _⟩,rfl,AB⟩;have D:=λ(H:Hp) (k p:Nat) (O:H k=some (.cells [AA x.move]))=>kB (H:=H) (k:=k) (p:=p) (es:=[]) (x:=x.move) (jK 0 0 1) (by simp) O (by simp);simp only[jI,kh,jY,qE,AM]at D;have u:(x.move !=0)=true:=by simpa using l
 simp[go_sem,AF.flat,l,g,u,IO];rw[D _ _ _ (by simp[AC])];simp[go_sem];have c:=(jK n (m+1) 1).push (j:=m+1) (m':=m+1+1) (e:=AA x.move) rfl rfl (by omega) (by omega);have w:AM 1 (some (m+1)) [AA x.move]=.sl (m+1) 0 1 1 false:=by simp[AM]
 refine⟨some (m+1),⟨by omega,by simpa using c⟩,w.symm,λj y=>?_⟩;have:=a j y;simp only[AN,hset,SV.cells,qK,jY,jq];grind;simp[go_sem,AF.flat,g,IO,AM,AN];exact⟨none,⟨f,jK _ _ _⟩,rfl,AB⟩;obtain⟨f,d⟩:=f;have hsd:=S.dels;refine AT 0 (α:=Option Nat) (λo=>[(5,AM 1 o (M x.dels.length))]) (λo=>AN o (M x.dels.length) h) (λo m=>n<=m/\Ar n m 1 o (M x.dels.length)) ?_ (λo m f=>?_);refine AY 0 [(1,AA rev),(2,.iptr x.flat),(5,AM 1 o (M 0)),(6,AA 0)] (AN o (M 0) h) m ?_ (λm2 b=>?_);simp[go_sem,IO];refine AR (BG 0 (α:=Nat×Option Nat) (λq=>[(1,AA rev),(2,.iptr x.flat),(5,AM 1 q.2 (M q.1)),(6,AA q.1)]) (λq=>AN q.2 (M q.1) h)
  (λq m=>q.1<=x.dels.length/\n<=m/\Ar n m 1 q.2 (M q.1)) (λq=>x.dels.length-q.1) (0,o) ⟨qg _,by omega,d.mono b⟩ ?_ AB ?_)
 simp[go_sem,Ai,IO];clear d f b m2 m o;rintro⟨i,o⟩ m ⟨hi,F,d⟩;dsimp only at hi d ⊢;have I:=L i;by_cases t:i<x.dels.length;have w1:=wS i (by omega);obtain⟨y,Q⟩:∃y,x.dels[i]=y:=⟨_,rfl⟩
 have G:=N i y t Q;generalize hE:M i=E at d I G;have r:∀j y,AN o E h j=some y->j<m:=Dm a F d;refine Bp 0 [(1,AA rev),(2,.iptr x.flat),(5,AM 1 o E),(6,AA i)] (AN o E h) m ?_ (λm2 b=>?_);simp[go_sem,IO,t,AF.flat];subst b;refine AT 0 (α:=Option Nat) (λo=>[(1,AA rev),(2,.iptr x.flat),(5,AM 1 o (M (i+1))),(6,AA i)]) (λo=>AN o (M (i+1)) h) (λo m=>n<=m/\Ar n m 1 o (M (i+1))) (AR ?_) (λo m f=>?_);refine AY 1 [(1,AA rev),(2,.iptr x.flat),(5,AM 1 o E),(6,AA i),(7,.iptr [AA y.rev,AA y.move])] (AN o E h) m ?_ (λm2 b=>?_);simp[go_sem,IO,AF.flat,t,Q,Az.enc,AC];exact⟨AV (AW r (qa _)) (AC _ _ _),AJ r (AJ r AB)⟩;rw[G];refine AH ?_;by_cases g:y.rev=rev;by_cases m0:y.move=0;simp[go_sem,g,m0,IO];exact⟨o,⟨by omega,d.mono b⟩,rfl,AB⟩;have u:(y.move !=0)=true:=by simpa using m0
 simp[go_sem,g,m0,u];rw[kB (x:=y.move) d (by omega) (by simp[AC]) (by
  intro j e;have:=(d.lt j e).2;rw[AD _ _ (by omega)];exact Cu j e)]
 have c:=d.push (j:=m2+1) (m':=m2+1+1) (e:=AA y.move) rfl rfl (by omega) (by omega);have s:=CY (p:=m2+1) (v:=.sl (m2+1) 0 1 (E.length+1) false) (e:=AA y.move) a (by omega) d (H:=hset (AN o E h) m2 (some (.cells [AA y.move]))) (AJ (λj z e=>by have:=a j z e;omega) (Be a d));have w:AM 1 (some (m2+1)) (E++[AA y.move])=.sl (m2+1) 0 1 (E.length+1) false:=by simp[AM]
 simp[go_sem];exact⟨some (m2+1),⟨by omega,c⟩,w.symm,by simpa[dW.app,SV.cells]using s⟩;simp[go_sem,g,IO];exact⟨o,⟨by omega,d.mono b⟩,rfl,AB⟩;refine AH ?_;simp[go_sem,w1,IO,-Int.natCast_add];exact⟨i+1,by omega,o,⟨by omega,f.1,f.2⟩,⟨IO,IO⟩,AB⟩;have:i=x.dels.length:=by omega
 subst this;refine AH ?_;simp[go_sem,AF.flat];exact⟨o,⟨F,d⟩,rfl,AB⟩;refine AH ?_;simp[go_sem];rw[K]at f ⊢;exact GR P f.2 (λe R=>by obtain⟨p,_,rfl⟩:=qy.1 R;simp[closed])
theorem aT (l:List Int) (hl:l.length<=1073741824) (x:Int) (full:Bool):PC 236 [.imm 1 (l.map AA) full,AA x] (AA (BD (λi=>l[i]? == some x) l.length 0)):=by
 intro h n;refine gq Tryz.func236 rfl λf=>?_;simp[go_sem];refine An 1 (α:=Nat) (λk=>[(0,.imm 1 (l.map AA) full),(1,AA x),(7,AA l.length),(8,AA k)]) (λ_=>h) (λk m=>k<=l.length/\n<=m/\BD (λi=>l[i]? == some x) l.length 0=BD (λi=>l[i]? == some x) l.length k) (λk=>l.length-k) 0 ?_ ?_ AB ?_;simp;simp[Ai];rintro k m ⟨hk,d,b⟩;rw[BD.eq_def _ _ k]at b;by_cases a:k<l.length;have w1:=wS k (by omega);obtain⟨y,c⟩:∃y,l[k]=y:=⟨_,rfl⟩
 by_cases e:x=y;subst e;simp[go_sem,a,c];exact As f rfl (by rw[b];simp[a,c]);have j:¬y=x:=λg=>e g.symm;simp[go_sem,a,c,e,w1,-Int.natCast_add];exact⟨k+1,by omega,⟨by omega,d,by rw[b];simp[a,c,j]⟩,IO⟩;simp[go_sem,a];exact As f rfl (by rw[b];simp[a])
theorem Ul (l:List Int) (x:Int):decide (0<=BD (λi=>l[i]? == some x) l.length 0)=decide (x∈l):=by
 rcases EA (λi=>l[i]? == some x) l.length 0 with e|⟨i0,_,hi0,e,a⟩
 rw[e];have:x∉l:=λb=>by
  obtain⟨i,hi,h⟩:=jx b;have:=Ff e i (qg _) hi;simp[hi,h]at this
 simp[this];rw[e];have b:x∈l:=by
  simp only[beq_iff_eq]at a;exact jb a
 simp[b]
theorem Z5 (l:List Int) (hl:l.length<=1073741824) (x:Int) (full:Bool):PC 166 [.imm 1 (l.map AA) full,AA x] (.bool (decide (x∈l))):=by
 intro h n;refine gq Tryz.func166 rfl λa=>?_;simp[go_sem];refine qw (aT l hl x full) ?_;simp[go_sem];exact As a rfl (by rw[<-Ul])
def BV (l:List Int) (x:Int):Bool:=decide (x≠0)&&decide (x∈l)
theorem ZN (l:List Int) (hl:l.length<=1073741824) (x:Int) (full:Bool):PC 92 [.imm 1 (l.map AA) full,AA x] (.bool (BV l x)):=by
 intro h n;refine gq Tryz.func92 rfl λa=>?_;by_cases e:x=0;simp[go_sem,e];exact As a rfl (by simp[BV]);simp[go_sem,e];refine qw (Z5 l hl x full) ?_;simp[go_sem];exact As a rfl (by simp[BV,e])
def UQ:List Int->Int
 | []=>0
 | x::l=>if x≠0 then x else UQ l
theorem c99 (l:List Int) (hl:l.length<=1073741824) (full:Bool):PC 99 [.imm 1 (l.map AA) full] (AA (UQ l)):=by
 intro h n;refine gq Tryz.func99 rfl λf=>?_;simp[go_sem];refine An 1 (α:=Nat) (λk=>[(3,AA 0),(6,.imm 1 (l.map AA) full),(7,AA l.length),(8,AA k)]) (λ_=>h) (λk m=>k<=l.length/\n<=m/\UQ l=UQ (l.drop k)) (λk=>l.length-k) 0 ?_ ?_ AB ?_;simp;simp[Ai];rintro k m ⟨hk,c,b⟩;by_cases a:k<l.length;have w1:=wS k (by omega);obtain⟨y,d⟩:∃y,l[k]=y:=⟨_,rfl⟩
 have g:l.drop k=y::l.drop (k+1):=by rw[qG a,d]
 rw[g,UQ]at b;by_cases e:y=0;rw[if_neg (by simpa using e)]at b;simp[go_sem,a,d,e,w1,-Int.natCast_add];exact⟨k+1,by omega,⟨by omega,c,b⟩,IO⟩;rw[if_pos e]at b;simp[go_sem,a,d,e];exact As f rfl (by rw[b]);rw[jF (by omega)]at b;simp[go_sem,a];exact As f rfl (by rw[b];rfl)
def LJ (a b:Int×Int):Int:=UQ [Do a.1 b.1,Do a.2 b.2]
def Yq:Tr:=.pure 0<|.pure 1<|.pure 2<|.pure 3<|.pure 5<|.pure 6<|.pure 7<|.pure 8<|.one 4<|.one 9<|.one 10<|.one 11<|.one 12 .nil
theorem c98 (a b:Int×Int):PC 98 [B5 a,B5 b] (AA (LJ a b)):=by
 intro h n;refine Db Tryz.func98 rfl λf=>?_;have c:=f.lt;refine AY 1 [(2,.iptr [AA a.1,AA a.2]),(3,.iptr [AA b.1,AA b.2])] h n ?_ (λm i=>?_);simp[go_sem,B5];refine⟨by omega,⟨AV (f.none (by omega)) (by simp[hset]),AV (f.none (by omega)) (by simp[hset])⟩,λj y e=>by have:=c j y e;simp only[hset];grind⟩;have d:∀j y,h j=some y->j<m:=λj y e=>by have:=c j y e;omega
 refine AT 0 (α:=Unit) (λ_=>[(4,AA (LJ a b))]) (λ_=>h) (λ_ m=>n<=m) (BX Yq rfl (by kernel_rfl) (by kernel_rfl) ?_) (λ_ m i=>?_);simp[go_sem,Yq];refine qw (Rg a.1 b.1) ?_;simp[go_sem];refine qw (Rg a.2 b.2) ?_;simp[go_sem];have g:Fz (hset h m (some (.cells [AA (Do a.1 b.1),AA (Do a.2 b.2)]))) h 1 (.sl m 0 1 2 true) (.imm 1 ([Do a.1 b.1,Do a.2 b.2].map AA) false):=
  DV (h':=hset h m (some (.cells [AA (Do a.1 b.1),AA (Do a.2 b.2)]))) (h:=h) (k:=0) (z:=1) (o:=m) (full:=true) (full':=false) (es:=[AA (Do a.1 b.1),AA (Do a.2 b.2)]) (AW d (qa _)) (by simp) (by rw[AC];simp[SV.cells]) (by simp[SV.storable,SV.cells])
 refine kU (bs:=[.imm 1 ([Do a.1 b.1,Do a.2 b.2].map AA) false]) (h2:=h) 1 (AJ d AB) ⟨g,trivial⟩ ((c99 [Do a.1 b.1,Do a.2 b.2] (by simp) false).use ?_);simp[go_sem,IO,LJ];omega;refine AH ?_;simp[go_sem];exact As f rfl rfl
theorem H6 (x:Int×Int):B5 x=.agg [AA x.1,AA x.2]:=rfl
theorem Ux (x:Int×Int):(B5 x).cells.length=2:=rfl
theorem WW (x:Int×Int):(B5 x).storable=true:=rfl
theorem KC (n:Nat) (l:List (Int×Int)):closedL n ((l.map B5).flatMap SV.cells)=true:=by
 rw[BU];intro e a;obtain⟨x,b,h2⟩:=jo.1 a;obtain⟨p,_,rfl⟩:=qy.1 b;simp only[B5,SV.cells]at h2;rcases qk.1 h2 with rfl|h2;rfl;rw[qv.1 h2];rfl
def ZU (r:List (Int×Int)) (H:Hp) (o n:Nat):SV->Hp->Nat->Prop:=λv h' n'=>∃f2 t,v=.sl o 0 2 r.length f2/\h'=hset H o (some (.cells ((r.map B5).flatMap SV.cells++t)))/\n'=n
theorem c96 (l:List Int) (hl:l.length<=1073741824) (x:Int×Int) (full:Bool):PC 96 [B5 x,.iptr [.imm 1 (l.map AA) full]] (.bool (!BV l x.1)):=by
 intro h n;refine gq Tryz.func96 rfl λa=>?_;simp[go_sem,H6,AC];refine qw (ZN l hl x.1 full) ?_;simp[go_sem];exact Ay a (AJ (λj y e=>(a j y e).1) AB) rfl rfl
theorem Xa (l:List (Int×Int)) (hl:l.length<=1048576) (g:FuncId) (a b:List SV) (p:Nat->Bool) (hp:∀(i:Nat) (h:i<l.length),PC g (a++[B5 l[i]]++b) (.bool (p i))):
 PC 167 [.imm 2 (l.map B5) false,.fn (.func g) a b] (AA (BD p l.length 0)):=by
 intro h n;refine gq Tryz.func167 rfl λf=>?_;simp[go_sem];refine An 1 (α:=Nat) (λk=>[(0,.imm 2 (l.map B5) false),(1,.fn (.func g) a b),(7,AA l.length),(8,AA k)]) (λ_=>h) (λk m=>k<=l.length/\n<=m/\BD p l.length 0=BD p l.length k) (λk=>l.length-k) 0 ?_ ?_ AB ?_;simp;simp[Ai];rintro k m ⟨hk,e,d⟩;rw[BD.eq_def _ _ k]at d;by_cases c:k<l.length;have w1:=wS k (by omega);have H:=hp k c;simp only[qn,qz,qE]at H;simp[go_sem,c,H6];refine qw (by simpa[H6]using H) ?_;by_cases h0:p k=true;simp[go_sem,h0];exact As f rfl (by rw[d];simp[c,h0]);simp[go_sem,h0,w1,-Int.natCast_add];exact⟨k+1,by omega,⟨by omega,e,by rw[d];simp[c,h0]⟩,IO⟩;simp[go_sem,c];exact As f rfl (by rw[d];simp[c])
set_option maxHeartbeats 1000000 in
theorem d95 (l:List (Int×Int)) (hl:l.length<=1048576) (g:FuncId) (a b:List SV) (p:(Int×Int)->Bool) (hp:∀x∈l,PC g (a++[(B5 x)]++b) (.bool (p x))) {H:Hp} {n o:Nat} {full:Bool} (V:H o=some (.cells ((l.map B5).flatMap SV.cells))):
 BA Tryz.prog 95 [.sl o 0 2 l.length full,.fn (.func g) a b] H n (ZU (l.filter λx=>!p x) H o n):=by
 refine gq Tryz.func95 rfl λW=>?_;have S:o<n:=(W o _ V).1;have hI:=Xa l hl g a b (λi=>match l[i]? with|some x=>p x|none=>false) (λi hi=>by simpa[hi]using hp l[i] (ql hi));have fin:∀(c:List (Int×Int)) (h':Hp) (n':Nat) (cs t:List SV) (f2:Bool),(l.filter λx=>!p x)=c->(∀j y,j≠o->H j=some y->h' j=some y)->h' o=some (.cells cs)->cs=(c.map B5).flatMap SV.cells++t->closedL n t=true->
  B8 n h' n' (.sl o 0 2 c.length f2) (ZU (l.filter λx=>!p x) H o n):=λc h' n' cs t f2 hk hh hc U h2=>by
  refine .inr ⟨0,.sl o 0 2 c.length f2,hset H o (some (.cells cs)),IO,by simpa[closed]using S,λj y e=>?_,f2,t,by rw[hk],by rw[hk,U],rfl⟩;by_cases A:j=o;subst A;rw[AC]at e;cases e;refine⟨hc,S,?_⟩;show closedL n cs=true;rw[U,BU];intro e O;rcases qe.1 O with O|O;exact BU.1 (KC n c) e O;exact BU.1 h2 e O;rw[AD _ _ A]at e;exact⟨hh j y A e,W j y e⟩
 simp[go_sem];refine hI.lend 2 rfl ⟨?_,IO,trivial⟩ ?_;have:=DV (h':=H) (h:=λ_=>none) (k:=1) (z:=2) (es:=l.map B5) (full:=full) (full':=false) (o:=o) rfl (by simp) V (E3 l);rw[qd]at this;exact this;rcases EA (λi=>match l[i]? with|some x=>p x|none=>false) l.length 0 with e|⟨f,_,v,e,hpi⟩
 simp[go_sem,e];have N:(l.filter λx=>!p x)=l:=jy.2 λx J=>by
  obtain⟨i,hi,rfl⟩:=jx J;have:=Ff e i (qg _) hi;simpa[hi]using this
 exact fin l H n _ [] full N (λj y _ e=>e) V (by simp) rfl;have w0:=wS f (by omega);have ne1:¬((f:Int) = -1):=by omega
 simp[go_sem,e,w0,ne1,-Int.natCast_add];have D:p l[f]=true:=by simpa[v]using hpi
 have d:(l.take f).filter (λx=>!p x)=l.take f:=jy.2 λx J=>by
  obtain⟨i,hi,rfl⟩:=jx J;have Q:i<f:=by simp at hi;omega
  have:=Gd e i (qg _) Q;simpa[show i<l.length by omega]using this
 refine An 1 (α:=Nat) (λi=>[(0,.sl o 0 2 l.length full),(1,.fn (.func g) a b),(5,AA ((l.take i).filter λx=>!p x).length),(6,AA i)]) (λi=>hset H o (some (.cells (((BJ p l i).map B5).flatMap SV.cells))))
  (λi m=>f<i/\i<=l.length/\n<=m) (λi=>l.length-i) (f+1) ?_ ?_ ?_ ?_
 exact⟨qP _,v,qa _⟩;have:((l.take (f+1)).filter λx=>!p x).length=f:=by
  rw[qb v,qI,d];simp[D];omega
 simp[Ai,this,-Int.natCast_add];have:BJ p l (f+1)=l:=by
  unfold BJ;rw[qb v,qI,d];simp[D,jO (kx v)]
 rw[this];intro j y e;simp only[hset]at e;split at e;rename_i h;subst h;rw[V];exact e;exact e;rintro i m ⟨hi1,Q,hnm⟩;have Z:((l.take i).filter λx=>!p x).length<i:=by
  have U:l.take i=l.take (f+1)++(l.drop (f+1)).take (i-(f+1)):=by
   rw[<-List.take_add];congr 1;omega
  have h2:((l.take (f+1)).filter λx=>!p x).length=f:=by
   rw[qb v,qI,d];simp[D];omega
  rw[U,qI,qt,h2];have:=qU (λx=>!p x) ((l.drop (f+1)).take (i-(f+1)));simp at this ⊢;omega
 have r:(BJ p l i).length=l.length:=by unfold BJ;simp;omega
 generalize q:(l.take i).filter (λx=>!p x)=c at Z ⊢;have w:o≠m:=by omega
 have G:=E3 (BJ p l i);by_cases C:i<l.length;have w1:=wS i (by omega);have w2:IntKind.i64.wrap ((c.length:Int)+1)=((c.length+1:Nat):Int):=by rw[Cl]<;>omega
 obtain⟨x,J⟩:∃x,l[i]=x:=⟨_,rfl⟩
 have P:(BJ p l i)[i]? = some x:=by
  unfold BJ;rw[q,qV (by omega),qY];have:c.length+(i-c.length)=i:=by omega
  rw[this,qf C,J]
 obtain⟨g1,X⟩:=JU G (i:=i) (e:=(B5 x)) (by simp[P]);have u:=LT G (j:=c.length) (e:=(B5 x)) (by simp[r];omega);have g3:c.length*2+2<=(((BJ p l i).map B5).flatMap SV.cells).length:=by
  rw[A7 G,qd,r];omega
 have hcl:=Ux x;generalize Y:((BJ p l i).map B5).flatMap SV.cells=F at g1 X g3 u ⊢;have H1:=hp x (by rw[<-J];exact ql C);simp only[qn,qz,qE]at H1;have hpre:=WW x;simp[H6,SV.cells]at X;simp[go_sem,C,AC,g1,X];refine qw (by simpa[H6]using H1) ?_;by_cases L:p x=true;simp[go_sem,L,w1,-Int.natCast_add];have B:(l.take (i+1)).filter (λx=>!p x)=c:=by rw[qb C,qI,q,J];simp[L]
 have E:BJ p l (i+1)=BJ p l i:=by unfold BJ;rw[B,q]
 refine⟨i+1,by omega,⟨by omega,by omega,by omega⟩,⟨by rw[B];exact IO,IO⟩,λj y e=>?_⟩;rw[E,Y]at e;by_cases A:j=o;subst A;rw[AC]at e;rw[AD _ _ w,AD _ _ w,AC];exact e;rw[AD _ _ A]at e;have:=(W j y e).1;rw[AD _ _ (by omega),AD _ _ (by omega),AD _ _ A];exact e;have I:p x=false:=by simpa using L
 have R:(c.length:Int)<l.length:=by omega
 simp[H6,SV.cells]at u;simp[go_sem,I,AC,AD,w,R,g3,u,w1,w2,-Int.natCast_add];have B:(l.take (i+1)).filter (λx=>!p x)=c++[x]:=by rw[qb C,qI,q,J];simp[I]
 have E:(BJ p l (i+1)).map B5=((BJ p l i).map B5).set c.length (B5 x):=by
  have:BJ p l (i+1)=(BJ p l i).set c.length x:=by
   unfold BJ;rw[B,q,jV _ _ (qa _),Nat.sub_self];simp;rw[qG (show c.length<l.length by omega),List.set_cons_zero]
  rw[this,List.map_set]
 rw[H6]at E;refine⟨i+1,by omega,⟨by omega,by omega,by omega⟩,⟨by rw[B,qt];exact IO,IO⟩,λj y e=>?_⟩;rw[E]at e;by_cases A:j=o;subst A;rw[AC]at e ⊢;exact e;rw[AD _ _ A]at e ⊢;have:=(W j y e).1;rw[AD _ _ (by omega),AD _ _ (by omega),AD _ _ A];exact e;have:i=l.length:=by omega
 subst this;have q1:c.length<=l.length:=by omega
 have q2:¬((c.length:Int)=l.length):=by omega
 have q3:¬(l.length-c.length=0):=by omega
 rw[qi]at q;have Y:((BJ p l l.length).map B5).flatMap SV.cells=(c.map B5).flatMap SV.cells++((l.drop c.length).map B5).flatMap SV.cells:=by unfold BJ;rw[qi,q];simp
 have hlk:((c.map B5).flatMap SV.cells).length=c.length*2:=by rw[A7 (E3 c),qd]
 have K:(((BJ p l l.length).map B5).flatMap SV.cells).length=l.length*2:=by rw[A7 G,qd,r]
 have q4:c.length*2+(l.length-c.length)*2<=(((BJ p l l.length).map B5).flatMap SV.cells).length:=by rw[K,<-jB];apply jt;omega
 have T:(((BJ p l l.length).map B5).flatMap SV.cells).take (c.length*2)=(c.map B5).flatMap SV.cells:=by rw[Y,<-hlk,List.take_left]
 generalize((BJ p l l.length).map B5).flatMap SV.cells=F at q4 T K ⊢;simp[go_sem,AC,q1,q2,q3,q4];refine fin c _ _ _ _ _ q (λj y hj e=>by rw[AD _ _ hj,AD _ _ hj];exact e) (AC _ _ _) (by rw[T]) ?_;simp[BU];rintro s (⟨_,⟨_,rfl⟩,M⟩|M);rcases qk.1 M with rfl|M;rfl;rw[qv.1 M];rfl;rw[jF (by rw[K];omega)]at M;cases M
abbrev dq:=List ((Int×Int)×(Bool×Bool))
def gC (b:Bool×Bool):SV:=.agg [.bool b.1,.bool b.2]
def dL (s:dq):List (SV×SV):=s.map λe=>(B5 e.1,gC e.2)
def fg (v:Bool×Bool) (mid:Bool):Bool×Bool:=(v.1||mid,v.2 || !mid)
def ex:dq->Int×Int->Bool->dq
 | [],k,mid=>[(k,fg (false,false) mid)]
 | (k',v)::r,k,mid=>if k'=k then(k,fg v mid)::r else(k',v)::ex r k mid
def fx (s:dq) (l:List (Int×Int)) (mid:Bool):dq:=l.foldl (λs k=>ex s k mid) s
def lj (s:dq) (p:BW):dq:=fx s p.head.moves p.mid
theorem WG (a b c d:Int):Bv Tryz.prog [.int .i64 a,.int .i64 b] [.int .i64 c,.int .i64 d] (Ba Tryz.prog 89)=some (a==c&&b==d):=by
 rw[CT,YM];have f:(Jl Tryz.prog 3).isSome=true:=by simp[go_sem]
 have g:Bh Tryz.prog 3=1:=by simp[go_sem]
 have e:Fm Tryz.prog 3=some false:=by simp[go_sem]
 have one:∀x y:Int,DP Tryz.prog 3 (.int .i64 x) (.int .i64 y)=some (x==y):=λx y=>by simp[DP,f,g,e]
 simp only[DA,qj,if_false,jG,List.getElem?_cons_succ,one];cases h1:(a==c)<;>cases h2:(b==d)<;>simp
theorem Tn (s:dq):∀p∈dL s,Vd p:=λp hp=>by
 obtain⟨e,_,rfl⟩:=qy.1 hp;exact⟨e.1.1,e.1.2,rfl⟩
theorem gk (a b:Int) (mid:Bool):∀(s:dq) (i:Nat),
 (F3 Tryz.prog 89 [.int .i64 a,.int .i64 b] (dL s) i=some none/\dL (ex s (a,b) mid)=dL s++[(B5 (a,b),gC (fg (false,false) mid))])\/
 ∃j v,F3 Tryz.prog 89 [.int .i64 a,.int .i64 b] (dL s) i=some (some (i+j,gC v))/\dL (ex s (a,b) mid)=HF (dL s) j (B5 (a,b)) (gC (fg v mid))
 | [],i=>.inl ⟨rfl,rfl⟩
 | ((c,d),v)::r,i=>by
  have m:dL (((c,d),v)::r)=(B5 (c,d),gC v)::dL r:=rfl;rw[m];simp only[F3,B5,WG];by_cases e:a=c/\b=d;obtain⟨rfl,rfl⟩:=e;have g:(a==a&&b==b)=true:=by simp
  rw[g];exact .inr ⟨0,v,rfl,by simp[ex,dL,HF,B5]⟩;have g:(a==c&&b==d)=false:=by
   cases f:(a==c)<;>cases h2:(b==d)<;>simp_all
  have l:¬((c,d)=(a,b)):=by
   intro h;cases h;exact e ⟨rfl,rfl⟩
  rw[g];have k:dL (ex (((c,d),v)::r) (a,b) mid)=(B5 (c,d),gC v)::dL (ex r (a,b) mid):=by
   rw[ex,if_neg l];rfl
  rcases gk a b mid r (i+1)with⟨f,h2⟩|⟨j,w,f,h2⟩
  exact .inl ⟨f,by rw[k,h2];rfl⟩;exact .inr ⟨j+1,w,by rw[show i+(j+1)=i+1+j by omega];exact f,by rw[k,h2];rfl⟩
def iV (k:Nat) (s:dq) (o:Nat):Option BT:=if o=k then some (.map (dL s))else if o=k+1 then some (.cells [.map k])else none
theorem Yh (k:Nat) (s:dq) (H:Hp) (b:H (k+1)=some (.cells [.map k])):Aj (iV k) s H=hset H k (some (.map (dL s))):=by
 funext j;simp only[Aj,iV,hset];by_cases e:j=k;simp[e];by_cases a:j=k+1;subst a;simp[b];simp[e,a]
theorem RI (k:Nat) (s:dq):∀o y,iV k s o=some y->BQ (k+2) y=true:=λo y e=>by
 simp only[iV]at e;split at e;cases e;simp only[BQ,jj,dL,qq];intro p hp;obtain⟨x,_,rfl⟩:=qy.1 hp;exact⟨by simp[B5,closed,closedL],by simp[gC,closed,closedL]⟩;split at e;cases e;simp[BQ,closed,closedL];cases e
end Go.Proofs.YtgakninlhfkkmaaGreat.Sh
