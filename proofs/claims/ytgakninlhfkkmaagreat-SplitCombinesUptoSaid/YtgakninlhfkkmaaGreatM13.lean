/- A part of the proof (part 13 of 17). -/
import Derived.Test.YtgakninlhfkkmaaGreatM12
import Derived.Test.YtgakninlhfkkmaaGreatRows
import Derived.WalkKit
import Derived.ProofKit
import Derived.OpenShut
import Derived.JoinedCond
import Derived.ReadAgain
import Derived.ChangeReads
namespace Go.Proofs.YtgakninlhfkkmaaGreat.Sh
open Proofs
set_option maxRecDepth 10000
theorem Xi (v0:SV):PC 254 [v0,AA 0,AA 0,.fn (.func 120) [] []] (.tup []):=by
 intro h n;refine gq Tryz.func254 rfl λho=>?_;simp[go_sem];refine An 1 (α:=Unit) (λk=>[(2,AA 0),(8,AA 1)]) (λ_=>h) (λk m=>n<=m) (λk=>0) () ?_ ?_ AB ?_;omega;simp[Ai,show IntKind.i64.wrap 1=1 from by decide,IO];rintro _ m hm;simp[go_sem];exact Ay ho AB rfl rfl
theorem Xd (v0:SV):PC 188 [v0,AA 0,.fn (.func 120) [] []] (.tup []):=by
 intro h n;refine gq Tryz.func188 rfl λho=>?_;simp[go_sem];refine An 1 (α:=Unit) (λk=>[(0,v0),(1,AA 0),(2,.fn (.func 120) [] []),(6,AA 20),(7,AA 0),(8,AA 20)]) (λ_=>h) (λk m=>n<=m) (λk=>0) () ?_ ?_ AB ?_;omega;simp[Ai];rintro _ m hm;simp[go_sem];refine qw (Xi v0) ?_;simp[go_sem];refine An 1 (α:=Unit) (λk=>[(1,AA 0),(6,AA 20)]) (λ_=>h) (λk m=>n<=m) (λk=>0) () ?_ ?_ AB ?_;omega;simp[Ai];rintro _ m hm;simp[go_sem];exact Ay ho AB rfl rfl
theorem XT (o:Nat) (full:Bool):PC 119 [.sl o 0 2 0 full,.fn (.func 120) [] []] (.tup []):=by
 intro h n;refine gq Tryz.func119 rfl λho=>?_;simp[go_sem];refine qw (Xd _) ?_;simp[go_sem];exact Ay ho AB rfl rfl
def Nv (l:List Am):List SV:=(l.map Am.enc).flatMap SV.cells
def Sf (x:AF) (h:Hp) (n:Nat) (v1:SV) (o1:Option Nat) (v2:SV) (o2:Option Nat) (y:Int) (E:List Az) (F:List Am):Hp:=
 D8 (F.map Am.enc) o2 (D8 (E.map Az.enc) o1 (hset (hset h n (some (.cells [Af x.props,AA y,AA x.move,v1,v2]))) (n+1) (some VJ)))
structure RnW (x:AF) (h:Hp) (n:Nat) (v1:SV) (o1:Option Nat) (v2:SV) (o2:Option Nat) (W:Int->List Az->List Am->Hp):Prop where
 w0:∀y E F,W y E F n=some (.cells [Af x.props,AA y,AA x.move,v1,v2])
 w1:∀y E F,W y E F (n+1)=some VJ
 wd:∀j,o1=some j->∀y E F,W y E F j=some (.cells (CS E))
 wl:∀j,o2=some j->∀y E F,W y E F j=some (.cells (Nv F))
 sy:∀y z E F,hset (W y E F) n (some (.cells [Af x.props,AA z,AA x.move,v1,v2]))=W z E F
 sd:∀j,o1=some j->∀y E F E',hset (W y E F) j (some (.cells (CS E')))=W y E' F
 sl:∀j,o2=some j->∀y E F F',hset (W y E F) j (some (.cells (Nv F')))=W y E F'
 old:∀y E F j z,h j=some z->W y E F j=some z
theorem rnW {x:AF} {h:Hp} {n m:Nat} {v1 v2:SV} {o1 o2:Option Nat} {es1 es2:List SV} (hb:∀j y,h j=some y->j<n) (a1:HL 2 es1 v1 o1 (n+2) m) (a2:HL 4 es2 v2 o2 (n+2) m) (h12:∀j,o1=some j->o2≠some j):RnW x h n v1 o1 v2 o2 (Sf x h n v1 o1 v2 o2):=by
 have L1:=a1.lt;have L2:=a2.lt;clear a1 a2;constructor;intro y E F;have r3:=L1 n;have r4:=L2 n;cases o1<;>cases o2<;>simp only[Sf,D8,hset]<;>grind;intro y E F;have r3:=L1 (n+1);have r4:=L2 (n+1);cases o1<;>cases o2<;>simp only[Sf,D8,hset]<;>grind;intro j e y E F;subst e;have r4:=h12 j rfl;cases o2<;>simp only[Sf,D8,hset,CS]<;>grind;intro j e y E F;subst e;cases o1<;>simp only[Sf,D8,hset,Nv]<;>grind;intro y z E F;funext j;have r3:=L1 n;have r4:=L2 n;cases o1<;>cases o2<;>simp only[Sf,D8,hset]<;>grind;intro j e y E F E';subst e;have r4:=h12 j rfl;funext i;cases o2<;>simp only[Sf,D8,hset,CS]<;>grind;intro j e y E F F';subst e;funext i;cases o1<;>simp only[Sf,D8,hset,Nv]<;>grind;intro y E F j z e;have r3:=L1 j;have r4:=L2 j;have:=hb j z e;cases o1<;>cases o2<;>simp only[Sf,D8,hset]<;>grind
section
variable {g : FuncId} {a b : List SV} {p : Int → Bool}
set_option maxHeartbeats 4000000 in
theorem Xn (x:AF) (hs:x.sized) (hd:x.dels.length<20) (hg:∀y,PC g (a++[AA y]++b) (.bool (p y))) (id:Int):PC 47 [x.enc,AA id,.fn (.func g) a b] (Ji p id x).enc:=by
 intro h n;refine Db Tryz.func47 rfl λho=>?_;have hHb:=ho.lt;have q1:n≠n+1:=by omega
 refine BP 0 [(1,AA id),(2,.fn (.func g) a b),(3,.ptr n 0),(6,.ptr (n+1) 0)] (hset (hset h n (some (.cells x.flat))) (n+1) (some VJ)) (λm=>n+2=m) ?_ (λm hm=>?_);simp[go_sem,AF.enc,AF.flat,IO];subst hm;refine BM 0 (α:=SV×Option Nat×SV×Option Nat) (λq=>[(1,AA id),(2,.fn (.func g) a b),(3,.ptr n 0),(6,.ptr (n+1) 0)]) (λq=>Sf x h n q.1 q.2.1 q.2.2.1 q.2.2.2 x.ins x.dels x.layers)
  (λq m'=>HL 2 (x.dels.map Az.enc) q.1 q.2.1 (n+2) m'/\HL 4 (x.layers.map Am.enc) q.2.2.1 q.2.2.2 (n+2) m'/\(∀j,q.2.1=some j->q.2.2.2≠some j)/\n+2<=m') ?_ ?_
 simp[go_sem,AF.flat,AD _ _ q1,AC];refine qC (Zg x hs) ?_;rintro v H' n' ⟨v1,o1,v2,o2,rfl,a1,a2,h12,hn',hH⟩;obtain⟨s1,t1⟩:=a1.st;obtain⟨s2,t2⟩:=a2.st;have L1:=a1.lt;have L2:=a2.lt;have hn:H' n=some (.cells [Af x.props,AA x.ins,AA x.move,AP x.dels,AL x.layers]):=by
  refine hH n _ ?_;have r3:=L1 n;have r4:=L2 n;cases o1<;>cases o2<;>simp only[D8,hset]<;>grind
 simp[go_sem,hn];refine⟨v1,o1,v2,o2,⟨a1,a2,h12,hn'⟩,λj y e=>?_⟩;have r1:=hH j y;have r3:=L1 j;have r4:=L2 j;have q6:=hHb j y;clear hH L1 L2 a1 a2 hn;revert e;cases o1<;>cases o2<;>simp only[Sf,D8,hset]at r1 ⊢ <;> grind;rintro⟨v1,o1,v2,o2⟩ m ⟨a1,a2,h12,hm⟩;dsimp only at a1 a2 h12 hm ⊢;have R:=rnW (x:=x) hHb a1 a2 h12;generalize Sf x h n v1 o1 v2 o2=W at R ⊢;refine AY 0 [(1,AA id),(2,.fn (.func g) a b),(3,.ptr n 0),(6,.ptr (n+1) 0),(7,.ptr n 1)] (W x.ins x.dels x.layers) m ?_ (λm2 hm2=>?_);simp[go_sem,IO];have hid:∀y,PC g (a++AA y::b) (.bool (p y)):=λy=>by simpa using hg y
 refine Bc 0 [(1,AA id),(2,.fn (.func g) a b),(3,.ptr n 0),(6,.ptr (n+1) 0),(7,.ptr n 1)] (W (FV p id x.ins) x.dels x.layers) m ?_ (λm3 hm3=>?_);refine AH ?_;by_cases i0:x.ins=0;have hr:FV p id x.ins=x.ins:=by simp[FV,i0]
 rw[hr];simp[go_sem,R.w0,i0,IO,hm2];have i1:(x.ins !=0)=true:=by simpa using i0
 simp[go_sem,R.w0,i1];refine qw (hid x.ins) ?_;cases hp:p x.ins with
 | true=>
  have hr:FV p id x.ins=id:=by simp[FV,i0,hp]
  rw[hr];simp[go_sem,R.w0,R.sy,IO,hm2]
 | false=>
  have hr:FV p id x.ins=x.ins:=by simp[FV,hp]
  rw[hr];simp[go_sem,IO,hm2]
 generalize hy:FV p id x.ins=y;refine Bc 0 [(1,AA id),(2,.fn (.func g) a b),(3,.ptr n 0),(6,.ptr (n+1) 0),(7,.ptr n 1)] (W y (x.dels.map (Bz p id)) x.layers) m ?_ (λm4 hm4=>?_);rcases a1 with⟨_,he,z',f,rfl⟩|⟨j,f,rfl,hj1,hj2,rfl⟩
 have hd0:x.dels=[]:=by simpa using he
 refine AH ?_;simp[go_sem,R.w0,hd0];refine An 0 (α:=Unit) (λ_=>[(1,AA id),(2,.fn (.func g) a b),(3,.ptr n 0),(6,.ptr (n+1) 0),(7,.ptr n 1),(34,AA 0),(35,AA 0)]) (λ_=>W y [] x.layers) (λ_ m'=>m<=m') (λ_=>0) () hm3 ?_ AB ?_;simp[Ai,IO];rintro _ m5 hm5;simp[go_sem,IO,hm5];refine AY 0 [(1,AA id),(2,.fn (.func g) a b),(3,.ptr n 0),(6,.ptr (n+1) 0),(7,.ptr n 1),(34,AA x.dels.length),(35,AA 0)] (W y x.dels x.layers) m ?_ (λm5 hm5=>?_);simp[go_sem,R.w0,IO,hm3];refine AR (BG 0 (α:=Nat) (λi=>[(1,AA id),(2,.fn (.func g) a b),(3,.ptr n 0),(6,.ptr (n+1) 0),(7,.ptr n 1),(34,AA x.dels.length),(35,AA i)]) (λi=>W y (EO (Bz p id) x.dels i) x.layers) (λi m'=>i<=x.dels.length/\m<=m') (λi=>x.dels.length-i) 0 ⟨qg _,hm5⟩ ?_ ?_ ?_);simp[Ai,IO];rw[Ll];exact AB;rintro i m6 ⟨hi,hm6⟩;by_cases hlt:i<x.dels.length;have w1:=wS i (by omega);have hnx:=Lk (Bz p id) x.dels i hlt;have hEl:=NF (Bz p id) x.dels i (kx hlt);have hget:=NE (Bz p id) x.dels i hlt;obtain⟨d,hd'⟩:∃d,x.dels[i]=d:=⟨_,rfl⟩
 rw[hd']at hnx hget;generalize hE:EO (Bz p id) x.dels i=E at hnx hEl hget;have hget2:(E.map Az.enc)[i]? = some d.enc:=by rw[qO,hget];rfl
 obtain⟨g1,g2⟩:=K1 (Az.E.size E) hget2 (k:=0) (c:=AA d.rev) rfl;have g3:p d.rev=true->((E.map Az.enc).flatMap SV.cells).take (i*2+0)++AA id::((E.map Az.enc).flatMap SV.cells).drop (i*2+0+1)=CS (EO (Bz p id) x.dels (i+1)):=λhp=>by
  rw[Og (e':=(Bz p id d).enc) (Az.E.size E) hget2 (by omega) (by simp[Bz,Kl,hp,Az.enc,SV.cells]),<-hnx,CS,List.map_set]
 have g4:p d.rev=false->EO (Bz p id) x.dels (i+1)=E:=λhp=>by
  rw[<-hnx,show Bz p id d=d by simp[Bz,Kl,hp]];obtain⟨k1,k2⟩:=qo.1 hget;rw[<-k2];exact List.set_getElem_self k1
 obtain⟨E2,hE2⟩:∃E2,EO (Bz p id) x.dels (i+1)=E2:=⟨_,rfl⟩
 rw[hE2]at g3 g4;have hWE:∀y F,W y E F j=some (.cells (CS E)):=λy F=>R.wd j rfl y E F;rw[show(E.map Az.enc).flatMap SV.cells=CS E from rfl]at g1 g2 g3;simp only[jJ]at g1 g2 g3;refine AY 0 [(1,AA id),(2,.fn (.func g) a b),(3,.ptr n 0),(6,.ptr (n+1) 0),(7,.ptr n 1),(34,AA x.dels.length),(35,AA i),(36,.bool true)] (W y E x.layers) m ?_ (λm7 hm7=>?_);simp[go_sem,IO,hlt,hm6];refine AY 0 [(1,AA id),(2,.fn (.func g) a b),(3,.ptr n 0),(6,.ptr (n+1) 0),(7,.ptr n 1),(34,AA x.dels.length),(35,AA i)] (W y E x.layers) m ?_ (λm8 hm8=>?_);simp[go_sem,IO,hm7];refine AT 0 (α:=Unit) (λ_=>[(1,AA id),(2,.fn (.func g) a b),(3,.ptr n 0),(6,.ptr (n+1) 0),(7,.ptr n 1),(34,AA x.dels.length),(35,AA i)]) (λ_=>W y E2 x.layers) (λ_ m'=>m<=m') (AR ?_) (λ_ m9 hm9=>?_);refine AY 0 [(1,AA id),(2,.fn (.func g) a b),(3,.ptr n 0),(6,.ptr (n+1) 0),(7,.ptr n 1),(34,AA x.dels.length),(35,AA i),(8,AA i)] (W y E x.layers) m ?_ (λm9 hm9=>?_);simp[go_sem,IO,hm8];refine AY 0 [(1,AA id),(2,.fn (.func g) a b),(3,.ptr n 0),(6,.ptr (n+1) 0),(7,.ptr n 1),(34,AA x.dels.length),(35,AA i),(8,AA i),(47,.bool (p d.rev))] (W y E x.layers) m ?_ (λm10 hm10=>?_);simp[go_sem,R.w0,hWE,hlt,g1,g2];refine qw (hid d.rev) ?_;simp[go_sem,IO,hm9];cases hp:p d.rev with
 | true=>
  refine Ah (b:=true) (by simp[go_sem]) (AH ?_);have g3:=g3 hp;simp[go_sem,R.w0,hWE,hlt,g1,g3,R.sd j rfl,IO,hm10]
 | false=>
  refine Ah (b:=false) (by simp[go_sem]) (AH ?_);rw[g4 hp];simp[go_sem,IO,hm10]
 refine AH ?_;simp[go_sem,w1,IO,-Int.natCast_add];exact⟨i+1,by omega,⟨by omega,hm9⟩,IO,by rw[hE2];exact AB⟩;have:i=x.dels.length:=by omega
 subst this;rw[ND];refine AH ?_;simp[go_sem,IO];exact hm6;have hdl:(x.dels.map (Bz p id)).length=x.dels.length:=qd _;refine Bc 0 [(1,AA id),(2,.fn (.func g) a b),(3,.ptr n 0),(6,.ptr (n+1) 0),(7,.ptr n 1)] (W y (Cz (x.dels.map (Bz p id)) x.dels.length) x.layers) m ?_ (λm5 hm5=>?_);rcases a1 with⟨_,he,z',f,rfl⟩|⟨j,f,rfl,hj1,hj2,rfl⟩
 have hd0:x.dels=[]:=by simpa using he
 refine AH ?_;simp[go_sem,R.w0,hd0];refine qw (by exact Zq.wk (us:=[.imm z' [] f,.fn (.func 120) [] []]) 1 ⟨BC (by simp),IO,trivial⟩) ?_;simp[go_sem,IO,hm4,Cz];refine AH ?_;simp[go_sem,R.w0];by_cases hd0:x.dels=[];simp only[hd0,jI];refine qw (XT j f) ?_;simp[go_sem,IO,hm4,Cz];have hl1:1<=(x.dels.map (Bz p id)).length:=by rw[hdl];exact qA.2 hd0
 have c:=bR (x.dels.map (Bz p id)) hl1 (by omega) (full:=f) (n:=m4) (R.wd j rfl y (x.dels.map (Bz p id)) x.layers);rw[hdl,R.sd j rfl]at c;refine qC c ?_;rintro v H' n' ⟨rfl,rfl,rfl⟩;simp[go_sem,IO,hm4];have hll:=hs.layers;have hDl:(Cz (x.dels.map (Bz p id)) x.dels.length).length=x.dels.length:=by rw[HH,hdl]
 obtain⟨D,hD⟩:∃D,Cz (x.dels.map (Bz p id)) x.dels.length=D:=⟨_,rfl⟩
 rw[hD]at hDl ⊢;refine Bc 0 [(1,AA id),(2,.fn (.func g) a b),(3,.ptr n 0),(6,.ptr (n+1) 0),(7,.ptr n 1)] (W y D (x.layers.map (CE p id))) m ?_ (λm4 hm4=>?_);rcases a2 with⟨_,he,z',f,rfl⟩|⟨j,f,rfl,hj1,hj2,rfl⟩
 have hd0:x.layers=[]:=by simpa using he
 refine AH ?_;simp[go_sem,R.w0,hd0];refine An 0 (α:=Unit) (λ_=>[(1,AA id),(2,.fn (.func g) a b),(3,.ptr n 0),(6,.ptr (n+1) 0),(7,.ptr n 1),(66,AA 0),(67,AA 0)]) (λ_=>W y D []) (λ_ m'=>m<=m') (λ_=>0) () hm5 ?_ AB ?_;simp[Ai,IO];rintro _ m5 hm15;simp[go_sem,IO,hm15];refine AY 0 [(1,AA id),(2,.fn (.func g) a b),(3,.ptr n 0),(6,.ptr (n+1) 0),(7,.ptr n 1),(66,AA x.layers.length),(67,AA 0)] (W y D x.layers) m ?_ (λm5 hm15=>?_);simp[go_sem,R.w0,IO,hm5];refine AR (BG 0 (α:=Nat) (λi=>[(1,AA id),(2,.fn (.func g) a b),(3,.ptr n 0),(6,.ptr (n+1) 0),(7,.ptr n 1),(66,AA x.layers.length),(67,AA i)]) (λi=>W y D (EO (CE p id) x.layers i)) (λi m'=>i<=x.layers.length/\m<=m') (λi=>x.layers.length-i) 0 ⟨qg _,hm15⟩ ?_ ?_ ?_);simp[Ai,IO];rw[Ll];exact AB;rintro i m6 ⟨hi,hm6⟩;by_cases hlt:i<x.layers.length;have w1:=wS i (by omega);have hnx:=Lk (CE p id) x.layers i hlt;have hEl:=NF (CE p id) x.layers i (kx hlt);have hget:=NE (CE p id) x.layers i hlt;obtain⟨d,hd'⟩:∃d,x.layers[i]=d:=⟨_,rfl⟩
 rw[hd']at hnx hget;generalize hE:EO (CE p id) x.layers i=E at hnx hEl hget;have hget2:(E.map Am.enc)[i]? = some d.enc:=by rw[qO,hget];rfl
 obtain⟨g1,g2⟩:=K1 (Am.E.size E) hget2 (k:=0) (c:=AA d.rev) rfl;have g3:p d.rev=true->((E.map Am.enc).flatMap SV.cells).take (i*4+0)++AA id::((E.map Am.enc).flatMap SV.cells).drop (i*4+0+1)=Nv (EO (CE p id) x.layers (i+1)):=λhp=>by
  rw[Og (e':=(CE p id d).enc) (Am.E.size E) hget2 (by omega) (by simp[CE,Kl,hp,Am.enc,SV.cells]),<-hnx,Nv,List.map_set]
 have g4:p d.rev=false->EO (CE p id) x.layers (i+1)=E:=λhp=>by
  rw[<-hnx,show CE p id d=d by simp[CE,Kl,hp]];obtain⟨k1,k2⟩:=qo.1 hget;rw[<-k2];exact List.set_getElem_self k1
 obtain⟨E2,hE2⟩:∃E2,EO (CE p id) x.layers (i+1)=E2:=⟨_,rfl⟩
 rw[hE2]at g3 g4;rw[show(E.map Am.enc).flatMap SV.cells=Nv E from rfl]at g1 g2 g3;have hWE:∀y G,W y G E j=some (.cells (Nv E)):=λy G=>R.wl j rfl y G E;simp only[jJ]at g1 g2 g3;refine AY 0 [(1,AA id),(2,.fn (.func g) a b),(3,.ptr n 0),(6,.ptr (n+1) 0),(7,.ptr n 1),(66,AA x.layers.length),(67,AA i),(68,.bool true)] (W y D E) m ?_ (λm7 hm7=>?_);simp[go_sem,IO,hlt,hm6];refine AY 0 [(1,AA id),(2,.fn (.func g) a b),(3,.ptr n 0),(6,.ptr (n+1) 0),(7,.ptr n 1),(66,AA x.layers.length),(67,AA i)] (W y D E) m ?_ (λm8 hm8=>?_);simp[go_sem,IO,hm7];refine AT 0 (α:=Unit) (λ_=>[(1,AA id),(2,.fn (.func g) a b),(3,.ptr n 0),(6,.ptr (n+1) 0),(7,.ptr n 1),(66,AA x.layers.length),(67,AA i)]) (λ_=>W y D E2) (λ_ m'=>m<=m') (AR ?_) (λ_ m9 hm9=>?_);refine AY 0 [(1,AA id),(2,.fn (.func g) a b),(3,.ptr n 0),(6,.ptr (n+1) 0),(7,.ptr n 1),(66,AA x.layers.length),(67,AA i),(9,AA i)] (W y D E) m ?_ (λm9 hm9=>?_);simp[go_sem,IO,hm8];refine AY 0 [(1,AA id),(2,.fn (.func g) a b),(3,.ptr n 0),(6,.ptr (n+1) 0),(7,.ptr n 1),(66,AA x.layers.length),(67,AA i),(9,AA i),(79,.bool (p d.rev))] (W y D E) m ?_ (λm10 hm10=>?_);simp[go_sem,R.w0,hWE,hlt,g1,g2];refine qw (hid d.rev) ?_;simp[go_sem,IO,hm9];cases hp:p d.rev with
 | true=>
  refine Ah (b:=true) (by simp[go_sem]) (AH ?_);have g3:=g3 hp;simp[go_sem,R.w0,hWE,hlt,g1,g3,R.sl j rfl,IO,hm10]
 | false=>
  refine Ah (b:=false) (by simp[go_sem]) (AH ?_);rw[g4 hp];simp[go_sem,IO,hm10]
 refine AH ?_;simp[go_sem,w1,IO,-Int.natCast_add];exact⟨i+1,by omega,⟨by omega,hm9⟩,IO,by rw[hE2];exact AB⟩;have:i=x.layers.length:=by omega
 subst this;rw[ND];refine AH ?_;simp[go_sem,IO];exact hm6;have hval:(Ji p id x).enc=.agg [Af x.props,AA y,AA x.move,AP D,AL (x.layers.map (CE p id))]:=by
  rw[<-hy,<-hD];rfl
 have e1:∀h',(∀j,o1=some j->h' j=some (.cells (CS D)))->Fz h' h 1 v1 (AP D):=λh' hh=>by
  rcases a1 with⟨_,he,z',f,rfl⟩|⟨j,f,rfl,hj1,hj2,rfl⟩
  have hd0:x.dels=[]:=by simpa using he
  have:D=[]:=kD (by rw[hDl,hd0];rfl);rw[this];exact BC (by simp);have:=DV (h':=h') (h:=h) (k:=0) (z:=2) (es:=D.map Az.enc) (full:=f) (full':=false) (o:=j) (ho.none (by omega)) (by simp) (hh j rfl) (Az.E.size D);rw[qd,hDl]at this;rw[qd];exact this
 have e2:∀h',(∀j,o2=some j->h' j=some (.cells (Nv (x.layers.map (CE p id)))))->Fz h' h 1 v2 (AL (x.layers.map (CE p id))):=λh' hh=>by
  rcases a2 with⟨_,he,z',f,rfl⟩|⟨j,f,rfl,hj1,hj2,rfl⟩
  have hd0:x.layers=[]:=by simpa using he
  rw[hd0];exact BC (by simp);have:=DV (h':=h') (h:=h) (k:=0) (z:=4) (es:=(x.layers.map (CE p id)).map Am.enc) (full:=f) (full':=false) (o:=j) (ho.none (by omega)) (by simp) (hh j rfl) (Am.E.size _);rw[qd,qd]at this;rw[qd];exact this
 obtain⟨s1,t1⟩:=a1.st;obtain⟨s2,t2⟩:=a2.st;have L1:=a1.lt;have L2:=a2.lt;simp only[SV.storable,SV.cells]at s1 t1 s2 t2;rw[hval];refine AH ?_;have W0:=R.w0 y D (x.layers.map (CE p id));have W1:=R.w1 y D (x.layers.map (CE p id));have WD:=λj e=>R.wd j e y D (x.layers.map (CE p id));have WL:=λj e=>R.wl j e y D (x.layers.map (CE p id));have WO:=R.old y D (x.layers.map (CE p id));simp[go_sem,W0,W1,AC];refine Dy (v:=.agg [Af x.props,AA y,AA x.move,AP D,AL (x.layers.map (CE p id))]) 2 ho (AJ (λj z e=>by have:=hHb j z e;omega) WO) (.inr ⟨IO,IO,IO,e1 _ (λj e=>?_),e2 _ (λj e=>?_),trivial⟩) (by simp[closed,closedL,Er.E.closedL,Az.E.closedL,Am.E.closedL,-List.map_map]);have:=L1 j e;rw[AD _ _ (by omega)];exact WD j e;have:=L2 j e;rw[AD _ _ (by omega)];exact WL j e
end
def Lw (a id:Int) (s:Unit) (p:BW):AF×Bool×Unit:=(if p.mid then Ji (λy=>y==a) id p.head else p.head,true,s)
theorem dI (n0:Nat) (r:Ax) (a:Int):ML Po n0 46 [] [.iptr [AA r.id,.str r.author,AA r.time],.iptr [AA a]] (Lw a r.id) (λx=>x.sized/\x.dels.length<20) where
 lt _ _ _:=rfl
 dom _ _ _ _:=rfl
 cl _ _ _ e:=by cases e
 call s p H n hp _ hn hs:=by
  rw[ZX];refine Db Tryz.func46 rfl λho=>?_;have hHb:=ho.lt;have q1:n+1≠n:=by omega
  obtain⟨X,hX⟩:∃X:SV,X=.iptr (p.head.flat++[.bool p.mid,AA p.units]):=⟨_,rfl⟩
  refine BP 1 [(1,.iptr [AA r.id,.str r.author,AA r.time]),(2,.iptr [AA a]),(3,X),(4,.ptr (n+1) 0)] (hset H (n+1) (some (.cells [.imm 0 [] true,AA 0,AA 0,.imm 0 [] true,.imm 0 [] true]))) (λm=>n+2<=m) ?_ (λm hm=>?_);rw[hX];simp[go_sem,BW.enc,AF.flat,IO];refine⟨AV (by rw[AD _ _ q1.symm];exact ho.none (qa n)) (by simp[hset]),λj y=>?_⟩;have:=hHb j y;simp only[hset];grind;have hcl:∀x:AF,closed n (.tup [x.enc,.bool true])=true:=λx=>by simp[closed,closedL,AF.E.cl]
  have fin:∀(x:AF) (y:BT) (m':Nat),Lw a r.id s p=(x,true,s)->B8 n (hset H (n+1) (some y)) m' (.tup [x.enc,.bool true]) (λv h' n'=>v=.tup [(Lw a r.id s p).1.enc,.bool (Lw a r.id s p).2.1]/\h'=H/\n'=n):=λx y m' e=>by rw[e];exact B9 ho (hcl x) (AJ (λj z e=>by have:=hHb j z e;omega) AB)
  rw[hX];refine AH ?_;cases hmid:p.mid with
  | false=>
   simp[go_sem,AF.flat,AC,AS];exact fin p.head _ _ (by simp[Lw,hmid])
  | true=>
   simp[go_sem,AF.flat];refine qw (by simpa[AF.enc,AF.flat]using Xn (g:=48) (a:=[]) (b:=[.iptr [AA a]]) (p:=λy=>y==a) p.head hp.1 hp.2 (λy=>c48 a y) r.id) ?_;simp[go_sem,AF.enc,AF.flat,AC,AS];exact fin (Ji (λy=>y==a) r.id p.head) _ _ (by simp[Lw,hmid])
def LP (x:AE):Bool:=(x.kind==7&&(match x.rows with|[]=>true|_::_=>false))||(x.kind==1&&x.text.size==0)
theorem JQ (x:AE):Co x↔LP x=true:=by
 unfold Co LP;cases h:x.rows<;>simp[]
def N1 (out:List AE) (x:AE):List AE:=
 if LP x then out else match out.getLast? with
  | some y=>if x.kind=1/\y.kind=1/\y.head=x.head then out.dropLast++[y.addText x.text]else out++[x]
  | none=>out++[x]
theorem Rx:BK=N1:=by
 funext out x;unfold BK N1;by_cases h:Co x;rw[if_pos h,if_pos ((JQ x).1 h)];rw[if_neg h,if_neg (λe=>h ((JQ x).2 e))];cases out.getLast? <;> rfl
theorem IE (l:List AE):Ac l=(AE.nrmL l).foldl N1 []:=by rw[Ac,EM,Rx]
def Cw:Ax:=⟨3,⟨#[65,110]⟩,0⟩
def Ci:Ax:=⟨4,⟨#[65,110]⟩,0⟩
def z0:AF:=⟨[],0,0,[],[]⟩
def hI (i:Int):AF:=⟨[],i,0,[],[]⟩
def LQ (i:Int) (t:ByteArray):AE:=.mk 1 0 0 t (hI i) [] []
def Se:AE:=LQ 3 ⟨#[97,98,99,100]⟩
def No:AE:=.mk 2 0 0 ⟨#[]⟩ z0 [] []
def FG:AK:=⟨[],[],[],[]⟩
def Ch:AI:=⟨[Se,No],z0,[Cw],FG⟩
def FF:Av:=⟨0,1,3⟩
def MJ (i:Int):List AE:=[LQ 3 ⟨#[97]⟩,LQ i ⟨#[98,99]⟩,LQ 3 ⟨#[100]⟩,No]
theorem ci (l:List AE) (a b:Int) (r:List AE) (h:ET l a b=0) (hr:(AE.nrmL (Bj (Bj l b).1 a).2).foldl N1 []=r):Ad l a b=(r,0):=by
 rw[Ad,if_pos h,IE,hr]
theorem rs1:Ad [Se,No] 0 1=([LQ 3 ⟨#[97]⟩],0):=ci _ _ _ _ (by kernel_rfl) (by kernel_rfl)
theorem rs2:Ad [Se,No] 1 3=([LQ 3 ⟨#[98,99]⟩],0):=ci _ _ _ _ (by kernel_rfl) (by kernel_rfl)
theorem rs3:Ad [Se,No] 3 5=([LQ 3 ⟨#[100]⟩,No],0):=ci _ _ _ _ (by kernel_rfl) (by kernel_rfl)
theorem YD:A8 [Se,No]=(5,0):=by kernel_rfl
section
variable {σ : Type}
theorem dJ (f:σ->BW->AF×Bool×σ) (revs:List Ax) (s:σ) (r:List AE×σ) (h:((BL f (Al f FF 1) false [LQ 3 ⟨#[97]⟩] s).1++(BL f (Al f FF 1) true [LQ 3 ⟨#[98,99]⟩] (BL f (Al f FF 1) false [LQ 3 ⟨#[97]⟩] s).2).1++(BL f (Al f FF 1) false [LQ 3 ⟨#[100]⟩,No] (BL f (Al f FF 1) true [LQ 3 ⟨#[98,99]⟩] (BL f (Al f FF 1) false [LQ 3 ⟨#[97]⟩] s).2).2).1,
 (BL f (Al f FF 1) false [LQ 3 ⟨#[100]⟩,No] (BL f (Al f FF 1) true [LQ 3 ⟨#[98,99]⟩] (BL f (Al f FF 1) false [LQ 3 ⟨#[97]⟩] s).2).2).2)=r):
 BR f FF 2 Ch revs s=(⟨r.1,(f r.2 ⟨z0,false,1⟩).1,revs,FG⟩,(f r.2 ⟨z0,false,1⟩).2.2):=by
 have e:Al f FF 2 0 Ch.flow false s=r:=by
  rw[<-h];show Al f FF 2 0 [Se,No] false s=_;rw[Al,if_pos (by kernel_rfl),YD];show(_,_)=_;rw[show FF.a=1 from rfl,show FF.b=3 from rfl,rs1,rs2,rs3]
 rw[BR,e];rfl
end
theorem w1:BR (CH (HQ 3)) FF 2 Ch [Cw] (0,0)=(⟨MJ 3,z0,[Cw],FG⟩,(2,2)):=by
 rw[dJ _ _ _ (MJ 3,(2,2)) (by kernel_rfl)];kernel_rfl
theorem w2:BR (CH λ(s:Unit) _=>s) FF 2 Ch [Cw] ()=(⟨MJ 3,z0,[Cw],FG⟩,()):=by
 rw[dJ _ _ _ (MJ 3,()) (by kernel_rfl)];kernel_rfl
theorem w3:BR (Lw 3 4) FF 2 Ch [Cw,Ci] ()=(⟨MJ 4,z0,[Cw,Ci],FG⟩,()):=by
 rw[dJ _ _ _ (MJ 4,()) (by kernel_rfl)];kernel_rfl
theorem cO:Ac (MJ 3)=[Se,No]:=by rw[IE];kernel_rfl
theorem nP4:Ac (MJ 4)=MJ 4:=by rw[IE];kernel_rfl
theorem n3:(⟨MJ 3,z0,[Cw],FG⟩:AI).normal=Ch:=by
 rw[AI.normal,AI.norm1,cO];kernel_rfl
theorem s34:DI [3,4]=[3,4]:=by unfold DI;first|exact List.mergeSort_of_sorted (by simp)|exact List.mergeSort_of_pairwise (by simp)|simp[List.mergeSort]
theorem u34:IS ⟨MJ 4,z0,[Cw,Ci],FG⟩=[3,4]:=by
 rw[IS,show((Bd [] (AE.usL (MJ 4)++z0.all)).filter λx=>decide (x≠0))=[3,4]by kernel_rfl,s34]
theorem n4:(⟨MJ 4,z0,[Cw,Ci],FG⟩:AI).normal=⟨MJ 4,z0,[Cw,Ci],FG⟩:=by
 rw[AI.normal,AI.norm1,nP4,u34];kernel_rfl
theorem b8:E9 2 Ch 3 FF=(2,2,0):=by
 rw[E9,if_neg (of_decide_eq_false (by kernel_rfl)),if_neg (of_decide_eq_false (by kernel_rfl)),if_neg (of_decide_eq_false (by kernel_rfl))];rw[show Ch.revs=[Cw]from rfl,w1]
def WF (h:AF):Prop:=h=z0\/h=hI 3
theorem GE {h:AF} (e:WF h):h.sized:=by
 rcases e with rfl|rfl<;>exact⟨by simp[z0,hI],by simp[z0,hI],by simp[z0,hI]⟩
theorem Ot {h:AF} (e:WF h):VB h:=by
 rcases e with rfl|rfl<;>exact⟨rfl,rfl,rfl⟩
theorem TJ {h:AF} (e:WF h):h.revs.length<=1048576:=by
 rcases e with rfl|rfl<;>exact of_decide_eq_true (by kernel_rfl)
theorem TK:Da WF 10 2 Ch.flow:=by
 refine⟨of_decide_eq_true (by kernel_rfl),of_decide_eq_true (by kernel_rfl),λx hx=>?_⟩;have:x=Se\/x=No:=by simpa[Ch]using hx
 rcases this with rfl|rfl;exact⟨.inr rfl,⟨by simp[Se,LQ,AE.flow],of_decide_eq_true (by kernel_rfl),by simp[Se,LQ,AE.flow]⟩,by simp[Se,LQ,AE.rows],by simp[Se,LQ,AE.rows]⟩;exact⟨.inl rfl,⟨by simp[No,AE.flow],of_decide_eq_true (by kernel_rfl),by simp[No,AE.flow]⟩,by simp[No,AE.rows],by simp[No,AE.rows]⟩
theorem Ia (i:Int) (t:ByteArray) (ht:t.size<=10):(LQ i t).sized:=by
 simp[LQ,AE.sized,AE.sizedL,Aa.sizedL];exact⟨by omega,by simp[hI],by simp[hI],by simp[hI]⟩
theorem Mj:No.sized:=by
 simp[No,AE.sized,AE.sizedL,Aa.sizedL];exact⟨of_decide_eq_true (by kernel_rfl),by simp[z0],by simp[z0],by simp[z0]⟩
theorem Lz:FG.sized:=⟨by simp[FG],by simp[FG],by simp[FG],by simp[FG],by simp[FG],by simp[FG]⟩
theorem Pv:z0.sized:=GE (.inl rfl)
theorem IZ (i:Int) (revs:List Ax) (h:revs.length<=10):(⟨MJ i,z0,revs,FG⟩:AI).sized:=
 ⟨by simp[MJ],by simp only[MJ,AE.sizedL];exact⟨Ia _ _ (of_decide_eq_true (by kernel_rfl)),Ia _ _ (of_decide_eq_true (by kernel_rfl)),Ia _ _ (of_decide_eq_true (by kernel_rfl)),Mj,trivial⟩,Pv,by show revs.length<=_;omega,Lz⟩
theorem Gb:Ch.sized:=
 ⟨by simp[Ch],by simp only[Ch,AE.sizedL];exact⟨Ia _ _ (of_decide_eq_true (by kernel_rfl)),Mj,trivial⟩,Pv,by simp[Ch],Lz⟩
theorem QG {d:AI} (hl:d.flow.length<=1048576) (hs:AE.sizedL d.flow) {id:Int} {fl:Fl} (e:D9 d id=some fl):fl.items.length<=1048576/\∀x∈fl.items,x.text.size<=1048576:=by
 have o:=LU hl hs fl (List.mem_of_find?_eq_some e);exact⟨o.1,kQ o.2⟩
theorem k13:PC 13 [Ch.enc,AA 3,FF.enc] (.tup [AA 2,AA 2,AA 0]):=by
 have hr:Ch.revs=[Cw]:=rfl;have:=c13 WF 10 (by omega) (λh e=>⟨⟨GE e,TJ e⟩,GE e⟩) 2 Ch 3 FF TK (.inl rfl) (by simp[Ch]) (λfl hfl=>?_) ?_ ?_ ?_;rw[b8]at this;exact this;exact QG Gb.len Gb.flow hfl;rw[hr,w1];exact IZ _ _ (by simp);rw[hr,w1,n3];exact Gb;rw[hr,w1,cO];exact of_decide_eq_true (by kernel_rfl)
theorem k42:PC 42 [Ci.enc] (AA 0):=by
 have:=W9 Ci
 rwa [show CL Ci=0 by kernel_rfl]at this
theorem k20:PC 20 [Ao [Cw],AA 4] (.tup [GV.enc,.bool false]):=by
 have:=V4 [Cw] (by simp) 4;have e:CA [Cw] 4=(GV,false):=by kernel_rfl
 rw[e]at this;exact this
theorem k45:PC 45 [Ao [Cw],Ci.enc] (.tup [Ao [Cw,Ci],AA 0]):=Xm [Cw] (by simp) (by simp) Ci (by kernel_rfl) (by kernel_rfl) 1 (by simp) (by kernel_rfl)
theorem cF {n0 t:Nat} {H:Hp} {n:Nat} (hn:n0<=n):BA Tryz.prog 36 [Ch.enc,FF.enc,.fn (.func 43) [] [.ptr t 0]] H n (λv h' n'=>v=.tup []/\h'=H/\n'=n):=by
 have hr:Ch.revs=[Cw]:=rfl;have:=d36 (sc:=FF) (v43 n0 t) WF 10 (by omega) (λh e=>⟨Ot e,GE e⟩) 2 Ch () TK (.inl rfl) ?_ ?_ ?_ (H:=H) hn (by rintro o y ⟨⟩);rw[ZX]at this;exact this;rw[hr,w2];exact IZ _ _ (by simp);rw[hr,w2,n3];exact Gb;rw[hr,w2,cO];exact of_decide_eq_true (by kernel_rfl)
theorem cG {n0:Nat} {H:Hp} {n:Nat} (hn:n0<=n):BA Tryz.prog 49 [.fn (.func 46) [] [.iptr [AA 4,.str ⟨#[65,110]⟩,AA 0],.iptr [AA 3]],Ch.enc,FF.enc,Ao [Cw,Ci]] H n (λv h' n'=>v=(⟨MJ 4,z0,[Cw,Ci],FG⟩:AI).enc/\h'=H/\n'=n):=by
 have:=d49 (sc:=FF) (dI n0 Ci 3) WF 10 (by omega) (λh e=>⟨⟨GE e,by rw[(Ot e).dels];simp⟩,GE e⟩) 2 Ch [Cw,Ci] () TK (.inl rfl) ?_ ?_ ?_ (H:=H) hn (by rintro o y ⟨⟩);rw[ZX,show Ci.id=4 from rfl,w3,n4]at this;exact this;rw[show Ci.id=4 from rfl,w3];exact IZ _ _ (by simp);rw[show Ci.id=4 from rfl,w3,n4];exact IZ _ _ (by simp);rw[show Ci.id=4 from rfl,w3,nP4];exact of_decide_eq_true (by kernel_rfl)
set_option maxHeartbeats 4000000 in
theorem k15:PC 15 [Ch.enc,AA 3,FF.enc,Ci.enc] (.tup [(⟨MJ 4,z0,[Cw,Ci],FG⟩:AI).enc,AA 0]):=by
 intro h n;refine Db Tryz.func15 rfl λho=>?_;have hHb:=ho.lt;obtain⟨X,hX⟩:∃X:SV,X=.iptr ([AG Ch.flow]++Ch.«end».flat++[Ao Ch.revs]++Ch.settings.flat):=⟨_,rfl⟩
 obtain⟨S,hS⟩:∃S:SV,S=.iptr [AA FF.id,AA FF.a,AA FF.b]:=⟨_,rfl⟩
 obtain⟨V,hV⟩:∃V:SV,V=.iptr [AA Ci.id,.str Ci.author,AA Ci.time]:=⟨_,rfl⟩
 obtain⟨G,hG⟩:∃G:Hp,G=hset h (n+4) (some (.cells C8)):=⟨_,rfl⟩
 have hGb:∀j y,G j=some y->j<n+5:=λj y e=>by
  rw[hG]at e;simp only[hset]at e;split at e;omega;have:=hHb j y e;omega
 have hGk:∀j y,h j=some y->G j=some y:=λj y e=>by rw[hG];exact AJ (λj z e=>by have:=hHb j z e;omega) AB j y e
 have hGa:G (n+4)=some (.cells C8):=by rw[hG,AC]
 refine BP 1 [(4,X),(5,.iptr [AA 3]),(6,S),(7,V),(8,.ptr (n+4) 0)] G (λm=>n+5<=m) ?_ (λm hm=>?_);rw[hX,hS,hV,hG];simp[go_sem,Av.enc,AI.enc,AF.flat,AK.flat,Ax.enc,IO,qD,C8];refine⟨⟨AV (by simp[hset];exact ho.none (by omega)) (by simp[hset]),AV (by simp[hset];exact ho.none (by omega)) (by simp[hset]),AV (by simp[hset];exact ho.none (by omega)) (by simp[hset]),AV (by simp[hset];exact ho.none (by omega)) (by simp[hset])⟩,λj y=>?_⟩;have:=hHb j y;simp only[hset];grind;have hcl:∀E:AI,closed n (.tup [E.enc,AA 0])=true:=λE=>by simp[AI.enc,AF.flat,AK.flat,closed,closedL,AE.E.closedL,Er.E.closedL,Az.E.closedL,Am.E.closedL,Ax.E.closedL,A6.E.closedL,Fb.E.closedL,Au.E.closedL,Ft.E.closedL]
 refine BP 0 [(4,X),(5,.iptr [AA 3]),(6,S),(7,V),(8,.ptr (n+4) 0),(10,AA 2),(11,AA 2),(12,AA 0)] G (λm=>n+5<=m) ?_ (λm hm=>?_);rw[hX,hS];simp[go_sem,AF.flat,AK.flat];refine qw (by simpa[Av.enc,AI.enc,AF.flat,AK.flat]using k13) ?_;simp[go_sem,IO,hm];refine Bo 0 [(4,X),(5,.iptr [AA 3]),(6,S),(7,V),(8,.ptr (n+4) 0),(10,AA 2),(11,AA 2)] G (λm=>n+5<=m) (AH ?_) (λm hm=>?_);simp[go_sem,IO,hm];refine Bo 0 [(4,X),(5,.iptr [AA 3]),(6,S),(7,V),(8,.ptr (n+4) 0),(10,AA 2),(11,AA 2)] G (λm=>n+5<=m) (AH ?_) (λm hm=>?_);rw[hV];simp[go_sem];refine qw (by simpa[Ax.enc]using k42) ?_;simp[go_sem,IO,hm];refine Bo 0 [(4,X),(5,.iptr [AA 3]),(6,S),(7,V),(8,.ptr (n+4) 0),(10,AA 2),(11,AA 2)] G (λm=>n+5<=m) (AH ?_) (λm hm=>?_);rw[hX,hV];simp[go_sem,AF.flat,AK.flat];refine qw (by simpa[Ci,Ch]using k20) ?_;simp[go_sem,IO,Ax.enc,AC,AS];exact⟨by omega,AJ (λj z e=>by have:=hGb j z e;omega) AB⟩;refine Bo 0 [(4,X),(5,.iptr [AA 3]),(6,S),(7,V),(8,.ptr (n+4) 0)] G (λm=>n+5<=m) (AH ?_) (λm hm=>?_);rw[hX];simp[go_sem,AF.flat,AK.flat,IO,hm,Ch];refine BM 0 (α:=Nat) (λk=>[(4,X),(5,.iptr [AA 3]),(6,S),(7,V),(8,.ptr (n+4) 0),(16,.ptr (k+1) 0)]) (λk=>hset (hset G k (some (.map []))) (k+1) (some (.cells [.map k]))) (λk m=>n+5<=k/\k+1<m) ?_ (λk m hm=>?_);simp[go_sem,IO,AS,AC];exact⟨m,⟨by omega,by omega⟩,rfl,AB⟩;obtain⟨hk1,hk2⟩:=hm;refine BP 0 [(4,X),(5,.iptr [AA 3]),(6,S),(7,V),(8,.ptr (n+4) 0),(16,.ptr (k+1) 0)] (hset (hset G k (some (.map []))) (k+1) (some (.cells [.map k]))) (λm=>k+1<m) ?_ (λm hm=>?_);rw[hX,hS];simp[go_sem,AF.flat,AK.flat];refine qC (by simpa[Av.enc,AI.enc,AF.flat,AK.flat]using cF (n0:=0) (qg _)) ?_;rintro v H' n' ⟨rfl,rfl,rfl⟩;simp[go_sem,IO,hk2];refine Bo 0 [(4,X),(5,.iptr [AA 3]),(6,S),(7,V),(8,.ptr (n+4) 0)] G (λm=>n+5<=m) (AH ?_) (λm hm=>?_);simp[go_sem,AC];refine NQ (m:=k) (es:=[]) rfl (by simp[go_sem]) (by simp[go_sem]) (by simp[hset]) ?_;simp[go_sem];refine An 0 (α:=Unit) (λ_=>[(69,.ptr m 0),(4,X),(5,.iptr [AA 3]),(6,S),(7,V),(8,.ptr (n+4) 0)]) (λ_=>hset G m (some (.iter [] none))) (λ_ m2=>m<m2) (λ_=>0) () (qP m) ?_ ?_ ?_;simp[Ai,IO];intro o y e;simp only[hset]at e ⊢;by_cases e1:o=m;rw[if_pos e1]at e ⊢;exact e;rw[if_neg e1]at e ⊢;have:=hGb o y e;rw[if_neg (by omega),if_neg (by omega),if_neg (by omega)];exact e;rintro _ m2 hm2;simp[go_sem];refine Pg (q:=m) (left:=[]) (last:=none) rfl (by simp[go_sem]) (AC _ _ _) (λi hi=>absurd hi (by simp)) λ_=>?_;simp[go_sem,IO];exact⟨by omega,AJ (λj z e=>by have:=hGb j z e;omega) AB⟩;refine BP 0 [(4,X),(5,.iptr [AA 3]),(6,S),(7,V),(8,.ptr (n+4) 0),(19,Ao [Cw,Ci]),(12,AA 0)] G (λm=>n+5<=m) ?_ (λm hm=>?_);rw[hX,hV];simp[go_sem,AF.flat,AK.flat];refine qw (by simpa[Ax.enc,Ch]using k45) ?_;simp[go_sem,IO,hm];refine Bo 0 [(4,X),(5,.iptr [AA 3]),(6,S),(7,V),(8,.ptr (n+4) 0),(19,Ao [Cw,Ci])] G (λm=>n+5<=m) (AH ?_) (λm hm=>?_);simp[go_sem,IO,hm];refine BP 0 [(4,X),(6,S),(8,.ptr (n+4) 0),(19,Ao [Cw,Ci]),(20,.fn (.func 46) [] [V,.iptr [AA 3]])] G (λm=>n+5<=m) ?_ (λm hm=>?_);simp[go_sem,IO,hm];refine AH ?_;rw[hX,hS,hV];simp[go_sem,AF.flat,AK.flat];refine qC (by simpa[Av.enc,AI.enc,AF.flat,AK.flat,Ci]using cG (n0:=0) (qg _)) ?_;rintro v H' n' ⟨rfl,rfl,rfl⟩;simp[go_sem,hGa,C8,AI.enc,AF.flat,AK.flat,AC];exact Ay ho (AJ (λj z e=>by have:=hHb j z e;omega) hGk) rfl (hcl ⟨MJ 4,z0,[Cw,Ci],FG⟩)
theorem AI.cl (n:Nat) (E:AI):closed n E.enc=true:=by simp[AI.enc,AF.flat,AK.flat,closed,closedL,AE.E.closedL,Er.E.closedL,Az.E.closedL,Am.E.closedL,Ax.E.closedL,A6.E.closedL,Fb.E.closedL,Au.E.closedL,Ft.E.closedL]
theorem k32:PC 32 [] Ch.enc:=by
 intro h n;refine gq Tryz.func32 rfl λho=>?_;have q1:n≠n+1:=by omega
 have q2:n≠n+1+1:=by omega
 have q3:n+1≠n:=by omega
 have q4:n+1+1≠n:=by omega
 have q5:n+1≠n+1+1:=by omega
 simp[go_sem,AC,AD,q2];refine Dy 3 ho (λo y e=>?_) ?_ (AI.cl n Ch);have:=(ho o y e).1;rw[AD _ _ (by omega),AD _ _ (by omega),AD _ _ (by omega),AD _ _ (by omega)];exact e;have hn1:h (n+1)=none:=ho.none (by omega);have hn2:h (n+1+1)=none:=ho.none (by omega);refine .inr ⟨.inr ⟨hn1,by simp,rfl,rfl,_,_,by rw[AD _ _ q3,AD _ _ q5,AC],rfl,?_,?_⟩,?_,IO,IO,?_,?_,.inr ⟨hn2,by simp,rfl,rfl,_,_,by rw[AD _ _ q4,AC],rfl,?_,?_⟩,?_,?_,?_,?_,trivial⟩;exact AE.E.size _;exact⟨IO,IO,IO,IO,BC (by simp),IO,IO,BC (by simp),BC (by simp),BC (by simp),BC (by simp),IO,IO,IO,IO,BC (by simp),IO,IO,BC (by simp),BC (by simp),BC (by simp),BC (by simp),trivial⟩;exact BC (by simp);exact BC (by simp);exact BC (by simp);exact Ax.E.size _;exact⟨IO,IO,IO,trivial⟩;exact BC (by simp);exact BC (by simp);exact BC (by simp);exact BC (by simp)
set_option maxHeartbeats 2000000 in
theorem k11:PC 11 [] (.bool true):=by
 intro h n;refine Db Tryz.func11 rfl λho=>?_;have hHb:=ho.lt;obtain⟨A,hA⟩:∃A:SV,A=.imm 11 ((MJ 4).map AE.enc) false:=⟨_,rfl⟩
 obtain⟨R,hR⟩:∃R:SV,R=Ao [Cw,Ci]:=⟨_,rfl⟩
 refine AY 0 [] h n ?_ (λm hm=>?_);simp[go_sem];refine AY 1 [(1,.iptr [A,Af [],AA 0,AA 0,AP [],AL [],R,Ae [],Di [],BZ [],FI []]),(2,AA 0)] h n ?_ (λm hm=>?_);simp[go_sem];refine qw k32 ?_;simp[go_sem];have e:(⟨MJ 4,z0,[Cw,Ci],FG⟩:AI).enc=.agg [A,Af [],AA 0,AA 0,AP [],AL [],R,Ae [],Di [],BZ [],FI []]:=by rw[hA,hR];rfl
 have k:=k15;rw[e]at k;refine qw (v:=.tup [.agg [A,Af [],AA 0,AA 0,AP [],AL [],R,Ae [],Di [],BZ [],FI []],AA 0]) k ?_;simp[go_sem,IO,AC,AS];exact⟨by omega,AV (AW (λj y e=>by have:=hHb j y e;omega) (qa m)) (AC _ _ _),AJ (λj z e=>by have:=hHb j z e;omega) AB⟩;obtain⟨e0,he0⟩:∃e0:SV,e0=(LQ 3 ⟨#[97]⟩).enc:=⟨_,rfl⟩
 obtain⟨e3,he3⟩:∃e3:SV,e3=No.enc:=⟨_,rfl⟩
 obtain⟨e1,he1⟩:∃e1:SV,e1=.agg [AA 1,AA 0,AA 0,.str ⟨#[98,99]⟩,Af [],AA 4,AA 0,AP [],AL [],AG [],A3 []]:=⟨_,rfl⟩
 obtain⟨e2,he2⟩:∃e2:SV,e2=.agg [AA 1,AA 0,AA 0,.str ⟨#[100]⟩,Af [],AA 3,AA 0,AP [],AL [],AG [],A3 []]:=⟨_,rfl⟩
 have hA2:A=.imm 11 [e0,e1,e2,e3] false:=by rw[hA,he0,he1,he2,he3];rfl
 obtain⟨r0,hr0⟩:∃r0:SV,r0=Cw.enc:=⟨_,rfl⟩
 obtain⟨r1,hr1⟩:∃r1:SV,r1=Ci.enc:=⟨_,rfl⟩
 have hR2:R=.imm 3 [r0,r1] false:=by rw[hR,hr0,hr1];rfl
 refine AH ?_;rw[hA2,hR2,he1,he2];simp[go_sem];exact As ho rfl rfl
theorem Q9 {α β γ σ:Type} (g1:β×σ->α->β×σ) (g2:γ×σ->α->γ×σ):∀(l:List α) (a:β) (b:γ) (s:σ),(∀x∈l,∀a b s,(g1 (a,s) x).2=(g2 (b,s) x).2)->(l.foldl g1 (a,s)).2=(l.foldl g2 (b,s)).2
 | [],_,_,_,_=>rfl
 | x::l,a,b,s,h=>by
  have e:=h x (by simp) a b s;simp only[qM];have h1:g1 (a,s) x=((g1 (a,s) x).1,(g1 (a,s) x).2):=rfl;have h2:g2 (b,s) x=((g2 (b,s) x).1,(g1 (a,s) x).2):=by rw[e]
  rw[h1,h2];exact Q9 g1 g2 l _ _ _ λy hy=>h y (by simp[hy])
section
variable {σ : Type}
def zF (u:σ->BW->σ) (s:σ) (x:BW):AF×Bool×σ:=(Fo,true,u s x)
theorem Lr (u:σ->BW->σ) (it:Int->List AE->Bool->σ->List AE×σ) (fl:Int->List AE->Av->Bool->σ->List AE×σ) (sc:Av) (mid:Bool) (l:List AE) (s:σ)
 (hk:∀x∈l,x.kind≠7->x.rows=[]) (h6:∀x∈l,x.kind=6->∀s,(it x.id x.flow mid s).2=(fl x.id x.flow sc mid s).2)
 (h7:∀x∈l,∀r∈x.rows,∀c∈r.cells,∀s,(it c.id c.flow mid s).2=(fl c.id c.flow sc mid s).2):(BL (CH u) it mid l s).2=(Bq (zF u) fl sc mid l s).2:=by
 unfold BL Bq;refine Q9 _ _ l _ _ _ λx hx a b s=>?_;simp only[Bt,CH,Dq,zF,if_true,By,K3];by_cases k6:x.kind=6;have:x.rows=[]:=hk x hx (by omega);simp only[k6,this,FH,if_true,List.foldl_nil];exact h6 x hx k6 _;by_cases k7:x.kind=7;simp only[k7,if_true];simp only[show(7:Int)=6↔False by decide,if_false];unfold GT FH;refine Q9 _ _ _ _ _ _ λr hr a b s=>?_;simp only[DM,CW,Hj,CH,zF,if_true];unfold DQ Dh;refine Q9 _ _ _ _ _ _ λc hc a b s=>?_;simp only[Cg,CG,CH,zF,if_true];exact h7 x hx r hr c hc _;simp only[k6,k7,if_false,hk x hx k7,FH,List.foldl_nil]
end
def Gy (T:Int->Prop):Nat->List AE->Prop
 | 0,_=>True
 | N+1,l=>∀x∈l,(x.kind≠7->x.rows=[])/\(x.kind=6->T x.id)/\Gy T N x.flow/\∀r∈x.rows,∀c∈r.cells,T c.id/\Gy T N c.flow
def Ow (T:Int->Prop) (N:Nat) (x:AE):Prop:=(x.kind≠7->x.rows=[])/\(x.kind=6->T x.id)/\Gy T N x.flow/\∀r∈x.rows,∀c∈r.cells,T c.id/\Gy T N c.flow
theorem TO {T:Int->Prop} {N:Nat} {l:List AE}:Gy T (N+1) l↔∀x∈l,Ow T N x:=Iff.rfl
theorem Oz (T:Int->Prop) (N:Nat):Gy T N []:=by cases N<;>simp[Gy]
theorem LW {T:Int->Prop} {N:Nat} (x:AE) (t:ByteArray) (H:Ow T N x):Ow T N (.mk x.kind x.code x.id t x.head x.flow x.rows):=by cases x;exact H
theorem Hy {T:Int->Prop}:∀{N:Nat} {l:List AE},Gy T N l->Gy T N (Ac l)
 | 0,_,_=>trivial
 | N+1,l,H=>by
  rw[TO]at H ⊢;unfold Ac EM;rw[kM];refine Mq (p:=Ow T N) LW _ _ (λy hy=>by cases hy) λy hy=>?_;obtain⟨x,hx,rfl⟩:=qy.1 hy;obtain⟨a,b,c,d⟩:=H x hx;obtain⟨e0,_,e00,_,e1,e2,e3⟩:=AE.nrm_fields x;refine⟨λh=>?_,λh=>?_,by rw[e2];exact Hy c,?_⟩;rw[e0]at h;rw[e3,a h];rfl;rw[e0]at h;rw[e00];exact b h;rw[e3];intro r hr;obtain⟨r0,h0,rfl⟩:=qy.1 (qW.1 hr).1;have er:(Aa.nrm r0).cells=r0.cells.map Cell.nrm:=by cases r0;rw[Aa.nrm,kX];rfl
  rw[er];intro c hc;obtain⟨c0,h1,rfl⟩:=qy.1 hc;obtain⟨u1,u2⟩:=d r0 h0 c0 h1;have ec:(Cell.nrm c0).id=c0.id/\(Cell.nrm c0).flow=Ac c0.flow:=by cases c0;rw[Cell.nrm];exact⟨rfl,rfl⟩
  exact⟨by rw[ec.1];exact u1,by rw[ec.2];exact Hy u2⟩
theorem KU {T:Int->Prop} {N:Nat} {l:List AE} (cu:Int) (H:Gy T (N+1) l):Gy T (N+1) (Bj l cu).1/\Gy T (N+1) (Bj l cu).2:=
 LN (p:=Ow T N) LW l cu H _ (qa _)
theorem I5 {T:Int->Prop} {N:Nat} {l:List AE} (a b:Int) (H:Gy T (N+1) l):Gy T (N+1) (Ad l a b).1:=by
 unfold Ad;split;exact Hy (KU a (KU b H).1).2;exact Oz T _
section
variable {σ : Type}
theorem ZW (u:σ->BW->σ) (sc:Av):∀(N:Nat) (id:Int) (l:List AE) (mid:Bool) (s:σ),Gy (λi=>i≠sc.id/\i ≠ -1) N l->(mid=true\/(id≠sc.id/\id ≠ -1))->(Al (CH u) sc N id l mid s).2=(Aw (zF u) N id l AX mid s).2
 | 0,_,_,_,_,_,_=>rfl
 | N + 1, id, l, mid, s, hg, hid => by
  have n1:¬EX sc id l mid=true:=by rcases hid with rfl|⟨h,_⟩<;>simp[EX, *]
  have n2:¬(id=AX.id/\mid=false):=by rcases hid with rfl|⟨_,h⟩<;>simp[AX, *]
  rw[Al,Aw,if_neg n1,if_neg n2];exact Lr u _ _ _ _ l s (λx hx=>(hg x hx).1) (λx hx k6 s=>ZW u sc N _ _ _ _ (hg x hx).2.2.1 (.inr ((hg x hx).2.1 k6)))
   (λx hx r hr c hc s=>ZW u sc N _ _ _ _ ((hg x hx).2.2.2 r hr c hc).2 (.inr ((hg x hx).2.2.2 r hr c hc).1))
theorem Lq {m2:List Int} {T:Int->Prop}:∀{N:Nat} {l:List AE},RJ m2 N l->(∀i∈F6 N l,T i)->Gy T N l
 | 0,_,_,_=>trivial
 | N+1,l,h,hT=>λx hx=>by
  obtain⟨⟨f6,f7,_⟩,_,hf,_,hr⟩:=h x hx;have hI:∀i∈Fe N x,T i:=λi hi=>hT i (by rw[G0];exact jo.2 ⟨x,hx,hi⟩);refine⟨f7,λk6=>hI _ (by simp[Fe,k6]),?_,λr hr1 c hc=>?_⟩;by_cases k6:x.kind=6;exact Lq hf λi hi=>hI i (by simp[Fe,k6,hi]);rw[f6 k6];exact Oz T N;by_cases k7:x.kind=7;have hc2:∀i,i=c.id\/i∈F6 N c.flow->T i:=λi hi=>hI i (by
   simp only[Fe,k7,show ¬(7:Int)=6 by decide,if_false,if_true];refine qL _ (jo.2 ⟨r,hr1,jo.2 ⟨c,hc,qk.2 hi⟩⟩))
  exact⟨hc2 _ (.inl rfl),Lq ((hr r hr1).2 c hc).2 λi hi=>hc2 i (.inr hi)⟩;rw[f7 k7]at hr1;cases hr1
theorem Lo {α β:Type} {f:α->List β} {l:List α} (h:(l.flatMap f).Nodup) {x:α} (hx:x∈l):(f x).Nodup:=by
 induction l with
 | nil=>cases hx
 | cons a l ih=>
  rw[qK,List.nodup_append]at h;rcases qk.1 hx with rfl|hx;exact h.1;exact ih h.2.1 hx
theorem Tk (p:Bl) {l:List AE} {x:AE} (hx:x∈l) {f:Fl} (hf:f∈AE.fl p x):f∈AE.flL p l:=by
 induction l with
 | nil=>cases hx
 | cons a l ih=>
  rw[AE.flL,qe];rcases qk.1 hx with rfl|hx;exact .inl hf;exact .inr (ih hx)
theorem Uv (p:Bl) {l:List Aa} {x:Aa} (hx:x∈l) {f:Fl} (hf:f∈Aa.fl p x):f∈Aa.flL p l:=by
 induction l with
 | nil=>cases hx
 | cons a l ih=>
  rw[Aa.flL,qe];rcases qk.1 hx with rfl|hx;exact .inl hf;exact .inr (ih hx)
theorem Uu (p:Bl) {l:List Cell} {x:Cell} (hx:x∈l) {f:Fl} (hf:f∈Cell.fl p x):f∈Cell.flL p l:=by
 induction l with
 | nil=>cases hx
 | cons a l ih=>
  rw[Cell.flL,qe];rcases qk.1 hx with rfl|hx;exact .inl hf;exact .inr (ih hx)
theorem cj (u:σ->BW->σ) (sc:Av) {m2:List Int}:∀(N:Nat) (id:Int) (l:List AE) (p:Bl) (s:σ),RJ m2 N l->id∉F6 N l->(F6 N l).Nodup->(∀i∈F6 N l,1<=i)->(∀f∈Df id l p,f.id=sc.id->¬ES sc f.items)->
 (Al (CH u) sc N id l false s).2=(Aw (zF u) N id l sc false s).2
 | 0,_,_,_,_,_,_,_,_,_=>rfl
 | N+1,id,l,p,s,hk,hid,hnd,h1,hb=>by
  by_cases e:id=sc.id;have hg:=Lq (T:=λi=>i≠sc.id/\i ≠ -1) hk λi hi=>⟨λg=>hid (by rw[e,<-g];exact hi),by have:=h1 i hi;omega⟩
  have hr:=hb ⟨id,l,p⟩ (jP ..) e;have i1:EX sc id l false=true:=by
   unfold ES at hr;dsimp only at hr;simp only[EX,e,decide_true,Bool.true_and,Bool.not_false,qq,decide_eq_true_eq];omega
  rw[Al,Aw,if_pos i1,if_pos ⟨e,rfl⟩];have q:∀(mid:Bool) (l:List AE) (s:σ),Gy (λi=>i≠sc.id/\i ≠ -1) (N+1) l->(BL (CH u) (Al (CH u) sc N) mid l s).2=(Bq (zF u) (Aw (zF u) N) AX mid l s).2:=λmid l s hg=>
   Lr u _ _ _ _ l s (λx hx=>(hg x hx).1) (λx hx k6 s=>ZW u sc N _ _ _ _ (hg x hx).2.2.1 (.inr ((hg x hx).2.1 k6)))
    (λx hx r hr c hc s=>ZW u sc N _ _ _ _ ((hg x hx).2.2.2 r hr c hc).2 (.inr ((hg x hx).2.2.2 r hr c hc).1))
  dsimp only;rw[q false _ _ (I5 _ _ hg),q true _ _ (I5 _ _ hg),q false _ _ (I5 _ _ hg)];have n1:¬EX sc id l false=true:=by simp[EX,e]
  have n2:¬(id=sc.id/\false=false):=by simp[e]
  rw[Al,Aw,if_neg n1,if_neg n2];have nx:∀x∈l,(Fe N x).Nodup/\∀i∈Fe N x,1<=i:=λx hx=>⟨Lo (f:=Fe N) hnd hx,λi hi=>h1 i (by rw[G0];exact jo.2 ⟨x,hx,hi⟩)⟩
  refine Lr u _ _ _ _ l s (λx hx=>(hk x hx).1.2.1) (λx hx k6 s=>?_) (λx hx r hr c hc s=>?_);obtain⟨g1,g2⟩:=nx x hx;simp only[Fe,k6,if_true]at g1 g2;rw[jA]at g1;refine cj u sc N _ _ p.inNote s (hk x hx).2.2.1 g1.1 g1.2 (λi hi=>g2 i (qL _ hi)) λf hf=>hb f (qL _ (Tk p hx ?_));cases x;simp only[AE.kind]at k6;rw[AE.fl,if_pos k6];exact hf;have k7:x.kind=7:=by
   by_cases k7:x.kind=7;exact k7;rw[(hk x hx).1.2.1 k7]at hr;cases hr
  obtain⟨g1,g2⟩:=nx x hx;simp only[Fe,k7,show ¬(7:Int)=6 by decide,if_false,if_true]at g1 g2;rw[jA]at g1;have g3:(c.id::F6 N c.flow).Nodup:=Lo (f:=λc:Cell=>c.id::F6 N c.flow) (Lo (f:=LY N) g1.2 hr) hc;rw[jA]at g3;refine cj u sc N _ _ p.inTable s (((hk x hx).2.2.2.2 r hr).2 c hc).2 g3.1 g3.2 (λi hi=>g2 i (qL _ (jo.2 ⟨r,hr,jo.2 ⟨c,hc,qL _ hi⟩⟩))) λf hf=>hb f (qL _ (Tk p hx ?_));cases x;simp only[AE.kind]at k7;rw[AE.fl,if_neg (by rw[k7];decide),if_pos k7];refine Uv _ hr ?_;cases r;rw[Aa.fl];refine Uu _ hc ?_;cases c;exact hf
end
theorem Ns {α β γ:Type} {f:α->List β} {g:β->γ} {k:α->List γ}:∀{l:List α},(∀x∈l,((f x).map g).Sublist (k x))->((l.flatMap f).map g).Sublist (l.flatMap k)
 | [],_=>by simp
 | a::l,h=>by
  rw[qK,qK,qc];exact(h a (by simp)).append (Ns λx hx=>h x (by simp[hx]))
theorem TL (p:Bl):∀l:List AE,AE.flL p l=l.flatMap (AE.fl p)
 | []=>by rw[AE.flL];rfl
 | x::l=>by rw[AE.flL,TL p l];rfl
theorem Q7 (p:Bl):∀l:List Aa,Aa.flL p l=l.flatMap (Aa.fl p)
 | []=>by rw[Aa.flL];rfl
 | x::l=>by rw[Aa.flL,Q7 p l];rfl
theorem Q6 (p:Bl):∀l:List Cell,Cell.flL p l=l.flatMap (Cell.fl p)
 | []=>by rw[Cell.flL];rfl
 | x::l=>by rw[Cell.flL,Q6 p l];rfl
theorem QK {hp:AF->Prop} {K:Nat}:∀{N:Nat} {l:List AE} (p:Bl),Da hp K N l->((AE.flL p l).map Fl.id).Sublist (F6 N l)
 | N + 1, l, p, H => by
  rw[TL,G0];refine Ns λx hx=>?_;obtain⟨_,a,_,b⟩:=H.2.2 x hx;cases x with
  | mk k c i t h f r=>
   have hI:Fe N (.mk k c i t h f r)=if k=6 then i::F6 N f else if k=7 then i::r.flatMap (LY N)else[]:=rfl
   have a':Da hp K N f:=a;have b':∀q∈r,hp q.head/\q.cells.length<=K/\∀c∈q.cells,hp c.head/\Da hp K N c.flow:=b;rw[AE.fl,hI];by_cases k6:k=6;rw[if_pos k6,if_pos k6];exact(QK p.inNote a').cons_cons _;rw[if_neg k6,if_neg k6];by_cases k7:k=7;rw[if_pos k7,if_pos k7];refine List.Sublist.cons _ ?_;rw[Q7];refine Ns λr hr=>?_;cases r with
   | mk hd cs=>
    rw[Aa.fl,Q6];refine Ns (k:=λc:Cell=>c.id::F6 N c.flow) λc hc=>?_;have:=((b' _ hr).2.2 c hc).2;cases c;rw[Cell.fl];exact(QK _ this).cons_cons _
   rw[if_neg k7,if_neg k7];exact List.nil_sublist _
theorem NN {id:Int}:∀{l:List Ax},(GU id l).2=true->∃r∈l,r.id=id
 | [],h=>by simp[GU]at h
 | r::l,h=>by
  rw[GU]at h;split at h;exact⟨r,by simp,by assumption⟩;obtain⟨q,h1,h2⟩:=NN h;exact⟨q,by simp[h1],h2⟩
theorem NM {l:List Ax} {id:Int} (h:(CA l id).2=true):∃r∈l,r.id=id:=by
 unfold CA at h;split at h;split at h;rename_i h1 h2;have hlt:=LF _ _ h2;simp only[BI,decide_eq_true_eq]at h2 hlt;obtain⟨k,hk⟩:∃k,k=Fd (Gr l id) 0 l.length:=⟨_,rfl⟩
 rw[<-hk]at h2 hlt;refine⟨_,ql hlt,?_⟩;have:=h2.2;unfold Gr at this;rw[qf hlt]at this;simp only[Do]at this;split at this;omega;split at this;omega;omega;simp at h;exact NN h
theorem Jv {F:Nat->Int} {n:Nat} (h:FK F n=0):∀k,k<n->F k=0:=λk hk=>by
 induction n with
 | zero=>omega
 | succ n ih=>
  rw[FK]at h;split at h;rename_i h0;by_cases e:k=n;rw[e];exact h;exact ih h0 (by omega);omega
def J5 (m2:List Int) (h:AF):Prop:=h.sized/\RB m2 h
theorem NV:∀(l:List AE),(∀x∈l,x.text.size<=1000)->Ap l<=l.length*1000
 | [],_=>by simp[Ap]
 | x::l,h=>by
  have h1:=NV l λy hy=>h y (by simp[hy]);have h2:=h x (by simp);have e:Ap (x::l)=x.text.size+Ap l:=by simp[Ap]
  simp only[qF];omega
theorem Np {m2:List Int} {B:Nat}:∀{N:Nat} {l:List AE},Da AF.sized B N l->MP N l->RJ m2 N l->Da (J5 m2) 150000 N l
 | 0,_,h,_,_=>h.elim
 | N+1,l,hl,hf,hk=>by
  obtain⟨_,_,h3⟩:=C1.1 hl;obtain⟨f1,f2⟩:=hf;refine C1.2 ⟨by omega,?_,λx hx=>?_⟩;have:=NV l λx hx=>(f2 x hx).1.1;omega;obtain⟨a1,a2,a3,a4⟩:=h3 x hx;obtain⟨⟨b1,b2⟩,b3,b4⟩:=f2 x hx;obtain⟨c1,c2,c3,_,c4⟩:=hk x hx;refine⟨⟨a1,c2.toRB⟩,Np a2 b3 c3,by omega,λr hr=>?_⟩;obtain⟨u1,u2,u3⟩:=a4 r hr;obtain⟨v1,v2⟩:=b4 r hr;obtain⟨w1,w2⟩:=c4 r hr;exact⟨⟨u1,w1.1.toRB⟩,by omega,λc hc=>⟨⟨(u3 c hc).1,(w2 c hc).1.toRB⟩,Np (u3 c hc).2 (v2 c hc) (w2 c hc).2⟩⟩
section
variable {hp : AF → Prop} {σ : Type} {f : σ → BW → AF × Bool × σ} {K N : Nat}
theorem If (hf:∀s p,hp p.head->hp (f s p).1):∀(N:Nat) (id:Int) (l:List AE) (sc:Av) (mid:Bool) (s:σ),Da hp K N l->Da hp (3*K) N (Aw f N id l sc mid s).1
 | 0,_,_,_,_,_,h=>h.elim
 | N + 1, id, l, sc, mid, s, h => by
  have parts:∀sc mid l s,Da hp K (N+1) l->(Bq f (Aw f N) sc mid l s).1.length<=K/\Ap (Bq f (Aw f N) sc mid l s).1<=K/\∀x∈(Bq f (Aw f N) sc mid l s).1,Lh hp (3*K) N x:=by
   clear h;intro sc mid l s h;obtain⟨h1,h2,h3⟩:=C1.1 h;have cells:∀(cs:List Cell) s,cs.length<=K->(∀c∈cs,hp c.head/\Da hp K N c.flow)->(Dh f (Aw f N) sc mid cs s).1.length<=3*K/\∀c∈(Dh f (Aw f N) sc mid cs s).1,hp c.head/\Da hp (3*K) N c.flow:=λcs s hl hc=>by
    refine⟨by have:=Lg (f:=f) (fl:=Aw f N) (sc:=sc) (mid:=mid) cs ([],s);simp at this;unfold Dh;omega,?_⟩;refine FQ _ (λq:List Cell×σ=>∀c∈q.1,hp c.head/\Da hp (3*K) N c.flow) cs _ (by simp) λq c hm hq=>?_;unfold CG;dsimp only;split;exact Eu hq ⟨hf _ _ (hc c hm).1,If hf N _ _ _ _ _ (hc c hm).2⟩;exact hq
   have rows:∀(rs:List Aa) s,rs.length<=K->(∀r∈rs,hp r.head/\r.cells.length<=K/\∀c∈r.cells,hp c.head/\Da hp K N c.flow)->(FH f (Aw f N) sc mid rs s).1.length<=3*K/\∀r∈(FH f (Aw f N) sc mid rs s).1,hp r.head/\r.cells.length<=3*K/\∀c∈r.cells,hp c.head/\Da hp (3*K) N c.flow:=λrs s hl hc=>by
    refine⟨by have:=NB (f:=f) (fl:=Aw f N) (sc:=sc) (mid:=mid) rs ([],s);simp at this;unfold FH;omega,?_⟩;refine FQ _ (λq:List Aa×σ=>∀r∈q.1,hp r.head/\r.cells.length<=3*K/\∀c∈r.cells,hp c.head/\Da hp (3*K) N c.flow) rs _ (by simp) λq r hm hq=>?_;unfold CW;dsimp only;split;exact Eu hq ⟨hf _ _ (hc r hm).1,cells _ _ (hc r hm).2.1 (hc r hm).2.2⟩;exact hq
   refine⟨by have:=G6 (f:=f) (fl:=Aw f N) (sc:=sc) (mid:=mid) l ([],s);simp at this;unfold Bq;omega,?_,?_⟩;have:∀(l:List AE) (q:List AE×σ),Ap (l.foldl (Dq f (Aw f N) sc mid) q).1<=Ap q.1+Ap l:=by
    intro l
    induction l with
    | nil=>intro q;simp
    | cons a l ih =>
     intro q;have e:Ap (a::l)=a.text.size+Ap l:=by simp[Ap]
     have h1:=ih (Dq f (Aw f N) sc mid q a);have h2:Ap (Dq f (Aw f N) sc mid q a).1<=Ap q.1+a.text.size:=by
      unfold Dq;dsimp only;split;rw[Cq];simp[Ap,AE.put,AE.text];omega
     simp only[qM];omega
   have:=this l ([],s);have e0:Ap []=0:=rfl;unfold Bq;simp only[e0]at this;omega;refine FQ _ (λq:List AE×σ=>∀x∈q.1,Lh hp (3*K) N x) l _ (by simp) λq x hm hq=>?_;obtain⟨a1,a2,a3,a4⟩:=h3 x hm;unfold Dq;dsimp only;split;refine Eu hq ?_;have m3:K<=3*K:=by omega
   have up:Da hp (3*K) N x.flow:=a2.mono (λ_ h=>h) m3;refine⟨hf _ _ a1,?_,rows _ _ a3 a4⟩;show Da hp (3*K) N (K3 (Aw f N) sc mid x _).1;unfold K3;split;exact If hf N _ _ _ _ _ a2;exact up;exact hq
  rw[Aw];split;have p1:=parts AX false _ s (DB 0 sc.a h);generalize Bq f (Aw f N) AX false (Ad l 0 sc.a).1 s=q1 at p1 ⊢;have p2:=parts AX true _ q1.2 (DB sc.a sc.b h);dsimp only;generalize Bq f (Aw f N) AX true (Ad l sc.a sc.b).1 q1.2=q2 at p2 ⊢;have p3:=parts AX false _ q2.2 (DB sc.b (A8 l).1 h);generalize Bq f (Aw f N) AX false (Ad l sc.b (A8 l).1).1 q2.2=q3 at p3 ⊢;refine C1.2 ⟨by simp;omega,by simp only[Cq];omega,λx hx=>?_⟩;simp only[qe]at hx;rcases hx with(hx|hx)|hx;exact p1.2.2 x hx;exact p2.2.2 x hx;exact p3.2.2 x hx;have p1:=parts sc mid _ s h;exact C1.2 ⟨by omega,by omega,p1.2.2⟩
end
theorem Qo {m2:List Int} {h:AF} (H:J5 m2 h):∀u∈h.all,u∈0::m2:=λu hu=>by
 have k:=H.2;simp only[AF.all,qk,qe,qy]at hu ⊢;rcases hu with rfl|⟨x,hx,rfl⟩|⟨x,hx,rfl⟩
 rcases k.ins with e|e;exact .inl e;exact .inr e;exact .inr (k.dels x hx);exact .inr (k.layers x hx)
theorem JP {m2:List Int} {K N:Nat} {W:AI} (hm:m2.length<=1000) (hK:K<=1048576) (h:Da (J5 m2) K N W.flow) (he:J5 m2 W.«end») (hr:W.revs.length<=1048576) (hs:W.settings.sized):
 W.sized/\W.normal.sized/\(Bd [] (AE.usL (Ac W.flow)++W.«end».all)).length<=1048576:=by
 have h1:=h.sized (λx g=>g.1) hK;have h2:=(FT h).sized (λx g=>g.1) hK;refine⟨⟨h1.1,h1.2,he.1,hr,hs⟩,⟨h2.1,h2.2,he.1,?_,hs⟩,?_⟩;exact qr (qU _ _) hr;refine qr (UW (L:=0::m2) λu hu=>?_) (by simp only[qF];omega);rcases qe.1 hu with hu|hu;exact QR (λh g=>Qo g) (FT h) u hu;exact Qo he u hu
theorem TV (m2:List Int):J5 m2 Fo:=⟨⟨by simp[Fo],by simp[Fo],by simp[Fo]⟩,⟨.inl rfl,by simp[Fo],by simp[Fo],by simp[Fo],by simp[Fo]⟩⟩
theorem Ka {l:List Ax} (h:EY l=0):l.length<=256:=by
 unfold EY at h;have hl:¬(256:Int)<l.length:=λg=>by simp[CJ,g]at h
 omega
def TA (w:World):Cx:=⟨λ_=>none,λ_=>False,w,λ_=>none⟩
def BB:Nat:=1048576
section
variable {H : Type} (enc : TypeId × Value → H) (P : Program) (w : World) (base : Nat) (spare : Nat → Bool) (Bf : Bool)
variable {α β : Type}
def Rd (k:Nat) (e:TypeId) (F:α->List SV) (z:Nat) (ok:α->Prop) (μ:α->Nat):Prop:=
 ∀cs x,DataW.trod enc P w base spare Bf k e cs=some x->Rows.uptoBulk x.1<=BB->∃a,VL (TA w) (F a) cs/\cs.length=z/\(∀v∈cs,v.oneCell'=true)/\ok a/\μ a+1<=Rows.uptoBulk x.1
def Ct (n:Nat) (L:Nat) (fs:List Field) (o:Nat) (F:α->List SV) (ok:α->Prop) (μ:α->Nat):Prop:=
 ∀(cs:List Value) (xs:List (DataW H×List MemPlace)),cs.length=L->xs.length=fs.length->(∀(i:Nat) (f:Field),fs[i]? = some f->DataW.trod enc P w base spare Bf n f.type ((cs.drop f.offset).take (P.cellsOf f.type))=xs[i]?)->
  Rows.uptoBulkAll (xs.map (·.1))<=BB->∃b,VL (TA w) (F b) (cs.drop o)/\(∀v∈cs.drop o,v.oneCell'=true)/\ok b/\μ b<=Rows.uptoBulkAll (xs.map (·.1))
variable {enc P w base spare Bf}
theorem Vt {c:Cx} {a b:List SV} {x y:List Value} (h:VL c a x) (g:VL c b y):VL c (a++b) (x++y):=BN.2 (jS (BN.1 h) (BN.1 g))
theorem Ct.nil {n L:Nat}:Ct enc P w base spare Bf n L [] L (λ_:Unit=>[]) (λ_=>True) (λ_=>0):=λcs xs h1 h2 _ _=>by
 have:cs.drop L=[]:=jF (by omega);exact⟨(),by rw[this,VL],by rw[this];simp,trivial,qg _⟩
theorem Ct.cons {n L:Nat} {f:Field} {fs:List Field} {o z:Nat} {F1:α->List SV} {F2:β->List SV} {ok1:α->Prop} {ok2:β->Prop} {μ1:α->Nat} {μ2:β->Nat} (h1:Rd enc P w base spare Bf n f.type F1 z ok1 μ1) (hz:P.cellsOf f.type=z) (ho:f.offset=o)
 (h2:Ct enc P w base spare Bf n L fs (o+z) F2 ok2 μ2):Ct enc P w base spare Bf n L (f::fs) o (λp:α×β=>F1 p.1++F2 p.2) (λp=>ok1 p.1/\ok2 p.2) (λp=>μ1 p.1+μ2 p.2):=λcs xs g1 g2 g3 g4=>by
 cases xs with
 | nil=>simp at g2
 | cons x xs=>
  simp only[qu,Rows.uptoBulkAll]at g4;have e0:=g3 0 f rfl;rw[ho,hz]at e0;obtain⟨a,a1,a2,a3,a4,a5⟩:=h1 _ x (by simpa using e0) (by omega);obtain⟨b,b1,b2,b3,b4⟩:=h2 cs xs g1 (by simpa using g2) (λi f' hf=>by have:=g3 (i+1) f' (by simpa using hf);simpa using this) (by omega);have ed:cs.drop o=(cs.drop o).take z++cs.drop (o+z):=by rw[<-kP,ja]
  refine⟨(a,b),?_,?_,⟨a4,b3⟩,?_⟩;rw[ed];exact Vt a1 b1;rw[ed];intro v hv;rcases qe.1 hv with hv|hv;exact a3 v hv;exact b2 v hv;simp only[qu,Rows.uptoBulkAll];omega
theorem Ct.rd {n L:Nat} {T:TypeId} {fs:Array Field} {F:α->List SV} {ok:α->Prop} {μ:α->Nat} (ht:P.underlying T=some (.struct fs)) (hz:P.cellsOf T=L) (h:Ct enc P w base spare Bf n L fs.toList 0 F ok μ):Rd enc P w base spare Bf (n+1) T F L ok μ:=λcs x hx hb=>by
 obtain⟨xs,m,hm,rfl,hl,hlen,hf⟩:=DataW.trod_struct ht hx;obtain rfl:n=m:=by omega
 simp only[Rows.uptoBulk]at hb ⊢;obtain⟨b,b1,b2,b3,b4⟩:=h cs xs (by omega) (by simpa using hlen) (λi f e=>hf i f (by simpa using e)) (by omega);exact⟨b,by simpa using b1,by omega,by simpa using b2,b3,by omega⟩
theorem Rd.map {k e z:Nat} {F:α->List SV} {ok:α->Prop} {μ:α->Nat} (h:Rd enc P w base spare Bf k e F z ok μ) (g:α->β) {F':β->List SV} {ok':β->Prop} {μ':β->Nat} (hF:∀a,F' (g a)=F a) (hok:∀a,ok a->ok' (g a)) (hμ:∀a,μ' (g a)<=μ a):Rd enc P w base spare Bf k e F' z ok' μ':=λcs x hx hb=>by
 obtain⟨a,a1,a2,a3,a4,a5⟩:=h cs x hx hb;exact⟨g a,by rw[hF];exact a1,a2,a3,hok a a4,by have:=hμ a;omega⟩
theorem It {c:Cx} {s:SV} {v:Value} (h:V c s v):VL c [s] [v]:=BN.2 ⟨h,trivial⟩
theorem Tz {k:Nat} {T:TypeId} (ht:P.underlying T=some (.int .i64)):Rd enc P w base spare Bf k T (λn:Int=>[AA n]) 1 (λ_=>True) (λ_=>0):=λcs x hx _=>by
 obtain⟨n,rfl,rfl,_⟩:=DataW.trod_int ht hx;exact⟨n,It (by rw[V]),rfl,by simp[Value.oneCell'],trivial,by simp[Rows.uptoBulk]⟩
theorem U5 {k:Nat} {T:TypeId} (ht:P.underlying T=some .bool):Rd enc P w base spare Bf k T (λn:Bool=>[.bool n]) 1 (λ_=>True) (λ_=>0):=λcs x hx _=>by
 obtain⟨n,rfl,rfl⟩:=DataW.trod_bool ht hx;exact⟨n,It (by rw[V]),rfl,by simp[Value.oneCell'],trivial,by simp[Rows.uptoBulk]⟩
theorem Wk {k:Nat} {T:TypeId} (ht:P.underlying T=some .string):Rd enc P w base spare Bf k T (λs:ByteArray=>[.str s]) 1 (λs=>s.size<=BB) (λs=>s.size):=λcs x hx hb=>by
 obtain⟨s,rfl,rfl,_⟩:=DataW.trod_string ht hx;have e:s.data.toList.length=s.size:=by rw[jU];rfl
 simp only[Rows.uptoBulk]at hb ⊢;exact⟨s,It (by rw[V]),rfl,by simp[Value.oneCell'],by omega,by omega⟩
def Kn (μ:α->Nat) (l:List α):Nat:=(l.map λa=>μ a+1).sum
theorem DW (μ:α->Nat):∀l:List α,l.length<=Kn μ l
 | []=>by simp
 | a::l=>by have:=DW μ l;simp only[Kn,qu,kK,qF]at this ⊢;omega
theorem RP {k z:Nat} {e:TypeId} {F:α->List SV} {f:α->SV} {ok:α->Prop} {μ:α->Nat} (hf:∀a,f a=.agg (F a)) (hs:∀a,(f a).storable=true) (hR:Rd enc P w base spare Bf k e F z ok μ) (hz:P.cellsOf e=z) (hz0:0<z) (a:Addr):
 ∀(ys:List (DataW H×List MemPlace)) (i:Nat),(∀j,j<ys.length->(w.cells? base (a.add ((i+j)*P.cellsOf e)) (P.cellsOf e)).bind (DataW.trod enc P w base spare Bf k e)=ys[j]?)->Rows.uptoBulkAll (ys.map (·.1))<=BB->
  ∃l:List α,∃us:List Value,l.length=ys.length/\AZ (V (TA w)) (l.map f) us/\(∀u∈us,u.cells.size=z)/\(∀v∈us.flatMap (·.cells.toList),v.oneCell'=true)/\(∀j v,(us.flatMap (·.cells.toList))[j]? = some v->w.cell? (a.add (i*z+j))=some v)/\(∀a∈l,ok a)/\Kn μ l<=Rows.uptoBulkAll (ys.map (·.1))
 | [],i,_,_=>⟨[],[],rfl,trivial,by simp,by simp,by simp,by simp,by simp[Kn]⟩
 | y::ys,i,hy,hb=>by
  simp only[qu,Rows.uptoBulkAll]at hb;have h0:=hy 0 (by simp);simp only[jG,jJ]at h0;obtain⟨cs,hcs,hx⟩:=Option.bind_eq_some_iff.1 h0;obtain⟨_,hcl,hce⟩:=World.cells?_some hcs;obtain⟨b,b1,b2,b3,b4,b5⟩:=hR cs y hx (by omega);obtain⟨l,us,l1,l2,l3,l4,l5,l6,l7⟩:=RP hf hs hR hz hz0 a ys (i+1) (λj hj=>by have:=hy (j+1) (by simp;omega);rw[show i+1+j=i+(j+1)by omega];simpa using this) (by omega);have hc:(Value.agg cs.toArray).cells.toList=cs:=by simp[Value.cells]
  refine⟨b::l,.agg cs.toArray::us,by simp[l1],⟨?_,l2⟩,?_,?_,?_,?_,?_⟩;show V (TA w) (f b) (.agg cs.toArray);rw[hf,V];exact⟨cs,rfl,b1,b3⟩;intro u hu;rcases qk.1 hu with rfl|hu;simpa[Value.cells]using b2;exact l3 u hu;intro v hv;rw[qK,hc]at hv;rcases qe.1 hv with hv|hv;exact b3 v hv;exact l4 v hv;intro j v hv;rw[qK,hc]at hv;by_cases hj:j<z;rw[jD (by omega)]at hv;have:=hce j (by rw[hz];exact hj);rw[hz,hv]at this;have e:(a.add (i*z)).add j=a.add (i*z+j):=by
   unfold Addr.add;by_cases e1:i*z=0;simp[e1];by_cases e2:j=0;simp[e1,e2];simp[e1,e2,qD]
  rw[e]at this;exact this;rw[qV (by omega)]at hv;have:=l5 (j-cs.length) v hv;rw[show(i+1)*z+(j-cs.length)=i*z+j by rw[b2,jB,Nat.one_mul];omega]at this;exact this;intro q hq;rcases qk.1 hq with rfl|hq;exact b4;exact l6 q hq;simp only[qu,Rows.uptoBulkAll,Kn,kK]at l7 ⊢;omega
theorem Dk {k z:Nat} {e T:TypeId} {F:α->List SV} {f:α->SV} {ok:α->Prop} {μ:α->Nat} (hf:∀a,f a=.agg (F a)) (hs:∀a,(f a).storable=true) (ht:P.underlying T=some (.slice e)) (hz:P.cellsOf e=z) (hz0:0<z) (hR:∀m,m+1=k->Rd enc P w base spare Bf m e F z ok μ):
 Rd enc P w base spare Bf k T (λl:List α=>[.imm z (l.map f) false]) 1 (λl=>(∀a∈l,ok a)/\Kn μ l<=BB) (Kn μ):=λcs x hx hb=>by
 rcases DataW.trod_slice ht hx with⟨rfl,rfl⟩|⟨a,len,cap,elems,rest,n,hn,rfl,rfl,_,hlc,_,hel,he,_,_⟩
 exact⟨[],It (by rw[V];exact .inl ⟨rfl,rfl⟩),rfl,by simp[Value.oneCell'],⟨by simp,by simp[Kn]⟩,by simp[Kn,Rows.uptoBulk]⟩;simp only[Rows.uptoBulk]at hb ⊢;obtain⟨l,us,l1,l2,l3,l4,l5,l6,l7⟩:=RP hf hs (hR n hn.symm) hz hz0 a elems 0 (λj hj=>by rw[jc];exact he j (by omega)) (by omega);refine⟨l,It ?_,rfl,by simp[Value.oneCell'],⟨l6,by omega⟩,by omega⟩;rw[V];right;refine⟨a,cap,us.flatMap (·.cells.toList),by rw[qd,l1,hel],by rw[qd,l1,hel];exact hlc,by simp,?_,Ho.2 ⟨us,l2,l3,λs hs'=>?_,rfl⟩⟩;have hsp:us.flatMap (·.cells.toList)≠[]->a.spot=none:=λhne=>by
  obtain⟨v,r,hv⟩:=List.exists_cons_of_ne_nil hne;have:=World.cell?_spot (l5 0 v (by rw[hv];rfl));simpa[Addr.add]using this
 refine⟨hsp,λ_ h=>h,λi v hv=>?_,l4⟩;have h1:=l5 i v hv;have h2:=hsp (by rintro e;rw[e]at hv;simp at hv);rw[Nat.zero_mul,jc]at h1;have e:a.add i=⟨a.block,a.off+i,none⟩:=by
  unfold Addr.add;split;subst_vars;cases a;simp_all;rfl
 rw[e]at h1;exact h1;obtain⟨q,_,rfl⟩:=qy.1 hs';exact hs q
end
section
variable {H : Type} {enc : TypeId × Value → H} {w : World} {base : Nat} {spare : Nat → Bool} {Bf : Bool} {α : Type}
theorem Rd.zero {e:TypeId} {F:α->List SV} {z:Nat} {ok:α->Prop} {μ:α->Nat}:Rd enc Tryz.prog w base spare Bf 0 e F z ok μ:=λcs x hx _=>by simp[DataW.trod]at hx
theorem Fh (k:Nat):Rd enc Tryz.prog w base spare Bf k 3 (λn:Int=>[AA n]) 1 (λ_=>True) (λ_=>0):=Tz Tryz.underlying3
theorem PT (k:Nat):Rd enc Tryz.prog w base spare Bf k 9 (λs:ByteArray=>[.str s]) 1 (λs=>s.size<=BB) (λs=>s.size):=Wk Tryz.underlying9
theorem Vh (k:Nat):Rd enc Tryz.prog w base spare Bf k 4 (λb:Bool=>[.bool b]) 1 (λ_=>True) (λ_=>0):=U5 Tryz.underlying4
def Er.F (p:Er):List SV:=[AA p.key,AA p.value]
theorem ce:∀k,Rd enc Tryz.prog w base spare Bf k 193 Er.F 2 (λ_=>True) (λ_=>0)
 | 0=>Rd.zero
 | k+1=>(Ct.rd Tryz.underlying193 (by kernel_rfl) (Ct.cons (Fh k) (by kernel_rfl) rfl (Ct.cons (Fh k) (by kernel_rfl) rfl Ct.nil))).map (λp=>⟨p.1,p.2.1⟩) (λ_=>rfl) (λ_ _=>trivial) (λ_=>qg _)
def Az.F (p:Az):List SV:=[AA p.rev,AA p.move]
theorem cc:∀k,Rd enc Tryz.prog w base spare Bf k 166 Az.F 2 (λ_=>True) (λ_=>0)
 | 0=>Rd.zero
 | k+1=>(Ct.rd Tryz.underlying166 (by kernel_rfl) (Ct.cons (Fh k) (by kernel_rfl) rfl (Ct.cons (Fh k) (by kernel_rfl) rfl Ct.nil))).map (λp=>⟨p.1,p.2.1⟩) (λ_=>rfl) (λ_ _=>trivial) (λ_=>qg _)
def Am.F (p:Am):List SV:=[AA p.rev,AA p.key,AA p.before,.bool p.had]
theorem We:∀k,Rd enc Tryz.prog w base spare Bf k 164 Am.F 4 (λ_=>True) (λ_=>0)
 | 0=>Rd.zero
 | k+1=>(Ct.rd Tryz.underlying164 (by kernel_rfl) (Ct.cons (Fh k) (by kernel_rfl) rfl (Ct.cons (Fh k) (by kernel_rfl) rfl (Ct.cons (Fh k) (by kernel_rfl) rfl (Ct.cons (Vh k) (by kernel_rfl) rfl Ct.nil))))).map (λp=>⟨p.1,p.2.1,p.2.2.1,p.2.2.2.1⟩) (λ_=>rfl) (λ_ _=>trivial) (λ_=>qg _)
def Ax.F (p:Ax):List SV:=[AA p.id,.str p.author,AA p.time]
theorem Yk:∀k,Rd enc Tryz.prog w base spare Bf k 42 Ax.F 3 (λr=>r.author.size<=BB) (λ_=>0)
 | 0=>Rd.zero
 | k+1=>(Ct.rd Tryz.underlying42 (by kernel_rfl) (Ct.cons (Fh k) (by kernel_rfl) rfl (Ct.cons (PT k) (by kernel_rfl) rfl (Ct.cons (Fh k) (by kernel_rfl) rfl Ct.nil)))).map (λp=>(⟨p.1,p.2.1,p.2.2.1⟩:Ax)) (λ_=>rfl) (λ_ h=>h.2.1) (λ_=>qg _)
theorem Tx (k:Nat):Rd enc Tryz.prog w base spare Bf k 23 (λl:List Er=>[Af l]) 1 (λl=>l.length<=BB) (λ_=>0):=
 (Dk (f:=Er.enc) (F:=Er.F) (λ_=>rfl) Er.E.st Tryz.underlying23 (by kernel_rfl) (by omega) (λm _=>ce m)).map (λl=>l) (λ_=>rfl) (λl h=>by have:=DW (λ_=>0) l;have:=h.2;omega) (λ_=>qg _)
theorem Yi (k:Nat):Rd enc Tryz.prog w base spare Bf k 24 (λl:List Az=>[AP l]) 1 (λl=>l.length<=BB) (λ_=>0):=
 (Dk (f:=Az.enc) (F:=Az.F) (λ_=>rfl) Az.E.st Tryz.underlying24 (by kernel_rfl) (by omega) (λm _=>cc m)).map (λl=>l) (λ_=>rfl) (λl h=>by have:=DW (λ_=>0) l;have:=h.2;omega) (λ_=>qg _)
theorem U2 (k:Nat):Rd enc Tryz.prog w base spare Bf k 25 (λl:List Am=>[AL l]) 1 (λl=>l.length<=BB) (λ_=>0):=
 (Dk (f:=Am.enc) (F:=Am.F) (λ_=>rfl) Am.E.st Tryz.underlying25 (by kernel_rfl) (by omega) (λm _=>We m)).map (λl=>l) (λ_=>rfl) (λl h=>by have:=DW (λ_=>0) l;have:=h.2;omega) (λ_=>qg _)
theorem Yl (k:Nat):Rd enc Tryz.prog w base spare Bf k 30 (λl:List Ax=>[Ao l]) 1 (λl=>l.length<=BB/\∀r∈l,r.author.size<=BB) (λ_=>0):=
 (Dk (f:=Ax.enc) (F:=Ax.F) (λ_=>rfl) Ax.E.st Tryz.underlying30 (by kernel_rfl) (by omega) (λm _=>Yk m)).map (λl=>l) (λ_=>rfl) (λl h=>⟨by have:=DW (λ_=>0) l;have:=h.2;omega,h.1⟩) (λ_=>qg _)
theorem Wh:∀k,Rd enc Tryz.prog w base spare Bf k 27 (λm:Int×Int×List Az×List Am=>[AA m.1,AA m.2.1,AP m.2.2.1,AL m.2.2.2]) 4 (λm=>m.2.2.1.length<=BB/\m.2.2.2.length<=BB) (λ_=>0)
 | 0=>Rd.zero
 | k+1=>(Ct.rd Tryz.underlying27 (by kernel_rfl) (Ct.cons (Fh k) (by kernel_rfl) rfl (Ct.cons (Fh k) (by kernel_rfl) rfl (Ct.cons (Yi k) (by kernel_rfl) rfl (Ct.cons (U2 k) (by kernel_rfl) rfl Ct.nil))))).map (λp=>(p.1,p.2.1,p.2.2.1,p.2.2.2.1)) (λ_=>rfl) (λ_ h=>⟨h.2.2.1,h.2.2.2.1⟩) (λ_=>qg _)
theorem RO:∀k,Rd enc Tryz.prog w base spare Bf k 29 AF.flat 5 AF.sized (λ_=>0)
 | 0=>Rd.zero
 | k+1=>(Ct.rd Tryz.underlying29 (by kernel_rfl) (Ct.cons (Tx k) (by kernel_rfl) rfl (Ct.cons (Wh k) (by kernel_rfl) rfl Ct.nil))).map (λp=>(⟨p.1,p.2.1.1,p.2.1.2.1,p.2.1.2.2.1,p.2.1.2.2.2⟩:AF)) (λ_=>rfl) (λ_ h=>⟨h.1,h.2.1.1,h.2.1.2⟩) (λ_=>qg _)
def AE.F (x:AE):List SV:=[AA x.kind,AA x.code,AA x.id,.str x.text,Af x.head.props,AA x.head.ins,AA x.head.move,AP x.head.dels,AL x.head.layers,AG x.flow,A3 x.rows]
def Aa.F (x:Aa):List SV:=[Af x.head.props,AA x.head.ins,AA x.head.move,AP x.head.dels,AL x.head.layers,BS x.cells]
def Cell.F (x:Cell):List SV:=[AA x.id,Af x.head.props,AA x.head.ins,AA x.head.move,AP x.head.dels,AL x.head.layers,AG x.flow]
def Ut (N:Nat) (c:Cell):Prop:=c.head.sized/\Da AF.sized BB N c.flow
def WS (N:Nat) (r:Aa):Prop:=r.head.sized/\r.cells.length<=BB/\∀c∈r.cells,Ut N c
theorem NW:∀l:List AE,Ap l<=Kn (λx=>x.text.size) l
 | []=>by simp[Ap]
 | x::l=>by
  have:=NW l;simp only[Ap,Kn,qu,kK]at this ⊢;omega
theorem Wc:∀k,Rd enc Tryz.prog w base spare Bf k 22 (λl:List AE=>[AG l]) 1 (λl=>∀N,k<N->Da AF.sized BB N l) (Kn λx=>x.text.size):=λk=>by
 induction k using Nat.strongRecOn with
 | ind k ih=>
 have cell:∀m,m<k->Rd enc Tryz.prog w base spare Bf m 171 Cell.F 7 (λc=>∀N,m<=N->Ut N c) (λ_=>0):=λm hm=>by
  cases m with
  | zero=>exact Rd.zero
  | succ m=>
   exact(Ct.rd Tryz.underlying171 (by kernel_rfl) (Ct.cons (Fh m) (by kernel_rfl) rfl (Ct.cons (RO m) (by kernel_rfl) rfl (Ct.cons (ih m (by omega)) (by kernel_rfl) rfl Ct.nil)))).map (λp=>Cell.mk p.1 p.2.1 p.2.2.1) (λ_=>rfl) (λ_ h N hN=>⟨h.2.1,h.2.2.1 N (by omega)⟩) (λ_=>qg _)
 have cells:∀m,m<k->Rd enc Tryz.prog w base spare Bf m 167 (λl:List Cell=>[BS l]) 1 (λl=>l.length<=BB/\∀c∈l,∀N,m<=N->Ut N c) (λ_=>0):=λm hm=>
  (Dk (f:=Cell.enc) (F:=Cell.F) (ok:=λc=>∀N,m<=N->Ut N c) (λc=>jh c) Cell.E.st Tryz.underlying167 (by kernel_rfl) (by omega) (λq hq=>(cell q (by omega)).map (λc=>c) (λ_=>rfl) (λ_ h N hN=>h N (by omega)) (λ_=>qa _))).map (λl=>l) (λ_=>rfl) (λl h=>⟨by have:=DW (λ_=>0) l;have:=h.2;omega,h.1⟩) (λ_=>qg _)
 have row:∀m,m<k->Rd enc Tryz.prog w base spare Bf m 169 Aa.F 6 (λr=>∀N,m<=N->WS N r) (λ_=>0):=λm hm=>by
  cases m with
  | zero=>exact Rd.zero
  | succ m=>
   exact(Ct.rd Tryz.underlying169 (by kernel_rfl) (Ct.cons (RO m) (by kernel_rfl) rfl (Ct.cons (cells m (by omega)) (by kernel_rfl) rfl Ct.nil))).map (λp=>Aa.mk p.1 p.2.1) (λ_=>rfl) (λ_ h N hN=>⟨h.1,h.2.1.1,λc hc=>h.2.1.2 c hc N (by omega)⟩) (λ_=>qg _)
 have rows:∀m,m<k->Rd enc Tryz.prog w base spare Bf m 68 (λl:List Aa=>[A3 l]) 1 (λl=>l.length<=BB/\∀c∈l,∀N,m<=N->WS N c) (λ_=>0):=λm hm=>
  (Dk (f:=Aa.enc) (F:=Aa.F) (ok:=λc=>∀N,m<=N->WS N c) (λc=>qQ c) Aa.E.st Tryz.underlying68 (by kernel_rfl) (by omega) (λq hq=>(row q (by omega)).map (λc=>c) (λ_=>rfl) (λ_ h N hN=>h N (by omega)) (λ_=>qa _))).map (λl=>l) (λ_=>rfl) (λl h=>⟨by have:=DW (λ_=>0) l;have:=h.2;omega,h.1⟩) (λ_=>qg _)
 have item:∀m,m<k->Rd enc Tryz.prog w base spare Bf m 70 AE.F 11 (λx=>∀N,m<=N->Lh AF.sized BB N x) (λx=>x.text.size):=λm hm=>by
  cases m with
  | zero=>exact Rd.zero
  | succ m =>
   exact(Ct.rd Tryz.underlying70 (by kernel_rfl) (Ct.cons (Fh m) (by kernel_rfl) rfl (Ct.cons (Fh m) (by kernel_rfl) rfl (Ct.cons (Fh m) (by kernel_rfl) rfl (Ct.cons (PT m) (by kernel_rfl) rfl (Ct.cons (RO m) (by kernel_rfl) rfl (Ct.cons (ih m (by omega)) (by kernel_rfl) rfl (Ct.cons (rows m (by omega)) (by kernel_rfl) rfl Ct.nil)))))))).map (λp=>AE.mk p.1 p.2.1 p.2.2.1 p.2.2.2.1 p.2.2.2.2.1 p.2.2.2.2.2.1 p.2.2.2.2.2.2.1) (λ_=>rfl)
    (λ_ h N hN=>⟨h.2.2.2.2.1,h.2.2.2.2.2.1 N (by omega),h.2.2.2.2.2.2.1.1,λr hr=>h.2.2.2.2.2.2.1.2 r hr N (by omega)⟩) (λp=>by show p.2.2.2.1.size<=_;omega)
 exact(Dk (f:=AE.enc) (F:=AE.F) (ok:=λx=>∀N,k<=N+1->Lh AF.sized BB N x) (λc=>qx c) AE.E.st Tryz.underlying22 (by kernel_rfl) (by omega) (λq hq=>(item q (by omega)).map (λc=>c) (λ_=>rfl) (λ_ h N hN=>h N (by omega)) (λ_=>qa _))).map (λl=>l) (λ_=>rfl) (λl h N hN=>by
  cases N with
  | zero=>omega
  | succ N=>
   have h1:=DW (λx:AE=>x.text.size) l;have h2:=NW l;have h3:=h.2;exact C1.2 ⟨by omega,by omega,λx hx=>h.1 x hx N (by omega)⟩) (λ_=>qa _)
end
section
variable {H : Type} {enc : TypeId × Value → H} {w : World} {base : Nat} {spare : Nat → Bool} {Bf : Bool} {α : Type}
def A6.F (s:A6):List SV:=[AA s.id,AA s.kind,.str s.name,AA s.base,AA s.next,Af s.props]
theorem Wi:∀k,Rd enc Tryz.prog w base spare Bf k 198 A6.F 6 (λs=>s.props.length<=BB) (λ_=>0)
 | 0=>Rd.zero
 | k+1=>(Ct.rd Tryz.underlying198 (by kernel_rfl) (Ct.cons (Fh k) (by kernel_rfl) rfl (Ct.cons (Fh k) (by kernel_rfl) rfl (Ct.cons (PT k) (by kernel_rfl) rfl (Ct.cons (Fh k) (by kernel_rfl) rfl (Ct.cons (Fh k) (by kernel_rfl) rfl (Ct.cons (Tx k) (by kernel_rfl) rfl Ct.nil))))))).map
  (λp=>(⟨p.1,p.2.1,p.2.2.1,p.2.2.2.1,p.2.2.2.2.1,p.2.2.2.2.2.1⟩:A6)) (λ_=>rfl) (λ_ h=>h.2.2.2.2.2.1) (λ_=>qg _)
def CX.F (s:CX):List SV:=[AA s.format,AA s.start,.str s.template,AA s.restart]
theorem Wf:∀k,Rd enc Tryz.prog w base spare Bf k 106 CX.F 4 (λs=>s.template.size<=BB) (λ_=>0)
 | 0=>Rd.zero
 | k+1=>(Ct.rd Tryz.underlying106 (by kernel_rfl) (Ct.cons (Fh k) (by kernel_rfl) rfl (Ct.cons (Fh k) (by kernel_rfl) rfl (Ct.cons (PT k) (by kernel_rfl) rfl (Ct.cons (Fh k) (by kernel_rfl) rfl Ct.nil))))).map
  (λp=>(⟨p.1,p.2.1,p.2.2.1,p.2.2.2.1⟩:CX)) (λ_=>rfl) (λ_ h=>h.2.2.1) (λ_=>qg _)
theorem U3 (k:Nat):Rd enc Tryz.prog w base spare Bf k 101 (λl:List CX=>[DL l]) 1 (λl=>l.length<=BB/\∀r∈l,r.template.size<=BB) (λ_=>0):=
 (Dk (f:=CX.enc) (F:=CX.F) (λ_=>rfl) CX.E.st Tryz.underlying101 (by kernel_rfl) (by omega) (λm _=>Wf m)).map (λl=>l) (λ_=>rfl) (λl h=>⟨by have:=DW (λ_=>0) l;have:=h.2;omega,h.1⟩) (λ_=>qg _)
def Fb.F (s:Fb):List SV:=[AA s.id,DL s.levels]
theorem cd:∀k,Rd enc Tryz.prog w base spare Bf k 103 Fb.F 2 (λs=>s.levels.length<=BB/\∀r∈s.levels,r.template.size<=BB) (λ_=>0)
 | 0=>Rd.zero
 | k+1=>(Ct.rd Tryz.underlying103 (by kernel_rfl) (Ct.cons (Fh k) (by kernel_rfl) rfl (Ct.cons (U3 k) (by kernel_rfl) rfl Ct.nil))).map (λp=>(⟨p.1,p.2.1⟩:Fb)) (λ_=>rfl) (λ_ h=>h.2.1) (λ_=>qg _)
def Au.F (c:Au):List SV:=[AA c.id,AA c.parent,.str c.author,AA c.time,.str c.text,.bool c.done]
theorem Tv:∀k,Rd enc Tryz.prog w base spare Bf k 115 Au.F 6 (λs=>s.author.size<=BB/\s.text.size<=BB) (λ_=>0)
 | 0=>Rd.zero
 | k+1=>(Ct.rd Tryz.underlying115 (by kernel_rfl) (Ct.cons (Fh k) (by kernel_rfl) rfl (Ct.cons (Fh k) (by kernel_rfl) rfl (Ct.cons (PT k) (by kernel_rfl) rfl (Ct.cons (Fh k) (by kernel_rfl) rfl (Ct.cons (PT k) (by kernel_rfl) rfl (Ct.cons (Vh k) (by kernel_rfl) rfl Ct.nil))))))).map
  (λp=>(⟨p.1,p.2.1,p.2.2.1,p.2.2.2.1,p.2.2.2.2.1,p.2.2.2.2.2.1⟩:Au)) (λ_=>rfl) (λ_ h=>⟨h.2.2.1,h.2.2.2.2.1⟩) (λ_=>qg _)
def Ft.F (c:Ft):List SV:=[.str c.name,.str c.value]
theorem cf:∀k,Rd enc Tryz.prog w base spare Bf k 118 Ft.F 2 (λs=>s.name.size<=BB/\s.value.size<=BB) (λ_=>0)
 | 0=>Rd.zero
 | k+1=>(Ct.rd Tryz.underlying118 (by kernel_rfl) (Ct.cons (PT k) (by kernel_rfl) rfl (Ct.cons (PT k) (by kernel_rfl) rfl Ct.nil))).map (λp=>(⟨p.1,p.2.1⟩:Ft)) (λ_=>rfl) (λ_ h=>⟨h.1,h.2.1⟩) (λ_=>qg _)
theorem U4 (k:Nat):Rd enc Tryz.prog w base spare Bf k 31 (λl:List A6=>[Ae l]) 1 (λl=>l.length<=BB/\∀r∈l,r.props.length<=BB) (λ_=>0):=
 (Dk (f:=A6.enc) (F:=A6.F) (λ_=>rfl) A6.E.st Tryz.underlying31 (by kernel_rfl) (by omega) (λm _=>Wi m)).map (λl=>l) (λ_=>rfl) (λl h=>⟨by have:=DW (λ_=>0) l;have:=h.2;omega,h.1⟩) (λ_=>qg _)
theorem Wg (k:Nat):Rd enc Tryz.prog w base spare Bf k 32 (λl:List Fb=>[Di l]) 1 (λl=>l.length<=BB/\∀s∈l,s.levels.length<=BB/\∀r∈s.levels,r.template.size<=BB) (λ_=>0):=
 (Dk (f:=Fb.enc) (F:=Fb.F) (λ_=>rfl) Fb.E.st Tryz.underlying32 (by kernel_rfl) (by omega) (λm _=>cd m)).map (λl=>l) (λ_=>rfl) (λl h=>⟨by have:=DW (λ_=>0) l;have:=h.2;omega,h.1⟩) (λ_=>qg _)
theorem R6 (k:Nat):Rd enc Tryz.prog w base spare Bf k 33 (λl:List Au=>[BZ l]) 1 (λl=>l.length<=BB/\∀s∈l,s.author.size<=BB/\s.text.size<=BB) (λ_=>0):=
 (Dk (f:=Au.enc) (F:=Au.F) (λ_=>rfl) Au.E.st Tryz.underlying33 (by kernel_rfl) (by omega) (λm _=>Tv m)).map (λl=>l) (λ_=>rfl) (λl h=>⟨by have:=DW (λ_=>0) l;have:=h.2;omega,h.1⟩) (λ_=>qg _)
theorem Yn (k:Nat):Rd enc Tryz.prog w base spare Bf k 34 (λl:List Ft=>[FI l]) 1 (λl=>l.length<=BB/\∀s∈l,s.name.size<=BB/\s.value.size<=BB) (λ_=>0):=
 (Dk (f:=Ft.enc) (F:=Ft.F) (λ_=>rfl) Ft.E.st Tryz.underlying34 (by kernel_rfl) (by omega) (λm _=>cf m)).map (λl=>l) (λ_=>rfl) (λl h=>⟨by have:=DW (λ_=>0) l;have:=h.2;omega,h.1⟩) (λ_=>qg _)
theorem R8:∀k,Rd enc Tryz.prog w base spare Bf k 36 AK.flat 4 AK.sizedT (λ_=>0)
 | 0=>Rd.zero
 | k+1=>(Ct.rd Tryz.underlying36 (by kernel_rfl) (Ct.cons (U4 k) (by kernel_rfl) rfl (Ct.cons (Wg k) (by kernel_rfl) rfl (Ct.cons (R6 k) (by kernel_rfl) rfl (Ct.cons (Yn k) (by kernel_rfl) rfl Ct.nil))))).map
  (λp=>(⟨p.1,p.2.1,p.2.2.1,p.2.2.2.1⟩:AK)) (λ_=>rfl) (λ_ h=>⟨⟨h.1.1,h.2.1.1,h.2.2.1.1,h.2.2.2.1.1,h.1.2,λx hx=>(h.2.1.2 x hx).1⟩,λx hx=>(h.2.1.2 x hx).2,h.2.2.1.2,h.2.2.2.1.2⟩) (λ_=>qg _)
def AI.F (d:AI):List SV:=[AG d.flow]++d.«end».flat++[Ao d.revs]++d.settings.flat
theorem R7:∀k,Rd enc Tryz.prog w base spare Bf k 38 AI.F 11 (λd=>d.sizedT BB k) (λ_=>0)
 | 0=>Rd.zero
 | k+1=>(Ct.rd Tryz.underlying38 (by kernel_rfl) (Ct.cons (Wc k) (by kernel_rfl) rfl (Ct.cons (RO k) (by kernel_rfl) rfl (Ct.cons (Yl k) (by kernel_rfl) rfl (Ct.cons (R8 k) (by kernel_rfl) rfl Ct.nil))))).map
  (λp=>(⟨p.1,p.2.1,p.2.2.1,p.2.2.2.1⟩:AI)) (λ_=>rfl) (λ_ h=>⟨h.1 _ (by omega),h.2.1,h.2.2.1.1,h.2.2.1.2,h.2.2.2.1⟩) (λ_=>qg _)
def Av.F (s:Av):List SV:=[AA s.id,AA s.a,AA s.b]
theorem Rd.arg {k e z:Nat} {F:α->List SV} {ok:α->Prop} {μ:α->Nat} (h:Rd enc Tryz.prog w base spare Bf k e F z ok μ) {fs:Array Field} (ht:Tryz.prog.underlying e=some (.struct fs)) {r:Reach} {b0:Nat} {v:Value} (hv:Value.okWide Tryz.prog w r b0 e v) {x:DataW H×List MemPlace}
 (hx:DataW.trod enc Tryz.prog w base spare Bf k e v.cells.toList=some x) (hb:Rows.uptoBulk x.1<=BB):∃a,V (TA w) (.agg (F a)) v/\ok a:=by
 simp only[Value.okWide,ht]at hv;obtain⟨cs,rfl,_,_⟩:=hv;obtain⟨a,a1,a2,a3,a4,a5⟩:=h _ x hx hb;refine⟨a,?_,a4⟩;rw[V];exact⟨cs.toList,by simp,by simpa[Value.cells]using a1,by simpa[Value.cells]using a3⟩
end
open Go.ChangeShapes Go.WideShapes Go.ChangeAt Go.RowKit
theorem YQ:Kids Tryz.prog (· < Tryz.prog.types.size):=kids_rows (by kernel_rfl) (by kernel_rfl)
theorem YN:∀t e,t<Tryz.prog.types.size->Tryz.prog.underlying t=some (.slice e)->0<Tryz.prog.cellsOf e:=slices_full_of Tryz.prog (by kernel_rfl)
section
variable {H : Type} {enc : TypeId × Value → H}
theorem Rm {W:World} {c':Cx} (x:DZ (TA W) c') {b:Nat} (h:b<W.heap.size):c'.w.heap[b]? = W.heap[b]?:=(x.keep b h (λh=>h)).2
theorem Oc {P:Program} {w w':World} {base:Nat} {sp:Nat->Bool} {Bf:Bool} (hw:∀b,b<w.heap.size->w'.heap[b]? = w.heap[b]?):∀{ts:List TypeId} {vs:List Value} {ds:List (DataW H)} {ps:List MemPlace},DataW.TrodAll enc P w base sp Bf ts vs ds ps->(∀p∈ps,p.block<w.heap.size)->DataW.TrodAll enc P w' base sp Bf ts vs ds ps
 | [],[],[],_,h,_=>h
 | _ :: _, _ :: _, _ :: _, _, ⟨p, q, ⟨n, h1⟩, h2, e⟩, hs => by
  have hp:∀x∈p,w.sameAt w' x:=λx hx=>by
   have hb:=hs x (by rw[e];exact kc _ hx);cases x with
   | cell b off=>simp only[World.sameAt,World.cell?,hw b hb]
   | map b=>exact hw b hb
  exact⟨p,q,⟨n,DataW.trod_carry n _ _ _ h1 hp⟩,Oc hw h2 (λx hx=>hs x (by rw[e];exact jN _ hx)),e⟩
theorem QT {f:Func} {s:ChangeSpec} {apart fresh handsOn again:Bool} {W W':World} {args:Array Value} {v:Value} {ds gs:List (DataW H)} {before:List MemPlace} {x:DataW H}
 (hW:DataW.Whole enc Tryz.prog f.params.toList s.vars apart W args.toList ds gs before) (hv:s.vars=[]) (hpt:∀t∈f.params.toList,t<Tryz.prog.types.size)
 (hos:W'.os=W.os) (hout:W'.output=W.output) (hw:∀b,b<W.heap.size->W'.heap[b]? = W.heap[b]?)
 (hfn:s.fn H (ds++gs)={ results:=[x],args:=ds })
 (hres:∀(b:Nat) (sp:Nat->Bool) (hd:Bool),DataW.TrodAll enc Tryz.prog W' b sp hd f.resultTypes.toList (v.resultList f.resultTypes.size) [x] [])
 (hok:∀(j:Nat) (t:TypeId) (r:Value),f.resultTypes[j]? = some t->(v.resultList f.resultTypes.size)[j]? = some r->Value.okWide Tryz.prog W' .any 0 t r):
 s.post enc Tryz.prog f apart fresh handsOn again W args v W':=by
 have hlt:=hW.lt;have hW2:=hW;obtain⟨p,q,h1,h2,rfl,hz,hn⟩:=hW;rw[hv]at h2;obtain⟨rfl,rfl⟩:=trodVars_none h2;rw[jq]at hlt hz hn hW2;have c1:=Oc hw h1 hlt;have c2:∀sp:Nat->Bool,(∀x∈p,sp x.block=true)->DataW.TrodAll enc Tryz.prog W' 0 sp true f.params.toList args.toList ds p:=λsp hs=>DataW.TrodAll.respare YQ YN hpt c1 hs;have hvars:∀sp:Nat->Bool,DataW.TrodVars enc Tryz.prog W' sp s.vars [] []:=λsp=>by rw[hv];rfl
 refine⟨ds,[],p,[],p,[],hW2,by rw[hfn];exact hres _ _ _,by rw[hfn];exact c2 _ (λx hx=>by simpa using hlt x hx),by rw[hfn];exact hvars _,?_,λ_=>?_⟩;refine⟨hos,hout,λi hi=>?_⟩;rw[hw i hi];generalize W.heap[i]? = o;cases o with
 | none=>rfl
 | some b=>cases b<;>simp
 refine⟨hok,x::ds,[],p,⟨p,[],by simpa using trodAll_append (c2 _ (λ_ _=>rfl)) (hres 0 (λ_=>true) true),hvars _,by simp,?_,hn⟩,λx hx _=>hx⟩;intro b off hp;have hb:=hlt _ hp;have:=hz b off hp;simp only[World.frozen?]at this ⊢;rw[hw b hb];exact this
theorem cg (W:World):Bn (λ_=>none) (TA W):=⟨λ_ _ h=>(by cases h),λ_ _ _ _ _ h=>(by cases h),λb=>⟨λh=>h.elim,λ⟨_,_,h,_⟩=>(by cases h)⟩⟩
theorem PC.calls {f:FuncId} {a:List SV} {v:SV} (h:PC f a v) {W:World} {vs:List Value} (hv:AZ (V (TA W)) a vs):Calls Tryz.prog f vs.toArray W λe W'=>∃u c',e=.returned u/\c'.w=W'/\V c' v u/\DZ (TA W) c':=by
 have:=(h (λ_=>none) 0).2 (TA W) vs trivial (cg W) (λ_ _=>rfl) hv;refine this.mono ?_;rintro e W' ⟨u,v',h',n',c',rfl,⟨rfl,_⟩,hw,hV,_,_,hA⟩;exact⟨u,c',rfl,hw,hV,hA.ext⟩
end
end Go.Proofs.YtgakninlhfkkmaaGreat.Sh
namespace Go.Proofs.YtgakninlhfkkmaaGreat.Sh
open Proofs Go.ChangeShapes Go.WideShapes
set_option maxRecDepth 10000
section
variable {H : Type} {enc : TypeId × Value → H} {P : Program} {w : World} {base : Nat} {spare : Nat → Bool} {Bf : Bool}
theorem PU {k:Nat} {e:TypeId} {ok:Int->Prop} {μ:Int->Nat} (hR:Rd enc P w base spare Bf k e (λn:Int=>[AA n]) 1 ok μ) (hz:P.cellsOf e=1) (a:Addr):
 ∀(ys:List (DataW H×List MemPlace)) (i:Nat),(∀j,j<ys.length->(w.cells? base (a.add ((i+j)*P.cellsOf e)) (P.cellsOf e)).bind (DataW.trod enc P w base spare Bf k e)=ys[j]?)->Rows.uptoBulkAll (ys.map (·.1))<=BB->
  ∃l:List Int,l.length=ys.length/\∀j n,l[j]? = some n->w.cell? (a.add (i+j))=some (.int .i64 n)
 | [],i,_,_=>⟨[],rfl,by simp⟩
 | y :: ys, i, hy, hb => by
  simp only[qu,Rows.uptoBulkAll]at hb;have h0:=hy 0 (by simp);simp only[jG,jJ]at h0;obtain⟨cs,hcs,hx⟩:=Option.bind_eq_some_iff.1 h0;obtain⟨_,hcl,hce⟩:=World.cells?_some hcs;obtain⟨b,b1,b2,_,_,_⟩:=hR cs y hx (by omega);obtain⟨l,l1,l5⟩:=PU hR hz a ys (i+1) (λj hj=>by have:=hy (j+1) (by simp;omega);rw[show i+1+j=i+(j+1)by omega];simpa using this) (by omega);refine⟨b::l,by simp[l1],λj n hn=>?_⟩;cases j with
  | zero=>
   simp only[jG,qh]at hn;subst hn;have h1:=hce 0 (by omega);obtain⟨v,rest,rfl,hv,hr⟩:=b1;rw[VL]at hr;subst hr;have e1:=C7 hv;subst e1;rw[hz,Nat.mul_one]at h1;have e:(a.add i).add 0=a.add (i+0):=by unfold Addr.add;simp
   rw[e]at h1;simpa using h1
  | succ j=>
   have:=l5 j n (by simpa using hn);rw[show i+(j+1)=i+1+j by omega];exact this
theorem R9 {k:Nat} {e T:TypeId} (ht:P.underlying T=some (.slice e)) (hz:P.cellsOf e=1) (hi:P.underlying e=some (.int .i64)):
 Rd enc P w base spare Bf k T (λl:List Int=>[.imm 1 (l.map AA) false]) 1 (λ_=>True) (λ_=>0):=λcs x hx hb=>by
 rcases DataW.trod_slice ht hx with⟨rfl,rfl⟩|⟨a,len,cap,elems,rest,n,hn,rfl,rfl,_,hlc,_,hel,he,_,_⟩
 exact⟨[],It (by rw[V];exact .inl ⟨rfl,rfl⟩),rfl,by simp[Value.oneCell'],trivial,by simp[Rows.uptoBulk]⟩;simp only[Rows.uptoBulk]at hb ⊢;obtain⟨l,l1,l5⟩:=PU (Tz hi) hz a elems 0 (λj hj=>by rw[jc];exact he j (by omega)) (by omega);refine⟨l,It ?_,rfl,by simp[Value.oneCell'],trivial,by omega⟩;rw[V];right;refine⟨a,cap,l.map (Value.int .i64),by rw[qd,l1,hel],by rw[qd,l1,hel];exact hlc,by simp,?_,Ho.2 ⟨l.map (Value.int .i64),?_,?_,?_,?_⟩⟩;have hsp:l.map (Value.int .i64)≠[]->a.spot=none:=λhne=>by
  obtain⟨n,r,hv⟩:=List.exists_cons_of_ne_nil (λg:l=[]=>hne (by rw[g];rfl));have:=World.cell?_spot (l5 0 n (by rw[hv];rfl));simpa[Addr.add]using this
 refine⟨hsp,λ_ h=>h,λi v hv=>?_,λv hv=>?_⟩;obtain⟨n,h0,rfl⟩:∃n,l[i]? = some n/\Value.int .i64 n=v:=by
  rw[qO,qX]at hv;exact hv
 have h1:=l5 i n h0;have h2:=hsp (by rintro e;rw[e]at hv;simp at hv);rw[jc]at h1;have e:a.add i=⟨a.block,a.off+i,none⟩:=by
  unfold Addr.add;split;subst_vars;cases a;simp_all;rfl
 rw[e]at h1;exact h1;obtain⟨z,_,rfl⟩:=qy.1 hv;rfl;exact AZ.map (R:=λa b=>a=b) (λa b e=>by subst e;simp[V]) (by
  have:∀l:List Int,AZ (λa b=>a=b) l l:=λl=>by induction l with|nil=>trivial|cons a l ih=>exact⟨rfl,ih⟩
  exact this _)
 intro u hu;obtain⟨z,_,rfl⟩:=qy.1 hu;rfl;intro s hs;obtain⟨z,_,rfl⟩:=qy.1 hs;rfl;clear hb he hel l1 l5;induction l with
 | nil=>rfl
 | cons a l ih=>rw[qu,qK,<-ih];rfl
theorem Yj (k:Nat):Rd enc Tryz.prog w base spare Bf k 61 (λl:List Int=>[.imm 1 (l.map AA) false]) 1 (λ_=>True) (λ_=>0):=R9 Tryz.underlying61 (by kernel_rfl) Tryz.underlying3
end
end Go.Proofs.YtgakninlhfkkmaaGreat.Sh
namespace Go.Proofs.YtgakninlhfkkmaaGreat.Sh
open Proofs
set_option maxRecDepth 10000
abbrev U1 (b:Bool):Nat:=if b then 1 else 0
mutual
def AE.wt (u:AF->Bool):AE->List Nat
 | .mk k _ _ t h f r=>if k=1 then List.replicate (if CZ t then DK t t.size else 0) (U1 (u h))else[U1 (u h)+(if k=6 then AE.wts u f else 0)+(if k=7 then Aa.wts u r else 0)]
def AE.wts (u:AF->Bool):List AE->Nat
 | []=>0
 | x::l=>(AE.wt u x).sum+AE.wts u l
def Aa.wt (u:AF->Bool):Aa->Nat
 | .mk h c=>U1 (u h)+Cell.wts u c
def Aa.wts (u:AF->Bool):List Aa->Nat
 | []=>0
 | x::l=>Aa.wt u x+Aa.wts u l
def Cell.wt (u:AF->Bool):Cell->Nat
 | .mk _ h f=>U1 (u h)+AE.wts u f
def Cell.wts (u:AF->Bool):List Cell->Nat
 | []=>0
 | x::l=>Cell.wt u x+Cell.wts u l
end
section
variable (u : AF → Bool)
def val (x:AE):Prop:=CZ x.text=true/\(x.kind=7->x.rows≠[])
end
section
variable (u : AF → Bool) (w : Bool) (it : Int → List AE → Bool → Nat) (mid : Bool)
end
section
variable (u : AF → Bool) (w : Bool) (sc : Av)
end
abbrev wr (x:Int):Int:=IntKind.i64.wrap x
section
variable (rev : Int) (sc : Av)
end
section
variable (g : Bool → AF → AF) (sc : Av)
end
section
variable (g : Bool → AF → AF) (sc : Av) (u : AF → Bool)
end
section
variable (g : Bool → AF → AF) (sc : Av)
variable (u v : AF → Bool) (w : Bool)
end
def ZT (hp:AF->Prop) (L T:Nat):Nat->List AE->Prop
 | 0,_=>False
 | N+1,l=>l.length<=L/\Ap l<=T/\∀x∈l,hp x.head/\ZT hp L T N x.flow/\x.rows.length<=L/\∀r∈x.rows,hp r.head/\r.cells.length<=L/\∀c∈r.cells,hp c.head/\ZT hp L T N c.flow
section
variable {hp hp' : AF → Prop} (g : Bool → AF → AF) (sc : Av)
end
theorem Q2 {l:List Az} {i:Nat} (h:i<l.length):HK l i∈l:=by
 have:HK l i=l[i]:=by simp[HK,List.getD,h]
 rw[this];exact ql h
theorem SU {l:List Az} {j:Nat} (h:j+1<l.length) (x:Az):x∈IQ l j↔x∈l:=by
 have e1:HK l j=l[j]:=by simp[HK,List.getD,show j<l.length by omega]
 have e2:HK l (j+1)=l[j+1]:=by simp[HK,List.getD,h]
 unfold IQ;have d1:l.getD j W7=l[j]:=e1;have d2:l.getD (j+1) W7=l[j+1]:=e2;constructor;intro hx;rcases List.mem_or_eq_of_mem_set hx with hx|rfl;rcases List.mem_or_eq_of_mem_set hx with hx|rfl;exact hx;exact Q2 (by omega);exact Q2 h;intro hx;obtain⟨i,hi,rfl⟩:=ky.1 hx;rw[List.mem_iff_getElem?];by_cases c1:i=j;subst c1;exact⟨i+1,by rw[List.getElem?_set_ne (by omega),List.getElem?_set_self (by omega)];exact congrArg some e1⟩;by_cases c2:i=j+1;subst c2;exact⟨j,by rw[List.getElem?_set_self (by rw[List.length_set];omega)];exact congrArg some e2⟩;exact⟨i,by rw[List.getElem?_set_ne (by omega),List.getElem?_set_ne (by omega)];simp[hi]⟩
theorem NS:∀(j:Nat) {l:List Az},j<l.length->∀x,x∈E8 l j↔x∈l
 | 0,_,_,x=>by rw[E8]
 | j+1,l,h,x=>by
  rw[E8];split;rw[NS j (by rw[KQ];omega),SU h];rfl
theorem KO (l:List Az):∀i,i<=l.length->∀x,x∈Cz l i↔x∈l
 | 0,_,x=>by rw[Cz]
 | i+1,h,x=>by rw[Cz,NS i (by rw[HH];omega),KO l i (by omega)]
section
variable {m2 : List Int} {rev nx : Int}
theorem O0 {h:AF} (H:J5 m2 h):J5 (nx::m2) h:=
 ⟨H.1,⟨H.2.ins.imp id λe=>by simp[e],H.2.dlen,λx hx=>by simp[H.2.dels x hx],H.2.llen,λx hx=>by simp[H.2.layers x hx]⟩⟩
end
section
variable (g : Bool → AF → AF) (sc : Av)
end
theorem K0 {c:Nat->Int} {k n:Nat} (h1:∀m,m<k->c m<0) (h2:∀m,k<=m->m<n->¬c m<0):∀(d i j:Nat),j-i<=d->i<=k->k<=j->j<=n->Fd c i j=k
 | d,i,j,hd,hi,hj,hn=>by
  rw[Fd];split;rename_i hij;cases d with
  | zero=>omega
  | succ d=>
   split;rename_i hc;refine K0 h1 h2 d _ j (by omega) ?_ hj hn;rcases ji ((i+j) / 2) k with h|h;omega;exact absurd hc (h2 _ h (by omega));rename_i hc;refine K0 h1 h2 d i _ (by omega) hi ?_ (by omega);rcases ji ((i+j) / 2) k with h|h;exact absurd (h1 _ h) hc;exact h
  omega
theorem Sx {f:Nat->Int} {n:Nat} {x:Int} (hs:∀i j,i<=j->j<n->f i<=f j) (hx:∃j,j<n/\f j=x) {c:Nat->Int} (hc:∀i,i<n->(c i<0↔f i<x)/\(c i=0↔f i=x)):(BI c n).2=true:=by
 obtain⟨j,hj,hfj⟩:=hx;have key:∀j,j<n->x<=f j->∃k,k<=j/\x<=f k/\∀m,m<k->f m<x:=by
  intro j
  induction j with
  | zero=>intro _ h;exact⟨0,qa _,h,λm hm=>by omega⟩
  | succ j ih=>
   intro hj h;by_cases hc:x<=f j;obtain⟨k,k1,k2,k3⟩:=ih (by omega) hc;exact⟨k,by omega,k2,k3⟩;exact⟨j+1,qa _,h,λm hm=>by have:=hs m j (by omega) (by omega);omega⟩
 obtain⟨k,k1,k2,k3⟩:=key j hj (by omega);have hk:k<n:=by omega
 have e:f k=x:=by have:=hs k j k1 hj;omega
 have hg:Fd c 0 n=k:=K0 (λm hm=>(hc m (by omega)).1.2 (k3 m hm)) (λm h1 h2=>by rw[(hc m h2).1];have:=hs k m h1 h2;omega) n 0 n (by omega) (qg _) (by omega) (qa _);unfold BI;rw[hg];simp only[decide_eq_true_eq];exact⟨hk,(hc k hk).2.2 e⟩
theorem II {L:List Ax} (h:Cd L=0):∀i j,(hij:i<j)->(hj:j<L.length)->(L[i]'(by omega)).id<L[j].id:=by
 have hl:¬256<L.length:=λg=>by rw[Cd,if_pos g]at h;cases h
 rw[Cd,if_neg hl]at h;have step:∀i,(hi:i+1<L.length)->(L[i]'(by omega)).id<L[i+1].id:=λi hi=>by
  have:=Jv h (i+1) hi;unfold E6 at this;rw[qf hi,Nat.add_sub_cancel,qf (show i<L.length by omega)]at this;dsimp only at this;by_cases e:CL L[i+1]=0;rw[if_pos e,if_neg (by omega)]at this;unfold Do at this;by_cases c1:L[i+1].id<(L[i]'(by omega)).id;simp[c1]at this;by_cases c2:(L[i]'(by omega)).id<L[i+1].id;exact c2;simp[c1,c2]at this;rw[if_neg e]at this;exact absurd this e
 intro i j
 induction j with
 | zero=>intro hij;omega
 | succ j ih=>
  intro hij hj;rcases ji i j with g|g;have:=ih g (by omega);have:=step j hj;omega;have:i=j:=by omega
  subst this;exact step i hj
theorem Lx {L:List Ax} {id:Int} (h:∃r∈L,r.id=id):(CA L id).2=true:=by
 unfold CA;by_cases hc:Cd L=0;rw[if_pos hc];have hs:=II hc;obtain⟨r,hr,e⟩:=h;obtain⟨j,hj,e2⟩:=ky.1 hr;have:(BI (Gr L id) L.length).2=true:=by
  have g:∀i,(hi:i<L.length)->(L.getD i GV).id=L[i].id:=λi hi=>by simp[List.getD,hi]
  refine Sx (f:=λi=>(L.getD i GV).id) (x:=id) (λi k hik hk=>?_) ⟨j,hj,by rw[g j hj,e2,e]⟩ λi hi=>?_;rw[g i (by omega),g k hk];rcases ji i k with q|q;have:=hs i k q hk;omega;have:i=k:=by omega
  subst this;omega;rw[g i hi];unfold Gr Do;rw[qf hi];dsimp only;by_cases c1:L[i].id<id;rw[if_pos c1];omega;rw[if_neg c1];by_cases c2:id<L[i].id;rw[if_pos c2];omega;rw[if_neg c2];omega
 rw[if_pos this];rw[if_neg hc];obtain⟨r,hr,e⟩:=h
 induction L with
 | nil=>cases hr
 | cons a L ih =>
  clear hc;have:∀L:List Ax,r∈L->(GU id L).2=true:=λL=>by
   induction L with
   | nil=>intro h;cases h
   | cons b L ih=>
    intro h;rw[GU];split;rfl;rename_i hb;rcases qk.1 h with rfl|h;exact absurd e hb;exact ih h
  exact this _ hr
def B5 (p:Int×Int):SV:=.agg [AA p.1,AA p.2]
def AF.mv0 (h:AF):List (Int×Int):=if h.move=0 then[]else[(h.ins,h.move)]
def Hg (l:List Az):List (Int×Int):=(l.filter λx=>decide (x.move≠0)).map λx=>(x.rev,x.move)
def AF.moves (h:AF):List (Int×Int):=h.mv0++Hg h.dels
theorem E3 (l:List (Int×Int)):∀e∈l.map B5,e.storable=true/\e.cells.length=2:=λe he=>by
 obtain⟨p,_,rfl⟩:=qy.1 he;simp[B5,SV.storable,SV.cells]
theorem IY (l:List Az):(Hg l).length<=l.length:=by
 unfold Hg;rw[qd];exact qU _ _
theorem Su {H:Hp} {n m k p:Nat} {es:List SV} {x:Int×Int} {o:Option Nat} (hA:Ar n m 2 o es) (hl:es.length<=1073741823) (h1:H k=some (.cells [AA x.1,AA x.2])) (h2:∀j,o=some j->H j=some (.cells (es.flatMap SV.cells))):
 AU Tryz.prog H p .append [86,86] [AM 2 o es,.sl k 0 2 1 true]=some { val:=.sl p 0 2 (es.length+1) false,upd:=o.map λj=>(j,none),new:=some (.cells (es.flatMap SV.cells++[AA x.1,AA x.2])) }:=by
 have:=Dp (P:=Tryz.prog) (H:=H) (t:=86) (t2:=86) (el:=89) (z:=2) (by simp[go_sem]) (by simp[go_sem]) (by simp[go_sem]) (by simp) (by simp[go_sem]) (by simp[go_sem]) (by simp[go_sem]) (by omega) hA (e:=B5 x) rfl h1 h2 p;exact this
theorem LM (l:List Az) (i:Nat) (hi:i<l.length):Hg (l.take (i+1))=Hg (l.take i)++if l[i].move=0 then[]else[(l[i].rev,l[i].move)]:=by
 unfold Hg;rw[qb hi,qI,qc];congr 1;by_cases e:l[i].move=0<;>simp[e]
set_option maxHeartbeats 2000000 in
theorem bF (x:AF) (hs:x.sized):PC 44 [x.enc] (.imm 2 (x.moves.map B5) false):=by
 intro h n;refine Db Tryz.func44 rfl λho=>?_;have hHb:=ho.lt;refine AY 1 [(1,.iptr x.flat)] h n ?_ (λm hm=>?_);simp[go_sem,AF.enc,AF.flat];exact⟨AV (AW hHb (qa _)) (AC _ _ _),AJ hHb AB⟩;refine AY 0 [(1,.iptr x.flat),(3,.imm 0 [] true)] h n ?_ (λm hm=>?_);simp[go_sem,IO,hm];refine AT 0 (α:=Option Nat) (λo=>[(1,.iptr x.flat),(3,AM 2 o (x.mv0.map B5))]) (λo=>AN o (x.mv0.map B5) h) (λo m=>n<=m/\Ar n m 2 o (x.mv0.map B5)) ?_ (λo m hm=>?_);refine AY 1 [(1,.iptr x.flat),(3,.imm 0 [] true),(4,.iptr [AA x.ins,AA x.move,AP x.dels,AL x.layers])] h n ?_ (λm hm=>?_);have hHm:∀j y,h j=some y->j<m:=λj y e=>by have:=hHb j y e;omega
 simp[go_sem,AF.flat,IO,AC,AS];exact⟨by omega,AV (AW hHm (qa _)) (AC _ _ _),AJ hHm AB⟩;refine AH ?_;by_cases m0:x.move=0;simp[go_sem,m0,AF.mv0,IO,AM,AN];exact⟨none,⟨hm,jK _ _ _⟩,rfl,AB⟩;have hm0:(x.move !=0)=true:=by simpa using m0
 have hap:=λ(H:Hp) (k p:Nat) (h1:H k=some (.cells [AA x.ins,AA x.move]))=>Su (H:=H) (k:=k) (p:=p) (es:=[]) (x:=(x.ins,x.move)) (jK 0 0 2) (by simp) h1 (by simp);simp only[jI,kh,jY,qE,AM]at hap;simp[go_sem,m0,hm0,AF.mv0];rw[hap _ _ _ (by simp[AC])];simp[go_sem];have hpush:=(jK n (m+1) 2).push (j:=m+1) (m':=m+1+1) (e:=B5 (x.ins,x.move)) rfl rfl (by omega) (by omega);have hvv:AM 2 (some (m+1)) [B5 (x.ins,x.move)]=.sl (m+1) 0 2 1 false:=by simp[AM]
 refine⟨some (m+1),⟨by omega,by simpa using hpush⟩,hvv.symm,λj y=>?_⟩;have:=hHb j y;simp only[AN,hset,B5,SV.cells,qK,jY,jq];grind;obtain⟨hm,hA⟩:=hm;obtain⟨M,hM⟩:∃M:Nat->List SV,∀i,M i=(x.mv0++Hg (x.dels.take i)).map B5:=⟨_,λ_=>rfl⟩
 have hM0:x.mv0.map B5=M 0:=by rw[hM];simp[Hg]
 have hMs:∀i x',(hi:i<x.dels.length)->x.dels[i]=x'->M (i+1)=M i++if x'.move=0 then[]else[B5 (x'.rev,x'.move)]:=λi x' hi e=>by
  rw[hM,hM,LM _ _ hi,e];by_cases e0:x'.move=0<;>simp[e0]
 have hMl:M x.dels.length=x.moves.map B5:=by rw[hM,qi];rfl
 have hMn:∀i,(M i).length<=1+i:=λi=>by
  rw[hM,qd,qt];have h1:=IY (x.dels.take i);have h2:x.mv0.length<=1:=by unfold AF.mv0;split<;>simp
  have h3:=ki i x.dels;omega
 rw[hM0]at hA ⊢;have hsd:=hs.dels;refine AT 0 (α:=Option Nat) (λo=>[(3,AM 2 o (M x.dels.length))]) (λo=>AN o (M x.dels.length) h) (λo m=>n<=m/\Ar n m 2 o (M x.dels.length)) ?_ (λo m hm=>?_);refine AY 0 [(1,.iptr x.flat),(3,AM 2 o (M 0)),(22,AP x.dels),(23,AA x.dels.length),(24,AA 0)] (AN o (M 0) h) m ?_ (λm2 hm2=>?_);simp[go_sem,IO,AF.flat];refine AR (BG 0 (α:=Nat×Option Nat) (λq=>[(1,.iptr x.flat),(3,AM 2 q.2 (M q.1)),(22,AP x.dels),(23,AA x.dels.length),(24,AA q.1)]) (λq=>AN q.2 (M q.1) h)
  (λq m=>q.1<=x.dels.length/\n<=m/\Ar n m 2 q.2 (M q.1)) (λq=>x.dels.length-q.1) (0,o) ⟨qg _,by omega,hA.mono hm2⟩ ?_ AB ?_)
 simp[go_sem,Ai,IO];clear hA hm hm2 m2 m o;rintro⟨i,o⟩ m ⟨hi,hnm,hA⟩;dsimp only at hi hA ⊢;have hEn:=hMn i;by_cases hlt:i<x.dels.length;have w1:=wS i (by omega);obtain⟨y,hy⟩:∃y,x.dels[i]=y:=⟨_,rfl⟩
 have hst:=hMs i y hlt hy;generalize hE:M i=E at hA hEn hst;have hXb:∀j y,AN o E h j=some y->j<m:=Dm hHb hnm hA;refine Bp 0 [(1,.iptr x.flat),(3,AM 2 o E),(22,AP x.dels),(23,AA x.dels.length),(24,AA i),(25,.bool true)] (AN o E h) m ?_ (λm2 hm2=>?_);simp[go_sem,IO,hlt];subst hm2;refine Bp 0 [(1,.iptr x.flat),(3,AM 2 o E),(22,AP x.dels),(23,AA x.dels.length),(24,AA i)] (AN o E h) m ?_ (λm2 hm2=>?_);simp[go_sem,IO];subst hm2;refine AT 0 (α:=Option Nat) (λo=>[(1,.iptr x.flat),(3,AM 2 o (M (i+1))),(22,AP x.dels),(23,AA x.dels.length),(24,AA i)]) (λo=>AN o (M (i+1)) h) (λo m=>n<=m/\Ar n m 2 o (M (i+1))) (AR ?_) (λo m hm=>?_);refine AY 1 [(1,.iptr x.flat),(3,AM 2 o E),(22,AP x.dels),(23,AA x.dels.length),(24,AA i),(6,.iptr [AA y.rev,AA y.move])] (AN o E h) m ?_ (λm2 hm2=>?_);simp[go_sem,IO,hlt,hy,Az.enc,AC];exact⟨AV (AW hXb (qa _)) (AC _ _ _),AJ hXb (AJ hXb AB)⟩;rw[hst];refine AH ?_;by_cases m0:y.move=0;simp[go_sem,m0,IO];exact⟨o,⟨by omega,hA.mono hm2⟩,rfl,AB⟩;have hm0:(y.move !=0)=true:=by simpa using m0
 simp[go_sem,m0,hm0];rw[Su (x:=(y.rev,y.move)) hA (by omega) (by simp[AC]) (by
  intro j e;have:=(hA.lt j e).2;rw[AD _ _ (by omega)];exact Cu j e)]
 have hpush:=hA.push (j:=m2+1) (m':=m2+1+1) (e:=B5 (y.rev,y.move)) rfl rfl (by omega) (by omega);have hlive:=CY (p:=m2+1) (v:=.sl (m2+1) 0 2 (E.length+1) false) (e:=B5 (y.rev,y.move)) hHb (by omega) hA (H:=hset (AN o E h) m2 (some (.cells [AA y.rev,AA y.move]))) (AJ (λj z e=>by have:=hHb j z e;omega) (Be hHb hA));have hvv:AM 2 (some (m2+1)) (E++[B5 (y.rev,y.move)])=.sl (m2+1) 0 2 (E.length+1) false:=by simp[AM]
 simp[go_sem];exact⟨some (m2+1),⟨by omega,hpush⟩,hvv.symm,by simpa[Cs.app,SV.cells,B5]using hlive⟩;refine AH ?_;simp[go_sem,w1,IO,-Int.natCast_add];exact⟨i+1,by omega,o,⟨by omega,hm.1,hm.2⟩,⟨IO,IO⟩,AB⟩;have:i=x.dels.length:=by omega
 subst this;refine AH ?_;simp[go_sem];exact⟨o,⟨hnm,hA⟩,rfl,AB⟩;refine AH ?_;simp[go_sem];rw[hMl]at hm ⊢;exact GR ho hm.2 (λe he=>by obtain⟨p,_,rfl⟩:=qy.1 he;simp[B5,closed,closedL])
theorem WG (a b c d:Int):Bv Tryz.prog [.int .i64 a,.int .i64 b] [.int .i64 c,.int .i64 d] (Ba Tryz.prog 89)=some (a==c&&b==d):=by
 rw[CT,YM];have ti:(Jl Tryz.prog 3).isSome=true:=by simp[go_sem]
 have ts:Bh Tryz.prog 3=1:=by simp[go_sem]
 have ta:Fm Tryz.prog 3=some false:=by simp[go_sem]
 have one:∀x y:Int,DP Tryz.prog 3 (.int .i64 x) (.int .i64 y)=some (x==y):=λx y=>by simp[DP,ti,ts,ta]
 simp only[DA,qj,if_false,jG,List.getElem?_cons_succ,one];cases h1:(a==c)<;>cases h2:(b==d)<;>simp
def zD:AI:=⟨[],z0,[],FG⟩
theorem HT (n:Nat) (E:AI) (e:Int):closed n (.tup [E.enc,AA e])=true:=by
 simp[AI.enc,AF.flat,AK.flat,closed,closedL,AE.E.closedL,Er.E.closedL,Az.E.closedL,Am.E.closedL,Ax.E.closedL,A6.E.closedL,Fb.E.closedL,Au.E.closedL,Ft.E.closedL]
section
variable (u : AF → Bool) (w : Bool) (sc : Av)
end
def gR (rev nx:Int) (mid:Bool) (h:AF):AF:=if mid then Ji (λy=>y==rev) nx h else h
theorem Pa {r:Ax} (h:CL r=0):1<=r.id:=by
 unfold CL at h;split at h;cases h;omega
mutual
def AE.mh (g:AF->AF):AE->AE
 | .mk k c i t h f r=>.mk k c i t (g h) (AE.mhL g f) (Aa.mhL g r)
def AE.mhL (g:AF->AF):List AE->List AE
 | []=>[]
 | x::l=>AE.mh g x::AE.mhL g l
def Aa.mh (g:AF->AF):Aa->Aa
 | .mk h c=>.mk (g h) (Cell.mhL g c)
def Aa.mhL (g:AF->AF):List Aa->List Aa
 | []=>[]
 | x::l=>Aa.mh g x::Aa.mhL g l
def Cell.mh (g:AF->AF):Cell->Cell
 | .mk i h f=>.mk i (g h) (AE.mhL g f)
def Cell.mhL (g:AF->AF):List Cell->List Cell
 | []=>[]
 | x::l=>Cell.mh g x::Cell.mhL g l
end
section
variable (g : AF → AF)
end
theorem AE.nrm_eq (x:AE):AE.nrm x=.mk x.kind x.code x.id x.text x.head (Ac x.flow) ((x.rows.map Aa.nrm).filter λr=>!decide (r.cells.length=0)):=by cases x;rw[AE.nrm,Aa.nrmL_eq];rfl
theorem Aa.nrm_eq (x:Aa):Aa.nrm x=.mk x.head (x.cells.map Cell.nrm):=by cases x;rw[Aa.nrm,kX];rfl
theorem Cell.nrm_eq (x:Cell):Cell.nrm x=.mk x.id x.head (Ac x.flow):=by cases x;rw[Cell.nrm];rfl
def wf (hp:AF->Prop) (T:Int->Prop):Nat->List AE->Prop
 | 0,_=>False
 | N+1,l=>∀x∈l,hp x.head/\(x.kind≠6->x.flow=[])/\(x.kind≠7->x.rows=[])/\(x.kind=7->x.rows≠[])/\(x.kind=6->T x.id)/\wf hp T N x.flow/\∀r∈x.rows,hp r.head/\r.cells≠[]/\∀c∈r.cells,T c.id/\hp c.head/\wf hp T N c.flow
structure wfI (hp:AF->Prop) (T:Int->Prop) (N:Nat) (x:AE):Prop where
 head:hp x.head
 k6:x.kind≠6->x.flow=[]
 k7:x.kind≠7->x.rows=[]
 ne:x.kind=7->x.rows≠[]
 id:x.kind=6->T x.id
 flow:wf hp T N x.flow
 rows:∀r∈x.rows,hp r.head/\r.cells≠[]/\∀c∈r.cells,T c.id/\hp c.head/\wf hp T N c.flow
section
variable {hp hp' : AF → Prop} {T T' : Int → Prop}
theorem OG {N:Nat} {l:List AE}:wf hp T (N+1) l↔∀x∈l,wfI hp T N x:=
 ⟨λH x hx=>let⟨a,b,c,d,e,f,g⟩:=H x hx;⟨a,b,c,d,e,f,g⟩,λH x hx=>let⟨a,b,c,d,e,f,g⟩:=H x hx;⟨a,b,c,d,e,f,g⟩⟩
theorem W5 (N:Nat):wf hp T (N+1) []:=λx hx=>by cases hx
theorem UK {m2:List Int} {K:Nat}:∀{N:Nat} {l:List AE},RJ m2 N l->Da hp K N l->(∀i∈F6 N l,T i)->wf (λh=>hp h/\C6 m2 h) T N l
 | 0,_,_,h,_=>h.elim
 | N + 1, l, hk, hl, hT => OG.2 fun x hx => by
  obtain⟨⟨f6,f7,_⟩,k1,hf,hr7,hr⟩:=hk x hx;obtain⟨l1,l2,_,l4⟩:=hl.2.2 x hx;have hI:∀i∈Fe N x,T i:=λi hi=>hT i (by rw[G0];exact jo.2 ⟨x,hx,hi⟩);have nil:wf (λh=>hp h/\C6 m2 h) T N []:=by
   cases N with
   | zero=>exact l2.elim
   | succ N=>exact W5 N
  refine⟨⟨l1,k1⟩,f6,f7,hr7,λk=>hI _ (by simp[Fe,k]),?_,λr hr1=>?_⟩;by_cases k6:x.kind=6;exact UK hf l2 λi hi=>hI i (by simp[Fe,k6,hi]);rw[f6 k6];exact nil;by_cases k7:x.kind=7;refine⟨⟨(l4 r hr1).1,(hr r hr1).1.1⟩,(hr r hr1).1.2,λc hc=>?_⟩;have hc2:∀i,i=c.id\/i∈F6 N c.flow->T i:=λi hi=>hI i (by
   simp only[Fe,k7,show ¬(7:Int)=6 by decide,if_false,if_true];refine qL _ (jo.2 ⟨r,hr1,jo.2 ⟨c,hc,qk.2 hi⟩⟩))
  exact⟨hc2 _ (.inl rfl),⟨((l4 r hr1).2.2 c hc).1,((hr r hr1).2 c hc).1⟩,UK ((hr r hr1).2 c hc).2 ((l4 r hr1).2.2 c hc).2 λi hi=>hc2 i (.inr hi)⟩;rw[f7 k7]at hr1;cases hr1
end
end Go.Proofs.YtgakninlhfkkmaaGreat.Sh
