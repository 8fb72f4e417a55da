/- A part of the proof (part 13 of 15). -/
import Derived.Test.YtgakninlhfkkmaaGreatM12
import Derived.Test.YtgakninlhfkkmaaGreatRows
import Derived.WalkKit
import Derived.ProofKit
import Derived.OpenShut
import Derived.JoinedCond
import Derived.ReadAgain
import Derived.ChangeReads
namespace Go.Proofs.YtgakninlhfkkmaaGreat.Sh
open Proofs
set_option maxRecDepth 10000
theorem d188 (l:List BO) (hl0:1<=l.length) (hl:l.length<20) {H:Hp} {n o:Nat} {full:Bool} (hH:H o=some (.cells (CM l))):
 BM Tryz.prog 188 [.sl o 0 2 l.length full,AA l.length,.fn (.func 120) [] []] H n (λv h' n'=>v=.tup []/\h'=hset H o (some (.cells (CM (Ch l l.length))))/\n'=n):=by
 refine Dg Tryz.func188 rfl λho=>?_
 have hHb:=ho.lt
 have hon:=hHb o _ hH
 have hcl:∀L:List BO,closedL n (CM L)=true:=λL=>by
  induction L with
  | nil=>rfl
  | cons d L ih=>rw[Eb];simp[closedL,closed,ih]
 have hOld:E4 (hset H o (some (.cells (CM (Ch l l.length))))) n:=λj y e=>by
  simp only[hset]at e
  split at e
  . subst_vars;cases e;exact⟨hon,hcl _⟩
  . exact ho j y e
 refine Ab 0 [(0,.sl o 0 2 l.length full),(1,AA l.length),(2,.fn (.func 120) [] []),(6,AA 20)] H n ?_ (λm hm=>?_)
 . simp[go_sem,Y0]
 refine Ab 0 [(0,.sl o 0 2 l.length full),(1,AA l.length),(2,.fn (.func 120) [] []),(6,AA 20),(7,AA 0),(8,AA 20)] H n ?_ (λm hm=>?_)
 . simp[go_sem,Y0,hm]
 refine Bt 0 [(0,.sl o 0 2 l.length full),(1,AA l.length),(2,.fn (.func 120) [] []),(6,AA 20),(7,AA 0),(8,AA 20)] H n (AI ?_) (λm hm=>?_)
 . simp[go_sem]
   refine Am 0 (α:=Unit) (λ_=>[(0,.sl o 0 2 l.length full),(1,AA l.length),(2,.fn (.func 120) [] []),(6,AA 20),(7,AA 0),(8,AA 20)]) (λ_=>H) (λ_ m=>n<=m) (λ_=>0) () hm ?_ AB ?_
   . simp[Aj,Y0]
   rintro _ m hm
   have:¬((20:Int)<=l.length):=by omega
   simp[go_sem,Y0,hm,this]
 refine Bt 0 [(1,AA l.length),(6,AA 20)] (hset H o (some (.cells (CM (Ch l l.length))))) n (AI ?_) (λm hm=>?_)
 . simp[go_sem]
   refine Ys (d254 l hl0 (by omega) hH) ?_
   rintro v H' n' ⟨rfl,rfl,rfl⟩
   simp[go_sem,Y0,hm]
 refine AI ?_
 simp[go_sem]
 refine Am 0 (α:=Unit) (λ_=>[(1,AA l.length),(6,AA 20)]) (λ_=>hset H o (some (.cells (CM (Ch l l.length))))) (λ_ m=>n<=m) (λ_=>0) () hm ?_ AB ?_
 . simp[Aj,Y0]
 rintro _ m hm
 have:¬((20:Int)<l.length):=by omega
 simp[go_sem,this]
 exact CT hOld (by simp[closed,closedL]) AB
theorem d119 (l:List BO) (hl0:1<=l.length) (hl:l.length<20) {H:Hp} {n o:Nat} {full:Bool} (hH:H o=some (.cells (CM l))):
 BM Tryz.prog 119 [.sl o 0 2 l.length full,.fn (.func 120) [] []] H n (λv h' n'=>v=.tup []/\h'=hset H o (some (.cells (CM (Ch l l.length))))/\n'=n):=by
 refine Dg Tryz.func119 rfl λho=>?_
 have hHb:=ho.lt
 have hon:=hHb o _ hH
 have hcl:∀L:List BO,closedL n (CM L)=true:=λL=>by
  induction L with
  | nil=>rfl
  | cons d L ih=>rw[Eb];simp[closedL,closed,ih]
 have hOld:E4 (hset H o (some (.cells (CM (Ch l l.length))))) n:=λj y e=>by
  simp only[hset]at e
  split at e
  . subst_vars;cases e;exact⟨hon,hcl _⟩
  . exact ho j y e
 refine AI ?_
 simp[go_sem]
 refine Ys (d188 l hl0 hl hH) ?_
 rintro v H' n' ⟨rfl,rfl,rfl⟩
 simp[go_sem]
 exact CT hOld (by simp[closed,closedL]) AB
def Ti:Tr:=.pure 8 (.pure 9 (.one 7 (.one 10 (.one 11 (.one 12 (.one 13 .nil))))))
def trH:Tr:=.pure 0 (.pure 1 (.pure 4 (.pure 5 (.two 2 6 (.two 3 6 (.one 6 Ti) (.one 3 Ti)) (.one 2 (.one 3 Ti))))))
abbrev RD:BT:=.cells [.imm 0 [] true,AA 0,AA 0,.imm 0 [] true,.imm 0 [] true]
set_option maxHeartbeats 4000000 in
theorem a118 (x:AF) (hs:x.sized) {h:Hp} {n:Nat}:BM Tryz.prog 118 [x.enc] h n (λv h' n'=>∃v1 o1 v2 o2,v=.agg [Af x.props,AA x.ins,AA x.move,v1,v2]/\Gj 2 (x.dels.map BO.enc) v1 o1 n n'/\Gj 4 (x.layers.map Ax.enc) v2 o2 n n'/\
 (∀j,o1=some j->o2≠some j)/\n<=n'/\∀j y,C7 (x.layers.map Ax.enc) o2 (C7 (x.dels.map BO.enc) o1 h) j=some y->h' j=some y):=by
 refine Dg Tryz.func118 rfl λho=>?_
 have hHb:=ho.lt
 have q1:n≠n+1:=by omega
 refine BV 0 [(1,.ptr n 0),(2,.ptr (n+1) 0)] (hset (hset h n (some (.cells x.flat))) (n+1) (some RD)) (λm=>n+2=m) ?_ (λm hm=>?_)
 . simp[go_sem,AF.enc,AF.flat,Y0]
 subst hm
 refine BV 0 [(1,.ptr n 0),(2,.ptr (n+1) 0)] (hset (hset h n (some (.cells x.flat))) (n+1) (some RD)) (λm=>n+2<=m) ?_ (λm hm=>?_)
 . simp[go_sem,AF.flat,AD _ _ q1,AC]
   refine(UQ _ hs.props).use ?_
   simp[go_sem,AD _ _ q1,AC,Y0]
   intro j y;simp only[hset];grind
 refine AV 0 (α:=SV×Option Nat×SV×Option Nat) (λ_=>[(1,.ptr n 0),(2,.ptr (n+1) 0)])
  (λa=>C7 (x.layers.map Ax.enc) a.2.2.2 (C7 (x.dels.map BO.enc) a.2.1 (hset (hset h n (some (.cells [Af x.props,AA x.ins,AA x.move,a.1,a.2.2.1]))) (n+1) (some RD))))
  (λa m'=>Gj 2 (x.dels.map BO.enc) a.1 a.2.1 (n+2) m'/\Gj 4 (x.layers.map Ax.enc) a.2.2.1 a.2.2.2 (n+2) m'/\(∀j,a.2.1=some j->a.2.2.2≠some j)/\n+2<=m') (B7 trH rfl (by kernel_rfl) (by kernel_rfl) ?_) ?_
 . have hG1:hset (hset h n (some (.cells x.flat))) (n+1) (some RD) n=some (.cells [Af x.props,AA x.ins,AA x.move,Aa x.dels,AQ x.layers]):=by rw[AD _ _ q1,AC];rfl
   simp[go_sem,trH,Ti,hG1]
   iterate 8 (all_goals (try first
    | (refine LC.use (l186 _ hs.dels) ?_;intro v1 H1 m1 W1;have lt1:=W1.1;obtain⟨o1,a1,b1,c1⟩:=W1.own;obtain⟨s1,t1⟩:=a1.st;simp only[SV.storable,SV.cells]at s1 t1;(first|have hq:=b1 n _ hq2|have hq:=b1 n _ hG1);simp[go_sem,hq])
    | (refine LC.use (l187 _ hs.layers) ?_;intro v2 H2 m2 W2;have lt2:=W2.1;obtain⟨o2,a2,b2,c2⟩:=W2.own;obtain⟨s2,t2⟩:=a2.st;simp only[SV.storable,SV.cells]at s2 t2;(first|have hq2:=b2 n _ hq|have hq2:=b2 n _ hG1);simp[go_sem,hq2,s2,t2])
    | refine⟨?_,?_⟩))
   all_goals
    have L1:=a1.lt
    have L2:=a2.lt
    simp[go_sem,s1,t1,AC,AY]
    refine⟨v1,o1,v2,o2,⟨a1.mono (by omega) (by omega),a2.mono (by omega) (by omega),λj e e'=>?_,?_⟩,λj y=>?_⟩
    . have:=L1 _ e;have:=L2 _ e';omega
    . omega
    . intro hy
      have r1:=b1 j
      have r2:=b2 j
      have q3:=c1 j
      have q4:=c2 j
      have r3:=L1 j
      have r4:=L2 j
      have q6:=hHb j y
      clear b1 b2 c1 c2 L1 L2 W1 W2 a1 a2
      simp only[hset]at *
      cases o1<;>cases o2<;>simp only[C7,hset]at hy<;>grind
 rintro⟨v1,o1,v2,o2⟩ m ⟨a1,a2,h12,hm⟩
 dsimp only at a1 a2 h12 hm ⊢
 have L1:=a1.lt
 have L2:=a2.lt
 obtain⟨s1,t1⟩:=a1.st
 obtain⟨s2,t2⟩:=a2.st
 simp only[SV.storable,SV.cells]at s1 t1 s2 t2
 generalize hB:C7 (x.layers.map Ax.enc) o2 (C7 (x.dels.map BO.enc) o1 (hset (hset h n (some (.cells [Af x.props,AA x.ins,AA x.move,v1,v2]))) (n+1) (some RD)))=B
 have B0:B n=some (.cells [Af x.props,AA x.ins,AA x.move,v1,v2]):=by
  rw[<-hB]
  have r3:=L1 n
  have r4:=L2 n
  cases o1<;>cases o2<;>simp only[C7,hset]<;>grind
 have B1:B (n+1)=some RD:=by
  rw[<-hB]
  have r3:=L1 (n+1)
  have r4:=L2 (n+1)
  cases o1<;>cases o2<;>simp only[C7,hset]<;>grind
 have B2:∀j y,C7 (x.layers.map Ax.enc) o2 (C7 (x.dels.map BO.enc) o1 h) j=some y->hset B (n+1) (some (.cells [Af x.props,AA x.ins,AA x.move,v1,v2])) j=some y:=λj y=>by
  rw[<-hB]
  have r3:=L1 j
  have r4:=L2 j
  have q6:=hHb j y
  cases o1<;>cases o2<;>simp only[C7,hset]<;>grind
 refine AI ?_
 simp[go_sem,B0,B1,AC]
 exact .inl ⟨v1,o1,v2,rfl,a1.mono (by omega) (Y1 _),o2,a2.mono (by omega) (Y1 _),h12,by omega,B2⟩
theorem Kv {z k i:Nat} {es:List SV} {e e' c:SV} (hs:∀e∈es,e.storable=true/\e.cells.length=z) (h:es[i]? = some e) (hk:k<z) (he:e'.cells=e.cells.take k++c::e.cells.drop (k+1)):
 (es.flatMap SV.cells).take (i*z+k)++c::(es.flatMap SV.cells).drop (i*z+k+1)=(es.set i e').flatMap SV.cells:=by
 have hi:=(Y9.1 h).1
 have hee:=(Y9.1 h).2
 have hez:=(hs e (YQ h)).2
 have h1:es=es.take i++e::es.drop (i+1):=by rw[<-hee,List.getElem_cons_drop,Z4]
 have hl:((es.take i).flatMap SV.cells).length=i*z:=by
  rw[BE (z:=z) λe he=>hs e (Yw he),X8,Zz (by omega)]
 rw[Xe,if_pos hi]
 have h2:es.flatMap SV.cells=(es.take i).flatMap SV.cells++(e.cells++(es.drop (i+1)).flatMap SV.cells):=by
  conv=>lhs;rw[h1]
  simp
 rw[h2,Z7,YC,he]
 generalize(es.take i).flatMap SV.cells=A at hl ⊢
 generalize(es.drop (i+1)).flatMap SV.cells=B
 rw[<-hl,List.take_append,List.drop_append,Yl (by omega:A.length<=A.length+k),ZC (by omega:A.length<=A.length+k+1)]
 rw[show A.length+k-A.length=k by omega,show A.length+k+1-A.length=k+1 by omega,List.take_append_of_le_length (by omega),List.drop_append_of_le_length (by omega)]
 simp
def HK (p:Int->Bool) (id y:Int):Int:=if p y then id else y
def Ba (p:Int->Bool) (id:Int) (d:BO):BO:={ d with rev:=HK p id d.rev }
def BL (p:Int->Bool) (id:Int) (d:Ax):Ax:={ d with rev:=HK p id d.rev }
def Fd (p:Int->Bool) (id y:Int):Int:=if y≠0/\p y=true then id else y
def Ht (p:Int->Bool) (id:Int) (h:AF):AF:={ h with ins:=Fd p id h.ins,dels:=Ch (h.dels.map (Ba p id)) h.dels.length,layers:=h.layers.map (BL p id) }
def DT {α:Type} (f:α->α) (l:List α) (i:Nat):List α:=(l.take i).map f++l.drop i
theorem In {α:Type} (f:α->α) (l:List α):DT f l 0=l:=by simp[DT]
theorem Jk {α:Type} (f:α->α) (l:List α):DT f l l.length=l.map f:=by simp[DT]
theorem Jm {α:Type} (f:α->α) (l:List α) (i:Nat) (hi:i<=l.length):(DT f l i).length=l.length:=by simp[DT];omega
theorem Jl {α:Type} (f:α->α) (l:List α) (i:Nat) (hi:i<l.length):(DT f l i)[i]? = some l[i]:=by
 simp only[DT]
 rw[YR (by simp;omega)]
 simp[Zz (ZG hi),hi]
theorem Im {α:Type} (f:α->α) (l:List α) (i:Nat) (hi:i<l.length):(DT f l i).set i (f l[i])=DT f l (i+1):=by
 simp only[DT]
 rw[ZP _ _ (by simp;omega)]
 have:((l.take i).map f).length=i:=by simp;omega
 rw[this,Nat.sub_self,YA hi,List.set_cons_zero,Y2 hi,Y3,Yf,YF,Ye]
 rfl
theorem c254v (v0:SV):PC 254 [v0,AA 0,AA 0,.fn (.func 120) [] []] (.tup []):=by
 intro h n
 refine gq Tryz.func254 rfl λho=>?_
 simp[go_sem]
 refine Am 1 (α:=Unit) (λk=>[(2,AA 0),(8,AA 1)]) (λ_=>h) (λk m=>n<=m) (λk=>0) () ?_ ?_ AB ?_
 . omega
 . simp[Aj,show IntKind.i64.wrap 1=1 from by decide,Y0]
 rintro _ m hm
 simp[go_sem]
 exact Au ho AB rfl rfl
theorem c188v (v0:SV):PC 188 [v0,AA 0,.fn (.func 120) [] []] (.tup []):=by
 intro h n
 refine gq Tryz.func188 rfl λho=>?_
 simp[go_sem]
 refine Am 1 (α:=Unit) (λk=>[(0,v0),(1,AA 0),(2,.fn (.func 120) [] []),(6,AA 20),(7,AA 0),(8,AA 20)]) (λ_=>h) (λk m=>n<=m) (λk=>0) () ?_ ?_ AB ?_
 . omega
 . simp[Aj]
 rintro _ m hm
 simp[go_sem]
 refine Yj (c254v v0) ?_
 simp[go_sem]
 refine Am 1 (α:=Unit) (λk=>[(1,AA 0),(6,AA 20)]) (λ_=>h) (λk m=>n<=m) (λk=>0) () ?_ ?_ AB ?_
 . omega
 . simp[Aj]
 rintro _ m hm
 simp[go_sem]
 exact Au ho AB rfl rfl
theorem c119v (o:Nat) (full:Bool):PC 119 [.sl o 0 2 0 full,.fn (.func 120) [] []] (.tup []):=by
 intro h n
 refine gq Tryz.func119 rfl λho=>?_
 simp[go_sem]
 refine Yj (c188v _) ?_
 simp[go_sem]
 exact Au ho AB rfl rfl
def IP (l:List Ax):List SV:=(l.map Ax.enc).flatMap SV.cells
def RK (x:AF) (h:Hp) (n:Nat) (v1:SV) (o1:Option Nat) (v2:SV) (o2:Option Nat) (y:Int) (E:List BO) (F:List Ax):Hp:=
 C7 (F.map Ax.enc) o2 (C7 (E.map BO.enc) o1 (hset (hset h n (some (.cells [Af x.props,AA y,AA x.move,v1,v2]))) (n+1) (some RD)))
structure RnW (x:AF) (h:Hp) (n:Nat) (v1:SV) (o1:Option Nat) (v2:SV) (o2:Option Nat) (W:Int->List BO->List Ax->Hp):Prop where
 w0:∀y E F,W y E F n=some (.cells [Af x.props,AA y,AA x.move,v1,v2])
 w1:∀y E F,W y E F (n+1)=some RD
 wd:∀j,o1=some j->∀y E F,W y E F j=some (.cells (CM E))
 wl:∀j,o2=some j->∀y E F,W y E F j=some (.cells (IP F))
 sy:∀y z E F,hset (W y E F) n (some (.cells [Af x.props,AA z,AA x.move,v1,v2]))=W z E F
 sd:∀j,o1=some j->∀y E F E',hset (W y E F) j (some (.cells (CM E')))=W y E' F
 sl:∀j,o2=some j->∀y E F F',hset (W y E F) j (some (.cells (IP F')))=W y E F'
 old:∀y E F j z,h j=some z->W y E F j=some z
theorem rnW {x:AF} {h:Hp} {n m:Nat} {v1 v2:SV} {o1 o2:Option Nat} {es1 es2:List SV} (hb:∀j y,h j=some y->j<n) (a1:Gj 2 es1 v1 o1 (n+2) m) (a2:Gj 4 es2 v2 o2 (n+2) m) (h12:∀j,o1=some j->o2≠some j):RnW x h n v1 o1 v2 o2 (RK x h n v1 o1 v2 o2):=by
 have L1:=a1.lt
 have L2:=a2.lt
 clear a1 a2
 constructor
 . intro y E F
   have r3:=L1 n
   have r4:=L2 n
   cases o1<;>cases o2<;>simp only[RK,C7,hset]<;>grind
 . intro y E F
   have r3:=L1 (n+1)
   have r4:=L2 (n+1)
   cases o1<;>cases o2<;>simp only[RK,C7,hset]<;>grind
 . intro j e y E F
   subst e
   have r4:=h12 j rfl
   cases o2<;>simp only[RK,C7,hset,CM]<;>grind
 . intro j e y E F
   subst e
   cases o1<;>simp only[RK,C7,hset,IP]<;>grind
 . intro y z E F
   funext j
   have r3:=L1 n
   have r4:=L2 n
   cases o1<;>cases o2<;>simp only[RK,C7,hset]<;>grind
 . intro j e y E F E'
   subst e
   have r4:=h12 j rfl
   funext i
   cases o2<;>simp only[RK,C7,hset,CM]<;>grind
 . intro j e y E F F'
   subst e
   funext i
   cases o1<;>simp only[RK,C7,hset,IP]<;>grind
 . intro y E F j z e
   have r3:=L1 j
   have r4:=L2 j
   have:=hb j z e
   cases o1<;>cases o2<;>simp only[RK,C7,hset]<;>grind
section
variable {g : FuncId} {a b : List SV} {p : Int → Bool}
set_option maxHeartbeats 4000000 in
theorem c47g (x:AF) (hs:x.sized) (hd:x.dels.length<20) (hg:∀y,PC g (a++[AA y]++b) (.bool (p y))) (id:Int):PC 47 [x.enc,AA id,.fn (.func g) a b] (Ht p id x).enc:=by
 intro h n
 refine Dg Tryz.func47 rfl λho=>?_
 have hHb:=ho.lt
 have q1:n≠n+1:=by omega
 refine BV 0 [(1,AA id),(2,.fn (.func g) a b),(3,.ptr n 0),(6,.ptr (n+1) 0)] (hset (hset h n (some (.cells x.flat))) (n+1) (some RD)) (λm=>n+2=m) ?_ (λm hm=>?_)
 . simp[go_sem,AF.enc,AF.flat,Y0]
 subst hm
 refine BG 0 (α:=SV×Option Nat×SV×Option Nat) (λq=>[(1,AA id),(2,.fn (.func g) a b),(3,.ptr n 0),(6,.ptr (n+1) 0)]) (λq=>RK x h n q.1 q.2.1 q.2.2.1 q.2.2.2 x.ins x.dels x.layers)
  (λq m'=>Gj 2 (x.dels.map BO.enc) q.1 q.2.1 (n+2) m'/\Gj 4 (x.layers.map Ax.enc) q.2.2.1 q.2.2.2 (n+2) m'/\(∀j,q.2.1=some j->q.2.2.2≠some j)/\n+2<=m') ?_ ?_
 . simp[go_sem,AF.flat,AD _ _ q1,AC]
   refine Ys (a118 x hs) ?_
   rintro v H' n' ⟨v1,o1,v2,o2,rfl,a1,a2,h12,hn',hH⟩
   obtain⟨s1,t1⟩:=a1.st
   obtain⟨s2,t2⟩:=a2.st
   have L1:=a1.lt
   have L2:=a2.lt
   have hn:H' n=some (.cells [Af x.props,AA x.ins,AA x.move,Aa x.dels,AQ x.layers]):=by
    refine hH n _ ?_
    have r3:=L1 n
    have r4:=L2 n
    cases o1<;>cases o2<;>simp only[C7,hset]<;>grind
   simp[go_sem,hn]
   refine⟨v1,o1,v2,o2,⟨a1,a2,h12,hn'⟩,λj y e=>?_⟩
   have r1:=hH j y
   have r3:=L1 j
   have r4:=L2 j
   have q6:=hHb j y
   clear hH L1 L2 a1 a2 hn
   revert e
   cases o1<;>cases o2<;>simp only[RK,C7,hset]at r1 ⊢ <;> grind
 rintro⟨v1,o1,v2,o2⟩ m ⟨a1,a2,h12,hm⟩
 dsimp only at a1 a2 h12 hm ⊢
 have R:=rnW (x:=x) hHb a1 a2 h12
 generalize RK x h n v1 o1 v2 o2=W at R ⊢
 refine Ab 0 [(1,AA id),(2,.fn (.func g) a b),(3,.ptr n 0),(6,.ptr (n+1) 0),(7,.ptr n 1)] (W x.ins x.dels x.layers) m ?_ (λm2 hm2=>?_)
 . simp[go_sem,Y0]
 have hid:∀y,PC g (a++AA y::b) (.bool (p y)):=λy=>by simpa using hg y
 refine Bt 0 [(1,AA id),(2,.fn (.func g) a b),(3,.ptr n 0),(6,.ptr (n+1) 0),(7,.ptr n 1)] (W (Fd p id x.ins) x.dels x.layers) m ?_ (λm3 hm3=>?_)
 . refine AI ?_
   by_cases i0:x.ins=0
   . have hr:Fd p id x.ins=x.ins:=by simp[Fd,i0]
     rw[hr]
     simp[go_sem,R.w0,i0,Y0,hm2]
   . have i1:(x.ins !=0)=true:=by simpa using i0
     simp[go_sem,R.w0,i1]
     refine Yj (hid x.ins) ?_
     cases hp:p x.ins with
     | true=>
      have hr:Fd p id x.ins=id:=by simp[Fd,i0,hp]
      rw[hr]
      simp[go_sem,R.w0,R.sy,Y0,hm2]
     | false=>
      have hr:Fd p id x.ins=x.ins:=by simp[Fd,hp]
      rw[hr]
      simp[go_sem,Y0,hm2]
 generalize hy:Fd p id x.ins=y
 refine Bt 0 [(1,AA id),(2,.fn (.func g) a b),(3,.ptr n 0),(6,.ptr (n+1) 0),(7,.ptr n 1)] (W y (x.dels.map (Ba p id)) x.layers) m ?_ (λm4 hm4=>?_)
 . rcases a1 with⟨_,he,z',f,rfl⟩|⟨j,f,rfl,hj1,hj2,rfl⟩
   . have hd0:x.dels=[]:=by simpa using he
     refine AI ?_
     simp[go_sem,R.w0,hd0]
     refine Am 0 (α:=Unit) (λ_=>[(1,AA id),(2,.fn (.func g) a b),(3,.ptr n 0),(6,.ptr (n+1) 0),(7,.ptr n 1),(34,AA 0),(35,AA 0)]) (λ_=>W y [] x.layers) (λ_ m'=>m<=m') (λ_=>0) () hm3 ?_ AB ?_
     . simp[Aj,Y0]
     rintro _ m5 hm5
     simp[go_sem,Y0,hm5]
   . refine Ab 0 [(1,AA id),(2,.fn (.func g) a b),(3,.ptr n 0),(6,.ptr (n+1) 0),(7,.ptr n 1),(34,AA x.dels.length),(35,AA 0)] (W y x.dels x.layers) m ?_ (λm5 hm5=>?_)
     . simp[go_sem,R.w0,Y0,hm3]
     refine AR (BP 0 (α:=Nat) (λi=>[(1,AA id),(2,.fn (.func g) a b),(3,.ptr n 0),(6,.ptr (n+1) 0),(7,.ptr n 1),(34,AA x.dels.length),(35,AA i)]) (λi=>W y (DT (Ba p id) x.dels i) x.layers) (λi m'=>i<=x.dels.length/\m<=m') (λi=>x.dels.length-i) 0 ⟨Y4 _,hm5⟩ ?_ ?_ ?_)
     . simp[Aj,Y0]
     . rw[In];exact AB
     rintro i m6 ⟨hi,hm6⟩
     by_cases hlt:i<x.dels.length
     . have w1:=wS i (by omega)
       have hnx:=Im (Ba p id) x.dels i hlt
       have hEl:=Jm (Ba p id) x.dels i (ZG hlt)
       have hget:=Jl (Ba p id) x.dels i hlt
       obtain⟨d,hd'⟩:∃d,x.dels[i]=d:=⟨_,rfl⟩
       rw[hd']at hnx hget
       generalize hE:DT (Ba p id) x.dels i=E at hnx hEl hget
       have hget2:(E.map BO.enc)[i]? = some d.enc:=by rw[Yz,hget];rfl
       obtain⟨g1,g2⟩:=I1 (BO.E.size E) hget2 (k:=0) (c:=AA d.rev) rfl
       have g3:p d.rev=true->((E.map BO.enc).flatMap SV.cells).take (i*2+0)++AA id::((E.map BO.enc).flatMap SV.cells).drop (i*2+0+1)=CM (DT (Ba p id) x.dels (i+1)):=λhp=>by
        rw[Kv (e':=(Ba p id d).enc) (BO.E.size E) hget2 (by omega) (by simp[Ba,HK,hp,BO.enc,SV.cells]),<-hnx,CM,List.map_set]
       have g4:p d.rev=false->DT (Ba p id) x.dels (i+1)=E:=λhp=>by
        rw[<-hnx,show Ba p id d=d by simp[Ba,HK,hp]]
        obtain⟨k1,k2⟩:=Y9.1 hget
        rw[<-k2];exact List.set_getElem_self k1
       obtain⟨E2,hE2⟩:∃E2,DT (Ba p id) x.dels (i+1)=E2:=⟨_,rfl⟩
       rw[hE2]at g3 g4
       have hWE:∀y F,W y E F j=some (.cells (CM E)):=λy F=>R.wd j rfl y E F
       rw[show(E.map BO.enc).flatMap SV.cells=CM E from rfl]at g1 g2 g3
       simp only[Zj]at g1 g2 g3
       refine Ab 0 [(1,AA id),(2,.fn (.func g) a b),(3,.ptr n 0),(6,.ptr (n+1) 0),(7,.ptr n 1),(34,AA x.dels.length),(35,AA i),(36,.bool true)] (W y E x.layers) m ?_ (λm7 hm7=>?_)
       . simp[go_sem,Y0,hlt,hm6]
       refine Ab 0 [(1,AA id),(2,.fn (.func g) a b),(3,.ptr n 0),(6,.ptr (n+1) 0),(7,.ptr n 1),(34,AA x.dels.length),(35,AA i)] (W y E x.layers) m ?_ (λm8 hm8=>?_)
       . simp[go_sem,Y0,hm7]
       refine AV 0 (α:=Unit) (λ_=>[(1,AA id),(2,.fn (.func g) a b),(3,.ptr n 0),(6,.ptr (n+1) 0),(7,.ptr n 1),(34,AA x.dels.length),(35,AA i)]) (λ_=>W y E2 x.layers) (λ_ m'=>m<=m') (AR ?_) (λ_ m9 hm9=>?_)
       . refine Ab 0 [(1,AA id),(2,.fn (.func g) a b),(3,.ptr n 0),(6,.ptr (n+1) 0),(7,.ptr n 1),(34,AA x.dels.length),(35,AA i),(8,AA i)] (W y E x.layers) m ?_ (λm9 hm9=>?_)
         . simp[go_sem,Y0,hm8]
         refine Ab 0 [(1,AA id),(2,.fn (.func g) a b),(3,.ptr n 0),(6,.ptr (n+1) 0),(7,.ptr n 1),(34,AA x.dels.length),(35,AA i),(8,AA i),(47,.bool (p d.rev))] (W y E x.layers) m ?_ (λm10 hm10=>?_)
         . simp[go_sem,R.w0,hWE,hlt,g1,g2]
           refine Yj (hid d.rev) ?_
           simp[go_sem,Y0,hm9]
         cases hp:p d.rev with
         | true=>
          refine Ag (b:=true) (by simp[go_sem]) (AI ?_)
          have g3:=g3 hp
          simp[go_sem,R.w0,hWE,hlt,g1,g3,R.sd j rfl,Y0,hm10]
         | false=>
          refine Ag (b:=false) (by simp[go_sem]) (AI ?_)
          rw[g4 hp]
          simp[go_sem,Y0,hm10]
       . refine AI ?_
         simp[go_sem,w1,Y0,-Int.natCast_add]
         exact⟨i+1,by omega,⟨by omega,hm9⟩,Y0,by rw[hE2];exact AB⟩
     . have:i=x.dels.length:=by omega
       subst this
       rw[Jk]
       refine AI ?_
       simp[go_sem,Y0]
       exact hm6
 have hdl:(x.dels.map (Ba p id)).length=x.dels.length:=Y5 _
 refine Bt 0 [(1,AA id),(2,.fn (.func g) a b),(3,.ptr n 0),(6,.ptr (n+1) 0),(7,.ptr n 1)] (W y (Ch (x.dels.map (Ba p id)) x.dels.length) x.layers) m ?_ (λm5 hm5=>?_)
 . rcases a1 with⟨_,he,z',f,rfl⟩|⟨j,f,rfl,hj1,hj2,rfl⟩
   . have hd0:x.dels=[]:=by simpa using he
     refine AI ?_
     simp[go_sem,R.w0,hd0]
     refine Yj (by exact c119.wk (us:=[.imm z' [] f,.fn (.func 120) [] []]) 1 ⟨A9 (by simp),Y0,trivial⟩) ?_
     simp[go_sem,Y0,hm4,Ch]
   . refine AI ?_
     simp[go_sem,R.w0]
     by_cases hd0:x.dels=[]
     . simp only[hd0,Zh]
       refine Yj (c119v j f) ?_
       simp[go_sem,Y0,hm4,Ch]
     have hl1:1<=(x.dels.map (Ba p id)).length:=by rw[hdl];exact Yi.2 hd0
     have c:=d119 (x.dels.map (Ba p id)) hl1 (by omega) (full:=f) (n:=m4) (R.wd j rfl y (x.dels.map (Ba p id)) x.layers)
     rw[hdl,R.sd j rfl]at c
     refine Ys c ?_
     rintro v H' n' ⟨rfl,rfl,rfl⟩
     simp[go_sem,Y0,hm4]
 have hll:=hs.layers
 have hDl:(Ch (x.dels.map (Ba p id)) x.dels.length).length=x.dels.length:=by rw[G1,hdl]
 obtain⟨D,hD⟩:∃D,Ch (x.dels.map (Ba p id)) x.dels.length=D:=⟨_,rfl⟩
 rw[hD]at hDl ⊢
 refine Bt 0 [(1,AA id),(2,.fn (.func g) a b),(3,.ptr n 0),(6,.ptr (n+1) 0),(7,.ptr n 1)] (W y D (x.layers.map (BL p id))) m ?_ (λm4 hm4=>?_)
 . rcases a2 with⟨_,he,z',f,rfl⟩|⟨j,f,rfl,hj1,hj2,rfl⟩
   . have hd0:x.layers=[]:=by simpa using he
     refine AI ?_
     simp[go_sem,R.w0,hd0]
     refine Am 0 (α:=Unit) (λ_=>[(1,AA id),(2,.fn (.func g) a b),(3,.ptr n 0),(6,.ptr (n+1) 0),(7,.ptr n 1),(66,AA 0),(67,AA 0)]) (λ_=>W y D []) (λ_ m'=>m<=m') (λ_=>0) () hm5 ?_ AB ?_
     . simp[Aj,Y0]
     rintro _ m5 hm15
     simp[go_sem,Y0,hm15]
   . refine Ab 0 [(1,AA id),(2,.fn (.func g) a b),(3,.ptr n 0),(6,.ptr (n+1) 0),(7,.ptr n 1),(66,AA x.layers.length),(67,AA 0)] (W y D x.layers) m ?_ (λm5 hm15=>?_)
     . simp[go_sem,R.w0,Y0,hm5]
     refine AR (BP 0 (α:=Nat) (λi=>[(1,AA id),(2,.fn (.func g) a b),(3,.ptr n 0),(6,.ptr (n+1) 0),(7,.ptr n 1),(66,AA x.layers.length),(67,AA i)]) (λi=>W y D (DT (BL p id) x.layers i)) (λi m'=>i<=x.layers.length/\m<=m') (λi=>x.layers.length-i) 0 ⟨Y4 _,hm15⟩ ?_ ?_ ?_)
     . simp[Aj,Y0]
     . rw[In];exact AB
     rintro i m6 ⟨hi,hm6⟩
     by_cases hlt:i<x.layers.length
     . have w1:=wS i (by omega)
       have hnx:=Im (BL p id) x.layers i hlt
       have hEl:=Jm (BL p id) x.layers i (ZG hlt)
       have hget:=Jl (BL p id) x.layers i hlt
       obtain⟨d,hd'⟩:∃d,x.layers[i]=d:=⟨_,rfl⟩
       rw[hd']at hnx hget
       generalize hE:DT (BL p id) x.layers i=E at hnx hEl hget
       have hget2:(E.map Ax.enc)[i]? = some d.enc:=by rw[Yz,hget];rfl
       obtain⟨g1,g2⟩:=I1 (Ax.E.size E) hget2 (k:=0) (c:=AA d.rev) rfl
       have g3:p d.rev=true->((E.map Ax.enc).flatMap SV.cells).take (i*4+0)++AA id::((E.map Ax.enc).flatMap SV.cells).drop (i*4+0+1)=IP (DT (BL p id) x.layers (i+1)):=λhp=>by
        rw[Kv (e':=(BL p id d).enc) (Ax.E.size E) hget2 (by omega) (by simp[BL,HK,hp,Ax.enc,SV.cells]),<-hnx,IP,List.map_set]
       have g4:p d.rev=false->DT (BL p id) x.layers (i+1)=E:=λhp=>by
        rw[<-hnx,show BL p id d=d by simp[BL,HK,hp]]
        obtain⟨k1,k2⟩:=Y9.1 hget
        rw[<-k2];exact List.set_getElem_self k1
       obtain⟨E2,hE2⟩:∃E2,DT (BL p id) x.layers (i+1)=E2:=⟨_,rfl⟩
       rw[hE2]at g3 g4
       rw[show(E.map Ax.enc).flatMap SV.cells=IP E from rfl]at g1 g2 g3
       have hWE:∀y G,W y G E j=some (.cells (IP E)):=λy G=>R.wl j rfl y G E
       simp only[Zj]at g1 g2 g3
       refine Ab 0 [(1,AA id),(2,.fn (.func g) a b),(3,.ptr n 0),(6,.ptr (n+1) 0),(7,.ptr n 1),(66,AA x.layers.length),(67,AA i),(68,.bool true)] (W y D E) m ?_ (λm7 hm7=>?_)
       . simp[go_sem,Y0,hlt,hm6]
       refine Ab 0 [(1,AA id),(2,.fn (.func g) a b),(3,.ptr n 0),(6,.ptr (n+1) 0),(7,.ptr n 1),(66,AA x.layers.length),(67,AA i)] (W y D E) m ?_ (λm8 hm8=>?_)
       . simp[go_sem,Y0,hm7]
       refine AV 0 (α:=Unit) (λ_=>[(1,AA id),(2,.fn (.func g) a b),(3,.ptr n 0),(6,.ptr (n+1) 0),(7,.ptr n 1),(66,AA x.layers.length),(67,AA i)]) (λ_=>W y D E2) (λ_ m'=>m<=m') (AR ?_) (λ_ m9 hm9=>?_)
       . refine Ab 0 [(1,AA id),(2,.fn (.func g) a b),(3,.ptr n 0),(6,.ptr (n+1) 0),(7,.ptr n 1),(66,AA x.layers.length),(67,AA i),(9,AA i)] (W y D E) m ?_ (λm9 hm9=>?_)
         . simp[go_sem,Y0,hm8]
         refine Ab 0 [(1,AA id),(2,.fn (.func g) a b),(3,.ptr n 0),(6,.ptr (n+1) 0),(7,.ptr n 1),(66,AA x.layers.length),(67,AA i),(9,AA i),(79,.bool (p d.rev))] (W y D E) m ?_ (λm10 hm10=>?_)
         . simp[go_sem,R.w0,hWE,hlt,g1,g2]
           refine Yj (hid d.rev) ?_
           simp[go_sem,Y0,hm9]
         cases hp:p d.rev with
         | true=>
          refine Ag (b:=true) (by simp[go_sem]) (AI ?_)
          have g3:=g3 hp
          simp[go_sem,R.w0,hWE,hlt,g1,g3,R.sl j rfl,Y0,hm10]
         | false=>
          refine Ag (b:=false) (by simp[go_sem]) (AI ?_)
          rw[g4 hp]
          simp[go_sem,Y0,hm10]
       . refine AI ?_
         simp[go_sem,w1,Y0,-Int.natCast_add]
         exact⟨i+1,by omega,⟨by omega,hm9⟩,Y0,by rw[hE2];exact AB⟩
     . have:i=x.layers.length:=by omega
       subst this
       rw[Jk]
       refine AI ?_
       simp[go_sem,Y0]
       exact hm6
 have hval:(Ht p id x).enc=.agg [Af x.props,AA y,AA x.move,Aa D,AQ (x.layers.map (BL p id))]:=by
  rw[<-hy,<-hD];rfl
 have e1:∀h',(∀j,o1=some j->h' j=some (.cells (CM D)))->Fz h' h 1 v1 (Aa D):=λh' hh=>by
  rcases a1 with⟨_,he,z',f,rfl⟩|⟨j,f,rfl,hj1,hj2,rfl⟩
  . have hd0:x.dels=[]:=by simpa using he
    have:D=[]:=ZM (by rw[hDl,hd0];rfl)
    rw[this];exact A9 (by simp)
  . have:=Dj (h':=h') (h:=h) (k:=0) (z:=2) (es:=D.map BO.enc) (full:=f) (full':=false) (o:=j) (ho.none (by omega)) (by simp) (hh j rfl) (BO.E.size D)
    rw[Y5,hDl]at this;rw[Y5];exact this
 have e2:∀h',(∀j,o2=some j->h' j=some (.cells (IP (x.layers.map (BL p id)))))->Fz h' h 1 v2 (AQ (x.layers.map (BL p id))):=λh' hh=>by
  rcases a2 with⟨_,he,z',f,rfl⟩|⟨j,f,rfl,hj1,hj2,rfl⟩
  . have hd0:x.layers=[]:=by simpa using he
    rw[hd0];exact A9 (by simp)
  . have:=Dj (h':=h') (h:=h) (k:=0) (z:=4) (es:=(x.layers.map (BL p id)).map Ax.enc) (full:=f) (full':=false) (o:=j) (ho.none (by omega)) (by simp) (hh j rfl) (Ax.E.size _)
    rw[Y5,Y5]at this;rw[Y5];exact this
 obtain⟨s1,t1⟩:=a1.st
 obtain⟨s2,t2⟩:=a2.st
 have L1:=a1.lt
 have L2:=a2.lt
 simp only[SV.storable,SV.cells]at s1 t1 s2 t2
 rw[hval]
 refine AI ?_
 have W0:=R.w0 y D (x.layers.map (BL p id))
 have W1:=R.w1 y D (x.layers.map (BL p id))
 have WD:=λj e=>R.wd j e y D (x.layers.map (BL p id))
 have WL:=λj e=>R.wl j e y D (x.layers.map (BL p id))
 have WO:=R.old y D (x.layers.map (BL p id))
 simp[go_sem,W0,W1,AC]
 refine Dh (v:=.agg [Af x.props,AA y,AA x.move,Aa D,AQ (x.layers.map (BL p id))]) 2 ho (AK (λj z e=>by have:=hHb j z e;omega) WO) (.inr ⟨Y0,Y0,Y0,e1 _ (λj e=>?_),e2 _ (λj e=>?_),trivial⟩) (by simp[closed,closedL,E8.E.closedL,BO.E.closedL,Ax.E.closedL,-List.map_map])
 . have:=L1 j e
   rw[AD _ _ (by omega)];exact WD j e
 . have:=L2 j e
   rw[AD _ _ (by omega)];exact WL j e
end
def JK (a id:Int) (s:Unit) (p:BY):AF×Bool×Unit:=(if p.mid then Ht (λy=>y==a) id p.head else p.head,true,s)
theorem v46g (n0:Nat) (r:BD) (a:Int):Lt Nu n0 46 [] [.iptr [AA r.id,.str r.author,AA r.time],.iptr [AA a]] (JK a r.id) (λx=>x.sized/\x.dels.length<20) where
 lt _ _ _:=rfl
 dom _ _ _ _:=rfl
 cl _ _ _ e:=by cases e
 call s p H n hp hn hs:=by
  rw[VD]
  refine Dg Tryz.func46 rfl λho=>?_
  have hHb:=ho.lt
  have q1:n+1≠n:=by omega
  obtain⟨X,hX⟩:∃X:SV,X=.iptr (p.head.flat++[.bool p.mid,AA p.units]):=⟨_,rfl⟩
  refine BV 1 [(1,.iptr [AA r.id,.str r.author,AA r.time]),(2,.iptr [AA a]),(3,X),(4,.ptr (n+1) 0)] (hset H (n+1) (some (.cells [.imm 0 [] true,AA 0,AA 0,.imm 0 [] true,.imm 0 [] true]))) (λm=>n+2<=m) ?_ (λm hm=>?_)
  . rw[hX]
    simp[go_sem,BY.enc,AF.flat,Y0]
    refine⟨AT (by rw[AD _ _ q1.symm];exact ho.none (Y1 n)) (by simp[hset]),λj y=>?_⟩
    have:=hHb j y;simp only[hset];grind
  have hcl:∀x:AF,closed n (.tup [x.enc,.bool true])=true:=λx=>by simp[closed,closedL,AF.E.cl]
  have fin:∀(x:AF) (y:BT) (m':Nat),JK a r.id s p=(x,true,s)->Bz n (hset H (n+1) (some y)) m' (.tup [x.enc,.bool true]) (λv h' n'=>v=.tup [(JK a r.id s p).1.enc,.bool (JK a r.id s p).2.1]/\h'=H/\n'=n):=λx y m' e=>by rw[e];exact CT ho (hcl x) (AK (λj z e=>by have:=hHb j z e;omega) AB)
  rw[hX]
  refine AI ?_
  cases hmid:p.mid with
  | false=>
   simp[go_sem,AF.flat,AC,AY]
   exact fin p.head _ _ (by simp[JK,hmid])
  | true=>
   simp[go_sem,AF.flat]
   refine Yj (by simpa[AF.enc,AF.flat]using c47g (g:=48) (a:=[]) (b:=[.iptr [AA a]]) (p:=λy=>y==a) p.head hp.1 hp.2 (λy=>c48 a y) r.id) ?_
   simp[go_sem,AF.enc,AF.flat,AC,AY]
   exact fin (Ht (λy=>y==a) r.id p.head) _ _ (by simp[JK,hmid])
def K2 (x:AE):Bool:=(x.kind==7&&(match x.rows with|[]=>true|_::_=>false))||(x.kind==1&&x.text.size==0)
theorem I5 (x:AE):Co x↔K2 x=true:=by
 unfold Co K2
 cases h:x.rows<;>simp[]
def NX (out:List AE) (x:AE):List AE:=
 if K2 x then out else match out.getLast? with
  | some y=>if x.kind=1/\y.kind=1/\y.head=x.head then out.dropLast++[y.addText x.text]else out++[x]
  | none=>out++[x]
theorem Ql:BC=NX:=by
 funext out x
 unfold BC NX
 by_cases h:Co x
 . rw[if_pos h,if_pos ((I5 x).1 h)]
 . rw[if_neg h,if_neg (λe=>h ((I5 x).2 e))]
   cases out.getLast? <;> rfl
theorem Hw (l:List AE):An l=(AE.nrmL l).foldl NX []:=by rw[An,Dy,Ql]
def Cm:BD:=⟨3,⟨#[65,110]⟩,0⟩
def Ca:BD:=⟨4,⟨#[65,110]⟩,0⟩
def z0:AF:=⟨[],0,0,[],[]⟩
def hI (i:Int):AF:=⟨[],i,0,[],[]⟩
def K3 (i:Int) (t:ByteArray):AE:=.mk 1 0 0 t (hI i) [] []
def RI:AE:=K3 3 ⟨#[97,98,99,100]⟩
def NP:AE:=.mk 2 0 0 ⟨#[]⟩ z0 [] []
def E7:AJ:=⟨[],[],[],[]⟩
def CZ:AH:=⟨[RI,NP],z0,[Cm],E7⟩
def E6:Ah:=⟨0,1,3⟩
def Lu (i:Int):List AE:=[K3 3 ⟨#[97]⟩,K3 i ⟨#[98,99]⟩,K3 3 ⟨#[100]⟩,NP]
theorem rsB (l:List AE) (a b:Int) (r:List AE) (h:EI l a b=0) (hr:(AE.nrmL (BS (BS l b).1 a).2).foldl NX []=r):AU l a b=(r,0):=by
 rw[AU,if_pos h,Hw,hr]
theorem rs1:AU [RI,NP] 0 1=([K3 3 ⟨#[97]⟩],0):=rsB _ _ _ _ (by kernel_rfl) (by kernel_rfl)
theorem rs2:AU [RI,NP] 1 3=([K3 3 ⟨#[98,99]⟩],0):=rsB _ _ _ _ (by kernel_rfl) (by kernel_rfl)
theorem rs3:AU [RI,NP] 3 5=([K3 3 ⟨#[100]⟩,NP],0):=rsB _ _ _ _ (by kernel_rfl) (by kernel_rfl)
theorem exLen:A5 [RI,NP]=(5,0):=by kernel_rfl
section
variable {σ : Type}
theorem wEx (f:σ->BY->AF×Bool×σ) (revs:List BD) (s:σ) (r:List AE×σ) (h:((BK f (Al f E6 1) false [K3 3 ⟨#[97]⟩] s).1++(BK f (Al f E6 1) true [K3 3 ⟨#[98,99]⟩] (BK f (Al f E6 1) false [K3 3 ⟨#[97]⟩] s).2).1++(BK f (Al f E6 1) false [K3 3 ⟨#[100]⟩,NP] (BK f (Al f E6 1) true [K3 3 ⟨#[98,99]⟩] (BK f (Al f E6 1) false [K3 3 ⟨#[97]⟩] s).2).2).1,
 (BK f (Al f E6 1) false [K3 3 ⟨#[100]⟩,NP] (BK f (Al f E6 1) true [K3 3 ⟨#[98,99]⟩] (BK f (Al f E6 1) false [K3 3 ⟨#[97]⟩] s).2).2).2)=r):
 Bi f E6 2 CZ revs s=(⟨r.1,(f r.2 ⟨z0,false,1⟩).1,revs,E7⟩,(f r.2 ⟨z0,false,1⟩).2.2):=by
 have e:Al f E6 2 0 CZ.flow false s=r:=by
  rw[<-h]
  show Al f E6 2 0 [RI,NP] false s=_
  rw[Al,if_pos (by kernel_rfl),exLen]
  show(_,_)=_
  rw[show E6.a=1 from rfl,show E6.b=3 from rfl,rs1,rs2,rs3]
 rw[Bi,e];rfl
end
theorem w1:Bi (CD (GF 3)) E6 2 CZ [Cm] (0,0)=(⟨Lu 3,z0,[Cm],E7⟩,(2,2)):=by
 rw[wEx _ _ _ (Lu 3,(2,2)) (by kernel_rfl)];kernel_rfl
theorem w2:Bi (CD λ(s:Unit) _=>s) E6 2 CZ [Cm] ()=(⟨Lu 3,z0,[Cm],E7⟩,()):=by
 rw[wEx _ _ _ (Lu 3,()) (by kernel_rfl)];kernel_rfl
theorem w3:Bi (JK 3 4) E6 2 CZ [Cm,Ca] ()=(⟨Lu 4,z0,[Cm,Ca],E7⟩,()):=by
 rw[wEx _ _ _ (Lu 4,()) (by kernel_rfl)];kernel_rfl
theorem nP3:An (Lu 3)=[RI,NP]:=by rw[Hw];kernel_rfl
theorem nP4:An (Lu 4)=Lu 4:=by rw[Hw];kernel_rfl
theorem n3:(⟨Lu 3,z0,[Cm],E7⟩:AH).normal=CZ:=by
 rw[AH.normal,AH.norm1,nP3];kernel_rfl
theorem s34:C6 [3,4]=[3,4]:=by unfold C6;first|exact List.mergeSort_of_sorted (by simp)|exact List.mergeSort_of_pairwise (by simp)|simp[List.mergeSort]
theorem u34:IS ⟨Lu 4,z0,[Cm,Ca],E7⟩=[3,4]:=by
 rw[IS,show((BZ [] (AE.usL (Lu 4)++z0.all)).filter λx=>decide (x≠0))=[3,4]by kernel_rfl,s34]
theorem n4:(⟨Lu 4,z0,[Cm,Ca],E7⟩:AH).normal=⟨Lu 4,z0,[Cm,Ca],E7⟩:=by
 rw[AH.normal,AH.norm1,nP4,u34];kernel_rfl
theorem exS1:CP 2 CZ 3 E6=(2,2,0):=by
 rw[CP,if_neg (of_decide_eq_false (by kernel_rfl)),if_neg (of_decide_eq_false (by kernel_rfl)),if_neg (of_decide_eq_false (by kernel_rfl))]
 rw[show CZ.revs=[Cm]from rfl,w1]
def Ub (h:AF):Prop:=h=z0\/h=hI 3
theorem F5 {h:AF} (e:Ub h):h.sized:=by
 rcases e with rfl|rfl<;>exact⟨by simp[z0,hI],by simp[z0,hI],by simp[z0,hI]⟩
theorem OJ {h:AF} (e:Ub h):Th h:=by
 rcases e with rfl|rfl<;>exact⟨rfl,rfl,rfl⟩
theorem Ro {h:AF} (e:Ub h):h.revs.length<=1048576:=by
 rcases e with rfl|rfl<;>exact of_decide_eq_true (by kernel_rfl)
theorem Rp:DM Ub 10 2 CZ.flow:=by
 refine⟨of_decide_eq_true (by kernel_rfl),of_decide_eq_true (by kernel_rfl),λx hx=>?_⟩
 have:x=RI\/x=NP:=by simpa[CZ]using hx
 rcases this with rfl|rfl
 . exact⟨.inr rfl,⟨by simp[RI,K3,AE.flow],of_decide_eq_true (by kernel_rfl),by simp[RI,K3,AE.flow]⟩,by simp[RI,K3,AE.rows],by simp[RI,K3,AE.rows]⟩
 . exact⟨.inl rfl,⟨by simp[NP,AE.flow],of_decide_eq_true (by kernel_rfl),by simp[NP,AE.flow]⟩,by simp[NP,AE.rows],by simp[NP,AE.rows]⟩
theorem ID (i:Int) (t:ByteArray) (ht:t.size<=10):(K3 i t).sized:=by
 simp[K3,AE.sized,AE.sizedL,AW.sizedL]
 exact⟨by omega,by simp[hI],by simp[hI],by simp[hI]⟩
theorem MS:NP.sized:=by
 simp[NP,AE.sized,AE.sizedL,AW.sizedL]
 exact⟨of_decide_eq_true (by kernel_rfl),by simp[z0],by simp[z0],by simp[z0]⟩
theorem LY:E7.sized:=⟨by simp[E7],by simp[E7],by simp[E7],by simp[E7],by simp[E7],by simp[E7]⟩
theorem PE:z0.sized:=F5 (.inl rfl)
theorem IC (i:Int) (revs:List BD) (h:revs.length<=10):(⟨Lu i,z0,revs,E7⟩:AH).sized:=
 ⟨by simp[Lu],by simp only[Lu,AE.sizedL];exact⟨ID _ _ (of_decide_eq_true (by kernel_rfl)),ID _ _ (of_decide_eq_true (by kernel_rfl)),ID _ _ (of_decide_eq_true (by kernel_rfl)),MS,trivial⟩,PE,by show revs.length<=_;omega,LY⟩
theorem GT:CZ.sized:=
 ⟨by simp[CZ],by simp only[CZ,AE.sizedL];exact⟨ID _ _ (of_decide_eq_true (by kernel_rfl)),MS,trivial⟩,PE,by simp[CZ],LY⟩
theorem PU {d:AH} (hl:d.flow.length<=1048576) (hs:AE.sizedL d.flow) {id:Int} {fl:Fl} (e:CG d id=some fl):fl.items.length<=1048576/\∀x∈fl.items,x.text.size<=1048576:=by
 have o:=Ig hl hs fl (X9 e)
 exact⟨o.1,ZJ o.2⟩
theorem k13:PC 13 [CZ.enc,AA 3,E6.enc] (.tup [AA 2,AA 2,AA 0]):=by
 have hr:CZ.revs=[Cm]:=rfl
 have:=c13 Ub 10 (by omega) (λh e=>⟨⟨F5 e,Ro e⟩,F5 e⟩) 2 CZ 3 E6 Rp (.inl rfl) (by simp[CZ]) (λfl hfl=>?_) ?_ ?_ ?_
 . rw[exS1]at this;exact this
 . exact PU GT.len GT.flow hfl
 . rw[hr,w1];exact IC _ _ (by simp)
 . rw[hr,w1,n3];exact GT
 . rw[hr,w1,nP3];exact of_decide_eq_true (by kernel_rfl)
theorem k42:PC 42 [Ca.enc] (AA 0):=by
 have:=c42 Ca
 rwa [show CY Ca=0 by kernel_rfl]at this
theorem k20:PC 20 [Aw [Cm],AA 4] (.tup [GO.enc,.bool false]):=by
 have:=c20 [Cm] (by simp) 4
 have e:Bv [Cm] 4=(GO,false):=by kernel_rfl
 rw[e]at this;exact this
theorem k45:PC 45 [Aw [Cm],Ca.enc] (.tup [Aw [Cm,Ca],AA 0]):=UT [Cm] (by simp) (by simp) Ca (by kernel_rfl) (by kernel_rfl) 1 (by simp) (by kernel_rfl)
theorem k36 {n0 t:Nat} {H:Hp} {n:Nat} (hn:n0<=n):BM Tryz.prog 36 [CZ.enc,E6.enc,.fn (.func 43) [] [.ptr t 0]] H n (λv h' n'=>v=.tup []/\h'=H/\n'=n):=by
 have hr:CZ.revs=[Cm]:=rfl
 have:=d36 (sc:=E6) (v43 n0 t) Ub 10 (by omega) (λh e=>⟨OJ e,F5 e⟩) 2 CZ () Rp (.inl rfl) ?_ ?_ ?_ (H:=H) hn (by rintro o y ⟨⟩)
 . rw[VD]at this;exact this
 . rw[hr,w2];exact IC _ _ (by simp)
 . rw[hr,w2,n3];exact GT
 . rw[hr,w2,nP3];exact of_decide_eq_true (by kernel_rfl)
theorem k49 {n0:Nat} {H:Hp} {n:Nat} (hn:n0<=n):BM Tryz.prog 49 [.fn (.func 46) [] [.iptr [AA 4,.str ⟨#[65,110]⟩,AA 0],.iptr [AA 3]],CZ.enc,E6.enc,Aw [Cm,Ca]] H n (λv h' n'=>v=(⟨Lu 4,z0,[Cm,Ca],E7⟩:AH).enc/\h'=H/\n'=n):=by
 have:=d49 (sc:=E6) (v46g n0 Ca 3) Ub 10 (by omega) (λh e=>⟨⟨F5 e,by rw[(OJ e).dels];simp⟩,F5 e⟩) 2 CZ [Cm,Ca] () Rp (.inl rfl) ?_ ?_ ?_ (H:=H) hn (by rintro o y ⟨⟩)
 . rw[VD,show Ca.id=4 from rfl,w3,n4]at this;exact this
 . rw[show Ca.id=4 from rfl,w3];exact IC _ _ (by simp)
 . rw[show Ca.id=4 from rfl,w3,n4];exact IC _ _ (by simp)
 . rw[show Ca.id=4 from rfl,w3,nP4];exact of_decide_eq_true (by kernel_rfl)
set_option maxHeartbeats 4000000 in
theorem k15:PC 15 [CZ.enc,AA 3,E6.enc,Ca.enc] (.tup [(⟨Lu 4,z0,[Cm,Ca],E7⟩:AH).enc,AA 0]):=by
 intro h n
 refine Dg Tryz.func15 rfl λho=>?_
 have hHb:=ho.lt
 obtain⟨X,hX⟩:∃X:SV,X=.iptr ([AG CZ.flow]++CZ.«end».flat++[Aw CZ.revs]++CZ.settings.flat):=⟨_,rfl⟩
 obtain⟨S,hS⟩:∃S:SV,S=.iptr [AA E6.id,AA E6.a,AA E6.b]:=⟨_,rfl⟩
 obtain⟨V,hV⟩:∃V:SV,V=.iptr [AA Ca.id,.str Ca.author,AA Ca.time]:=⟨_,rfl⟩
 obtain⟨G,hG⟩:∃G:Hp,G=hset h (n+4) (some (.cells C2)):=⟨_,rfl⟩
 have hGb:∀j y,G j=some y->j<n+5:=λj y e=>by
  rw[hG]at e;simp only[hset]at e;split at e
  . omega
  . have:=hHb j y e;omega
 have hGk:∀j y,h j=some y->G j=some y:=λj y e=>by rw[hG];exact AK (λj z e=>by have:=hHb j z e;omega) AB j y e
 have hGa:G (n+4)=some (.cells C2):=by rw[hG,AC]
 refine BV 1 [(4,X),(5,.iptr [AA 3]),(6,S),(7,V),(8,.ptr (n+4) 0)] G (λm=>n+5<=m) ?_ (λm hm=>?_)
 . rw[hX,hS,hV,hG]
   simp[go_sem,Ah.enc,AH.enc,AF.flat,AJ.flat,BD.enc,Y0,Yn,C2]
   refine⟨⟨AT (by simp[hset];exact ho.none (by omega)) (by simp[hset]),AT (by simp[hset];exact ho.none (by omega)) (by simp[hset]),AT (by simp[hset];exact ho.none (by omega)) (by simp[hset]),AT (by simp[hset];exact ho.none (by omega)) (by simp[hset])⟩,λj y=>?_⟩
   have:=hHb j y;simp only[hset];grind
 have hcl:∀E:AH,closed n (.tup [E.enc,AA 0])=true:=λE=>by simp[AH.enc,AF.flat,AJ.flat,closed,closedL,AE.E.closedL,E8.E.closedL,BO.E.closedL,Ax.E.closedL,BD.E.closedL,Az.E.closedL,FQ.E.closedL,As.E.closedL,Fa.E.closedL]
 refine BV 0 [(4,X),(5,.iptr [AA 3]),(6,S),(7,V),(8,.ptr (n+4) 0),(10,AA 2),(11,AA 2),(12,AA 0)] G (λm=>n+5<=m) ?_ (λm hm=>?_)
 . rw[hX,hS]
   simp[go_sem,AF.flat,AJ.flat]
   refine Yj (by simpa[Ah.enc,AH.enc,AF.flat,AJ.flat]using k13) ?_
   simp[go_sem,Y0,hm]
 refine CB 0 [(4,X),(5,.iptr [AA 3]),(6,S),(7,V),(8,.ptr (n+4) 0),(10,AA 2),(11,AA 2)] G (λm=>n+5<=m) (AI ?_) (λm hm=>?_)
 . simp[go_sem,Y0,hm]
 refine CB 0 [(4,X),(5,.iptr [AA 3]),(6,S),(7,V),(8,.ptr (n+4) 0),(10,AA 2),(11,AA 2)] G (λm=>n+5<=m) (AI ?_) (λm hm=>?_)
 . rw[hV]
   simp[go_sem]
   refine Yj (by simpa[BD.enc]using k42) ?_
   simp[go_sem,Y0,hm]
 refine CB 0 [(4,X),(5,.iptr [AA 3]),(6,S),(7,V),(8,.ptr (n+4) 0),(10,AA 2),(11,AA 2)] G (λm=>n+5<=m) (AI ?_) (λm hm=>?_)
 . rw[hX,hV]
   simp[go_sem,AF.flat,AJ.flat]
   refine Yj (by simpa[Ca,CZ]using k20) ?_
   simp[go_sem,Y0,BD.enc,AC,AY]
   exact⟨by omega,AK (λj z e=>by have:=hGb j z e;omega) AB⟩
 refine CB 0 [(4,X),(5,.iptr [AA 3]),(6,S),(7,V),(8,.ptr (n+4) 0)] G (λm=>n+5<=m) (AI ?_) (λm hm=>?_)
 . rw[hX]
   simp[go_sem,AF.flat,AJ.flat,Y0,hm,CZ]
 refine BG 0 (α:=Nat) (λk=>[(4,X),(5,.iptr [AA 3]),(6,S),(7,V),(8,.ptr (n+4) 0),(16,.ptr (k+1) 0)]) (λk=>hset (hset G k (some (.map []))) (k+1) (some (.cells [.map k]))) (λk m=>n+5<=k/\k+1<m) ?_ (λk m hm=>?_)
 . simp[go_sem,Y0,AY,AC]
   exact⟨m,⟨by omega,by omega⟩,rfl,AB⟩
 obtain⟨hk1,hk2⟩:=hm
 refine BV 0 [(4,X),(5,.iptr [AA 3]),(6,S),(7,V),(8,.ptr (n+4) 0),(16,.ptr (k+1) 0)] (hset (hset G k (some (.map []))) (k+1) (some (.cells [.map k]))) (λm=>k+1<m) ?_ (λm hm=>?_)
 . rw[hX,hS]
   simp[go_sem,AF.flat,AJ.flat]
   refine Ys (by simpa[Ah.enc,AH.enc,AF.flat,AJ.flat]using k36 (n0:=0) (Y4 _)) ?_
   rintro v H' n' ⟨rfl,rfl,rfl⟩
   simp[go_sem,Y0,hk2]
 refine CB 0 [(4,X),(5,.iptr [AA 3]),(6,S),(7,V),(8,.ptr (n+4) 0)] G (λm=>n+5<=m) (AI ?_) (λm hm=>?_)
 . simp[go_sem,AC]
   refine Jw (m:=k) (es:=[]) rfl (by simp[go_sem]) (by simp[go_sem]) (by simp[hset]) ?_
   simp[go_sem]
   refine Am 0 (α:=Unit) (λ_=>[(69,.ptr m 0),(4,X),(5,.iptr [AA 3]),(6,S),(7,V),(8,.ptr (n+4) 0)]) (λ_=>hset G m (some (.iter [] none))) (λ_ m2=>m<m2) (λ_=>0) () (YD m) ?_ ?_ ?_
   . simp[Aj,Y0]
   . intro o y e
     simp only[hset]at e ⊢
     by_cases e1:o=m
     . rw[if_pos e1]at e ⊢;exact e
     . rw[if_neg e1]at e ⊢
       have:=hGb o y e
       rw[if_neg (by omega),if_neg (by omega),if_neg (by omega)];exact e
   rintro _ m2 hm2
   simp[go_sem]
   refine LX (q:=m) (left:=[]) (last:=none) rfl (by simp[go_sem]) (AC _ _ _) (λi hi=>absurd hi (by simp)) λ_=>?_
   simp[go_sem,Y0]
   exact⟨by omega,AK (λj z e=>by have:=hGb j z e;omega) AB⟩
 refine BV 0 [(4,X),(5,.iptr [AA 3]),(6,S),(7,V),(8,.ptr (n+4) 0),(19,Aw [Cm,Ca]),(12,AA 0)] G (λm=>n+5<=m) ?_ (λm hm=>?_)
 . rw[hX,hV]
   simp[go_sem,AF.flat,AJ.flat]
   refine Yj (by simpa[BD.enc,CZ]using k45) ?_
   simp[go_sem,Y0,hm]
 refine CB 0 [(4,X),(5,.iptr [AA 3]),(6,S),(7,V),(8,.ptr (n+4) 0),(19,Aw [Cm,Ca])] G (λm=>n+5<=m) (AI ?_) (λm hm=>?_)
 . simp[go_sem,Y0,hm]
 refine BV 0 [(4,X),(6,S),(8,.ptr (n+4) 0),(19,Aw [Cm,Ca]),(20,.fn (.func 46) [] [V,.iptr [AA 3]])] G (λm=>n+5<=m) ?_ (λm hm=>?_)
 . simp[go_sem,Y0,hm]
 refine AI ?_
 rw[hX,hS,hV]
 simp[go_sem,AF.flat,AJ.flat]
 refine Ys (by simpa[Ah.enc,AH.enc,AF.flat,AJ.flat,Ca]using k49 (n0:=0) (Y4 _)) ?_
 rintro v H' n' ⟨rfl,rfl,rfl⟩
 simp[go_sem,hGa,C2,AH.enc,AF.flat,AJ.flat,AC]
 exact Au ho (AK (λj z e=>by have:=hHb j z e;omega) hGk) rfl (hcl ⟨Lu 4,z0,[Cm,Ca],E7⟩)
theorem AH.cl (n:Nat) (E:AH):closed n E.enc=true:=by simp[AH.enc,AF.flat,AJ.flat,closed,closedL,AE.E.closedL,E8.E.closedL,BO.E.closedL,Ax.E.closedL,BD.E.closedL,Az.E.closedL,FQ.E.closedL,As.E.closedL,Fa.E.closedL]
theorem k32:PC 32 [] CZ.enc:=by
 intro h n
 refine gq Tryz.func32 rfl λho=>?_
 have q1:n≠n+1:=by omega
 have q2:n≠n+1+1:=by omega
 have q3:n+1≠n:=by omega
 have q4:n+1+1≠n:=by omega
 have q5:n+1≠n+1+1:=by omega
 simp[go_sem,AC,AD,q2]
 refine Dh 3 ho (λo y e=>?_) ?_ (AH.cl n CZ)
 . have:=(ho o y e).1
   rw[AD _ _ (by omega),AD _ _ (by omega),AD _ _ (by omega),AD _ _ (by omega)];exact e
 . have hn1:h (n+1)=none:=ho.none (by omega)
   have hn2:h (n+1+1)=none:=ho.none (by omega)
   refine .inr ⟨.inr ⟨hn1,by simp,rfl,rfl,_,_,by rw[AD _ _ q3,AD _ _ q5,AC],rfl,?_,?_⟩,?_,Y0,Y0,?_,?_,.inr ⟨hn2,by simp,rfl,rfl,_,_,by rw[AD _ _ q4,AC],rfl,?_,?_⟩,?_,?_,?_,?_,trivial⟩
   . exact AE.E.size _
   . exact⟨Y0,Y0,Y0,Y0,A9 (by simp),Y0,Y0,A9 (by simp),A9 (by simp),A9 (by simp),A9 (by simp),Y0,Y0,Y0,Y0,A9 (by simp),Y0,Y0,A9 (by simp),A9 (by simp),A9 (by simp),A9 (by simp),trivial⟩
   . exact A9 (by simp)
   . exact A9 (by simp)
   . exact A9 (by simp)
   . exact BD.E.size _
   . exact⟨Y0,Y0,Y0,trivial⟩
   . exact A9 (by simp)
   . exact A9 (by simp)
   . exact A9 (by simp)
   . exact A9 (by simp)
set_option maxHeartbeats 2000000 in
theorem k11:PC 11 [] (.bool true):=by
 intro h n
 refine Dg Tryz.func11 rfl λho=>?_
 have hHb:=ho.lt
 obtain⟨A,hA⟩:∃A:SV,A=.imm 11 ((Lu 4).map AE.enc) false:=⟨_,rfl⟩
 obtain⟨R,hR⟩:∃R:SV,R=Aw [Cm,Ca]:=⟨_,rfl⟩
 refine Ab 0 [] h n ?_ (λm hm=>?_)
 . simp[go_sem]
 refine Ab 1 [(1,.iptr [A,Af [],AA 0,AA 0,Aa [],AQ [],R,Ad [],DW [],BW [],FA []]),(2,AA 0)] h n ?_ (λm hm=>?_)
 . simp[go_sem]
   refine Yj k32 ?_
   simp[go_sem]
   have e:(⟨Lu 4,z0,[Cm,Ca],E7⟩:AH).enc=.agg [A,Af [],AA 0,AA 0,Aa [],AQ [],R,Ad [],DW [],BW [],FA []]:=by rw[hA,hR];rfl
   have k:=k15
   rw[e]at k
   refine Yj (v:=.tup [.agg [A,Af [],AA 0,AA 0,Aa [],AQ [],R,Ad [],DW [],BW [],FA []],AA 0]) k ?_
   simp[go_sem,Y0,AC,AY]
   exact⟨by omega,AT (Ac (λj y e=>by have:=hHb j y e;omega) (Y1 m)) (AC _ _ _),AK (λj z e=>by have:=hHb j z e;omega) AB⟩
 obtain⟨e0,he0⟩:∃e0:SV,e0=(K3 3 ⟨#[97]⟩).enc:=⟨_,rfl⟩
 obtain⟨e3,he3⟩:∃e3:SV,e3=NP.enc:=⟨_,rfl⟩
 obtain⟨e1,he1⟩:∃e1:SV,e1=.agg [AA 1,AA 0,AA 0,.str ⟨#[98,99]⟩,Af [],AA 4,AA 0,Aa [],AQ [],AG [],Av []]:=⟨_,rfl⟩
 obtain⟨e2,he2⟩:∃e2:SV,e2=.agg [AA 1,AA 0,AA 0,.str ⟨#[100]⟩,Af [],AA 3,AA 0,Aa [],AQ [],AG [],Av []]:=⟨_,rfl⟩
 have hA2:A=.imm 11 [e0,e1,e2,e3] false:=by rw[hA,he0,he1,he2,he3];rfl
 obtain⟨r0,hr0⟩:∃r0:SV,r0=Cm.enc:=⟨_,rfl⟩
 obtain⟨r1,hr1⟩:∃r1:SV,r1=Ca.enc:=⟨_,rfl⟩
 have hR2:R=.imm 3 [r0,r1] false:=by rw[hR,hr0,hr1];rfl
 refine AI ?_
 rw[hA2,hR2,he1,he2]
 simp[go_sem]
 exact A3 ho rfl rfl
theorem QC {α β γ σ:Type} (g1:β×σ->α->β×σ) (g2:γ×σ->α->γ×σ):∀(l:List α) (a:β) (b:γ) (s:σ),(∀x∈l,∀a b s,(g1 (a,s) x).2=(g2 (b,s) x).2)->(l.foldl g1 (a,s)).2=(l.foldl g2 (b,s)).2
 | [],_,_,_,_=>rfl
 | x::l,a,b,s,h=>by
  have e:=h x (by simp) a b s
  simp only[YT]
  have h1:g1 (a,s) x=((g1 (a,s) x).1,(g1 (a,s) x).2):=rfl
  have h2:g2 (b,s) x=((g2 (b,s) x).1,(g1 (a,s) x).2):=by rw[e]
  rw[h1,h2]
  exact QC g1 g2 l _ _ _ λy hy=>h y (by simp[hy])
section
variable {σ : Type}
def zF (u:σ->BY->σ) (s:σ) (x:BY):AF×Bool×σ:=(E3,true,u s x)
theorem LO (u:σ->BY->σ) (it:Int->List AE->Bool->σ->List AE×σ) (fl:Int->List AE->Ah->Bool->σ->List AE×σ) (sc:Ah) (mid:Bool) (l:List AE) (s:σ)
 (hk:∀x∈l,x.kind≠7->x.rows=[]) (h6:∀x∈l,x.kind=6->∀s,(it x.id x.flow mid s).2=(fl x.id x.flow sc mid s).2)
 (h7:∀x∈l,∀r∈x.rows,∀c∈r.cells,∀s,(it c.id c.flow mid s).2=(fl c.id c.flow sc mid s).2):(BK (CD u) it mid l s).2=(BU (zF u) fl sc mid l s).2:=by
 unfold BK BU
 refine QC _ _ l _ _ _ λx hx a b s=>?_
 simp only[CK,CD,Dp,zF,if_true,Cr,LI]
 by_cases k6:x.kind=6
 . have:x.rows=[]:=hk x hx (by omega)
   simp only[k6,this,Ed,if_true,List.foldl_nil]
   exact h6 x hx k6 _
 . by_cases k7:x.kind=7
   . simp only[k7,if_true]
     simp only[show(7:Int)=6↔False by decide,if_false]
     unfold Gy Ed
     refine QC _ _ _ _ _ _ λr hr a b s=>?_
     simp only[Et,Cb,Gs,CD,zF,if_true]
     unfold EP DK
     refine QC _ _ _ _ _ _ λc hc a b s=>?_
     simp only[Dl,CC,CD,zF,if_true]
     exact h7 x hx r hr c hc _
   . simp only[k6,k7,if_false,hk x hx k7,Ed,List.foldl_nil]
end
def Gl (T:Int->Prop):Nat->List AE->Prop
 | 0,_=>True
 | N+1,l=>∀x∈l,(x.kind≠7->x.rows=[])/\(x.kind=6->T x.id)/\Gl T N x.flow/\∀r∈x.rows,∀c∈r.cells,T c.id/\Gl T N c.flow
def OP (T:Int->Prop) (N:Nat) (x:AE):Prop:=(x.kind≠7->x.rows=[])/\(x.kind=6->T x.id)/\Gl T N x.flow/\∀r∈x.rows,∀c∈r.cells,T c.id/\Gl T N c.flow
theorem Rt {T:Int->Prop} {N:Nat} {l:List AE}:Gl T (N+1) l↔∀x∈l,OP T N x:=Iff.rfl
theorem OS (T:Int->Prop) (N:Nat):Gl T N []:=by cases N<;>simp[Gl]
theorem K8 {T:Int->Prop} {N:Nat} (x:AE) (t:ByteArray) (H:OP T N x):OP T N (.mk x.kind x.code x.id t x.head x.flow x.rows):=by cases x;exact H
theorem Hj {T:Int->Prop}:∀{N:Nat} {l:List AE},Gl T N l->Gl T N (An l)
 | 0,_,_=>trivial
 | N+1,l,H=>by
  rw[Rt]at H ⊢
  unfold An Dy
  rw[ZT]
  refine Jf (p:=OP T N) K8 _ _ (λy hy=>by cases hy) λy hy=>?_
  obtain⟨x,hx,rfl⟩:=Yp.1 hy
  obtain⟨a,b,c,d⟩:=H x hx
  obtain⟨e0,_,e00,_,e1,e2,e3⟩:=AE.nrm_fields x
  refine⟨λh=>?_,λh=>?_,by rw[e2];exact Hj c,?_⟩
  . rw[e0]at h;rw[e3,a h];rfl
  . rw[e0]at h;rw[e00];exact b h
  . rw[e3];intro r hr
    obtain⟨r0,h0,rfl⟩:=Yp.1 (List.mem_filter.1 hr).1
    have er:(AW.nrm r0).cells=r0.cells.map AL.nrm:=by cases r0;rw[AW.nrm,Xj];rfl
    rw[er];intro c hc
    obtain⟨c0,h1,rfl⟩:=Yp.1 hc
    obtain⟨u1,u2⟩:=d r0 h0 c0 h1
    have ec:(AL.nrm c0).id=c0.id/\(AL.nrm c0).flow=An c0.flow:=by cases c0;rw[AL.nrm];exact⟨rfl,rfl⟩
    exact⟨by rw[ec.1];exact u1,by rw[ec.2];exact Hj u2⟩
theorem J7 {T:Int->Prop} {N:Nat} {l:List AE} (cu:Int) (H:Gl T (N+1) l):Gl T (N+1) (BS l cu).1/\Gl T (N+1) (BS l cu).2:=
 I4 (p:=OP T N) K8 l cu H _ (Y1 _)
theorem Ii {T:Int->Prop} {N:Nat} {l:List AE} (a b:Int) (H:Gl T (N+1) l):Gl T (N+1) (AU l a b).1:=by
 unfold AU
 split
 . exact Hj (J7 a (J7 b H).1).2
 . exact OS T _
section
variable {σ : Type}
theorem stA (u:σ->BY->σ) (sc:Ah):∀(N:Nat) (id:Int) (l:List AE) (mid:Bool) (s:σ),Gl (λi=>i≠sc.id/\i ≠ -1) N l->(mid=true\/(id≠sc.id/\id ≠ -1))->(Al (CD u) sc N id l mid s).2=(Aq (zF u) N id l Ar mid s).2
 | 0,_,_,_,_,_,_=>rfl
 | N + 1, id, l, mid, s, hg, hid => by
  have n1:¬DB sc id l mid=true:=by rcases hid with rfl|⟨h,_⟩<;>simp[DB, *]
  have n2:¬(id=Ar.id/\mid=false):=by rcases hid with rfl|⟨_,h⟩<;>simp[Ar, *]
  rw[Al,Aq,if_neg n1,if_neg n2]
  exact LO u _ _ _ _ l s (λx hx=>(hg x hx).1) (λx hx k6 s=>stA u sc N _ _ _ _ (hg x hx).2.2.1 (.inr ((hg x hx).2.1 k6)))
   (λx hx r hr c hc s=>stA u sc N _ _ _ _ ((hg x hx).2.2.2 r hr c hc).2 (.inr ((hg x hx).2.2.2 r hr c hc).1))
theorem LN {m2:List Int} {T:Int->Prop}:∀{N:Nat} {l:List AE},Pd m2 N l->(∀i∈ES N l,T i)->Gl T N l
 | 0,_,_,_=>trivial
 | N+1,l,h,hT=>λx hx=>by
  obtain⟨⟨f6,f7,_⟩,_,hf,_,hr⟩:=h x hx
  have hI:∀i∈EQ N x,T i:=λi hi=>hT i (by rw[F8];exact Z0.2 ⟨x,hx,hi⟩)
  refine⟨f7,λk6=>hI _ (by simp[EQ,k6]),?_,λr hr1 c hc=>?_⟩
  . by_cases k6:x.kind=6
    . exact LN hf λi hi=>hI i (by simp[EQ,k6,hi])
    . rw[f6 k6];exact OS T N
  . by_cases k7:x.kind=7
    . have hc2:∀i,i=c.id\/i∈ES N c.flow->T i:=λi hi=>hI i (by
       simp only[EQ,k7,show ¬(7:Int)=6 by decide,if_false,if_true]
       refine Yx _ (Z0.2 ⟨r,hr1,Z0.2 ⟨c,hc,Yg.2 hi⟩⟩))
      exact⟨hc2 _ (.inl rfl),LN ((hr r hr1).2 c hc).2 λi hi=>hc2 i (.inr hi)⟩
    . rw[f7 k7]at hr1;cases hr1
theorem Gu {α β:Type} {f:α->List β} {l:List α} (h:(l.flatMap f).Nodup) {x:α} (hx:x∈l):(f x).Nodup:=by
 induction l with
 | nil=>cases hx
 | cons a l ih=>
  rw[YC,List.nodup_append]at h
  rcases Yg.1 hx with rfl|hx
  . exact h.1
  . exact ih h.2.1 hx
theorem NV (p:Bb) {l:List AE} {x:AE} (hx:x∈l) {f:Fl} (hf:f∈AE.fl p x):f∈AE.flL p l:=by
 induction l with
 | nil=>cases hx
 | cons a l ih=>
  rw[AE.flL,Y8]
  rcases Yg.1 hx with rfl|hx
  . exact .inl hf
  . exact .inr (ih hx)
theorem QL (p:Bb) {l:List AW} {x:AW} (hx:x∈l) {f:Fl} (hf:f∈AW.fl p x):f∈AW.flL p l:=by
 induction l with
 | nil=>cases hx
 | cons a l ih=>
  rw[AW.flL,Y8]
  rcases Yg.1 hx with rfl|hx
  . exact .inl hf
  . exact .inr (ih hx)
theorem QK (p:Bb) {l:List AL} {x:AL} (hx:x∈l) {f:Fl} (hf:f∈AL.fl p x):f∈AL.flL p l:=by
 induction l with
 | nil=>cases hx
 | cons a l ih=>
  rw[AL.flL,Y8]
  rcases Yg.1 hx with rfl|hx
  . exact .inl hf
  . exact .inr (ih hx)
theorem stB (u:σ->BY->σ) (sc:Ah) {m2:List Int}:∀(N:Nat) (id:Int) (l:List AE) (p:Bb) (s:σ),Pd m2 N l->id∉ES N l->(ES N l).Nodup->(∀i∈ES N l,1<=i)->(∀f∈DA id l p,f.id=sc.id->¬CS sc f.items)->
 (Al (CD u) sc N id l false s).2=(Aq (zF u) N id l sc false s).2
 | 0,_,_,_,_,_,_,_,_,_=>rfl
 | N+1,id,l,p,s,hk,hid,hnd,h1,hb=>by
  by_cases e:id=sc.id
  . have hg:=LN (T:=λi=>i≠sc.id/\i ≠ -1) hk λi hi=>⟨λg=>hid (by rw[e,<-g];exact hi),by have:=h1 i hi;omega⟩
    have hr:=hb ⟨id,l,p⟩ (ZO ..) e
    have i1:DB sc id l false=true:=by
     unfold CS at hr
     dsimp only at hr
     simp only[DB,e,decide_true,Bool.true_and,Bool.not_false,Yb,decide_eq_true_eq]
     omega
    rw[Al,Aq,if_pos i1,if_pos ⟨e,rfl⟩]
    have q:∀(mid:Bool) (l:List AE) (s:σ),Gl (λi=>i≠sc.id/\i ≠ -1) (N+1) l->(BK (CD u) (Al (CD u) sc N) mid l s).2=(BU (zF u) (Aq (zF u) N) Ar mid l s).2:=λmid l s hg=>
     LO u _ _ _ _ l s (λx hx=>(hg x hx).1) (λx hx k6 s=>stA u sc N _ _ _ _ (hg x hx).2.2.1 (.inr ((hg x hx).2.1 k6)))
      (λx hx r hr c hc s=>stA u sc N _ _ _ _ ((hg x hx).2.2.2 r hr c hc).2 (.inr ((hg x hx).2.2.2 r hr c hc).1))
    dsimp only
    rw[q false _ _ (Ii _ _ hg),q true _ _ (Ii _ _ hg),q false _ _ (Ii _ _ hg)]
  . have n1:¬DB sc id l false=true:=by simp[DB,e]
    have n2:¬(id=sc.id/\false=false):=by simp[e]
    rw[Al,Aq,if_neg n1,if_neg n2]
    have nx:∀x∈l,(EQ N x).Nodup/\∀i∈EQ N x,1<=i:=λx hx=>⟨Gu (f:=EQ N) hnd hx,λi hi=>h1 i (by rw[F8];exact Z0.2 ⟨x,hx,hi⟩)⟩
    refine LO u _ _ _ _ l s (λx hx=>(hk x hx).1.2.1) (λx hx k6 s=>?_) (λx hx r hr c hc s=>?_)
    . obtain⟨g1,g2⟩:=nx x hx
      simp only[EQ,k6,if_true]at g1 g2
      rw[YH]at g1
      refine stB u sc N _ _ p.inNote s (hk x hx).2.2.1 g1.1 g1.2 (λi hi=>g2 i (Yx _ hi)) λf hf=>hb f (Yx _ (NV p hx ?_))
      cases x;simp only[AE.kind]at k6;rw[AE.fl,if_pos k6];exact hf
    . have k7:x.kind=7:=by
       by_cases k7:x.kind=7
       . exact k7
       . rw[(hk x hx).1.2.1 k7]at hr;cases hr
      obtain⟨g1,g2⟩:=nx x hx
      simp only[EQ,k7,show ¬(7:Int)=6 by decide,if_false,if_true]at g1 g2
      rw[YH]at g1
      have g3:(c.id::ES N c.flow).Nodup:=Gu (f:=λc:AL=>c.id::ES N c.flow) (Gu (f:=KP N) g1.2 hr) hc
      rw[YH]at g3
      refine stB u sc N _ _ p.inTable s (((hk x hx).2.2.2.2 r hr).2 c hc).2 g3.1 g3.2 (λi hi=>g2 i (Yx _ (Z0.2 ⟨r,hr,Z0.2 ⟨c,hc,Yx _ hi⟩⟩))) λf hf=>hb f (Yx _ (NV p hx ?_))
      cases x;simp only[AE.kind]at k7;rw[AE.fl,if_neg (by rw[k7];decide),if_pos k7]
      refine QL _ hr ?_
      cases r;rw[AW.fl]
      refine QK _ hc ?_
      cases c;exact hf
end
theorem NS {α β γ:Type} {f:α->List β} {g:β->γ} {k:α->List γ}:∀{l:List α},(∀x∈l,((f x).map g).Sublist (k x))->((l.flatMap f).map g).Sublist (l.flatMap k)
 | [],_=>by simp
 | a::l,h=>by
  rw[YC,YC,Y3]
  exact(h a (by simp)).append (NS λx hx=>h x (by simp[hx]))
theorem Rq (p:Bb):∀l:List AE,AE.flL p l=l.flatMap (AE.fl p)
 | []=>by rw[AE.flL];rfl
 | x::l=>by rw[AE.flL,Rq p l];rfl
theorem QB (p:Bb):∀l:List AW,AW.flL p l=l.flatMap (AW.fl p)
 | []=>by rw[AW.flL];rfl
 | x::l=>by rw[AW.flL,QB p l];rfl
theorem QA (p:Bb):∀l:List AL,AL.flL p l=l.flatMap (AL.fl p)
 | []=>by rw[AL.flL];rfl
 | x::l=>by rw[AL.flL,QA p l];rfl
theorem NR {hp:AF->Prop} {K:Nat}:∀{N:Nat} {l:List AE} (p:Bb),DM hp K N l->((AE.flL p l).map Fl.id).Sublist (ES N l)
 | N + 1, l, p, H => by
  rw[Rq,F8]
  refine NS λx hx=>?_
  obtain⟨_,a,_,b⟩:=H.2.2 x hx
  cases x with
  | mk k c i t h f r=>
   have hI:EQ N (.mk k c i t h f r)=if k=6 then i::ES N f else if k=7 then i::r.flatMap (KP N)else[]:=rfl
   have a':DM hp K N f:=a
   have b':∀q∈r,hp q.head/\q.cells.length<=K/\∀c∈q.cells,hp c.head/\DM hp K N c.flow:=b
   rw[AE.fl,hI]
   by_cases k6:k=6
   . rw[if_pos k6,if_pos k6]
     exact(NR p.inNote a').cons_cons _
   . rw[if_neg k6,if_neg k6]
     by_cases k7:k=7
     . rw[if_pos k7,if_pos k7]
       refine List.Sublist.cons _ ?_
       rw[QB]
       refine NS λr hr=>?_
       cases r with
       | mk hd cs=>
        rw[AW.fl,QA]
        refine NS (k:=λc:AL=>c.id::ES N c.flow) λc hc=>?_
        have:=((b' _ hr).2.2 c hc).2
        cases c
        rw[AL.fl]
        exact(NR _ this).cons_cons _
     . rw[if_neg k7,if_neg k7];exact List.nil_sublist _
theorem Jo {α β:Type} {g:α->β}:∀{l:List α},(l.map g).Nodup->∀x∈l,∀y∈l,g x=g y->x=y
 | a::l,h,x,hx,y,hy,e=>by
  rw[Yf,YH]at h
  rcases Yg.1 hx with h1|h1
  . rcases Yg.1 hy with h2|h2
    . rw[h1,h2]
    . exact absurd (by rw[<-h1,e];exact List.mem_map_of_mem h2) h.1
  . rcases Yg.1 hy with h2|h2
    . exact absurd (by rw[<-h2,<-e];exact List.mem_map_of_mem h1) h.1
    . exact Jo h.2 x h1 y h2 e
theorem Sl {rev:Int} (h0:rev≠0) (h:AF):h.uses rev=h.usesM rev:=by
 unfold AF.uses AF.usesM AF.revs
 by_cases e:h.ins=0
 . have e2:¬h.ins=rev:=by omega
   rw[if_pos e]
   simp[Bool.decide_or,e2,List.any_eq]
 . rw[if_neg e]
   simp[Bool.decide_or,List.any_eq,eq_comm,Bool.or_assoc]
theorem P3 {rev:Int} (h0:rev≠0):GF rev=Jc rev:=by
 funext s x
 unfold GF Jc
 rw[Sl h0]
theorem Re {hp:AF->Prop} {K N:Nat} {d:AH} (hl:DM hp K N d.flow) (hd:GY N d) (rev:Int) (hrev:(Bv d.revs rev).2=true->rev≠0) (sc:Ah):CP N d rev sc=Da N d rev sc:=by
 unfold CP Da
 split
 . rfl
 split
 . rfl
 split
 . rfl
 rename_i g1 g2 g3
 have hr:=hrev (by simpa using g3)
 have hids:((C0 d).map Fl.id).Nodup:=by
  have s1:=NR ED hl
  have:((C0 d).map Fl.id).Sublist (0::ES N d.flow):=s1.cons_cons _
  refine this.nodup (YH.2 ⟨λh=>?_,hd.nodup⟩)
  have:=(hd.ids _ h).1
  omega
 have hst:∀s:Int×Int,(Al (CD (GF rev)) sc N 0 d.flow false s).2=(Aq (He rev) N 0 d.flow sc false s).2:=λs=>by
  rw[P3 hr]
  refine stB (Jc rev) sc N 0 d.flow ED s hd.flow (λh=>by have:=(hd.ids _ h).1;omega) hd.nodup (λi hi=>(hd.ids i hi).1) λf hf e=>?_
  cases hfd:CG d sc.id with
  | none=>
   rw[hfd]at g1;simp at g1
  | some g=>
   rw[hfd]at g2
   simp only[YN,ZK]at g2
   have hm:=X9 hfd
   have hi:=List.find?_some hfd
   have:f=g:=Jo hids f hf g hm (by rw[e];exact(by simpa using hi:g.id=sc.id).symm)
   rw[this];exact g2
 unfold Bi Db Gt
 dsimp only
 rw[hst]
 simp only[CD,He,P3 hr]
theorem Mu {id:Int}:∀{l:List BD},(GN id l).2=true->∃r∈l,r.id=id
 | [],h=>by simp[GN]at h
 | r::l,h=>by
  rw[GN]at h
  split at h
  . exact⟨r,by simp,by assumption⟩
  . obtain⟨q,h1,h2⟩:=Mu h
    exact⟨q,by simp[h1],h2⟩
theorem Mt {l:List BD} {id:Int} (h:(Bv l id).2=true):∃r∈l,r.id=id:=by
 unfold Bv at h
 split at h
 . split at h
   . rename_i h1 h2
     have hlt:=Ku _ _ h2
     simp only[BF,decide_eq_true_eq]at h2 hlt
     obtain⟨k,hk⟩:∃k,k=FG (HN l id) 0 l.length:=⟨_,rfl⟩
     rw[<-hk]at h2 hlt
     refine⟨_,Yc hlt,?_⟩
     have:=h2.2
     unfold HN at this
     rw[Yr hlt]at this
     simp only[Hd]at this
     split at this
     . omega
     . split at this
       . omega
       . omega
   . simp at h
 . exact Mu h
theorem JZ {F:Nat->Int} {n:Nat} (h:E5 F n=0):∀k,k<n->F k=0:=λk hk=>by
 induction n with
 | zero=>omega
 | succ n ih=>
  rw[E5]at h
  split at h
  . rename_i h0
    by_cases e:k=n
    . rw[e];exact h
    . exact ih h0 (by omega)
  . omega
theorem ON {e:Int} {l:List Int} (h:Bu (e::l)=0):e=0:=by
 rw[Bu]at h;split at h<;>assumption
theorem KE {l:List BD} (h:Di l=0):∀r∈l,1<=r.id:=λr hr=>by
 unfold Di at h
 have hl:¬(256:Int)<l.length:=λg=>by simp[Bu,g]at h
 have h2:E5 (HL l) (min l.length 256)=0:=by
  have h9:=h
  simp[Bu,hl]at h9
  exact Classical.byContradiction λg=>g (h9 g)
 obtain⟨i,hi,rfl⟩:=ZA hr
 have h3:=JZ h2 i (by omega)
 unfold HL at h3
 rw[Yr hi]at h3
 dsimp only at h3
 have h4:=ON h3
 unfold GV at h4
 simp only[Yr hi]at h4
 split at h4
 . omega
 . rename_i g;simp only[Classical.not_not]at g;exact g.1
theorem Qa {hp:AF->Prop} {K N:Nat} {d:AH} (hl:DM hp K N d.flow) (hd:GY N d) (rev:Int) (sc:Ah):CP N d rev sc=Da N d rev sc:=
 Re hl hd rev (λh=>by
  obtain⟨r,h1,h2⟩:=Mt h
  have:=KE hd.revs r h1
  omega) sc
def Ix (m2:List Int) (h:AF):Prop:=h.sized/\QE m2 h
theorem M7:∀(l:List AE),(∀x∈l,x.text.size<=1000)->Ao l<=l.length*1000
 | [],_=>by simp[Ao]
 | x::l,h=>by
  have h1:=M7 l λy hy=>h y (by simp[hy])
  have h2:=h x (by simp)
  have e:Ao (x::l)=x.text.size+Ao l:=by simp[Ao]
  simp only[Yy];omega
theorem NQ {m2:List Int} {B:Nat}:∀{N:Nat} {l:List AE},DM AF.sized B N l->Lz N l->Pd m2 N l->DM (Ix m2) 150000 N l
 | 0,_,h,_,_=>h.elim
 | N+1,l,hl,hf,hk=>by
  obtain⟨_,_,h3⟩:=Cf.1 hl
  obtain⟨f1,f2⟩:=hf
  refine Cf.2 ⟨by omega,?_,λx hx=>?_⟩
  . have:=M7 l λx hx=>(f2 x hx).1.1
    omega
  . obtain⟨a1,a2,a3,a4⟩:=h3 x hx
    obtain⟨⟨b1,b2⟩,b3,b4⟩:=f2 x hx
    obtain⟨c1,c2,c3,_,c4⟩:=hk x hx
    refine⟨⟨a1,c2.toQE⟩,NQ a2 b3 c3,by omega,λr hr=>?_⟩
    obtain⟨u1,u2,u3⟩:=a4 r hr
    obtain⟨v1,v2⟩:=b4 r hr
    obtain⟨w1,w2⟩:=c4 r hr
    exact⟨⟨u1,w1.1.toQE⟩,by omega,λc hc=>⟨⟨(u3 c hc).1,(w2 c hc).1.toQE⟩,NQ (u3 c hc).2 (v2 c hc) (w2 c hc).2⟩⟩
section
variable {hp : AF → Prop} {σ : Type} {f : σ → BY → AF × Bool × σ} {K N : Nat}
theorem IH (hf:∀s p,hp p.head->hp (f s p).1):∀(N:Nat) (id:Int) (l:List AE) (sc:Ah) (mid:Bool) (s:σ),DM hp K N l->DM hp (3*K) N (Aq f N id l sc mid s).1
 | 0,_,_,_,_,_,h=>h.elim
 | N + 1, id, l, sc, mid, s, h => by
  have parts:∀sc mid l s,DM hp K (N+1) l->(BU f (Aq f N) sc mid l s).1.length<=K/\Ao (BU f (Aq f N) sc mid l s).1<=K/\∀x∈(BU f (Aq f N) sc mid l s).1,LG hp (3*K) N x:=by
   clear h
   intro sc mid l s h
   obtain⟨h1,h2,h3⟩:=Cf.1 h
   have cells:∀(cs:List AL) s,cs.length<=K->(∀c∈cs,hp c.head/\DM hp K N c.flow)->(DK f (Aq f N) sc mid cs s).1.length<=3*K/\∀c∈(DK f (Aq f N) sc mid cs s).1,hp c.head/\DM hp (3*K) N c.flow:=λcs s hl hc=>by
    refine⟨by have:=LF (f:=f) (fl:=Aq f N) (sc:=sc) (mid:=mid) cs ([],s);simp at this;unfold DK;omega,?_⟩
    refine FH _ (λq:List AL×σ=>∀c∈q.1,hp c.head/\DM hp (3*K) N c.flow) cs _ (by simp) λq c hm hq=>?_
    unfold CC
    dsimp only
    split
    . exact Ek hq ⟨hf _ _ (hc c hm).1,IH hf N _ _ _ _ _ (hc c hm).2⟩
    . exact hq
   have rows:∀(rs:List AW) s,rs.length<=K->(∀r∈rs,hp r.head/\r.cells.length<=K/\∀c∈r.cells,hp c.head/\DM hp K N c.flow)->(Ed f (Aq f N) sc mid rs s).1.length<=3*K/\∀r∈(Ed f (Aq f N) sc mid rs s).1,hp r.head/\r.cells.length<=3*K/\∀c∈r.cells,hp c.head/\DM hp (3*K) N c.flow:=λrs s hl hc=>by
    refine⟨by have:=Mo (f:=f) (fl:=Aq f N) (sc:=sc) (mid:=mid) rs ([],s);simp at this;unfold Ed;omega,?_⟩
    refine FH _ (λq:List AW×σ=>∀r∈q.1,hp r.head/\r.cells.length<=3*K/\∀c∈r.cells,hp c.head/\DM hp (3*K) N c.flow) rs _ (by simp) λq r hm hq=>?_
    unfold Cb
    dsimp only
    split
    . exact Ek hq ⟨hf _ _ (hc r hm).1,cells _ _ (hc r hm).2.1 (hc r hm).2.2⟩
    . exact hq
   refine⟨by have:=Gq (f:=f) (fl:=Aq f N) (sc:=sc) (mid:=mid) l ([],s);simp at this;unfold BU;omega,?_,?_⟩
   . have:∀(l:List AE) (q:List AE×σ),Ao (l.foldl (Dp f (Aq f N) sc mid) q).1<=Ao q.1+Ao l:=by
      intro l
      induction l with
      | nil=>intro q;simp
      | cons a l ih =>
       intro q
       have e:Ao (a::l)=a.text.size+Ao l:=by simp[Ao]
       have h1:=ih (Dp f (Aq f N) sc mid q a)
       have h2:Ao (Dp f (Aq f N) sc mid q a).1<=Ao q.1+a.text.size:=by
        unfold Dp;dsimp only;split
        . rw[Ci];simp[Ao,AE.put,AE.text]
        . omega
       simp only[YT];omega
     have:=this l ([],s)
     have e0:Ao []=0:=rfl
     unfold BU;simp only[e0]at this;omega
   . refine FH _ (λq:List AE×σ=>∀x∈q.1,LG hp (3*K) N x) l _ (by simp) λq x hm hq=>?_
     obtain⟨a1,a2,a3,a4⟩:=h3 x hm
     unfold Dp
     dsimp only
     split
     . refine Ek hq ?_
       have m3:K<=3*K:=by omega
       have up:DM hp (3*K) N x.flow:=a2.mono (λ_ h=>h) m3
       refine⟨hf _ _ a1,?_,rows _ _ a3 a4⟩
       show DM hp (3*K) N (LI (Aq f N) sc mid x _).1
       unfold LI
       split
       . exact IH hf N _ _ _ _ _ a2
       . exact up
     . exact hq
  rw[Aq]
  split
  . have p1:=parts Ar false _ s (Cv 0 sc.a h)
    generalize BU f (Aq f N) Ar false (AU l 0 sc.a).1 s=q1 at p1 ⊢
    have p2:=parts Ar true _ q1.2 (Cv sc.a sc.b h)
    dsimp only
    generalize BU f (Aq f N) Ar true (AU l sc.a sc.b).1 q1.2=q2 at p2 ⊢
    have p3:=parts Ar false _ q2.2 (Cv sc.b (A5 l).1 h)
    generalize BU f (Aq f N) Ar false (AU l sc.b (A5 l).1).1 q2.2=q3 at p3 ⊢
    refine Cf.2 ⟨by simp;omega,by simp only[Ci];omega,λx hx=>?_⟩
    simp only[Y8]at hx
    rcases hx with(hx|hx)|hx
    . exact p1.2.2 x hx
    . exact p2.2.2 x hx
    . exact p3.2.2 x hx
  . have p1:=parts sc mid _ s h
    exact Cf.2 ⟨by omega,by omega,p1.2.2⟩
end
theorem P0 {m2:List Int} {h:AF} (H:Ix m2 h):∀u∈h.all,u∈0::m2:=λu hu=>by
 have k:=H.2
 simp only[AF.all,Yg,Y8,Yp]at hu ⊢
 rcases hu with rfl|⟨x,hx,rfl⟩|⟨x,hx,rfl⟩
 . rcases k.ins with e|e
   . exact .inl e
   . exact .inr e
 . exact .inr (k.dels x hx)
 . exact .inr (k.layers x hx)
theorem Hi {m2:List Int} {K N:Nat} {W:AH} (hm:m2.length<=1000) (hK:K<=1048576) (h:DM (Ix m2) K N W.flow) (he:Ix m2 W.«end») (hr:W.revs.length<=1048576) (hs:W.settings.sized):
 W.sized/\W.normal.sized/\(BZ [] (AE.usL (An W.flow)++W.«end».all)).length<=1048576:=by
 have h1:=h.sized (λx g=>g.1) hK
 have h2:=(FK h).sized (λx g=>g.1) hK
 refine⟨⟨h1.1,h1.2,he.1,hr,hs⟩,⟨h2.1,h2.2,he.1,?_,hs⟩,?_⟩
 . exact Yo (Ze _ _) hr
 . refine Yo (Sz (L:=0::m2) λu hu=>?_) (by simp only[Yy];omega)
   rcases Y8.1 hu with hu|hu
   . exact Pc (λh g=>P0 g) (FK h) u hu
   . exact P0 he u hu
theorem QF (m2:List Int):Ix m2 E3:=⟨⟨by simp[E3],by simp[E3],by simp[E3]⟩,⟨.inl rfl,by simp[E3],by simp[E3],by simp[E3],by simp[E3]⟩⟩
theorem Ry {m2:List Int} {h:AF} (g:Ix m2 h):h.revs.length<=1048576:=by
 have a:=g.2.dlen
 have b:=g.2.llen
 unfold AF.revs
 split<;>simp<;>omega
theorem KF {l:List BD} (h:Di l=0):l.length<=256:=by
 unfold Di at h
 have hl:¬(256:Int)<l.length:=λg=>by simp[Bu,g]at h
 omega
structure Tn where
 rev:Int
 sc:Ah
 next:BD
def Tn.enc (c:Tn):SV:=.agg [AA c.rev,AA c.sc.id,AA c.sc.a,AA c.sc.b,AA c.next.id,.str c.next.author,AA c.next.time]
def Ss (w:World):Cx:=⟨λ_=>none,λ_=>False,w,λ_=>none⟩
def BB:Nat:=1048576
section
variable {H : Type} (enc : TypeId × Value → H) (P : Program) (w : World) (base : Nat) (spare : Nat → Bool) (Bf : Bool)
variable {α β : Type}
def Rd (k:Nat) (e:TypeId) (F:α->List SV) (z:Nat) (ok:α->Prop) (μ:α->Nat):Prop:=
 ∀cs x,DataW.trod enc P w base spare Bf k e cs=some x->Rows.uptoBulk x.1<=BB->∃a,VL (Ss w) (F a) cs/\cs.length=z/\(∀v∈cs,v.oneCell'=true)/\ok a/\μ a+1<=Rows.uptoBulk x.1
def CU (n:Nat) (L:Nat) (fs:List Field) (o:Nat) (F:α->List SV) (ok:α->Prop) (μ:α->Nat):Prop:=
 ∀(cs:List Value) (xs:List (DataW H×List MemPlace)),cs.length=L->xs.length=fs.length->(∀(i:Nat) (f:Field),fs[i]? = some f->DataW.trod enc P w base spare Bf n f.type ((cs.drop f.offset).take (P.cellsOf f.type))=xs[i]?)->
  Rows.uptoBulkAll (xs.map (·.1))<=BB->∃b,VL (Ss w) (F b) (cs.drop o)/\(∀v∈cs.drop o,v.oneCell'=true)/\ok b/\μ b<=Rows.uptoBulkAll (xs.map (·.1))
variable {enc P w base spare Bf}
theorem UJ {c:Cx} {a b:List SV} {x y:List Value} (h:VL c a x) (g:VL c b y):VL c (a++b) (x++y):=BJ.2 (Zt (BJ.1 h) (BJ.1 g))
theorem CU.nil {n L:Nat}:CU enc P w base spare Bf n L [] L (λ_:Unit=>[]) (λ_=>True) (λ_=>0):=λcs xs h1 h2 _ _=>by
 have:cs.drop L=[]:=List.drop_eq_nil_of_le (by omega)
 exact⟨(),by rw[this,VL],by rw[this];simp,trivial,Y4 _⟩
theorem CU.cons {n L:Nat} {f:Field} {fs:List Field} {o z:Nat} {F1:α->List SV} {F2:β->List SV} {ok1:α->Prop} {ok2:β->Prop} {μ1:α->Nat} {μ2:β->Nat} (h1:Rd enc P w base spare Bf n f.type F1 z ok1 μ1) (hz:P.cellsOf f.type=z) (ho:f.offset=o)
 (h2:CU enc P w base spare Bf n L fs (o+z) F2 ok2 μ2):CU enc P w base spare Bf n L (f::fs) o (λp:α×β=>F1 p.1++F2 p.2) (λp=>ok1 p.1/\ok2 p.2) (λp=>μ1 p.1+μ2 p.2):=λcs xs g1 g2 g3 g4=>by
 cases xs with
 | nil=>simp at g2
 | cons x xs=>
  simp only[Yf,Rows.uptoBulkAll]at g4
  have e0:=g3 0 f rfl
  rw[ho,hz]at e0
  obtain⟨a,a1,a2,a3,a4,a5⟩:=h1 _ x (by simpa using e0) (by omega)
  obtain⟨b,b1,b2,b3,b4⟩:=h2 cs xs g1 (by simpa using g2) (λi f' hf=>by have:=g3 (i+1) f' (by simpa using hf);simpa using this) (by omega)
  have ed:cs.drop o=(cs.drop o).take z++cs.drop (o+z):=by rw[<-ZW,Z4]
  refine⟨(a,b),?_,?_,⟨a4,b3⟩,?_⟩
  . rw[ed];exact UJ a1 b1
  . rw[ed];intro v hv
    rcases Y8.1 hv with hv|hv
    . exact a3 v hv
    . exact b2 v hv
  . simp only[Yf,Rows.uptoBulkAll];omega
theorem CU.rd {n L:Nat} {T:TypeId} {fs:Array Field} {F:α->List SV} {ok:α->Prop} {μ:α->Nat} (ht:P.underlying T=some (.struct fs)) (hz:P.cellsOf T=L) (h:CU enc P w base spare Bf n L fs.toList 0 F ok μ):Rd enc P w base spare Bf (n+1) T F L ok μ:=λcs x hx hb=>by
 obtain⟨xs,m,hm,rfl,hl,hlen,hf⟩:=DataW.trod_struct ht hx
 obtain rfl:n=m:=by omega
 simp only[Rows.uptoBulk]at hb ⊢
 obtain⟨b,b1,b2,b3,b4⟩:=h cs xs (by omega) (by simpa using hlen) (λi f e=>hf i f (by simpa using e)) (by omega)
 exact⟨b,by simpa using b1,by omega,by simpa using b2,b3,by omega⟩
theorem Rd.map {k e z:Nat} {F:α->List SV} {ok:α->Prop} {μ:α->Nat} (h:Rd enc P w base spare Bf k e F z ok μ) (g:α->β) {F':β->List SV} {ok':β->Prop} {μ':β->Nat} (hF:∀a,F' (g a)=F a) (hok:∀a,ok a->ok' (g a)) (hμ:∀a,μ' (g a)<=μ a):Rd enc P w base spare Bf k e F' z ok' μ':=λcs x hx hb=>by
 obtain⟨a,a1,a2,a3,a4,a5⟩:=h cs x hx hb
 exact⟨g a,by rw[hF];exact a1,a2,a3,hok a a4,by have:=hμ a;omega⟩
theorem Kn {c:Cx} {s:SV} {v:Value} (h:V c s v):VL c [s] [v]:=BJ.2 ⟨h,trivial⟩
theorem Uz {k:Nat} {T:TypeId} (ht:P.underlying T=some (.int .i64)):Rd enc P w base spare Bf k T (λn:Int=>[AA n]) 1 (λ_=>True) (λ_=>0):=λcs x hx _=>by
 obtain⟨n,rfl,rfl,_⟩:=DataW.trod_int ht hx
 exact⟨n,Kn (by rw[V]),rfl,by simp[Value.oneCell'],trivial,by simp[Rows.uptoBulk]⟩
theorem Tc {k:Nat} {T:TypeId} (ht:P.underlying T=some .bool):Rd enc P w base spare Bf k T (λn:Bool=>[.bool n]) 1 (λ_=>True) (λ_=>0):=λcs x hx _=>by
 obtain⟨n,rfl,rfl⟩:=DataW.trod_bool ht hx
 exact⟨n,Kn (by rw[V]),rfl,by simp[Value.oneCell'],trivial,by simp[Rows.uptoBulk]⟩
theorem U0 {k:Nat} {T:TypeId} (ht:P.underlying T=some .string):Rd enc P w base spare Bf k T (λs:ByteArray=>[.str s]) 1 (λs=>s.size<=BB) (λs=>s.size):=λcs x hx hb=>by
 obtain⟨s,rfl,rfl,_⟩:=DataW.trod_string ht hx
 have e:s.data.toList.length=s.size:=by rw[Zq];rfl
 simp only[Rows.uptoBulk]at hb ⊢
 exact⟨s,Kn (by rw[V]),rfl,by simp[Value.oneCell'],by omega,by omega⟩
def KT (μ:α->Nat) (l:List α):Nat:=(l.map λa=>μ a+1).sum
theorem DN (μ:α->Nat):∀l:List α,l.length<=KT μ l
 | []=>by simp
 | a::l=>by have:=DN μ l;simp only[KT,Yf,Zm,Yy]at this ⊢;omega
theorem QO {k z:Nat} {e:TypeId} {F:α->List SV} {f:α->SV} {ok:α->Prop} {μ:α->Nat} (hf:∀a,f a=.agg (F a)) (hs:∀a,(f a).storable=true) (hR:Rd enc P w base spare Bf k e F z ok μ) (hz:P.cellsOf e=z) (hz0:0<z) (a:Addr):
 ∀(ys:List (DataW H×List MemPlace)) (i:Nat),(∀j,j<ys.length->(w.cells? base (a.add ((i+j)*P.cellsOf e)) (P.cellsOf e)).bind (DataW.trod enc P w base spare Bf k e)=ys[j]?)->Rows.uptoBulkAll (ys.map (·.1))<=BB->
  ∃l:List α,∃us:List Value,l.length=ys.length/\AZ (V (Ss w)) (l.map f) us/\(∀u∈us,u.cells.size=z)/\(∀v∈us.flatMap (·.cells.toList),v.oneCell'=true)/\(∀j v,(us.flatMap (·.cells.toList))[j]? = some v->w.cell? (a.add (i*z+j))=some v)/\(∀a∈l,ok a)/\KT μ l<=Rows.uptoBulkAll (ys.map (·.1))
 | [],i,_,_=>⟨[],[],rfl,trivial,by simp,by simp,by simp,by simp,by simp[KT]⟩
 | y::ys,i,hy,hb=>by
  simp only[Yf,Rows.uptoBulkAll]at hb
  have h0:=hy 0 (by simp)
  simp only[Zx,Zj]at h0
  obtain⟨cs,hcs,hx⟩:=Option.bind_eq_some_iff.1 h0
  obtain⟨_,hcl,hce⟩:=World.cells?_some hcs
  obtain⟨b,b1,b2,b3,b4,b5⟩:=hR cs y hx (by omega)
  obtain⟨l,us,l1,l2,l3,l4,l5,l6,l7⟩:=QO hf hs hR hz hz0 a ys (i+1) (λj hj=>by have:=hy (j+1) (by simp;omega);rw[show i+1+j=i+(j+1)by omega];simpa using this) (by omega)
  have hc:(Value.agg cs.toArray).cells.toList=cs:=by simp[Value.cells]
  refine⟨b::l,.agg cs.toArray::us,by simp[l1],⟨?_,l2⟩,?_,?_,?_,?_,?_⟩
  . show V (Ss w) (f b) (.agg cs.toArray)
    rw[hf,V];exact⟨cs,rfl,b1,b3⟩
  . intro u hu
    rcases Yg.1 hu with rfl|hu
    . simpa[Value.cells]using b2
    . exact l3 u hu
  . intro v hv
    rw[YC,hc]at hv
    rcases Y8.1 hv with hv|hv
    . exact b3 v hv
    . exact l4 v hv
  . intro j v hv
    rw[YC,hc]at hv
    by_cases hj:j<z
    . rw[Zk (by omega)]at hv
      have:=hce j (by rw[hz];exact hj)
      rw[hz,hv]at this
      have e:(a.add (i*z)).add j=a.add (i*z+j):=by
       unfold Addr.add
       by_cases e1:i*z=0
       . simp[e1]
       . by_cases e2:j=0
         . simp[e1,e2]
         . simp[e1,e2,Yn]
      rw[e]at this;exact this
    . rw[YR (by omega)]at hv
      have:=l5 (j-cs.length) v hv
      rw[show(i+1)*z+(j-cs.length)=i*z+j by rw[b2,Zg,Nat.one_mul];omega]at this
      exact this
  . intro q hq
    rcases Yg.1 hq with rfl|hq
    . exact b4
    . exact l6 q hq
  . simp only[Yf,Rows.uptoBulkAll,KT,Zm]at l7 ⊢;omega
theorem Dd {k z:Nat} {e T:TypeId} {F:α->List SV} {f:α->SV} {ok:α->Prop} {μ:α->Nat} (hf:∀a,f a=.agg (F a)) (hs:∀a,(f a).storable=true) (ht:P.underlying T=some (.slice e)) (hz:P.cellsOf e=z) (hz0:0<z) (hR:∀m,m+1=k->Rd enc P w base spare Bf m e F z ok μ):
 Rd enc P w base spare Bf k T (λl:List α=>[.imm z (l.map f) false]) 1 (λl=>(∀a∈l,ok a)/\KT μ l<=BB) (KT μ):=λcs x hx hb=>by
 rcases DataW.trod_slice ht hx with⟨rfl,rfl⟩|⟨a,len,cap,elems,rest,n,hn,rfl,rfl,_,hlc,_,hel,he,_,_⟩
 . exact⟨[],Kn (by rw[V];exact .inl ⟨rfl,rfl⟩),rfl,by simp[Value.oneCell'],⟨by simp,by simp[KT]⟩,by simp[KT,Rows.uptoBulk]⟩
 . simp only[Rows.uptoBulk]at hb ⊢
   obtain⟨l,us,l1,l2,l3,l4,l5,l6,l7⟩:=QO hf hs (hR n hn.symm) hz hz0 a elems 0 (λj hj=>by rw[YW];exact he j (by omega)) (by omega)
   refine⟨l,Kn ?_,rfl,by simp[Value.oneCell'],⟨l6,by omega⟩,by omega⟩
   rw[V]
   right
   refine⟨a,cap,us.flatMap (·.cells.toList),by rw[Y5,l1,hel],by rw[Y5,l1,hel];exact hlc,by simp,?_,IU.2 ⟨us,l2,l3,λs hs'=>?_,rfl⟩⟩
   . have hsp:us.flatMap (·.cells.toList)≠[]->a.spot=none:=λhne=>by
      obtain⟨v,r,hv⟩:=List.exists_cons_of_ne_nil hne
      have:=World.cell?_spot (l5 0 v (by rw[hv];rfl))
      simpa[Addr.add]using this
     refine⟨hsp,λ_ h=>h,λi v hv=>?_,l4⟩
     have h1:=l5 i v hv
     have h2:=hsp (by rintro e;rw[e]at hv;simp at hv)
     rw[Nat.zero_mul,YW]at h1
     have e:a.add i=⟨a.block,a.off+i,none⟩:=by
      unfold Addr.add
      split
      . subst_vars;cases a;simp_all
      . rfl
     rw[e]at h1;exact h1
   . obtain⟨q,_,rfl⟩:=Yp.1 hs'
     exact hs q
end
section
variable {H : Type} {enc : TypeId × Value → H} {w : World} {base : Nat} {spare : Nat → Bool} {Bf : Bool} {α : Type}
theorem Rd.zero {e:TypeId} {F:α->List SV} {z:Nat} {ok:α->Prop} {μ:α->Nat}:Rd enc Tryz.prog w base spare Bf 0 e F z ok μ:=λcs x hx _=>by simp[DataW.trod]at hx
theorem Eh (k:Nat):Rd enc Tryz.prog w base spare Bf k 3 (λn:Int=>[AA n]) 1 (λ_=>True) (λ_=>0):=Uz Tryz.underlying3
theorem Oq (k:Nat):Rd enc Tryz.prog w base spare Bf k 9 (λs:ByteArray=>[.str s]) 1 (λs=>s.size<=BB) (λs=>s.size):=U0 Tryz.underlying9
theorem UA (k:Nat):Rd enc Tryz.prog w base spare Bf k 4 (λb:Bool=>[.bool b]) 1 (λ_=>True) (λ_=>0):=Tc Tryz.underlying4
def E8.F (p:E8):List SV:=[AA p.key,AA p.value]
theorem rPrp:∀k,Rd enc Tryz.prog w base spare Bf k 193 E8.F 2 (λ_=>True) (λ_=>0)
 | 0=>Rd.zero
 | k+1=>(CU.rd Tryz.underlying193 (by kernel_rfl) (CU.cons (Eh k) (by kernel_rfl) rfl (CU.cons (Eh k) (by kernel_rfl) rfl CU.nil))).map (λp=>⟨p.1,p.2.1⟩) (λ_=>rfl) (λ_ _=>trivial) (λ_=>Y4 _)
def BO.F (p:BO):List SV:=[AA p.rev,AA p.move]
theorem rDel:∀k,Rd enc Tryz.prog w base spare Bf k 166 BO.F 2 (λ_=>True) (λ_=>0)
 | 0=>Rd.zero
 | k+1=>(CU.rd Tryz.underlying166 (by kernel_rfl) (CU.cons (Eh k) (by kernel_rfl) rfl (CU.cons (Eh k) (by kernel_rfl) rfl CU.nil))).map (λp=>⟨p.1,p.2.1⟩) (λ_=>rfl) (λ_ _=>trivial) (λ_=>Y4 _)
def Ax.F (p:Ax):List SV:=[AA p.rev,AA p.key,AA p.before,.bool p.had]
theorem Ut:∀k,Rd enc Tryz.prog w base spare Bf k 164 Ax.F 4 (λ_=>True) (λ_=>0)
 | 0=>Rd.zero
 | k+1=>(CU.rd Tryz.underlying164 (by kernel_rfl) (CU.cons (Eh k) (by kernel_rfl) rfl (CU.cons (Eh k) (by kernel_rfl) rfl (CU.cons (Eh k) (by kernel_rfl) rfl (CU.cons (UA k) (by kernel_rfl) rfl CU.nil))))).map (λp=>⟨p.1,p.2.1,p.2.2.1,p.2.2.2.1⟩) (λ_=>rfl) (λ_ _=>trivial) (λ_=>Y4 _)
def BD.F (p:BD):List SV:=[AA p.id,.str p.author,AA p.time]
theorem rRev:∀k,Rd enc Tryz.prog w base spare Bf k 42 BD.F 3 (λr=>r.author.size<=BB) (λ_=>0)
 | 0=>Rd.zero
 | k+1=>(CU.rd Tryz.underlying42 (by kernel_rfl) (CU.cons (Eh k) (by kernel_rfl) rfl (CU.cons (Oq k) (by kernel_rfl) rfl (CU.cons (Eh k) (by kernel_rfl) rfl CU.nil)))).map (λp=>(⟨p.1,p.2.1,p.2.2.1⟩:BD)) (λ_=>rfl) (λ_ h=>h.2.1) (λ_=>Y4 _)
theorem SS (k:Nat):Rd enc Tryz.prog w base spare Bf k 23 (λl:List E8=>[Af l]) 1 (λl=>l.length<=BB) (λ_=>0):=
 (Dd (f:=E8.enc) (F:=E8.F) (λ_=>rfl) E8.E.st Tryz.underlying23 (by kernel_rfl) (by omega) (λm _=>rPrp m)).map (λl=>l) (λ_=>rfl) (λl h=>by have:=DN (λ_=>0) l;have:=h.2;omega) (λ_=>Y4 _)
theorem rDels (k:Nat):Rd enc Tryz.prog w base spare Bf k 24 (λl:List BO=>[Aa l]) 1 (λl=>l.length<=BB) (λ_=>0):=
 (Dd (f:=BO.enc) (F:=BO.F) (λ_=>rfl) BO.E.st Tryz.underlying24 (by kernel_rfl) (by omega) (λm _=>rDel m)).map (λl=>l) (λ_=>rfl) (λl h=>by have:=DN (λ_=>0) l;have:=h.2;omega) (λ_=>Y4 _)
theorem TZ (k:Nat):Rd enc Tryz.prog w base spare Bf k 25 (λl:List Ax=>[AQ l]) 1 (λl=>l.length<=BB) (λ_=>0):=
 (Dd (f:=Ax.enc) (F:=Ax.F) (λ_=>rfl) Ax.E.st Tryz.underlying25 (by kernel_rfl) (by omega) (λm _=>Ut m)).map (λl=>l) (λ_=>rfl) (λl h=>by have:=DN (λ_=>0) l;have:=h.2;omega) (λ_=>Y4 _)
theorem rRevs (k:Nat):Rd enc Tryz.prog w base spare Bf k 30 (λl:List BD=>[Aw l]) 1 (λl=>l.length<=BB/\∀r∈l,r.author.size<=BB) (λ_=>0):=
 (Dd (f:=BD.enc) (F:=BD.F) (λ_=>rfl) BD.E.st Tryz.underlying30 (by kernel_rfl) (by omega) (λm _=>rRev m)).map (λl=>l) (λ_=>rfl) (λl h=>⟨by have:=DN (λ_=>0) l;have:=h.2;omega,h.1⟩) (λ_=>Y4 _)
theorem Uw:∀k,Rd enc Tryz.prog w base spare Bf k 27 (λm:Int×Int×List BO×List Ax=>[AA m.1,AA m.2.1,Aa m.2.2.1,AQ m.2.2.2]) 4 (λm=>m.2.2.1.length<=BB/\m.2.2.2.length<=BB) (λ_=>0)
 | 0=>Rd.zero
 | k+1=>(CU.rd Tryz.underlying27 (by kernel_rfl) (CU.cons (Eh k) (by kernel_rfl) rfl (CU.cons (Eh k) (by kernel_rfl) rfl (CU.cons (rDels k) (by kernel_rfl) rfl (CU.cons (TZ k) (by kernel_rfl) rfl CU.nil))))).map (λp=>(p.1,p.2.1,p.2.2.1,p.2.2.2.1)) (λ_=>rfl) (λ_ h=>⟨h.2.2.1,h.2.2.2.1⟩) (λ_=>Y4 _)
theorem QN:∀k,Rd enc Tryz.prog w base spare Bf k 29 AF.flat 5 AF.sized (λ_=>0)
 | 0=>Rd.zero
 | k+1=>(CU.rd Tryz.underlying29 (by kernel_rfl) (CU.cons (SS k) (by kernel_rfl) rfl (CU.cons (Uw k) (by kernel_rfl) rfl CU.nil))).map (λp=>(⟨p.1,p.2.1.1,p.2.1.2.1,p.2.1.2.2.1,p.2.1.2.2.2⟩:AF)) (λ_=>rfl) (λ_ h=>⟨h.1,h.2.1.1,h.2.1.2⟩) (λ_=>Y4 _)
def AE.F (x:AE):List SV:=[AA x.kind,AA x.code,AA x.id,.str x.text,Af x.head.props,AA x.head.ins,AA x.head.move,Aa x.head.dels,AQ x.head.layers,AG x.flow,Av x.rows]
def AW.F (x:AW):List SV:=[Af x.head.props,AA x.head.ins,AA x.head.move,Aa x.head.dels,AQ x.head.layers,BQ x.cells]
def AL.F (x:AL):List SV:=[AA x.id,Af x.head.props,AA x.head.ins,AA x.head.move,Aa x.head.dels,AQ x.head.layers,AG x.flow]
def TU (N:Nat) (c:AL):Prop:=c.head.sized/\DM AF.sized BB N c.flow
def Um (N:Nat) (r:AW):Prop:=r.head.sized/\r.cells.length<=BB/\∀c∈r.cells,TU N c
theorem M8:∀l:List AE,Ao l<=KT (λx=>x.text.size) l
 | []=>by simp[Ao]
 | x::l=>by
  have:=M8 l
  simp only[Ao,KT,Yf,Zm]at this ⊢;omega
theorem Us:∀k,Rd enc Tryz.prog w base spare Bf k 22 (λl:List AE=>[AG l]) 1 (λl=>∀N,k<N->DM AF.sized BB N l) (KT λx=>x.text.size):=λk=>by
 induction k using Nat.strongRecOn with
 | ind k ih=>
 have cell:∀m,m<k->Rd enc Tryz.prog w base spare Bf m 171 AL.F 7 (λc=>∀N,m<=N->TU N c) (λ_=>0):=λm hm=>by
  cases m with
  | zero=>exact Rd.zero
  | succ m=>
   exact(CU.rd Tryz.underlying171 (by kernel_rfl) (CU.cons (Eh m) (by kernel_rfl) rfl (CU.cons (QN m) (by kernel_rfl) rfl (CU.cons (ih m (by omega)) (by kernel_rfl) rfl CU.nil)))).map (λp=>AL.mk p.1 p.2.1 p.2.2.1) (λ_=>rfl) (λ_ h N hN=>⟨h.2.1,h.2.2.1 N (by omega)⟩) (λ_=>Y4 _)
 have cells:∀m,m<k->Rd enc Tryz.prog w base spare Bf m 167 (λl:List AL=>[BQ l]) 1 (λl=>l.length<=BB/\∀c∈l,∀N,m<=N->TU N c) (λ_=>0):=λm hm=>
  (Dd (f:=AL.enc) (F:=AL.F) (ok:=λc=>∀N,m<=N->TU N c) (λc=>Z9 c) AL.E.st Tryz.underlying167 (by kernel_rfl) (by omega) (λq hq=>(cell q (by omega)).map (λc=>c) (λ_=>rfl) (λ_ h N hN=>h N (by omega)) (λ_=>Y1 _))).map (λl=>l) (λ_=>rfl) (λl h=>⟨by have:=DN (λ_=>0) l;have:=h.2;omega,h.1⟩) (λ_=>Y4 _)
 have row:∀m,m<k->Rd enc Tryz.prog w base spare Bf m 169 AW.F 6 (λr=>∀N,m<=N->Um N r) (λ_=>0):=λm hm=>by
  cases m with
  | zero=>exact Rd.zero
  | succ m=>
   exact(CU.rd Tryz.underlying169 (by kernel_rfl) (CU.cons (QN m) (by kernel_rfl) rfl (CU.cons (cells m (by omega)) (by kernel_rfl) rfl CU.nil))).map (λp=>AW.mk p.1 p.2.1) (λ_=>rfl) (λ_ h N hN=>⟨h.1,h.2.1.1,λc hc=>h.2.1.2 c hc N (by omega)⟩) (λ_=>Y4 _)
 have rows:∀m,m<k->Rd enc Tryz.prog w base spare Bf m 68 (λl:List AW=>[Av l]) 1 (λl=>l.length<=BB/\∀c∈l,∀N,m<=N->Um N c) (λ_=>0):=λm hm=>
  (Dd (f:=AW.enc) (F:=AW.F) (ok:=λc=>∀N,m<=N->Um N c) (λc=>YB c) AW.E.st Tryz.underlying68 (by kernel_rfl) (by omega) (λq hq=>(row q (by omega)).map (λc=>c) (λ_=>rfl) (λ_ h N hN=>h N (by omega)) (λ_=>Y1 _))).map (λl=>l) (λ_=>rfl) (λl h=>⟨by have:=DN (λ_=>0) l;have:=h.2;omega,h.1⟩) (λ_=>Y4 _)
 have item:∀m,m<k->Rd enc Tryz.prog w base spare Bf m 70 AE.F 11 (λx=>∀N,m<=N->LG AF.sized BB N x) (λx=>x.text.size):=λm hm=>by
  cases m with
  | zero=>exact Rd.zero
  | succ m =>
   exact(CU.rd Tryz.underlying70 (by kernel_rfl) (CU.cons (Eh m) (by kernel_rfl) rfl (CU.cons (Eh m) (by kernel_rfl) rfl (CU.cons (Eh m) (by kernel_rfl) rfl (CU.cons (Oq m) (by kernel_rfl) rfl (CU.cons (QN m) (by kernel_rfl) rfl (CU.cons (ih m (by omega)) (by kernel_rfl) rfl (CU.cons (rows m (by omega)) (by kernel_rfl) rfl CU.nil)))))))).map (λp=>AE.mk p.1 p.2.1 p.2.2.1 p.2.2.2.1 p.2.2.2.2.1 p.2.2.2.2.2.1 p.2.2.2.2.2.2.1) (λ_=>rfl)
    (λ_ h N hN=>⟨h.2.2.2.2.1,h.2.2.2.2.2.1 N (by omega),h.2.2.2.2.2.2.1.1,λr hr=>h.2.2.2.2.2.2.1.2 r hr N (by omega)⟩) (λp=>by show p.2.2.2.1.size<=_;omega)
 exact(Dd (f:=AE.enc) (F:=AE.F) (ok:=λx=>∀N,k<=N+1->LG AF.sized BB N x) (λc=>Yh c) AE.E.st Tryz.underlying22 (by kernel_rfl) (by omega) (λq hq=>(item q (by omega)).map (λc=>c) (λ_=>rfl) (λ_ h N hN=>h N (by omega)) (λ_=>Y1 _))).map (λl=>l) (λ_=>rfl) (λl h N hN=>by
  cases N with
  | zero=>omega
  | succ N=>
   have h1:=DN (λx:AE=>x.text.size) l
   have h2:=M8 l
   have h3:=h.2
   exact Cf.2 ⟨by omega,by omega,λx hx=>h.1 x hx N (by omega)⟩) (λ_=>Y1 _)
end
section
variable {H : Type} {enc : TypeId × Value → H} {w : World} {base : Nat} {spare : Nat → Bool} {Bf : Bool} {α : Type}
def Az.F (s:Az):List SV:=[AA s.id,AA s.kind,.str s.name,AA s.base,AA s.next,Af s.props]
theorem Uy:∀k,Rd enc Tryz.prog w base spare Bf k 198 Az.F 6 (λs=>s.props.length<=BB) (λ_=>0)
 | 0=>Rd.zero
 | k+1=>(CU.rd Tryz.underlying198 (by kernel_rfl) (CU.cons (Eh k) (by kernel_rfl) rfl (CU.cons (Eh k) (by kernel_rfl) rfl (CU.cons (Oq k) (by kernel_rfl) rfl (CU.cons (Eh k) (by kernel_rfl) rfl (CU.cons (Eh k) (by kernel_rfl) rfl (CU.cons (SS k) (by kernel_rfl) rfl CU.nil))))))).map
  (λp=>(⟨p.1,p.2.1,p.2.2.1,p.2.2.2.1,p.2.2.2.2.1,p.2.2.2.2.2.1⟩:Az)) (λ_=>rfl) (λ_ h=>h.2.2.2.2.2.1) (λ_=>Y4 _)
def CV.F (s:CV):List SV:=[AA s.format,AA s.start,.str s.template,AA s.restart]
theorem Uu:∀k,Rd enc Tryz.prog w base spare Bf k 106 CV.F 4 (λs=>s.template.size<=BB) (λ_=>0)
 | 0=>Rd.zero
 | k+1=>(CU.rd Tryz.underlying106 (by kernel_rfl) (CU.cons (Eh k) (by kernel_rfl) rfl (CU.cons (Eh k) (by kernel_rfl) rfl (CU.cons (Oq k) (by kernel_rfl) rfl (CU.cons (Eh k) (by kernel_rfl) rfl CU.nil))))).map
  (λp=>(⟨p.1,p.2.1,p.2.2.1,p.2.2.2.1⟩:CV)) (λ_=>rfl) (λ_ h=>h.2.2.1) (λ_=>Y4 _)
theorem Ta (k:Nat):Rd enc Tryz.prog w base spare Bf k 101 (λl:List CV=>[DC l]) 1 (λl=>l.length<=BB/\∀r∈l,r.template.size<=BB) (λ_=>0):=
 (Dd (f:=CV.enc) (F:=CV.F) (λ_=>rfl) CV.E.st Tryz.underlying101 (by kernel_rfl) (by omega) (λm _=>Uu m)).map (λl=>l) (λ_=>rfl) (λl h=>⟨by have:=DN (λ_=>0) l;have:=h.2;omega,h.1⟩) (λ_=>Y4 _)
def FQ.F (s:FQ):List SV:=[AA s.id,DC s.levels]
theorem rLst:∀k,Rd enc Tryz.prog w base spare Bf k 103 FQ.F 2 (λs=>s.levels.length<=BB/\∀r∈s.levels,r.template.size<=BB) (λ_=>0)
 | 0=>Rd.zero
 | k+1=>(CU.rd Tryz.underlying103 (by kernel_rfl) (CU.cons (Eh k) (by kernel_rfl) rfl (CU.cons (Ta k) (by kernel_rfl) rfl CU.nil))).map (λp=>(⟨p.1,p.2.1⟩:FQ)) (λ_=>rfl) (λ_ h=>h.2.1) (λ_=>Y4 _)
def As.F (c:As):List SV:=[AA c.id,AA c.parent,.str c.author,AA c.time,.str c.text,.bool c.done]
theorem SR:∀k,Rd enc Tryz.prog w base spare Bf k 115 As.F 6 (λs=>s.author.size<=BB/\s.text.size<=BB) (λ_=>0)
 | 0=>Rd.zero
 | k+1=>(CU.rd Tryz.underlying115 (by kernel_rfl) (CU.cons (Eh k) (by kernel_rfl) rfl (CU.cons (Eh k) (by kernel_rfl) rfl (CU.cons (Oq k) (by kernel_rfl) rfl (CU.cons (Eh k) (by kernel_rfl) rfl (CU.cons (Oq k) (by kernel_rfl) rfl (CU.cons (UA k) (by kernel_rfl) rfl CU.nil))))))).map
  (λp=>(⟨p.1,p.2.1,p.2.2.1,p.2.2.2.1,p.2.2.2.2.1,p.2.2.2.2.2.1⟩:As)) (λ_=>rfl) (λ_ h=>⟨h.2.2.1,h.2.2.2.2.1⟩) (λ_=>Y4 _)
def Fa.F (c:Fa):List SV:=[.str c.name,.str c.value]
theorem rVar:∀k,Rd enc Tryz.prog w base spare Bf k 118 Fa.F 2 (λs=>s.name.size<=BB/\s.value.size<=BB) (λ_=>0)
 | 0=>Rd.zero
 | k+1=>(CU.rd Tryz.underlying118 (by kernel_rfl) (CU.cons (Oq k) (by kernel_rfl) rfl (CU.cons (Oq k) (by kernel_rfl) rfl CU.nil))).map (λp=>(⟨p.1,p.2.1⟩:Fa)) (λ_=>rfl) (λ_ h=>⟨h.1,h.2.1⟩) (λ_=>Y4 _)
theorem Tb (k:Nat):Rd enc Tryz.prog w base spare Bf k 31 (λl:List Az=>[Ad l]) 1 (λl=>l.length<=BB/\∀r∈l,r.props.length<=BB) (λ_=>0):=
 (Dd (f:=Az.enc) (F:=Az.F) (λ_=>rfl) Az.E.st Tryz.underlying31 (by kernel_rfl) (by omega) (λm _=>Uy m)).map (λl=>l) (λ_=>rfl) (λl h=>⟨by have:=DN (λ_=>0) l;have:=h.2;omega,h.1⟩) (λ_=>Y4 _)
theorem Uv (k:Nat):Rd enc Tryz.prog w base spare Bf k 32 (λl:List FQ=>[DW l]) 1 (λl=>l.length<=BB/\∀s∈l,s.levels.length<=BB/\∀r∈s.levels,r.template.size<=BB) (λ_=>0):=
 (Dd (f:=FQ.enc) (F:=FQ.F) (λ_=>rfl) FQ.E.st Tryz.underlying32 (by kernel_rfl) (by omega) (λm _=>rLst m)).map (λl=>l) (λ_=>rfl) (λl h=>⟨by have:=DN (λ_=>0) l;have:=h.2;omega,h.1⟩) (λ_=>Y4 _)
theorem Qn (k:Nat):Rd enc Tryz.prog w base spare Bf k 33 (λl:List As=>[BW l]) 1 (λl=>l.length<=BB/\∀s∈l,s.author.size<=BB/\s.text.size<=BB) (λ_=>0):=
 (Dd (f:=As.enc) (F:=As.F) (λ_=>rfl) As.E.st Tryz.underlying33 (by kernel_rfl) (by omega) (λm _=>SR m)).map (λl=>l) (λ_=>rfl) (λl h=>⟨by have:=DN (λ_=>0) l;have:=h.2;omega,h.1⟩) (λ_=>Y4 _)
theorem rVars (k:Nat):Rd enc Tryz.prog w base spare Bf k 34 (λl:List Fa=>[FA l]) 1 (λl=>l.length<=BB/\∀s∈l,s.name.size<=BB/\s.value.size<=BB) (λ_=>0):=
 (Dd (f:=Fa.enc) (F:=Fa.F) (λ_=>rfl) Fa.E.st Tryz.underlying34 (by kernel_rfl) (by omega) (λm _=>rVar m)).map (λl=>l) (λ_=>rfl) (λl h=>⟨by have:=DN (λ_=>0) l;have:=h.2;omega,h.1⟩) (λ_=>Y4 _)
theorem Qq:∀k,Rd enc Tryz.prog w base spare Bf k 36 AJ.flat 4 AJ.sizedT (λ_=>0)
 | 0=>Rd.zero
 | k+1=>(CU.rd Tryz.underlying36 (by kernel_rfl) (CU.cons (Tb k) (by kernel_rfl) rfl (CU.cons (Uv k) (by kernel_rfl) rfl (CU.cons (Qn k) (by kernel_rfl) rfl (CU.cons (rVars k) (by kernel_rfl) rfl CU.nil))))).map
  (λp=>(⟨p.1,p.2.1,p.2.2.1,p.2.2.2.1⟩:AJ)) (λ_=>rfl) (λ_ h=>⟨⟨h.1.1,h.2.1.1,h.2.2.1.1,h.2.2.2.1.1,h.1.2,λx hx=>(h.2.1.2 x hx).1⟩,λx hx=>(h.2.1.2 x hx).2,h.2.2.1.2,h.2.2.2.1.2⟩) (λ_=>Y4 _)
def AH.F (d:AH):List SV:=[AG d.flow]++d.«end».flat++[Aw d.revs]++d.settings.flat
theorem Qo:∀k,Rd enc Tryz.prog w base spare Bf k 38 AH.F 11 (λd=>d.sizedT BB k) (λ_=>0)
 | 0=>Rd.zero
 | k+1=>(CU.rd Tryz.underlying38 (by kernel_rfl) (CU.cons (Us k) (by kernel_rfl) rfl (CU.cons (QN k) (by kernel_rfl) rfl (CU.cons (rRevs k) (by kernel_rfl) rfl (CU.cons (Qq k) (by kernel_rfl) rfl CU.nil))))).map
  (λp=>(⟨p.1,p.2.1,p.2.2.1,p.2.2.2.1⟩:AH)) (λ_=>rfl) (λ_ h=>⟨h.1 _ (by omega),h.2.1,h.2.2.1.1,h.2.2.1.2,h.2.2.2.1⟩) (λ_=>Y4 _)
def Ah.F (s:Ah):List SV:=[AA s.id,AA s.a,AA s.b]
theorem Ux:∀k,Rd enc Tryz.prog w base spare Bf k 40 Ah.F 3 (λ_=>True) (λ_=>0)
 | 0=>Rd.zero
 | k+1=>(CU.rd Tryz.underlying40 (by kernel_rfl) (CU.cons (Eh k) (by kernel_rfl) rfl (CU.cons (Eh k) (by kernel_rfl) rfl (CU.cons (Eh k) (by kernel_rfl) rfl CU.nil)))).map (λp=>(⟨p.1,p.2.1,p.2.2.1⟩:Ah)) (λ_=>rfl) (λ_ _=>trivial) (λ_=>Y4 _)
def Tn.F (c:Tn):List SV:=[AA c.rev,AA c.sc.id,AA c.sc.a,AA c.sc.b,AA c.next.id,.str c.next.author,AA c.next.time]
theorem rCut:∀k,Rd enc Tryz.prog w base spare Bf k 44 Tn.F 7 (λc=>c.next.author.size<=BB) (λ_=>0)
 | 0=>Rd.zero
 | k+1=>(CU.rd Tryz.underlying44 (by kernel_rfl) (CU.cons (Eh k) (by kernel_rfl) rfl (CU.cons (Ux k) (by kernel_rfl) rfl (CU.cons (rRev k) (by kernel_rfl) rfl CU.nil)))).map (λp=>(⟨p.1,p.2.1,p.2.2.1⟩:Tn)) (λ_=>rfl) (λ_ h=>h.2.2.1) (λ_=>Y4 _)
theorem Rd.arg {k e z:Nat} {F:α->List SV} {ok:α->Prop} {μ:α->Nat} (h:Rd enc Tryz.prog w base spare Bf k e F z ok μ) {fs:Array Field} (ht:Tryz.prog.underlying e=some (.struct fs)) {r:Reach} {b0:Nat} {v:Value} (hv:Value.okWide Tryz.prog w r b0 e v) {x:DataW H×List MemPlace}
 (hx:DataW.trod enc Tryz.prog w base spare Bf k e v.cells.toList=some x) (hb:Rows.uptoBulk x.1<=BB):∃a,V (Ss w) (.agg (F a)) v/\ok a:=by
 simp only[Value.okWide,ht]at hv
 obtain⟨cs,rfl,_,_⟩:=hv
 obtain⟨a,a1,a2,a3,a4,a5⟩:=h _ x hx hb
 refine⟨a,?_,a4⟩
 rw[V]
 exact⟨cs.toList,by simp,by simpa[Value.cells]using a1,by simpa[Value.cells]using a3⟩
end
open Go.ChangeShapes Go.WideShapes Go.ChangeAt Go.RowKit
theorem kidsT:Kids Tryz.prog (· < Tryz.prog.types.size):=kids_rows (by kernel_rfl) (by kernel_rfl)
theorem fullT:∀t e,t<Tryz.prog.types.size->Tryz.prog.underlying t=some (.slice e)->0<Tryz.prog.cellsOf e:=slices_full_of Tryz.prog (by kernel_rfl)
section
variable {H : Type} {enc : TypeId × Value → H}
theorem Qf {W:World} {c':Cx} (x:DD (Ss W) c') {b:Nat} (h:b<W.heap.size):c'.w.heap[b]? = W.heap[b]?:=(x.keep b h (λh=>h)).2
theorem OA {P:Program} {w w':World} {base:Nat} {sp:Nat->Bool} {Bf:Bool} (hw:∀b,b<w.heap.size->w'.heap[b]? = w.heap[b]?):∀{ts:List TypeId} {vs:List Value} {ds:List (DataW H)} {ps:List MemPlace},DataW.TrodAll enc P w base sp Bf ts vs ds ps->(∀p∈ps,p.block<w.heap.size)->DataW.TrodAll enc P w' base sp Bf ts vs ds ps
 | [],[],[],_,h,_=>h
 | _ :: _, _ :: _, _ :: _, _, ⟨p, q, ⟨n, h1⟩, h2, e⟩, hs => by
  have hp:∀x∈p,w.sameAt w' x:=λx hx=>by
   have hb:=hs x (by rw[e];exact Zv _ hx)
   cases x with
   | cell b off=>simp only[World.sameAt,World.cell?,hw b hb]
   | map b=>exact hw b hb
  exact⟨p,q,⟨n,DataW.trod_carry n _ _ _ h1 hp⟩,OA hw h2 (λx hx=>hs x (by rw[e];exact Zr _ hx)),e⟩
theorem Pe {f:Func} {s:ChangeSpec} {apart fresh handsOn again:Bool} {W W':World} {args:Array Value} {v:Value} {ds gs:List (DataW H)} {before:List MemPlace} {x:DataW H}
 (hW:DataW.Whole enc Tryz.prog f.params.toList s.vars apart W args.toList ds gs before) (hv:s.vars=[]) (hpt:∀t∈f.params.toList,t<Tryz.prog.types.size)
 (hos:W'.os=W.os) (hout:W'.output=W.output) (hw:∀b,b<W.heap.size->W'.heap[b]? = W.heap[b]?)
 (hfn:s.fn H (ds++gs)={ results:=[x],args:=ds })
 (hres:∀(b:Nat) (sp:Nat->Bool) (hd:Bool),DataW.TrodAll enc Tryz.prog W' b sp hd f.resultTypes.toList (v.resultList f.resultTypes.size) [x] [])
 (hok:∀(j:Nat) (t:TypeId) (r:Value),f.resultTypes[j]? = some t->(v.resultList f.resultTypes.size)[j]? = some r->Value.okWide Tryz.prog W' .any 0 t r):
 s.post enc Tryz.prog f apart fresh handsOn again W args v W':=by
 have hlt:=hW.lt
 have hW2:=hW
 obtain⟨p,q,h1,h2,rfl,hz,hn⟩:=hW
 rw[hv]at h2
 obtain⟨rfl,rfl⟩:=trodVars_none h2
 rw[Zi]at hlt hz hn hW2
 have c1:=OA hw h1 hlt
 have c2:∀sp:Nat->Bool,(∀x∈p,sp x.block=true)->DataW.TrodAll enc Tryz.prog W' 0 sp true f.params.toList args.toList ds p:=λsp hs=>DataW.TrodAll.respare kidsT fullT hpt c1 hs
 have hvars:∀sp:Nat->Bool,DataW.TrodVars enc Tryz.prog W' sp s.vars [] []:=λsp=>by rw[hv];rfl
 refine⟨ds,[],p,[],p,[],hW2,by rw[hfn];exact hres _ _ _,by rw[hfn];exact c2 _ (λx hx=>by simpa using hlt x hx),by rw[hfn];exact hvars _,?_,λ_=>?_⟩
 . refine⟨hos,hout,λi hi=>?_⟩
   rw[hw i hi]
   generalize W.heap[i]? = o
   cases o with
   | none=>rfl
   | some b=>cases b<;>simp
 . refine⟨hok,x::ds,[],p,⟨p,[],by simpa using trodAll_append (c2 _ (λ_ _=>rfl)) (hres 0 (λ_=>true) true),hvars _,by simp,?_,hn⟩,λx hx _=>hx⟩
   intro b off hp
   have hb:=hlt _ hp
   have:=hz b off hp
   simp only[World.frozen?]at this ⊢
   rw[hw b hb];exact this
theorem rel0 (W:World):Bl (λ_=>none) (Ss W):=⟨λ_ _ h=>(by cases h),λ_ _ _ _ _ h=>(by cases h),λb=>⟨λh=>h.elim,λ⟨_,_,h,_⟩=>(by cases h)⟩⟩
theorem PC.calls {f:FuncId} {a:List SV} {v:SV} (h:PC f a v) {W:World} {vs:List Value} (hv:AZ (V (Ss W)) a vs):Calls Tryz.prog f vs.toArray W λe W'=>∃u c',e=.returned u/\c'.w=W'/\V c' v u/\DD (Ss W) c':=by
 have:=(h (λ_=>none) 0).2 (Ss W) vs trivial (rel0 W) (λ_ _=>rfl) hv
 refine this.mono ?_
 rintro e W' ⟨u,v',h',n',c',rfl,⟨rfl,_⟩,hw,hV,_,_,hA⟩
 exact⟨u,c',rfl,hw,hV,hA.ext⟩
end
end Go.Proofs.YtgakninlhfkkmaaGreat.Sh
namespace Go.Proofs.YtgakninlhfkkmaaGreat.Sh
open Proofs
set_option maxRecDepth 10000
abbrev TX (b:Bool):Nat:=if b then 1 else 0
mutual
def AE.wt (u:AF->Bool):AE->List Nat
 | .mk k _ _ t h f r=>if k=1 then List.replicate (if CW t then C9 t t.size else 0) (TX (u h))else[TX (u h)+(if k=6 then AE.wts u f else 0)+(if k=7 then AW.wts u r else 0)]
def AE.wts (u:AF->Bool):List AE->Nat
 | []=>0
 | x::l=>(AE.wt u x).sum+AE.wts u l
def AW.wt (u:AF->Bool):AW->Nat
 | .mk h c=>TX (u h)+AL.wts u c
def AW.wts (u:AF->Bool):List AW->Nat
 | []=>0
 | x::l=>AW.wt u x+AW.wts u l
def AL.wt (u:AF->Bool):AL->Nat
 | .mk _ h f=>TX (u h)+AE.wts u f
def AL.wts (u:AF->Bool):List AL->Nat
 | []=>0
 | x::l=>AL.wt u x+AL.wts u l
end
section
variable (u : AF → Bool)
def val (x:AE):Prop:=CW x.text=true/\(x.kind=7->x.rows≠[])
theorem OK {l:List AW} (h:∀r∈l,r.cells≠[]):(l.map AW.nrm).filter (λr=>!decide (r.cells.length=0))=l.map AW.nrm:=by
 rw[Zd]
 intro r hr
 obtain⟨r0,h0,rfl⟩:=Yp.1 hr
 have er:(AW.nrm r0).cells=r0.cells.map AL.nrm:=by cases r0;rw[AW.nrm,Xj];rfl
 rw[er,Y5]
 have:=Yi.2 (h r0 h0)
 simp;intro e;rw[e]at this;simp at this
end
section
variable (u : AF → Bool) (w : Bool) (it : Int → List AE → Bool → Nat) (mid : Bool)
end
section
variable (u : AF → Bool) (w : Bool) (sc : Ah)
end
abbrev wr (x:Int):Int:=IntKind.i64.wrap x
section
variable (rev : Int) (sc : Ah)
end
section
variable (g : Bool → AF → AF) (sc : Ah)
def gF (s:Unit) (p:BY):AF×Bool×Unit:=(g p.mid p.head,true,s)
def Ur (it:Int->List AE->Bool->Unit->List AE×Unit) (mid:Bool) (c:AL):AL:=.mk c.id (g mid c.head) (it c.id c.flow mid ()).1
def RJ (it:Int->List AE->Bool->Unit->List AE×Unit) (mid:Bool) (r:AW):AW:=.mk (g mid r.head) (r.cells.map (Ur g it mid))
def Su (it:Int->List AE->Bool->Unit->List AE×Unit) (mid:Bool) (x:AE):AE:=x.put (g mid x.head) (if x.kind=6 then(it x.id x.flow mid ()).1 else x.flow) (if x.kind=7 then x.rows.map (RJ g it mid)else x.rows)
theorem GH {α β:Type} (f:α->β) (st:List β×Unit->α->List β×Unit):∀(l:List α) (q:List β×Unit),(∀x∈l,∀q,(st q x).1=q.1++[f x])->(l.foldl st q).1=q.1++l.map f
 | [],q,_=>by simp
 | x::l,q,h=>by rw[YT,GH f st l _ λy hy=>h y (by simp[hy]),h x (by simp)];simp
theorem Jp (it:Int->List AE->Bool->Unit->List AE×Unit) (mid:Bool) (l:List AE):(BK (gF g) it mid l ()).1=l.map (Su g it mid):=by
 unfold BK
 rw[GH (Su g it mid) _ l _ λx hx q=>?_];simp
 simp only[CK,gF,if_true,Su,Cr]
 by_cases k6:x.kind=6
 . simp[k6]
 . by_cases k7:x.kind=7
   . simp only[k7,show ¬(7:Int)=6 by decide,if_true,if_false]
     congr 3
     unfold Gy
     rw[GH (RJ g it mid) _ _ _ λr hr q=>?_];simp
     simp only[Et,gF,if_true,RJ]
     congr 3
     unfold EP
     rw[GH (Ur g it mid) _ _ _ λc hc q=>?_];simp
     simp only[Dl,gF,if_true,Ur]
   . simp[k6,k7]
end
section
variable (g : Bool → AF → AF) (sc : Ah) (u : AF → Bool)
end
section
variable (g : Bool → AF → AF) (sc : Ah)
variable (u v : AF → Bool) (w : Bool)
end
def lt2 (hp:AF->Prop) (L T:Nat):Nat->List AE->Prop
 | 0,_=>False
 | N+1,l=>l.length<=L/\Ao l<=T/\∀x∈l,hp x.head/\lt2 hp L T N x.flow/\x.rows.length<=L/\∀r∈x.rows,hp r.head/\r.cells.length<=L/\∀c∈r.cells,hp c.head/\lt2 hp L T N c.flow
section
variable {hp hp' : AF → Prop} (g : Bool → AF → AF) (sc : Ah)
end
theorem P6 {l:List BO} {i:Nat} (h:i<l.length):G5 l i∈l:=by
 have:G5 l i=l[i]:=by simp[G5,List.getD,h]
 rw[this];exact Yc h
theorem RA {l:List BO} {j:Nat} (h:j+1<l.length) (x:BO):x∈H7 l j↔x∈l:=by
 have e1:G5 l j=l[j]:=by simp[G5,List.getD,show j<l.length by omega]
 have e2:G5 l (j+1)=l[j+1]:=by simp[G5,List.getD,h]
 unfold H7
 have d1:l.getD j VK=l[j]:=e1
 have d2:l.getD (j+1) VK=l[j+1]:=e2
 constructor
 . intro hx
   rcases List.mem_or_eq_of_mem_set hx with hx|rfl
   . rcases List.mem_or_eq_of_mem_set hx with hx|rfl
     . exact hx
     . exact P6 (by omega)
   . exact P6 h
 . intro hx
   obtain⟨i,hi,rfl⟩:=List.mem_iff_getElem.1 hx
   rw[List.mem_iff_getElem?]
   by_cases c1:i=j
   . subst c1
     exact⟨i+1,by rw[List.getElem?_set_ne (by omega),List.getElem?_set_self (by omega)];exact congrArg some e1⟩
   . by_cases c2:i=j+1
     . subst c2
       exact⟨j,by rw[List.getElem?_set_self (by rw[List.length_set];omega)];exact congrArg some e2⟩
     . exact⟨i,by rw[List.getElem?_set_ne (by omega),List.getElem?_set_ne (by omega)];simp[hi]⟩
theorem My:∀(j:Nat) {l:List BO},j<l.length->∀x,x∈Ew l j↔x∈l
 | 0,_,_,x=>by rw[Ew]
 | j+1,l,h,x=>by
  rw[Ew]
  split
  . rw[My j (by rw[J2];omega),RA h]
  . rfl
theorem IL (l:List BO):∀i,i<=l.length->∀x,x∈Ch l i↔x∈l
 | 0,_,x=>by rw[Ch]
 | i+1,h,x=>by rw[Ch,My i (by rw[G1];omega),IL l i (by omega)]
section
variable {m2 : List Int} {rev nx : Int}
theorem ST {h:AF} {r:Int}:(∃d∈(Ht (λy=>y==rev) nx h).dels,d.rev=r)↔∃d∈h.dels,(if d.rev=rev then nx else d.rev)=r:=by
 have e:(Ht (λy=>y==rev) nx h).dels=Ch (h.dels.map (Ba (λy=>y==rev) nx)) h.dels.length:=rfl
 rw[e]
 constructor
 . rintro⟨d,hd,hr⟩
   rw[IL _ _ (by rw[Y5];exact Y1 _)]at hd
   obtain⟨d0,h0,rfl⟩:=Yp.1 hd
   exact⟨d0,h0,by simpa[Ba,HK]using hr⟩
 . rintro⟨d,hd,hr⟩
   exact⟨Ba (λy=>y==rev) nx d,(IL _ _ (by rw[Y5];exact Y1 _) _).2 (List.mem_map_of_mem hd),by simpa[Ba,HK]using hr⟩
theorem Pj {h:AF} {r:Int}:(∃d∈(Ht (λy=>y==rev) nx h).layers,d.rev=r)↔∃d∈h.layers,(if d.rev=rev then nx else d.rev)=r:=by
 have e:(Ht (λy=>y==rev) nx h).layers=h.layers.map (BL (λy=>y==rev) nx):=rfl
 rw[e]
 constructor
 . rintro⟨d,hd,hr⟩
   obtain⟨d0,h0,rfl⟩:=Yp.1 hd
   exact⟨d0,h0,by simpa[BL,HK]using hr⟩
 . rintro⟨d,hd,hr⟩
   exact⟨BL (λy=>y==rev) nx d,List.mem_map_of_mem hd,by simpa[BL,HK]using hr⟩
theorem Td {h:AF}:(Ht (λy=>y==rev) nx h).ins=if h.ins≠0/\h.ins=rev then nx else h.ins:=by
 have e:(Ht (λy=>y==rev) nx h).ins=Fd (λy=>y==rev) nx h.ins:=rfl
 rw[e,Fd];simp
theorem U2 {h:AF} (H:Ix m2 h):Ix (nx::m2) (Ht (λy=>y==rev) nx h):=by
 obtain⟨Hs,H⟩:=H
 have e:(Ht (λy=>y==rev) nx h).dels=Ch (h.dels.map (Ba (λy=>y==rev) nx)) h.dels.length:=rfl
 have l1:(Ht (λy=>y==rev) nx h).dels.length=h.dels.length:=by rw[e,G1,Y5]
 have l2:(Ht (λy=>y==rev) nx h).layers.length=h.layers.length:=Y5 _
 refine⟨⟨Hs.props,by rw[l1];exact Hs.dels,by rw[l2];exact Hs.layers⟩,⟨?_,by rw[l1];exact H.dlen,λx hx=>?_,by rw[l2];exact H.llen,λx hx=>?_⟩⟩
 . rw[Td]
   split
   . exact .inr (by simp)
   . rcases H.ins with e|e
     . exact .inl e
     . exact .inr (by simp[e])
 . obtain⟨d,h1,h2⟩:=(ST (h:=h) (rev:=rev) (nx:=nx)).1 ⟨x,hx,rfl⟩
   rw[<-h2];split
   . simp
   . simp[H.dels d h1]
 . obtain⟨d,h1,h2⟩:=(Pj (h:=h) (rev:=rev) (nx:=nx)).1 ⟨x,hx,rfl⟩
   rw[<-h2];split
   . simp
   . simp[H.layers d h1]
theorem OT {h:AF} (H:Ix m2 h):Ix (nx::m2) h:=
 ⟨H.1,⟨H.2.ins.imp id λe=>by simp[e],H.2.dlen,λx hx=>by simp[H.2.dels x hx],H.2.llen,λx hx=>by simp[H.2.layers x hx]⟩⟩
end
section
variable (g : Bool → AF → AF) (sc : Ah)
end
theorem NH {c:Nat->Int} {k n:Nat} (h1:∀m,m<k->c m<0) (h2:∀m,k<=m->m<n->¬c m<0):∀(d i j:Nat),j-i<=d->i<=k->k<=j->j<=n->FG c i j=k
 | d,i,j,hd,hi,hj,hn=>by
  rw[FG]
  split
  . rename_i hij
    cases d with
    | zero=>omega
    | succ d=>
     split
     . rename_i hc
       refine NH h1 h2 d _ j (by omega) ?_ hj hn
       rcases YX ((i+j) / 2) k with h|h
       . omega
       . exact absurd hc (h2 _ h (by omega))
     . rename_i hc
       refine NH h1 h2 d i _ (by omega) hi ?_ (by omega)
       rcases YX ((i+j) / 2) k with h|h
       . exact absurd (h1 _ h) hc
       . exact h
  . omega
theorem RZ {f:Nat->Int} {n:Nat} {x:Int} (hs:∀i j,i<=j->j<n->f i<=f j) (hx:∃j,j<n/\f j=x) {c:Nat->Int} (hc:∀i,i<n->(c i<0↔f i<x)/\(c i=0↔f i=x)):(BF c n).2=true:=by
 obtain⟨j,hj,hfj⟩:=hx
 have key:∀j,j<n->x<=f j->∃k,k<=j/\x<=f k/\∀m,m<k->f m<x:=by
  intro j
  induction j with
  | zero=>intro _ h;exact⟨0,Y1 _,h,λm hm=>by omega⟩
  | succ j ih=>
   intro hj h
   by_cases hc:x<=f j
   . obtain⟨k,k1,k2,k3⟩:=ih (by omega) hc
     exact⟨k,by omega,k2,k3⟩
   . exact⟨j+1,Y1 _,h,λm hm=>by have:=hs m j (by omega) (by omega);omega⟩
 obtain⟨k,k1,k2,k3⟩:=key j hj (by omega)
 have hk:k<n:=by omega
 have e:f k=x:=by have:=hs k j k1 hj;omega
 have hg:FG c 0 n=k:=NH (λm hm=>(hc m (by omega)).1.2 (k3 m hm)) (λm h1 h2=>by rw[(hc m h2).1];have:=hs k m h1 h2;omega) n 0 n (by omega) (Y4 _) (by omega) (Y1 _)
 unfold BF
 rw[hg]
 simp only[decide_eq_true_eq]
 exact⟨hk,(hc k hk).2.2 e⟩
theorem LV {L:List BD} (h:DX L=0):∀i j,(hij:i<j)->(hj:j<L.length)->(L[i]'(by omega)).id<L[j].id:=by
 have hl:¬256<L.length:=λg=>by rw[DX,if_pos g]at h;cases h
 rw[DX,if_neg hl]at h
 have step:∀i,(hi:i+1<L.length)->(L[i]'(by omega)).id<L[i+1].id:=λi hi=>by
  have:=JZ h (i+1) hi
  unfold Fe at this
  rw[Yr hi,Nat.add_sub_cancel,Yr (show i<L.length by omega)]at this
  dsimp only at this
  by_cases e:CY L[i+1]=0
  . rw[if_pos e,if_neg (by omega)]at this
    unfold Hd at this
    by_cases c1:L[i+1].id<(L[i]'(by omega)).id
    . simp[c1]at this
    . by_cases c2:(L[i]'(by omega)).id<L[i+1].id
      . exact c2
      . simp[c1,c2]at this
  . rw[if_neg e]at this;exact absurd this e
 intro i j
 induction j with
 | zero=>intro hij;omega
 | succ j ih=>
  intro hij hj
  rcases YX i j with g|g
  . have:=ih g (by omega);have:=step j hj;omega
  . have:i=j:=by omega
    subst this;exact step i hj
theorem Pl {L:List BD} {id:Int} (h:∃r∈L,r.id=id):(Bv L id).2=true:=by
 unfold Bv
 by_cases hc:DX L=0
 . rw[if_pos hc]
   have hs:=LV hc
   obtain⟨r,hr,e⟩:=h
   obtain⟨j,hj,e2⟩:=List.mem_iff_getElem.1 hr
   have:(BF (HN L id) L.length).2=true:=by
    have g:∀i,(hi:i<L.length)->(L.getD i GO).id=L[i].id:=λi hi=>by simp[List.getD,hi]
    refine RZ (f:=λi=>(L.getD i GO).id) (x:=id) (λi k hik hk=>?_) ⟨j,hj,by rw[g j hj,e2,e]⟩ λi hi=>?_
    . rw[g i (by omega),g k hk]
      rcases YX i k with q|q
      . have:=hs i k q hk;omega
      . have:i=k:=by omega
        subst this;omega
    . rw[g i hi]
      unfold HN Hd
      rw[Yr hi]
      dsimp only
      by_cases c1:L[i].id<id
      . rw[if_pos c1];omega
      . rw[if_neg c1]
        by_cases c2:id<L[i].id
        . rw[if_pos c2];omega
        . rw[if_neg c2];omega
   rw[if_pos this]
 . rw[if_neg hc]
   obtain⟨r,hr,e⟩:=h
   induction L with
   | nil=>cases hr
   | cons a L ih =>
    clear hc
    have:∀L:List BD,r∈L->(GN id L).2=true:=λL=>by
     induction L with
     | nil=>intro h;cases h
     | cons b L ih=>
      intro h
      rw[GN]
      split
      . rfl
      . rename_i hb
        rcases Yg.1 h with rfl|h
        . exact absurd e hb
        . exact ih h
    exact this _ hr
end Go.Proofs.YtgakninlhfkkmaaGreat.Sh
