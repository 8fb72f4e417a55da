/- A part of the proof (part 5 of 18). -/
import Derived.Test.YtgakninlhfkkmaaGreatN4
import Derived.OrdersHeld
import Derived.OrdersIn
import Derived.Shelf.SortM.Plain
import Derived.Shelf.SortM.SortNone
import Derived.Test.YtgakninlhfkkmaaGreatProg
namespace Go.Proofs.YtgakninlhfkkmaaGreat.Sh
open Tryz
abbrev Sb:=@cr.qR
abbrev vq:=@AB.qR
abbrev wq:=@LC.use
abbrev ww:=@AB.sizedL_of
open Proofs
set_option maxRecDepth 10000
set_option maxHeartbeats 4000000
theorem HT{p:Nat->Bool}{n k:Nat}(e:BI p n k = -1):∀i,k<=i->i<n->p i=false:=by
 intro i hk hi;rw[BI]at e;rw[dif_pos (by omega)]at e;by_cases hp:p k=true;rw[if_pos hp]at e;omega;rw[if_neg hp]at e;by_cases h:i=k;subst h;simpa using hp;exact HT e i (by omega) hi
termination_by n-k
theorem Ip{p:Nat->Bool}{n k i0:Nat}(e:BI p n k=i0):∀i,k<=i->i<i0->p i=false:=by
 intro i hk hi;rw[BI]at e;split at e;by_cases hp:p k=true;rw[if_pos hp]at e;omega;rw[if_neg hp]at e;by_cases h:i=k;subst h;simpa using hp;exact Ip e i (by omega) hi;omega
termination_by n-k
def B6{α:Type}(p:α->Bool)(l:List α)(i:Nat):List α:=((l.take i).filter λx=>!p x)++l.drop ((l.take i).filter λx=>!p x).length
theorem iO(l:List AP)(hl:l.length<=1048576)(g:FuncId)(a b:List SV)(p:AP->Bool)(hp:∀x∈l,PC g (a++[x.e]++b) (.bool (p x))){H:Hp}{n o:Nat}{full:Bool}(R:H o=some (.cells ((l.map AP.e).flatMap SV.cells))):
 BL prog 133 [.sl o 0 6 l.length full,.fn (.func g) a b] H n (λv h' n'=>v=.i 6 ((l.filter λx=>!p x).map AP.e) false/\h'=h_ H o none/\n'=n):=by
 refine gq func133 rfl λS=>?_;have hon:o<n:=(S o _ R).1;have hI:=bf l hl g a b (λi=>match l[i]? with|some x=>p x|none=>false) (λi hi=>by simpa[hi]using hp l[i] (qi hi));have fin:∀(c:List AP)(h':Hp)(n':Nat)(cs:List SV)(f2:Bool),(l.filter λx=>!p x)=c->(∀j y,j≠o->H j=some y->h' j=some y)->h' o=some (.cells cs)->c.length*6<=cs.length->cs.take (c.length*6)=(c.map AP.e).flatMap SV.cells->
  CO n h' n' (.sl o 0 6 c.length f2) (λv h' n'=>v=.i 6 ((l.filter λx=>!p x).map AP.e) false/\h'=h_ H o none/\n'=n):=λc h' n' cs f2 hk hh hc h1 h2=>by
  refine .inr ⟨1,.i 6 (c.map AP.e) false,h_ H o none,.inr ⟨AD _ _ _,by simp,by simp,rfl,cs,(c.map AP.e).flatMap SV.cells,hc,by simp[Bz,h1,h2],AP.E.size c,?_⟩,AP.E.i _ _ _ _,λj y e=>?_,by rw[hk],rfl,rfl⟩;have:∀l:List SV,Ag (Fz h' (h_ H o none) 0) l l:=by
   intro l;induction l with
   | nil=>trivial
   | cons a l ih=>exact⟨IO,ih⟩
  exact this _;by_cases w:j=o;subst w;rw[AD]at e;cases e;rw[AE _ _ w]at e;exact⟨hh j y w e,S j y e⟩
 simp[go_sem];refine hI.lend 2 rfl ⟨?_,IO,trivial⟩ ?_;have:=Cz (h':=H) (h:=λ_=>none) (k:=1) (z:=6) (es:=l.map AP.e) (full:=full) (full':=false) (o:=o) rfl (by simp) R (AP.E.size l);rw[qf]at this;exact this;rcases Ei (λi=>match l[i]? with|some x=>p x|none=>false) l.length 0 with e|⟨f,_,t,e,X⟩
 simp[go_sem,e];have N:(l.filter λx=>!p x)=l:=UF.2 λx J=>by
  obtain⟨i,hi,rfl⟩:=Kw J;have:=HT e i (qg _) hi;simpa[hi]using this
 exact fin l H n _ full N (λj y _ e=>e) R (by rw[BO (AP.E.size l),qf];exact qa _) (qv (by rw[BO (AP.E.size l),qf];exact qa _));have w0:=wS f (by omega);have Y:¬((f:Int) = -1):=by omega
 simp[go_sem,e,w0,Y,-Int.natCast_add];have C:p l[f]=true:=by simpa[t]using X
 have d:(l.take f).filter (λx=>!p x)=l.take f:=UF.2 λx J=>by
  obtain⟨i,hi,rfl⟩:=Kw J;have P:i<f:=by simp at hi;omega
  have:=Ip e i (qg _) P;simpa[show i<l.length by omega]using this
 refine Av 1 (α:=Nat) (λi=>[(0,.sl o 0 6 l.length full),(1,.fn (.func g) a b),(5,AA ((l.take i).filter λx=>!p x).length),(6,AA i)]) (λi=>h_ H o (some (.cells (((B6 p l i).map AP.e).flatMap SV.cells))))
  (λi m=>f<i/\i<=l.length/\n<=m) (λi=>l.length-i) (f+1) ?_ ?_ ?_ ?_
 exact⟨qY _,t,qa _⟩;have:((l.take (f+1)).filter λx=>!p x).length=f:=by
  rw[qb t,QN,d];simp[C];omega
 simp[Ao,this,-Int.natCast_add];have:B6 p l (f+1)=l:=by
  unfold B6;rw[qb t,QN,d];simp[C,Ut (vV t)]
 rw[this];intro j y e;simp only[h_]at e;split at e;rename_i h;subst h;rw[R];exact e;exact e;rintro i m ⟨hi1,P,hnm⟩;have W:((l.take i).filter λx=>!p x).length<i:=by
  have h1:l.take i=l.take (f+1)++(l.drop (f+1)).take (i-(f+1)):=by
   rw[<-List.take_add];congr 1;omega
  have h2:((l.take (f+1)).filter λx=>!p x).length=f:=by
   rw[qb t,QN,d];simp[C];omega
  rw[h1,QN,qq,h2];have:=JM (λx=>!p x) ((l.drop (f+1)).take (i-(f+1)));simp at this ⊢;omega
 have r:(B6 p l i).length=l.length:=by unfold B6;simp;omega
 generalize q:(l.take i).filter (λx=>!p x)=c at W ⊢;have u:o≠m:=by omega
 have G:=AP.E.size (B6 p l i);by_cases B:i<l.length;have w1:=wS i (by omega);have w2:IntKind.i64.wrap ((c.length:Int)+1)=((c.length+1:Nat):Int):=by rw[DA]<;>omega
 obtain⟨x,J⟩:∃x,l[i]=x:=⟨_,rfl⟩
 have O:(B6 p l i)[i]? = some x:=by
  unfold B6;rw[q,qT (by omega),Km];have:c.length+(i-c.length)=i:=by omega
  rw[this,qe B,J]
 obtain⟨g1,T⟩:=Nh G (i:=i) (e:=x.e) (by simp[O]);have s:=RI G (j:=c.length) (e:=x.e) (by simp[r];omega);have g3:c.length*6+6<=(((B6 p l i).map AP.e).flatMap SV.cells).length:=by
  rw[BO G,qf,r];omega
 have hcl:=AP.E.len x;generalize U:((B6 p l i).map AP.e).flatMap SV.cells=F at g1 T g3 s ⊢;have Z:=hp x (by rw[<-J];exact qi B);simp only[qj,qx,qE]at Z;have hpre:=AP.E.st x;simp[Yw,SV.cells]at T;simp[go_sem,B,AD,g1,T];refine qz (by simpa[Yw]using Z) ?_;by_cases L:p x=true;simp[go_sem,L,w1,-Int.natCast_add];have A:(l.take (i+1)).filter (λx=>!p x)=c:=by rw[qb B,QN,q,J];simp[L]
 have D:B6 p l (i+1)=B6 p l i:=by unfold B6;rw[A,q]
 refine⟨i+1,by omega,⟨by omega,by omega,by omega⟩,⟨by rw[A];exact IO,IO⟩,λj y e=>?_⟩;rw[D,U]at e;by_cases w:j=o;subst w;rw[AD]at e;rw[AE _ _ u,AE _ _ u,AD];exact e;rw[AE _ _ w]at e;have:=(S j y e).1;rw[AE _ _ (by omega),AE _ _ (by omega),AE _ _ w];exact e;have I:p x=false:=by simpa using L
 have Q:(c.length:Int)<l.length:=by omega
 simp[Yw,SV.cells]at s;simp[go_sem,I,AD,AE,u,Q,g3,s,w1,w2,-Int.natCast_add];have A:(l.take (i+1)).filter (λx=>!p x)=c++[x]:=by rw[qb B,QN,q,J];simp[I]
 have D:(B6 p l (i+1)).map AP.e=((B6 p l i).map AP.e).set c.length x.e:=by
  have:B6 p l (i+1)=(B6 p l i).set c.length x:=by
   unfold B6;rw[A,q,Vs _ _ (qa _),vU];simp;rw[qQ (show c.length<l.length by omega),List.set_cons_zero]
  rw[this,List.map_set]
 rw[Yw]at D;refine⟨i+1,by omega,⟨by omega,by omega,by omega⟩,⟨by rw[A,qq];exact IO,IO⟩,λj y e=>?_⟩;rw[D]at e;by_cases w:j=o;subst w;rw[AD]at e ⊢;exact e;rw[AE _ _ w]at e ⊢;have:=(S j y e).1;rw[AE _ _ (by omega),AE _ _ (by omega),AE _ _ w];exact e;have:i=l.length:=by omega
 subst this;have q1:c.length<=l.length:=by omega
 have q2:¬((c.length:Int)=l.length):=by omega
 have q3:¬(l.length-c.length=0):=by omega
 rw[qm]at q;have U:((B6 p l l.length).map AP.e).flatMap SV.cells=(c.map AP.e).flatMap SV.cells++((l.drop c.length).map AP.e).flatMap SV.cells:=by unfold B6;rw[qm,q];simp
 have K:((c.map AP.e).flatMap SV.cells).length=c.length*6:=by rw[BO (AP.E.size c),qf]
 have V:(((B6 p l l.length).map AP.e).flatMap SV.cells).length=l.length*6:=by rw[BO G,qf,r]
 have q4:c.length*6+(l.length-c.length)*6<=(((B6 p l l.length).map AP.e).flatMap SV.cells).length:=by rw[V,<-UI];apply YR;omega
 have M:(((B6 p l l.length).map AP.e).flatMap SV.cells).take (c.length*6)=(c.map AP.e).flatMap SV.cells:=by rw[U,<-K,List.take_left]
 generalize((B6 p l l.length).map AP.e).flatMap SV.cells=F at q4 M ⊢;simp[go_sem,AD,q1,q2,q3,q4];refine fin c _ _ _ _ q (λj y hj e=>by rw[AE _ _ hj,AE _ _ hj];exact e) (AD _ _ _) ?_ ?_;rw[M,qq,K];omega;rw[M,<-K,List.take_left]
theorem d75(l:List BC)(hl:l.length<=1048576)(g:FuncId)(a b:List SV)(p:BC->Bool)(hp:∀x∈l,PC g (a++[x.e]++b) (.bool (p x))){H:Hp}{n o:Nat}{full:Bool}(R:H o=some (.cells ((l.map BC.e).flatMap SV.cells))):
 BL prog 75 [.sl o 0 3 l.length full,.fn (.func g) a b] H n (λv h' n'=>v=.i 3 ((l.filter λx=>!p x).map BC.e) false/\h'=h_ H o none/\n'=n):=by
 refine gq func75 rfl λS=>?_;have hon:o<n:=(S o _ R).1;have hI:=bU l hl g a b (λi=>match l[i]? with|some x=>p x|none=>false) (λi hi=>by simpa[hi]using hp l[i] (qi hi));have fin:∀(c:List BC)(h':Hp)(n':Nat)(cs:List SV)(f2:Bool),(l.filter λx=>!p x)=c->(∀j y,j≠o->H j=some y->h' j=some y)->h' o=some (.cells cs)->c.length*3<=cs.length->cs.take (c.length*3)=(c.map BC.e).flatMap SV.cells->
  CO n h' n' (.sl o 0 3 c.length f2) (λv h' n'=>v=.i 3 ((l.filter λx=>!p x).map BC.e) false/\h'=h_ H o none/\n'=n):=λc h' n' cs f2 hk hh hc h1 h2=>by
  refine .inr ⟨1,.i 3 (c.map BC.e) false,h_ H o none,.inr ⟨AD _ _ _,by simp,by simp,rfl,cs,(c.map BC.e).flatMap SV.cells,hc,by simp[Bz,h1,h2],BC.E.size c,?_⟩,BC.E.i _ _ _ _,λj y e=>?_,by rw[hk],rfl,rfl⟩;have:∀l:List SV,Ag (Fz h' (h_ H o none) 0) l l:=by
   intro l;induction l with
   | nil=>trivial
   | cons a l ih=>exact⟨IO,ih⟩
  exact this _;by_cases w:j=o;subst w;rw[AD]at e;cases e;rw[AE _ _ w]at e;exact⟨hh j y w e,S j y e⟩
 simp[go_sem];refine hI.lend 2 rfl ⟨?_,IO,trivial⟩ ?_;have:=Cz (h':=H) (h:=λ_=>none) (k:=1) (z:=3) (es:=l.map BC.e) (full:=full) (full':=false) (o:=o) rfl (by simp) R (BC.E.size l);rw[qf]at this;exact this;rcases Ei (λi=>match l[i]? with|some x=>p x|none=>false) l.length 0 with e|⟨f,_,t,e,X⟩
 simp[go_sem,e];have N:(l.filter λx=>!p x)=l:=UF.2 λx J=>by
  obtain⟨i,hi,rfl⟩:=Kw J;have:=HT e i (qg _) hi;simpa[hi]using this
 exact fin l H n _ full N (λj y _ e=>e) R (by rw[BO (BC.E.size l),qf];exact qa _) (qv (by rw[BO (BC.E.size l),qf];exact qa _));have w0:=wS f (by omega);have Y:¬((f:Int) = -1):=by omega
 simp[go_sem,e,w0,Y,-Int.natCast_add];have C:p l[f]=true:=by simpa[t]using X
 have d:(l.take f).filter (λx=>!p x)=l.take f:=UF.2 λx J=>by
  obtain⟨i,hi,rfl⟩:=Kw J;have P:i<f:=by simp at hi;omega
  have:=Ip e i (qg _) P;simpa[show i<l.length by omega]using this
 refine Av 1 (α:=Nat) (λi=>[(0,.sl o 0 3 l.length full),(1,.fn (.func g) a b),(5,AA ((l.take i).filter λx=>!p x).length),(6,AA i)]) (λi=>h_ H o (some (.cells (((B6 p l i).map BC.e).flatMap SV.cells))))
  (λi m=>f<i/\i<=l.length/\n<=m) (λi=>l.length-i) (f+1) ?_ ?_ ?_ ?_
 exact⟨qY _,t,qa _⟩;have:((l.take (f+1)).filter λx=>!p x).length=f:=by
  rw[qb t,QN,d];simp[C];omega
 simp[Ao,this,-Int.natCast_add];have:B6 p l (f+1)=l:=by
  unfold B6;rw[qb t,QN,d];simp[C,Ut (vV t)]
 rw[this];intro j y e;simp only[h_]at e;split at e;rename_i h;subst h;rw[R];exact e;exact e;rintro i m ⟨hi1,P,hnm⟩;have W:((l.take i).filter λx=>!p x).length<i:=by
  have h1:l.take i=l.take (f+1)++(l.drop (f+1)).take (i-(f+1)):=by
   rw[<-List.take_add];congr 1;omega
  have h2:((l.take (f+1)).filter λx=>!p x).length=f:=by
   rw[qb t,QN,d];simp[C];omega
  rw[h1,QN,qq,h2];have:=JM (λx=>!p x) ((l.drop (f+1)).take (i-(f+1)));simp at this ⊢;omega
 have r:(B6 p l i).length=l.length:=by unfold B6;simp;omega
 generalize q:(l.take i).filter (λx=>!p x)=c at W ⊢;have u:o≠m:=by omega
 have G:=BC.E.size (B6 p l i);by_cases B:i<l.length;have w1:=wS i (by omega);have w2:IntKind.i64.wrap ((c.length:Int)+1)=((c.length+1:Nat):Int):=by rw[DA]<;>omega
 obtain⟨x,J⟩:∃x,l[i]=x:=⟨_,rfl⟩
 have O:(B6 p l i)[i]? = some x:=by
  unfold B6;rw[q,qT (by omega),Km];have:c.length+(i-c.length)=i:=by omega
  rw[this,qe B,J]
 obtain⟨g1,T⟩:=Nh G (i:=i) (e:=x.e) (by simp[O]);have s:=RI G (j:=c.length) (e:=x.e) (by simp[r];omega);have g3:c.length*3+3<=(((B6 p l i).map BC.e).flatMap SV.cells).length:=by
  rw[BO G,qf,r];omega
 have hcl:=BC.E.len x;generalize U:((B6 p l i).map BC.e).flatMap SV.cells=F at g1 T g3 s ⊢;have Z:=hp x (by rw[<-J];exact qi B);simp only[qj,qx,qE]at Z;have hpre:=BC.E.st x;simp[BC.e,SV.cells]at T;simp[go_sem,B,AD,g1,T];refine qz (by simpa[BC.e]using Z) ?_;by_cases L:p x=true;simp[go_sem,L,w1,-Int.natCast_add];have A:(l.take (i+1)).filter (λx=>!p x)=c:=by rw[qb B,QN,q,J];simp[L]
 have D:B6 p l (i+1)=B6 p l i:=by unfold B6;rw[A,q]
 refine⟨i+1,by omega,⟨by omega,by omega,by omega⟩,⟨by rw[A];exact IO,IO⟩,λj y e=>?_⟩;rw[D,U]at e;by_cases w:j=o;subst w;rw[AD]at e;rw[AE _ _ u,AE _ _ u,AD];exact e;rw[AE _ _ w]at e;have:=(S j y e).1;rw[AE _ _ (by omega),AE _ _ (by omega),AE _ _ w];exact e;have I:p x=false:=by simpa using L
 have Q:(c.length:Int)<l.length:=by omega
 simp[BC.e,SV.cells]at s;simp[go_sem,I,AD,AE,u,Q,g3,s,w1,w2,-Int.natCast_add];have A:(l.take (i+1)).filter (λx=>!p x)=c++[x]:=by rw[qb B,QN,q,J];simp[I]
 have D:(B6 p l (i+1)).map BC.e=((B6 p l i).map BC.e).set c.length x.e:=by
  have:B6 p l (i+1)=(B6 p l i).set c.length x:=by
   unfold B6;rw[A,q,Vs _ _ (qa _),vU];simp;rw[qQ (show c.length<l.length by omega),List.set_cons_zero]
  rw[this,List.map_set]
 rw[BC.e]at D;refine⟨i+1,by omega,⟨by omega,by omega,by omega⟩,⟨by rw[A,qq];exact IO,IO⟩,λj y e=>?_⟩;rw[D]at e;by_cases w:j=o;subst w;rw[AD]at e ⊢;exact e;rw[AE _ _ w]at e ⊢;have:=(S j y e).1;rw[AE _ _ (by omega),AE _ _ (by omega),AE _ _ w];exact e;have:i=l.length:=by omega
 subst this;have q1:c.length<=l.length:=by omega
 have q2:¬((c.length:Int)=l.length):=by omega
 have q3:¬(l.length-c.length=0):=by omega
 rw[qm]at q;have U:((B6 p l l.length).map BC.e).flatMap SV.cells=(c.map BC.e).flatMap SV.cells++((l.drop c.length).map BC.e).flatMap SV.cells:=by unfold B6;rw[qm,q];simp
 have K:((c.map BC.e).flatMap SV.cells).length=c.length*3:=by rw[BO (BC.E.size c),qf]
 have V:(((B6 p l l.length).map BC.e).flatMap SV.cells).length=l.length*3:=by rw[BO G,qf,r]
 have q4:c.length*3+(l.length-c.length)*3<=(((B6 p l l.length).map BC.e).flatMap SV.cells).length:=by rw[V,<-UI];apply YR;omega
 have M:(((B6 p l l.length).map BC.e).flatMap SV.cells).take (c.length*3)=(c.map BC.e).flatMap SV.cells:=by rw[U,<-K,List.take_left]
 generalize((B6 p l l.length).map BC.e).flatMap SV.cells=F at q4 M ⊢;simp[go_sem,AD,q1,q2,q3,q4];refine fin c _ _ _ _ q (λj y hj e=>by rw[AE _ _ hj,AE _ _ hj];exact e) (AD _ _ _) ?_ ?_;rw[M,qq,K];omega;rw[M,<-K,List.take_left]
def AB.cz(y:AB)(t:ByteArray):AB:=.mk y.k y.code y.id (y.x++t) y.H y.W y.R
def BS(x:AB):Prop:=(x.k=7/\x.R=[])\/(x.k=1/\x.x.size=0)
instance(x:AB):Decidable (BS x):=by unfold BS;cases h:x.R<;>simp<;>infer_instance
def AQ(out:List AB)(x:AB):List AB:=
 if BS x then out else match out.getLast? with
  | some y=>if x.k=1/\y.k=1/\y.H=x.H then out.dropLast++[y.cz x.x]else out++[x]
  | none=>out++[x]
def Cy(l:List AB):List AB:=l.foldl AQ []
mutual
def AB.N:AB->AB
 | .mk k c i t h f r=>.mk k c i t h (Cy (AB.nrmL f)) ((AP.nrmL r).filter λr=>!decide (r.cells.length=0))
def AB.nrmL:List AB->List AB
 | []=>[]
 | x::l=>AB.N x::AB.nrmL l
def AP.N:AP->AP
 | .mk h c=>.mk h (cr.nrmL c)
def AP.nrmL:List AP->List AP
 | []=>[]
 | x::l=>AP.N x::AP.nrmL l
def cr.N:cr->cr
 | .mk i h f=>.mk i h (Cy (AB.nrmL f))
def cr.nrmL:List cr->List cr
 | []=>[]
 | x::l=>cr.N x::cr.nrmL l
end
theorem AB.qA:∀l:List AB,AB.nrmL l=l.map AB.N
 | []=>by rw[AB.nrmL];rfl
 | x::l=>by rw[AB.nrmL,AB.qA l];rfl
theorem AP.qA:∀l:List AP,AP.nrmL l=l.map AP.N
 | []=>by rw[AP.nrmL];rfl
 | x::l=>by rw[AP.nrmL,AP.qA l];rfl
theorem cr.qA:∀l:List cr,cr.nrmL l=l.map cr.N
 | []=>by rw[cr.nrmL];rfl
 | x::l=>by rw[cr.nrmL,cr.qA l];rfl
def AO(l:List AB):List AB:=Cy (AB.nrmL l)
theorem bT(z:Nat)(full:Bool):PC 133 [.i z [] full,.fn (.func 136) [] []] (.i 6 [] false):=by
 intro h n;refine gq func133 rfl λa=>?_;simp[go_sem];have hI:=(bf [] (by simp) 136 [] [] (λ_=>false) (by simp)).wk (us:=[.i z [] full,.fn (.func 136) [] []]) 1 ⟨Bj (by simp),IO,trivial⟩;refine qz hI ?_;have e:BI (λ_=>false) 0 0 = -1:=by rw[BI];simp
 simp[go_sem,e];exact LH a AC (by simp) rfl
theorem fC(r:AP):PC 136 [r.e] (.bool (decide (r.cells.length=0))):=by
 intro h n;refine gq func136 rfl λa=>?_;simp[go_sem,Yw,AD];exact A3 a (AR a (qa _) AC) (by cases r.cells<;>simp;omega) rfl
theorem XN{E:CC}(l:List AP)(hl:l.length<=1048576)(H:∀(i:Nat)(h:i<l.length),PC 135 [(l[i]).e] (AP.N l[i]).e){h:Hp}{n:Nat}{K:SV->Hp->Nat->Prop}
 (k:∀v h' n',n<=n'->(∀o x,h o=some x->h' o=some x)->Ap E prog 133 [v,.fn (.func 136) [] []] h' n' (λc h2 b=>(∀o x,o<n->h o=some x->h2 o=some x)/\n<=b/\c=.i 6 (((l.map AP.N).filter λr=>!decide (r.cells.length=0)).map AP.e) false)->K v h' n'):
 Ap E prog 134 [Aw l,.fn (.func 135) [] []] h n K:=by
 refine(ct l hl 135 [] [] AP.N (λi hi=>H i hi)).use λv h' n' ⟨hn,a,m⟩=>k v h' n' hn a ?_;rcases m with⟨f,p,full,rfl⟩|⟨o,full,h1,h2,rfl,d⟩
 refine qz (bT p full) ⟨λo x _ e=>a o x e,hn,?_⟩;have:l.map AP.N=[]:=by simpa using f
 rw[this];rfl;rw[qf];refine Ap.lift ((iO (l.map AP.N) (by simpa using hl) 136 [] [] (λr=>decide (r.cells.length=0)) (λr _=>fC r) (n:=n') (full:=full) d).mono ?_);rintro c h2 b ⟨rfl,rfl,rfl⟩;exact⟨λj x g e=>by rw[AE _ _ (by omega)];exact a j x e,hn,rfl⟩
theorem AB.nrm_fields(x:AB):x.N.k=x.k/\x.N.code=x.code/\x.N.id=x.id/\x.N.x=x.x/\x.N.H=x.H/\x.N.W=AO x.W/\x.N.R=(x.R.map AP.N).filter λr=>!decide (r.cells.length=0):=by
 cases x;rw[AB.N];simp[AB.k,AB.code,AB.id,AB.x,AB.H,AB.W,AB.R,AO,AP.qA]
theorem KF(l:List AB)(k:Nat)(h:k<l.length):Cy (AB.nrmL (l.take (k+1)))=AQ (Cy (AB.nrmL (l.take k))) l[k].N:=by
 rw[qb h,AB.qA,qc,Cy,UU,AB.qA];rfl
theorem K9(out:List AB)(x:AB):(AQ out x).length<=out.length+1:=by
 unfold AQ;split;omega;split;split<;>simp;simp
theorem PH(l:List AB):∀k,k<=l.length->(Cy (AB.nrmL (l.take k))).length<=k
 | 0,_=>by simp[AB.nrmL,Cy]
 | k+1,h=>by
  rw[KF l k h];have:=K9 (Cy (AB.nrmL (l.take k))) l[k].N;have:=PH l k (by omega);omega
theorem LA{out:List AB}{x y:AB}(h:y∈AQ out x):y∈out\/y=x\/∃z∈out,y=z.cz x.x:=by
 unfold AQ at h;split at h;exact .inl h;split at h;rename_i z a;split at h;rcases qd.1 h with h|h;exact .inl ((List.dropLast_sublist out).subset h);exact .inr (.inr ⟨z,List.mem_of_getLast? a,qy.1 h⟩);rcases qd.1 h with h|h;exact .inl h;exact .inr (.inl (qy.1 h));rcases qd.1 h with h|h;exact .inl h;exact .inr (.inl (qy.1 h))
theorem Lf(l:List AB)(a:∀x∈l,x.H.D/\x.x.size<=1048576):∀k,k<=l.length->∀y∈Cy (AB.nrmL (l.take k)),y.H.D/\y.x.size<=k*1048576
 | 0,_,y,hy=>by simp[AB.nrmL,Cy]at hy
 | k+1,h,y,hy=>by
  rw[KF l k h]at hy;have b:=a l[k] (qi h);obtain⟨_,_,_,f4,f5,_,_⟩:=(l[k]).nrm_fields;rcases LA hy with h1|rfl|⟨z,c,rfl⟩
  have:=Lf l a k (by omega) y h1;exact⟨this.1,by omega⟩;rw[f4,f5];exact⟨b.1,by omega⟩;have:=Lf l a k (by omega) z c;refine⟨by simpa[AB.cz,AB.H]using this.1,?_⟩;have e:(z.cz (l[k]).N.x).x.size=z.x.size+(l[k]).x.size:=by show(z.x++(l[k]).N.x).size=_;rw[XJ,f4]
  omega
theorem Qu(s:ByteArray):(s.toList==ByteArray.empty.toList)=decide (s.size=0):=by
 rw[<-beq_toListBytes];by_cases h:s.size=0;have:s=ByteArray.empty:=by
  obtain⟨⟨l⟩⟩:=s;cases l with
  | nil=>rfl
  | cons a l=>simp[ByteArray.size]at h
 subst this;rfl;have:s≠ByteArray.empty:=by rintro rfl;exact h rfl
 have e:(s==ByteArray.empty)=false:=by
  rw[Bool.eq_false_iff];intro e;exact this ((Sl _ _).1 e)
 rw[e];simp[h]
theorem G5(s:ByteArray):s.toList=[]↔s.size=0:=by
 have h:=Qu s;have e:ByteArray.empty.toList=[]:=by
  have:=Qu ByteArray.empty;rw[ByteArray.toList_eq];rfl
 rw[e]at h;constructor;intro g;rw[g]at h;simpa using h.symm;intro g;rw[decide_eq_true g]at h;simpa using h
theorem Sp(l:List AB)(hl:l.length<=1048576)(hs:∀x∈l,x.H.D/\x.x.size<=1048576/\x.R.length<=1048576)
 (H1:∀x∈l,PC 73 [AK x.W] (AK (AO x.W))) (H2:∀x∈l,∀(i:Nat)(h:i<x.R.length),PC 135 [(x.R[i]).e] (AP.N x.R[i]).e):LC 73 [AK l] 11 ((AO l).map AB.e):=by
 intro h n;refine gq func73 rfl λho=>?_;simp[go_sem];refine Av 2 (α:=Nat×Option Nat) (λq=>[(3,AW 11 q.2 ((Cy (AB.nrmL (l.take q.1))).map AB.e)),(7,AK l),(8,AA l.length),(9,AA q.1)]) (λq=>AV q.2 ((Cy (AB.nrmL (l.take q.1))).map AB.e) h)
  (λq m=>q.1<=l.length/\n<=m/\BR n m 11 q.2 ((Cy (AB.nrmL (l.take q.1))).map AB.e)) (λq=>l.length-q.1) (0,none) ?_ ?_ AC ?_
 exact⟨qg _,qa _,by simp[AB.nrmL,Cy];exact vA _ _ _⟩;simp[Ao,AW];rintro⟨k,o⟩ m ⟨hk,hnm,hA⟩;dsimp only at hk hA ⊢;by_cases hlt:k<l.length
 . have w1:=wS k (by omega);obtain⟨x,hx⟩:∃x,l[k]=x:=⟨_,rfl⟩
   have hxm:x∈l:=by rw[<-hx];exact qi hlt
   obtain⟨hxh,hxt,hxr⟩:=hs x hxm;have hft:=KF l k hlt;rw[hx]at hft;obtain⟨f1,f2,f3,f4,f5,f6,f7⟩:=x.nrm_fields;have hfl:=PH l k hk;generalize hys:Cy (AB.nrmL (l.take k))=ys at hA hft hfl ⊢;have hlo:∀j,o=some j->j<m:=λj e=>(hA.lt j e).2;simp[go_sem,hlt,hx,qw,AD];refine qz (by simpa[AF.e,AF.g]using So x.H hxh) ?_;simp[go_sem,AD];refine(H1 x hxm).use ?_;simp[go_sem,AD];refine XN x.R hxr (λi hi=>H2 x hxm i hi) λv h1 m1 hm1 hh1 hcall=>?_;simp[go_sem];refine we hcall ?_;rintro v2 h2 m2 ⟨hh2,hm2,rfl⟩;rw[<-f7];generalize hR:x.N.R=R at f7 ⊢;have em0:=hh2 m _ (qY m) (AD _ _ _);have ho2:∀j,o=some j->h2 j=some (.cells ((ys.map AB.e).flatMap SV.cells)):=λj e=>by
    have:=hlo j e;exact hh2 j _ (by omega) (by rw[AE _ _ (by omega),AE _ _ (by omega),AE _ _ (by omega),AE _ _ (by omega)];exact FX j e)
   have hacc:∀j y,AV o (ys.map AB.e) h j=some y->j<m/\h2 j=some y:=λj y e=>by
    have hjm:j<m:=by
     cases o with
     | none=>have:=(ho j y e).1;omega
     | some i=>
      simp only[AV,h_]at e;split at e;rename_i h;subst h;exact hlo _ rfl;have:=(ho j y e).1;omega
    exact⟨hjm,hh2 j _ (by omega) (by rw[AE _ _ (by omega),AE _ _ (by omega),AE _ _ (by omega),AE _ _ (by omega)];exact e)⟩
   have BV:∀j y,h j=some y->h2 j=some y:=λj y e=>(hacc j y (AV.old ho hA j y e)).2;clear hcall hh1 hh2;rcases o with _|j
   . have hys0:ys=[]:=by simpa using hA.none rfl
     subst hys0;have happ:¬BS x.N->AQ [] x.N=[]++[x.N]:=λhd=>by rw[AQ,if_neg hd];rfl
     by_cases k7:x.k=7
     . by_cases hR0:R=[];have hd:BS x.N:=.inl ⟨by rw[f1,k7],by rw[hR,hR0]⟩;simp[go_sem,AW,em0,AD,k7,hR0,w1,-Int.natCast_add];rw[AQ,if_pos hd]at hft;refine⟨k+1,by omega,none,⟨by omega,by omega,by rw[hft];exact hA.mono (by omega)⟩,⟨by rw[hft];first|exact IO|(simp[AW,IO]),IO⟩,λi y e=>?_⟩;rw[hft]at e;obtain⟨g1,g2⟩:=hacc i y e;rw[AE _ _ (by omega)];exact g2
       . have hd:¬BS x.N:=by rintro(⟨_,g⟩|⟨g,_⟩);exact hR0 (by rw[<-hR,g]);rw[f1,k7]at g;exact absurd g (by decide)
         rw[happ hd]at hft;simp[go_sem,AW,em0,AD,k7,hR0]
         repeat first|refine nq ?_|refine sq ?_|refine aq ?_
         rw[Mr (e:=x.N.e) (t:=22) (t2:=22) (el:=70) (z:=11) (by simp[go_sem]) (by simp[go_sem]) (by simp[go_sem]) (by simp) (by simp[go_sem]) (by simp[go_sem]) (by simp[go_sem]) (AB.E.len _) ?a1]
         case a1=>simp[AD,qw,SV.cells,f1,f2,f3,f4,f5,f6,hR,k7]
         simp[go_sem,w1,-Int.natCast_add];refine⟨k+1,by omega,some (m2+1),⟨by omega,by omega,by rw[hft,qc];exact hA.push (AB.E.st _) (AB.E.len _) (by omega) (by omega)⟩,⟨by rw[hft];simp[IO],IO⟩,?_⟩;rw[hft,qc];have:=EK (p:=m2+1) (v:=.sl (m2+1) 0 11 (1) false) (e:=x.N.e) ho (by omega) hA (H:=h_ (h_ h2 m (some (.cells x.N.e.cells))) m2 (some (.cells x.N.e.cells))) (AR ho (by omega) (AR ho (by omega) BV));simpa[qw,SV.cells,C5.app,f1,f2,f3,f4,f5,f6,hR,k7]using this
     . by_cases k1:x.k=1
       . by_cases ht:x.x.size=0;have hd:BS x.N:=.inr ⟨by rw[f1,k1],by rw[f4,ht]⟩;simp[go_sem,AW,em0,AD,k1,(G5 _).2 ht,w1,-Int.natCast_add];rw[AQ,if_pos hd]at hft;refine⟨k+1,by omega,none,⟨by omega,by omega,by rw[hft];exact hA.mono (by omega)⟩,⟨by rw[hft];first|exact IO|(simp[AW,IO]),IO⟩,λi y e=>?_⟩;rw[hft]at e;obtain⟨g1,g2⟩:=hacc i y e;rw[AE _ _ (by omega)];exact g2
         . have hd:¬BS x.N:=by rintro(⟨g,_⟩|⟨_,g⟩);rw[f1,k1]at g;exact absurd g (by decide);exact ht (by rw[<-f4,g])
           rw[happ hd]at hft;simp[go_sem,AW,em0,AD,k1,mt (G5 _).1 ht]
           repeat first|refine nq ?_|refine sq ?_|refine aq ?_
           rw[Mr (e:=x.N.e) (t:=22) (t2:=22) (el:=70) (z:=11) (by simp[go_sem]) (by simp[go_sem]) (by simp[go_sem]) (by simp) (by simp[go_sem]) (by simp[go_sem]) (by simp[go_sem]) (AB.E.len _) ?a1]
           case a1=>simp[AD,qw,SV.cells,f1,f2,f3,f4,f5,f6,hR,k1]
           simp[go_sem,w1,-Int.natCast_add];refine⟨k+1,by omega,some (m2+1),⟨by omega,by omega,by rw[hft,qc];exact hA.push (AB.E.st _) (AB.E.len _) (by omega) (by omega)⟩,⟨by rw[hft];simp[IO],IO⟩,?_⟩;rw[hft,qc];have:=EK (p:=m2+1) (v:=.sl (m2+1) 0 11 (1) false) (e:=x.N.e) ho (by omega) hA (H:=h_ (h_ h2 m (some (.cells x.N.e.cells))) m2 (some (.cells x.N.e.cells))) (AR ho (by omega) (AR ho (by omega) BV));simpa[qw,SV.cells,C5.app,f1,f2,f3,f4,f5,f6,hR,k1]using this
       . have hd:¬BS x.N:=by rintro(⟨g,_⟩|⟨g,_⟩);rw[f1]at g;exact k7 g;rw[f1]at g;exact k1 g
         rw[happ hd]at hft;simp[go_sem,AW,em0,AD,k1,k7]
         repeat first|refine nq ?_|refine sq ?_|refine aq ?_
         rw[Mr (e:=x.N.e) (t:=22) (t2:=22) (el:=70) (z:=11) (by simp[go_sem]) (by simp[go_sem]) (by simp[go_sem]) (by simp) (by simp[go_sem]) (by simp[go_sem]) (by simp[go_sem]) (AB.E.len _) ?a1]
         case a1=>simp[AD,qw,SV.cells,f1,f2,f3,f4,f5,f6,hR]
         simp[go_sem,w1,-Int.natCast_add];refine⟨k+1,by omega,some (m2+1),⟨by omega,by omega,by rw[hft,qc];exact hA.push (AB.E.st _) (AB.E.len _) (by omega) (by omega)⟩,⟨by rw[hft];simp[IO],IO⟩,?_⟩;rw[hft,qc];have:=EK (p:=m2+1) (v:=.sl (m2+1) 0 11 (1) false) (e:=x.N.e) ho (by omega) hA (H:=h_ (h_ h2 m (some (.cells x.N.e.cells))) m2 (some (.cells x.N.e.cells))) (AR ho (by omega) (AR ho (by omega) BV));simpa[qw,SV.cells,C5.app,f1,f2,f3,f4,f5,f6,hR,k1]using this
   . have hj:j<m:=hlo j rfl;have hjm:j≠m:=by omega
     have ho2:=ho2 j rfl;have happ:¬BS x.N->x.k≠1->AQ ys x.N=ys++[x.N]:=λhd hk=>by
      rw[AQ,if_neg hd];split;rw[if_neg (by rw[f1];exact λg=>hk g.1)];rfl
     by_cases k7:x.k=7
     . by_cases hR0:R=[];have hd:BS x.N:=.inl ⟨by rw[f1,k7],by rw[hR,hR0]⟩;simp[go_sem,AW,em0,AD,k7,hR0,w1,-Int.natCast_add];rw[AQ,if_pos hd]at hft;refine⟨k+1,by omega,some j,⟨by omega,by omega,by rw[hft];exact hA.mono (by omega)⟩,⟨by rw[hft];first|exact IO|(simp[AW,IO]),IO⟩,λi y e=>?_⟩;rw[hft]at e;obtain⟨g1,g2⟩:=hacc i y e;rw[AE _ _ (by omega)];exact g2
       . have hd:¬BS x.N:=by rintro(⟨_,g⟩|⟨g,_⟩);exact hR0 (by rw[<-hR,g]);rw[f1,k7]at g;exact absurd g (by decide)
         rw[happ hd (by omega)]at hft;simp[go_sem,AW,em0,AD,k7,hR0]
         repeat first|refine nq ?_|refine sq ?_|refine aq ?_
         rw[G4 (es:=ys.map AB.e) (e:=x.N.e) (t:=22) (t2:=22) (el:=70) (z:=11) (by simp[go_sem]) (by simp[go_sem]) (by simp[go_sem]) (by simp) (by simp[go_sem]) (by simp[go_sem]) (by simp[go_sem]) (by simp;omega) hA (AB.E.len _) ?a1 ?a2 _ (by simp)]
         case a1=>simp[AD,qw,SV.cells,f1,f2,f3,f4,f5,f6,hR,k7]
         case a2=>rw[AE _ _ (by omega),AE _ _ (by omega)];exact ho2
         simp[go_sem,w1,-Int.natCast_add];refine⟨k+1,by omega,some (m2+1),⟨by omega,by omega,by rw[hft,qc];exact hA.push (AB.E.st _) (AB.E.len _) (by omega) (by omega)⟩,⟨by rw[hft];simp[IO],IO⟩,?_⟩;rw[hft,qc];have:=EK (p:=m2+1) (v:=.sl (m2+1) 0 11 ((ys.map AB.e).length+1) false) (e:=x.N.e) ho (by omega) hA (H:=h_ (h_ h2 m (some (.cells x.N.e.cells))) m2 (some (.cells x.N.e.cells))) (AR ho (by omega) (AR ho (by omega) BV));simpa[qw,SV.cells,C5.app,f1,f2,f3,f4,f5,f6,hR,k7]using this
     . by_cases k1:x.k=1
       . by_cases ht:x.x.size=0;have hd:BS x.N:=.inr ⟨by rw[f1,k1],by rw[f4,ht]⟩;simp[go_sem,AW,em0,AD,k1,(G5 _).2 ht,w1,-Int.natCast_add];rw[AQ,if_pos hd]at hft;refine⟨k+1,by omega,some j,⟨by omega,by omega,by rw[hft];exact hA.mono (by omega)⟩,⟨by rw[hft];first|exact IO|(simp[AW,IO]),IO⟩,λi y e=>?_⟩;rw[hft]at e;obtain⟨g1,g2⟩:=hacc i y e;rw[AE _ _ (by omega)];exact g2
         . have hd:¬BS x.N:=by rintro(⟨g,_⟩|⟨_,g⟩);rw[f1,k1]at g;exact absurd g (by decide);exact ht (by rw[<-f4,g])
           rcases List.eq_nil_or_concat ys with rfl|⟨ys',y,rfl⟩
           . have hft':AQ [] x.N=[]++[x.N]:=by rw[AQ,if_neg hd];rfl
             rw[hft']at hft;simp[go_sem,AW,em0,AD,k1,mt (G5 _).1 ht]
             repeat first|refine nq ?_|refine sq ?_|refine aq ?_
             rw[G4 (es:=[].map AB.e) (e:=x.N.e) (t:=22) (t2:=22) (el:=70) (z:=11) (by simp[go_sem]) (by simp[go_sem]) (by simp[go_sem]) (by simp) (by simp[go_sem]) (by simp[go_sem]) (by simp[go_sem]) (by simp) hA (AB.E.len _) ?a1 ?a2 _ (by simp)]
             case a1=>simp[AD,qw,SV.cells,f1,f2,f3,f4,f5,f6,hR,k1]
             case a2=>rw[AE _ _ (by omega),AE _ _ (by omega)];exact ho2
             simp[go_sem,w1,-Int.natCast_add];refine⟨k+1,by omega,some (m2+1),⟨by omega,by omega,by rw[hft,qc];exact hA.push (AB.E.st _) (AB.E.len _) (by omega) (by omega)⟩,⟨by rw[hft];simp[IO],IO⟩,?_⟩;rw[hft,qc];have:=EK (p:=m2+1) (v:=.sl (m2+1) 0 11 1 false) (e:=x.N.e) ho (by omega) hA (H:=h_ (h_ h2 m (some (.cells x.N.e.cells))) m2 (some (.cells x.N.e.cells))) (AR ho (by omega) (AR ho (by omega) BV));simpa[qw,SV.cells,C5.app,f1,f2,f3,f4,f5,f6,hR,k1]using this
           . rw[List.concat_eq_append]at *;have hym:=Lf l (λx hx=>⟨(hs x hx).1,(hs x hx).2.1⟩) k hk y (by rw[hys];simp);have hl':(ys'++[y]).length=ys'.length+1:=by simp
             have w2:IntKind.i64.wrap (ys'.length:Int)=(ys'.length:Int):=by rw[DA]<;>omega
             have hpos:(0:Int)<(ys'.length:Int)+1:=by omega
             have hpos2:(ys'.length:Int)<(ys'.length:Int)+1:=by omega
             have hAl:((ys'.map AB.e).flatMap SV.cells).length=ys'.length*11:=by rw[BO (AB.E.size ys'),qf]
             have ho3:h2 j=some (.cells ((ys'.map AB.e).flatMap SV.cells++y.e.cells)):=by rw[ho2];simp
             rw[qw y]at ho3;simp only[SV.cells]at ho3;generalize hA':(ys'.map AB.e).flatMap SV.cells=A at hAl ho3;by_cases hy1:y.k=1
             . simp[go_sem,AW,em0,AD,AE,hjm,k1,mt (G5 _).1 ht,ho3,w2,hpos,hpos2,<-hAl,hy1]
               repeat first|refine nq ?_|refine sq ?_|refine aq ?_
               refine Yg _ _ _ _ _ _ (by simpa[AF.e,AF.g]using c58 y.H x.H hym.1 hxh) ?_;by_cases hhd:y.H=x.H
               . have hcat:y.x.size+x.x.size<=9223372036854775807:=by have:=hym.2;omega
                 have hft':AQ (ys'++[y]) x.N=ys'++[y.cz x.x]:=by
                  rw[AQ,if_neg hd,vg];simp only;rw[if_pos ⟨by rw[f1,k1],hy1,by rw[hhd,f5]⟩,List.dropLast_concat,f4]
                 rw[hft']at hft;simp[go_sem,hhd,AD,AE,hjm,ho3,w1,w2,<-hAl,hcat,List.take_length_add_append,-Int.natCast_add]
                 repeat first|refine nq ?_|refine sq ?_|refine aq ?_
                 refine⟨k+1,by omega,some j,⟨by omega,by omega,?_⟩,⟨by rw[hft];simp[IO],IO⟩,λi y' e=>?_⟩;rw[hft];exact⟨by simp,λi e=>⟨(hA.lt i e).1,by have:=(hA.lt i e).2;omega⟩,AB.E.size _⟩;rw[hft]at e;simp only[AV]at e;by_cases e1:i=j;subst e1;rw[AD]at e ⊢;rw[<-e];have ec:(y.cz x.x).e.cells=[AA y.k,AA y.code,AA y.id,.str (y.x++x.x),AU y.H.Q,AA y.H.I,AA y.H.move,Ax y.H.Y,Ai y.H.Z,AK y.W,Aw y.R]:=by rw[qw];rfl
                 rw[qc,Jk,hA',List.map_singleton,List.flatMap_singleton,ec,hhd];simp[qu];rw[AE _ _ e1]at e;obtain⟨g1,g2⟩:=hacc i y' (by simp only[AV];rw[AE _ _ e1];exact e);rw[AE _ _ e1,AE _ _ (by omega)];exact g2
               . have hft':AQ (ys'++[y]) x.N=(ys'++[y])++[x.N]:=by
                  rw[AQ,if_neg hd,vg];simp only;rw[if_neg (by rw[f5];exact λg=>hhd g.2.2)]
                 rw[hft']at hft;simp[go_sem,hhd,AD]
                 repeat first|refine nq ?_|refine sq ?_|refine aq ?_
                 rw[G4 (es:=(ys'++[y]).map AB.e) (e:=x.N.e) (t:=22) (t2:=22) (el:=70) (z:=11) (by simp[go_sem]) (by simp[go_sem]) (by simp[go_sem]) (by simp) (by simp[go_sem]) (by simp[go_sem]) (by simp[go_sem]) (by simp;omega) hA (AB.E.len _) ?a1 ?a2 _ (by simp)]
                 case a1=>simp[AD,qw,SV.cells,f1,f2,f3,f4,f5,f6,hR,k1]
                 case a2=>rw[AE _ _ (by omega),AE _ _ (by omega)];exact ho2
                 simp[go_sem,w1,-Int.natCast_add];refine⟨k+1,by omega,some (m2+1),⟨by omega,by omega,by rw[hft,qc];exact hA.push (AB.E.st _) (AB.E.len _) (by omega) (by omega)⟩,⟨by rw[hft];simp[IO],IO⟩,?_⟩;rw[hft,qc];have:=EK (p:=m2+1) (v:=.sl (m2+1) 0 11 (((ys'++[y]).map AB.e).length+1) false) (e:=x.N.e) ho (by omega) hA (H:=h_ (h_ h2 m (some (.cells x.N.e.cells))) m2 (some (.cells x.N.e.cells))) (AR ho (by omega) (AR ho (by omega) BV));simpa[qw,SV.cells,C5.app,f1,f2,f3,f4,f5,f6,hR,k1]using this
             . simp[go_sem,AW,em0,AD,AE,hjm,k1,mt (G5 _).1 ht,ho3,w2,hpos,hpos2,<-hAl,hy1]
               repeat first|refine nq ?_|refine sq ?_|refine aq ?_
               have hft':AQ (ys'++[y]) x.N=(ys'++[y])++[x.N]:=by
                rw[AQ,if_neg hd,vg];simp only;rw[if_neg (λg=>hy1 g.2.1)]
               rw[hft']at hft;rw[G4 (es:=(ys'++[y]).map AB.e) (e:=x.N.e) (t:=22) (t2:=22) (el:=70) (z:=11) (by simp[go_sem]) (by simp[go_sem]) (by simp[go_sem]) (by simp) (by simp[go_sem]) (by simp[go_sem]) (by simp[go_sem]) (by simp;omega) hA (AB.E.len _) ?a1 ?a2 _ (by simp)]
               case a1=>simp[AD,qw,SV.cells,f1,f2,f3,f4,f5,f6,hR,k1]
               case a2=>rw[AE _ _ (by omega),AE _ _ (by omega)];exact ho2
               simp[go_sem,w1,-Int.natCast_add];refine⟨k+1,by omega,some (m2+1),⟨by omega,by omega,by rw[hft,qc];exact hA.push (AB.E.st _) (AB.E.len _) (by omega) (by omega)⟩,⟨by rw[hft];simp[IO],IO⟩,?_⟩;rw[hft,qc];have:=EK (p:=m2+1) (v:=.sl (m2+1) 0 11 (((ys'++[y]).map AB.e).length+1) false) (e:=x.N.e) ho (by omega) hA (H:=h_ (h_ h2 m (some (.cells x.N.e.cells))) m2 (some (.cells x.N.e.cells))) (AR ho (by omega) (AR ho (by omega) BV));simpa[qw,SV.cells,C5.app,f1,f2,f3,f4,f5,f6,hR,k1]using this
       . have hd:¬BS x.N:=by rintro(⟨g,_⟩|⟨g,_⟩);rw[f1]at g;exact k7 g;rw[f1]at g;exact k1 g
         rw[happ hd k1]at hft;simp[go_sem,AW,em0,AD,k1,k7]
         repeat first|refine nq ?_|refine sq ?_|refine aq ?_
         rw[G4 (es:=ys.map AB.e) (e:=x.N.e) (t:=22) (t2:=22) (el:=70) (z:=11) (by simp[go_sem]) (by simp[go_sem]) (by simp[go_sem]) (by simp) (by simp[go_sem]) (by simp[go_sem]) (by simp[go_sem]) (by simp;omega) hA (AB.E.len _) ?a1 ?a2 _ (by simp)]
         case a1=>simp[AD,qw,SV.cells,f1,f2,f3,f4,f5,f6,hR]
         case a2=>rw[AE _ _ (by omega),AE _ _ (by omega)];exact ho2
         simp[go_sem,w1,-Int.natCast_add];refine⟨k+1,by omega,some (m2+1),⟨by omega,by omega,by rw[hft,qc];exact hA.push (AB.E.st _) (AB.E.len _) (by omega) (by omega)⟩,⟨by rw[hft];simp[IO],IO⟩,?_⟩;rw[hft,qc];have:=EK (p:=m2+1) (v:=.sl (m2+1) 0 11 ((ys.map AB.e).length+1) false) (e:=x.N.e) ho (by omega) hA (H:=h_ (h_ h2 m (some (.cells x.N.e.cells))) m2 (some (.cells x.N.e.cells))) (AR ho (by omega) (AR ho (by omega) BV));simpa[qw,SV.cells,C5.app,f1,f2,f3,f4,f5,f6,hR,k1]using this
 have:k=l.length:=by omega
 subst this;rw[qm]at hA ⊢;simp[go_sem];exact .inl (Mo ho hA AC hnm (qa _))
theorem YD(x:cr)(b:x.H.D)(H:PC 73 [AK x.W] (AK (AO x.W))):PC 195 [x.e] (cr.N x).e:=by
 intro h n;refine gq func195 rfl λa=>?_;have e:(cr.N x).e=.agg [AA x.id,AU x.H.Q,AA x.H.I,AA x.H.move,Ax x.H.Y,Ai x.H.Z,AK (AO x.W)]:=by cases x;rw[cr.N,Us];rfl
 rw[e];simp[go_sem,Us,AD,AE]
 repeat first|refine nq ?_|refine sq ?_|refine aq ?_
 refine Yg _ _ _ _ _ _ (by simpa[AF.e,AF.g]using So x.H b) ?_;simp[go_sem,AD,AE]
 repeat first|refine nq ?_|refine sq ?_|refine aq ?_
 refine Yg _ _ _ _ _ _ H ?_;simp[go_sem,AD]
 repeat first|refine nq ?_|refine sq ?_|refine aq ?_
 exact A3 a (by repeat(first|exact AC|refine AR a (by omega) ?_)) rfl (by rw[<-e];exact cr.cl n _)
theorem X8(x:AP)(b:x.H.D)(hc:x.cells.length<=1048576)(H:∀(i:Nat)(h:i<x.cells.length),PC 195 [(x.cells[i]).e] (cr.N x.cells[i]).e):PC 135 [x.e] (AP.N x).e:=by
 intro h n;refine gq func135 rfl λa=>?_;have h1:=(c7 x.cells hc 195 [] [] cr.N (λi hi=>H i hi)).pc (cr.E.size _) (λn=>cr.E.ca n _);have e:(AP.N x).e=.agg [AU x.H.Q,AA x.H.I,AA x.H.move,Ax x.H.Y,Ai x.H.Z,BZ (x.cells.map cr.N)]:=by cases x;rw[AP.N,Yw,cr.qA];rfl
 rw[e];simp[go_sem,Yw,AD,AE,-List.map_map]
 repeat first|refine nq ?_|refine sq ?_|refine aq ?_
 refine Yg _ _ _ _ _ _ (by simpa[AF.e,AF.g]using So x.H b) ?_;simp[go_sem,AD,AE,-List.map_map]
 repeat first|refine nq ?_|refine sq ?_|refine aq ?_
 refine Yg _ _ _ _ _ _ h1 ?_;simp[go_sem,AD,-List.map_map]
 repeat first|refine nq ?_|refine sq ?_|refine aq ?_
 exact A3 a (by repeat(first|exact AC|refine AR a (by omega) ?_)) rfl (by rw[<-e];exact AP.cl n _)
theorem aG{l:List AB}(H:LC 73 [AK l] 11 ((AO l).map AB.e)):PC 73 [AK l] (AK (AO l)):=H.pc (AB.E.size _) λn=>AB.E.ca n _
theorem EY{x:AB}(h:x.D):x.H.D/\x.x.size<=1048576/\x.R.length<=1048576:=by cases x;rw[AB.D]at h;exact⟨h.2.1,h.1,h.2.2.2.1⟩
def NI(x:AB):Prop:=PC 73 [AK x.W] (AK (AO x.W))/\∀(i:Nat)(h:i<x.R.length),PC 135 [(x.R[i]).e] (AP.N x.R[i]).e
mutual
theorem cNI:∀x:AB,x.D->NI x
 | .mk k c i t hd f r,hs=>by
  rw[AB.D]at hs;refine⟨aG (Sp f hs.2.2.1 (λx a=>EY (vq hs.2.2.2.2.1 x a)) (λx a=>(Sq f hs.2.2.2.2.1 x a).1) λx a=>(Sq f hs.2.2.2.2.1 x a).2),?_⟩;exact Y9 r hs.2.2.2.2.2
theorem Sq:∀l:List AB,AB.G l->∀x∈l,NI x
 | [],_,x,h=>by simp at h
 | y::l,hs,x,h=>by
  rw[AB.G]at hs;rcases qt.1 h with h|h;rw[h];exact cNI y hs.1;exact Sq l hs.2 x h
theorem fB:∀x:AP,x.D->PC 135 [x.e] (AP.N x).e
 | .mk hd c,hs=>by
  rw[AP.D]at hs;exact X8 (.mk hd c) hs.1 hs.2.1 (ZB c hs.2.2)
theorem Y9:∀l:List AP,AP.G l->∀(i:Nat)(h:i<l.length),PC 135 [(l[i]).e] (AP.N l[i]).e
 | [],_,i,h=>by simp at h
 | x::l,hs,0,_=>by rw[AP.G]at hs;exact fB x hs.1
 | x::l,hs,i+1,h=>by rw[AP.G]at hs;exact Y9 l hs.2 i (by simpa using h)
theorem fU:∀x:cr,x.D->PC 195 [x.e] (cr.N x).e
 | .mk i hd f,hs=>by
  rw[cr.D]at hs;exact YD (.mk i hd f) hs.1 (aG (Sp f hs.2.1 (λx a=>EY (vq hs.2.2 x a)) (λx a=>(Sq f hs.2.2 x a).1) λx a=>(Sq f hs.2.2 x a).2))
theorem ZB:∀l:List cr,cr.G l->∀(i:Nat)(h:i<l.length),PC 195 [(l[i]).e] (cr.N l[i]).e
 | [],_,i,h=>by simp at h
 | x::l,hs,0,_=>by rw[cr.G]at hs;exact fU x hs.1
 | x::l,hs,i+1,h=>by rw[cr.G]at hs;exact ZB l hs.2 i (by simpa using h)
end
theorem l73(l:List AB)(hl:l.length<=1048576)(b:AB.G l):LC 73 [AK l] 11 ((AO l).map AB.e):=
 Sp l hl (λx a=>EY (vq b x a)) (λx a=>(Sq l b x a).1) λx a=>(Sq l b x a).2
theorem c73(l:List AB)(hl:l.length<=1048576)(a:AB.G l):PC 73 [AK l] (AK (AO l)):=aG (l73 l hl a)
def Cn(r:BC):Int:=
 if r.id<1\/1073741824<r.id then 18 else if r.O.size=0 then 11 else if 40<r.O.size then 10 else if A5 r.O=false then 12 else if r.time<0\/1099511627776<r.time then 40 else 0
theorem d7(r:BC):PC 42 [r.e] (AA (Cn r)):=by
 intro h n;refine gq func42 rfl λa=>?_;have b:∀y,∀o x,h o=some x->h_ h n y o=some x:=λy=>AR a (qa _) AC;by_cases a1:r.id<1;simp[go_sem,BC.e,AD,a1];exact A3 a (b _) (by simp[Cn,a1]) rfl;by_cases a2:1073741824<r.id;simp[go_sem,BC.e,AD,a1,a2];exact A3 a (b _) (by simp[Cn,a2]) rfl;by_cases a3:r.O.size=0;simp[go_sem,BC.e,AD,a1,a2,G5,a3];exact A3 a (b _) (by simp[Cn,a1,a2,a3]) rfl;by_cases a4:40<r.O.size;have c:(40:Int)<r.O.size:=by omega
 simp[go_sem,BC.e,AD,a1,a2,G5,a3,c];exact A3 a (b _) (by simp[Cn,a1,a2,a3,a4]) rfl;have c:¬(40:Int)<r.O.size:=by omega
 simp[go_sem,BC.e,AD,a1,a2,G5,a3,c];refine(Sn r.O (by omega)).use ?_;cases a5:A5 r.O;simp[go_sem];exact A3 a (b _) (by simp[Cn,a1,a2,a3,a4,a5]) rfl;by_cases d:r.time<0;simp[go_sem,AD,d];exact A3 a (b _) (by simp[Cn,a1,a2,a3,a4,a5,d]) rfl;by_cases e:1099511627776<r.time;simp[go_sem,AD,d,e];exact A3 a (b _) (by simp[Cn,a1,a2,a3,a4,a5,e]) rfl;simp[go_sem,AD,d,e];exact A3 a (b _) (by simp[Cn,a1,a2,a3,a4,a5,d,e]) rfl
def Fg(l:List BC)(i:Nat):Int:=match l[i]? with
 | some r=>if Cn r=0 then if i=0 then 0 else match l[i-1]? with|some q=>if GD r.id q.id=0 then 7 else if GD r.id q.id = -1 then 6 else 0|none=>0 else Cn r
 | none=>0
def Ct(l:List BC):Int:=if 256<l.length then 9 else CD (Fg l) l.length
theorem pq(l:List BC)(hl:l.length<=1048576):PC 71 [BE l] (AA (Ct l)):=by
 intro h n;refine gq func71 rfl λg=>?_;by_cases a0:256<l.length;have c:(256:Int)<l.length:=by omega
 simp[go_sem,c];exact As g rfl (by simp[Ct,a0]);have c:¬(256:Int)<l.length:=by omega
 simp[go_sem,c];refine Av 1 (α:=Nat) (λk=>[(0,BE l),(9,BE l),(10,AA l.length),(11,AA k)]) (λ_=>h) (λk m=>k<=l.length/\n<=m/\CD (Fg l) k=0) (λk=>l.length-k) 0 ?_ ?_ AC ?_;exact⟨qg _,qa _,rfl⟩;simp[Ao];rintro k m ⟨hk,t,s⟩;have i:∀y,∀o x,h o=some x->h_ h m y o=some x:=λy=>AR g t AC;by_cases f:k<l.length
 . have w1:=wS k (by omega);obtain⟨r,u⟩:∃r,l[k]=r:=⟨_,rfl⟩
   have a:l[k]? = some r:=by simp[f,u]
   have d:∀e,Fg l k=e->e≠0->Ct l=e:=λe h1 h2=>by rw[Ct,if_neg a0,EM _ f s (by rw[h1];exact h2),h1]
   have GJ:Fg l k=0->CD (Fg l) (k+1)=0:=λe=>by rw[CD,s,if_pos rfl,e]
   simp[go_sem,f,u,BC.e,AD,Ah];refine qz (by simpa[BC.e]using d7 r) ?_;by_cases b:Cn r=0
   . by_cases p:k=0;subst p;simp[go_sem,b];exact⟨1,by omega,⟨by omega,by omega,GJ (by simp[Fg,a,b])⟩,IO,i _⟩
     . have w2:IntKind.i64.wrap ((k:Int)-1)=((k-1:Nat):Int):=by rw[DA]<;>omega
       obtain⟨q,j⟩:∃q,l[k-1]? = some q:=⟨l[k-1],by simp[show k-1<l.length by omega]⟩
       have hq2:l[k-1]=q:=by have:=(qh.1 j).2;exact this
       simp[go_sem,b,p,AD,w2,j,BC.e]
       repeat refine⟨by kernel_rfl,?_⟩
       refine Yg _ _ _ _ _ _ (V4 r.id q.id) ?_;by_cases c0:GD r.id q.id=0
       . simp[go_sem,c0]
         repeat refine⟨by kernel_rfl,?_⟩
         exact A3 g (i _) (by rw[d 7 (by simp[Fg,a,b,p,j,c0]) (by simp)]) rfl
       . by_cases c1:GD r.id q.id = -1
         . simp[go_sem,c1]
           repeat refine⟨by kernel_rfl,?_⟩
           exact A3 g (i _) (by rw[d 6 (by simp[Fg,a,b,p,j,c1]) (by simp)]) rfl
         . simp[go_sem,c0,c1,w1,-Int.natCast_add]
           repeat refine⟨by kernel_rfl,?_⟩
           exact⟨k+1,by omega,⟨by omega,by omega,GJ (by simp[Fg,a,b,p,j,c0,c1])⟩,IO,i _⟩
   simp[go_sem,b];exact A3 g (i _) (by rw[d (Cn r) (by simp[Fg,a,b]) b]) rfl
 have:k=l.length:=by omega
 subst this;simp[go_sem];exact As g rfl (by simp[Ct,a0,s])
theorem fA(r:BC)(id:Int):PC 132 [r.e,AA id] (AA (GD r.id id)):=by
 intro h n;refine gq func132 rfl λa=>?_;simp[go_sem,BC.e,AD];refine(V4 r.id id).use ?_;simp[go_sem];exact A3 a (AR a (qa _) AC) rfl rfl
def F6(l:List BC)(id:Int)(i:Nat):Int:=match l[i]? with|some r=>GD r.id id|none=>0
theorem pv(l:List BC)(hl:l.length<=1048576)(id:Int):PC 72 [BE l,AA id] (.tup [AA (Az (F6 l id) l.length).1,.bool (Az (F6 l id) l.length).2]):=by
 intro h n;refine gq func72 rfl λa=>?_;simp[go_sem];refine(ez l hl (AA id) 132 [] [] (F6 l id) λi hi=>by simpa[F6,hi]using fA l[i] id).use ?_;simp[go_sem];exact As a rfl rfl
def HJ:BC:=⟨0,⟨#[]⟩,0⟩
def HI(id:Int):List BC->BC×Bool
 | []=>(HJ,false)
 | r::l=>if r.id=id then(r,true)else HI id l
def CT(l:List BC)(id:Int):BC×Bool:=if Ct l=0 then(if(Az (F6 l id) l.length).2=true then((l[(Az (F6 l id) l.length).1]?).getD HJ,true)else(HJ,false))else HI id l
theorem Fw(c:Nat->Int)(n:Nat)(h:(Az c n).2=true):(Az c n).1<n:=by
 simp only[Az,decide_eq_true_eq]at h ⊢;exact h.1
theorem fW(l:List BC)(hl:l.length<=1048576)(id:Int):PC 20 [BE l,AA id] (.tup [(CT l id).1.e,.bool (CT l id).2]):=by
 intro h n;refine gq func20 rfl λg=>?_;have s:∀y z,∀o x,h o=some x->h_ (h_ h n y) n z o=some x:=λy z=>AR g (qa _) (AR g (qa _) AC);have j:∀(r:BC) b,cc n (.tup [r.e,.bool b])=true:=λr b=>by simp[cc,ca,BC.E.cl]
 simp[go_sem];refine(pq l hl).use ?_;by_cases q:Ct l=0;simp[go_sem,q];refine(pv l hl id).use ?_;cases i:(Az (F6 l id) l.length).2;simp[go_sem,AD];exact A3 g (s _ _) (by simp[CT,q,i];rfl) (j _ _);have d:=Fw _ _ i;simp[go_sem,d,AD,BC.e];exact A3 g (s _ _) (by simp[CT,q,i,d]) (j _ _);simp[go_sem,q];have v:CT l id=HI id l:=by simp[CT,q]
 rw[v];refine Av 1 (α:=Nat) (λk=>[(1,AA id),(4,.ptr n 0),(25,BE l),(26,AA l.length),(27,AA k)]) (λ_=>h_ h n (some (.cells HJ.e.cells))) (λk m=>k<=l.length/\n<m/\HI id l=HI id (l.drop k)) (λk=>l.length-k) 0 ?_ ?_ AC ?_;exact⟨qg _,qY n,rfl⟩;simp[Ao];rintro k m ⟨hk,hnm,p⟩;have f:n≠m:=by omega
 have h2:∀a b c,∀o x,h o=some x->h_ (h_ (h_ h n a) m b) m c o=some x:=λa b c=>AR g (by omega) (AR g (by omega) (AR g (qa _) AC));by_cases d:k<l.length;have w1:=wS k (by omega);obtain⟨r,t⟩:∃r,l[k]=r:=⟨_,rfl⟩
 rw[qQ d,t,HI]at p;by_cases i:r.id=id;simp[go_sem,d,t,BC.e,AD,AE,f,i,HJ];rw[if_pos i]at p;rw[p];exact A3 g (AR g (qa _) (h2 _ _ _)) (by simp[i]) (j _ _);simp[go_sem,d,t,BC.e,AD,i,w1,-Int.natCast_add,HJ];rw[if_neg i]at p;refine⟨k+1,by omega,⟨by omega,by omega,p⟩,IO,λo y e=>?_⟩;by_cases u:o=n;subst u;simp only[AD,AE _ _ f]at e ⊢;exact e;simp only[AE _ _ u]at e;exact h2 _ _ _ o y e;have:k=l.length:=by omega
 subst this;simp[go_sem,AD,HJ,BC.e];rw[List.drop_length]at p;rw[p];exact A3 g (s _ _) rfl (j _ _)
section
variable{F:Fence}{n:Nat}{P:Program}{ops:Array Oper}{Q:Exit->Act->World->Prop}{S:World->Prop}{md:Region.Mode}
def FW(P:Program)(ops:Array Oper)(S:World->Prop)(o:Oper)(v:Value)(a:Act):Prop:=YieldsIf P ops S o v a/\∀w,o.about P w a.eval=none
theorem FW.wpOpIn{i:Nat}{o:Oper}{v:Value}{a:Act}(c:F.round=none)(hi:ops[i]? = some o)(e:FW P ops S o v a)
 {K:Act->World->Prop} {w:World} (g:S w) (h:K (a.put o.dst v) w):wpOpIn F n P ops Q i K a w:=by
 unfold Go.wpOpIn;simp only[hi];have b:∀f,o.about P w a.eval=some f->F.fn f:=λf d=>by rw[e.2 w]at d;cases d
 rcases e.1 with⟨hw,j⟩|⟨hw,rfl⟩
 simp only[hw,if_true,Oper.wpIn,c,Oper.semAt_none,j w g,Oper.uponIn];exact⟨b,h⟩;simp only[hw,qn,if_false];exact⟨b,h⟩
theorem FW.of_same{o:Oper}{v:Value}{a a':Act}(b:FW P ops S o v a)(c:execOp a'.eval o=execOp a.eval o)
 (hw:Region.wanted o (yielded ops a'.tmps)=Region.wanted o (yielded ops a.tmps)) (hb:∀w,o.about P w a'.eval=o.about P w a.eval):FW P ops S o v a':=
 ⟨b.1.of_same c hw,λw=>by rw[hb w];exact b.2 w⟩
theorem SY{j:Nat}{oi oj:Oper}{v:Value}(hro:F.round=none)(hj:ops[j]? = some oj)(hap:oi.apart ops oj=true)
 (hsi:∀cs b,oi.op≠.select cs b) (hsj:∀cs b,oj.op≠.select cs b)
 (hQ:∀c a w,Q (.panic c) (a.put oi.dst v) w->Q (.panic c) a w) {K:Act->World->Prop} {a:Act} {w:World}
 (hy:FW P ops S oi v a) (h:wpOpIn F n P ops Q j K (a.put oi.dst v) w):
 wpOpIn F n P ops Q j (λa' w'=>FW P ops S oi v a'/\K (a'.put oi.dst v) w') a w:=by
 obtain⟨h1,h2,h3⟩:=Oper.apart_spec hap;have keep:∀(a:Act),FW P ops S oi v a->∀u,FW P ops S oi v (a.put oj.dst u):=λa hy u=>
  hy.of_same (execOp_put oi hsi a oj.dst u h3) (wanted_put oi a oj.dst u h3) (λw=>about_put oi w a oj.dst u h3)
 have keepD:∀d,FW P ops S oi v { a with defers:=d::a.defers }:=λd=>hy.of_same rfl rfl (λ_=>rfl);unfold wpOpIn at *;simp only[hj]at *;rw[wanted_put oj a oi.dst v h1,about_put oj w a oi.dst v h1]at h;split
 . rename_i hw;simp only[hw,if_true]at h;unfold Oper.wpIn at *;rw[about_put oj w a oi.dst v h1]at h;refine⟨h.1,?_⟩;have h:=h.2;rw[hro,Oper.semAt_none,execOp_put oj hsj a oi.dst v h1]at h;rw[hro,Oper.semAt_none];generalize(execOp a.eval oj).run P w=r at *;cases r with
   | ok x w' =>
    cases x<;>simp only[Oper.uponIn]at h ⊢
    case value u=>exact⟨keep a hy u,by rw[<-Act.put_comm a v u h2];exact h⟩
    case skip=>exact⟨keep a hy _,by rw[<-Act.put_comm a v undef h2];exact h⟩
    case defer d=>
     refine⟨keep _ (keepD d) _,?_⟩;rw[<-Act.put_comm _ v undef h2,<-Act.put_defers];exact h
    case enter f args=>
     refine⟨h.1,CallsIn.mono h.2 λe w'' he=>?_⟩;cases e with
     | returned u=>exact⟨keep a hy u,by rw[<-Act.put_comm a v u h2];exact he⟩
     | panicked c=>exact hQ _ _ _ he
     | outgrown=>exact he
    case row row args=>exact⟨h.1,RowsIn.mono h.2 λu w'' he=>⟨keep a hy u,by rw[<-Act.put_comm a v u h2];exact he⟩⟩
    case round l f tmps assign body=>
     refine⟨h.1,RoundIn.mono h.2 λe w'' he=>?_⟩;cases e with
     | returned u=>exact⟨keep a hy u,by rw[<-Act.put_comm a v u h2];exact he⟩
     | panicked c=>exact hQ _ _ _ he
     | outgrown=>exact he
   | halt x w'=>
    cases x<;>simp only[Oper.uponIn]at h ⊢
    case panic u=>exact hQ _ _ _ h
 rename_i hw;simp only[hw]at h;exact⟨h.1,keep a hy _,by rw[<-Act.put_comm a v undef h2];exact h.2⟩
def Ob(F:Fence)(n:Nat)(P:Program)(md:Region.Mode)(ops:Array Oper)(Q:Exit->Act->World->Prop)(S:World->Prop):Nat->Array Bool->Act->World->Prop
 | 0,listed,a,w=>Region.ready md ops listed=[]/\Q .normal a w
 | fuel+1,listed,a,w=>
  (Region.ready md ops listed=[]->Q .normal a w)/\
  ∀i∈Region.ready md ops listed,wpOpIn F n P ops Q i (λa' w'=>S w'/\Ob F n P md ops Q S fuel (listed.setIfInBounds i true) a' w') a w
theorem LQ:∀(b:Nat)(c:Array Bool)(a:Act)(w:World),Ob F n P md ops Q S b c a w->wpAnyIn F n P md ops Q b c a w
 | 0,_,_,_,h=>h
 | b+1,_,_,_,h=>⟨h.1,λi hi=>wpOpIn_mono (λa' w' h'=>LQ b _ a' w' h'.2) (h.2 i hi)⟩
theorem LR{i:Nat}{u:Oper}{v:Value}(t:F.round=none)(hi:ops[i]? = some u)(q:∀(j:Nat)(o:Oper) cs b,ops[j]? = some o->o.op≠.select cs b)
 (L:∀c a w,Q (.panic c) (a.put u.dst v) w->Q (.panic c) a w):
 ∀(f:Nat)(d:Array Bool)(a:Act)(w:World),
  (∀j x,ops[j]? = some x->j≠i->d.getD j true=false->(∀e∈x.after,Region.binds md e=true->e.on≠i)->u.apart ops x=true)->
  i∈Region.ready md ops d->FW P ops S u v a->S w->
  Ob F n P md ops Q S f (d.setIfInBounds i true) (a.put u.dst v) w->Ob F n P md ops Q S (f+1) d a w:=by
 intro f
 induction f with
 | zero=>
  intro d a w _ s G y H;refine⟨λh=>(by rw[h]at s;cases s),λj E=>?_⟩;by_cases g:j=i;subst g;exact G.wpOpIn t hi y ⟨y,H⟩;have:=ready_mono E g;rw[H.1]at this;cases this
 | succ f ih=>
  intro d a w l s G y H;refine⟨λh=>(by rw[h]at s;cases s),λj E=>?_⟩;by_cases g:j=i;subst g;exact G.wpOpIn t hi y ⟨y,H⟩;have h1:=H.2 j (ready_mono E g);obtain⟨p,x,r,z⟩:=mem_ready.1 E;have B:∀e∈x.after,Region.binds md e=true->e.on≠i:=λe M hb I=>by
   have h1:=z e M hb;have h0:=(mem_ready.1 s).1;rw[I]at h1;rcases YV i d.size with h'|h';simp[h']at h0 h1;rw[h0]at h1;cases h1;simp[Yv h']at h1
  have h2:=SY t r (l j x r g p B) (λcs b=>q i u cs b hi) (λcs b=>q j x cs b r) L G h1;have m:∀k ok,ops[k]? = some ok->k≠i->(d.setIfInBounds j true).getD k true=false->
   (∀e∈ok.after,Region.binds md e=true->e.on≠i)->u.apart ops ok=true:=λk ok N J C K=>by
   refine l k ok N J ?_ K;by_cases A:j=k;subst A;exact p;rw[getD_set_ne true A]at C;exact C
  refine wpOpIn_mono (λa' w' D=>⟨D.2.1,ih (d.setIfInBounds j true) a' w' m (ready_mono s (Ne.symm g)) D.1 D.2.1 ?_⟩) h2;rw[Array.setIfInBounds_comm _ _ g];exact D.2.2
end
def MQ(P:Program)(st:Bool)(ev:Operand->SV):Op->Option SV
 | .move x|.assign x=>some (ev x)
 | .fieldAddr t x i=>Hl P t (ev x) i
 | .load t a=>match st,ev a with|true,.q cs=>(Bz cs 0 (Br P t)).bind (Sk (Gl P t))|_,_=>none
 | .indexAddr t x i=>match ev x,ev i with|.i z es f,.int _ n=>if(BA P t).isSome then Ho P t (.i z es f) n else none|_,_=>none
 | .slice t x lo hi mx=>match ev x with|.i z es f=>KY P t (.i z es f) (lo.map ev) (hi.map ev) (mx.map ev)|_=>none
 | .extract x i=>match ev x with|.tup vs=>vs[i]? | _=>none
 | .unOp op _ x=>match op,ev x with|.not,.bool b=>some (.bool !b)|_,_=>none
 | .pick x a b=>match ev x with|.bool t=>some (if t then ev a else ev b)|_=>none
 | .makeFunc f a b=>some (.fn f (a.toList.map ev) (b.toList.map ev))
 | .nilCheck x=>match ev x with|.ptr o a=>some (.ptr o a)|.q cs=>some (.q cs)|_=>none
 | .call { callee:=.builtin .min,args,.. }=>match args.toList with|[x,y]=>(match ev x,ev y with|.int k a,.int k' b=>if k=k' then some (.int k (if b<a then b else a))else none|_,_=>none)|_=>none
 | .call { callee:=.builtin .max,args,.. }=>match args.toList with|[x,y]=>(match ev x,ev y with|.int k a,.int k' b=>if k=k' then some (.int k (if b>a then b else a))else none|_,_=>none)|_=>none
 | .binOp op _ x y _=>match ev x,ev y with|.int k a,.int k' b=>if op≠.shl/\op≠.shr/\k=k' then(Lk op k a b)else none|_,_=>none
 | .call { callee:=.builtin .len,args,argTypes }=>match argTypes.toList,args.toList with|[t],[x]=>(match ev x with|.i _ es _=>if(BA P t).isSome then some (.int .i64 es.length)else none|_=>none)|_,_=>none
 | _=>none
def Qs(P:Program)(ev:Operand->Value)(o:Oper)(c:Cx)(v:SV)(W:World->Prop):Prop:=∃u,V c v u/\∀w,W w->(execOp ev o).run P w=.ok (.value u) w
section
variable{P:Program}{ev:Operand->Value}{o:Oper}{c:Cx}{evs:Operand->SV}
theorem VB{t:TypeId}{x:Operand}{v:SV}{cs:List SV}(p:o.op=.load t x)(e:evs x=.q cs)(l:(Bz cs 0 (Br P t)).bind (Sk (Gl P t))=some v)(h:V c (evs x) (ev x)):
 Qs P ev o c v λw=>∃d,d.w=w/\EH c d:=by
 rw[e,V]at h;obtain⟨a,vs,q,k,hc,j⟩:=h;rw[BP]at hc;cases ht:Bz cs 0 (Br P t)with
 | none=>simp[ht]at l
 | some r =>
  simp only[ht,qK]at l;obtain⟨hle,rfl⟩:=FH ht;simp only[vt]at l;have n:=hc.take (Br P t);have m:∀x∈vs.take (Br P t),x.oneCell'=true:=λx e=>k.one x (qS e);have f:(vs.take (Br P t)).length=Br P t:=by have:=hc.length;simp;omega
  have b:∀d:Cx,EH c d->∀i x,(vs.take (Br P t))[i]? = some x->d.w.cell? ⟨a.block,a.off+i,none⟩=some x:=λd X i x e=>by
   rw[JY]at e;split at e;exact(k.mono X).cell _ _ e;cases e
  rcases Ms l n m with⟨g,h⟩|⟨g,x,e,h⟩
  refine⟨_,h,?_⟩;rintro w ⟨d,rfl,X⟩;simp[execOp,p,q,Instr.loadAt,Instr.sureAddr,(Em j g f (b d X)).1 rfl];refine⟨_,h,?_⟩;rintro w ⟨d,rfl,X⟩;simp[execOp,p,q,Instr.loadAt,Instr.sureAddr,(Em j g f (b d X)).2 rfl x e]
theorem TU{t:TypeId}{x:Operand}{i:Nat}{v:SV}(F:o.op=.fieldAddr t x i)(e:Hl P t (evs x) i=some v)(r:V c (evs x) (ev x)):Qs P ev o c v λ_=>True:=by
 simp only[Hl]at e;cases g:JH P t i with
 | none=>simp[g]at e
 | some q=>
  obtain⟨off,C⟩:=q;simp only[g]at e;by_cases B:Br P C=0;simp[B]at e
  . simp only[B,if_false]at e;obtain⟨u,f,y,l,rfl,rfl⟩:∃u f,P.underlying t=some (.struct u)/\u[i]? = some f/\f.offset=off/\f.type=C:=by
     unfold JH at g;cases y:P.underlying t with
     | none=>simp[y]at g
     | some d=>
      cases d<;>simp only[y]at g<;>try cases g
      rename_i u;simp only[qN]at g;obtain⟨f,l,E⟩:=g;cases E;exact⟨u,f,rfl,l,rfl,rfl⟩
    obtain⟨s,hi,hsz⟩:∃s,P.info? f.type=some s/\Br P f.type=s.size:=by
     cases hi:P.info? f.type with
     | none=>simp[Br,Program.cellsOf,hi]at B
     | some s=>exact⟨s,rfl,by simp[Br,Program.cellsOf,hi]⟩
    have z:∀(a:Addr)(w:World),(fieldPlace a f).run P w=.ok (a.add f.offset) w:=λa w=>by
     simp[fieldPlace,sizeOf,typeInfo,hi,show ¬s.size=0 by omega]
    have k:∀(a:Addr)(w:World),ev x=.pointer (some a)->(execOp ev o).run P w=.ok (.value (.pointer (some (a.add f.offset)))) w:=λa w D=>by
     simp[execOp,F,Instr.fieldAt,AN y,l,D,Instr.sureAddr,z]
    split at e<;>try (simp at e;done)
    rename_i j a p;cases e;rw[p,V]at r;obtain⟨b,st,hρ,n⟩:=r;refine⟨_,?_,λw _=>k _ w n⟩;rw[FY,V];exact⟨b,st,hρ,by rw[qu]⟩;rename_i cs p;cases e;rw[p,V]at r;obtain⟨a,vs,n,m,hc,A⟩:=r;refine⟨_,?_,λw _=>k _ w n⟩;rw[C4 A,V];refine⟨_,vs.drop f.offset,rfl,⟨λ_=>rfl,λG=>m.free (by rintro rfl;simp at G),λj x p=>?_,λx r=>m.one x (JJ r)⟩,BP.2 ((BP.1 hc).drop _),rfl⟩;rw[Km]at p;simp only[qu];exact m.cell _ _ p
theorem TV{t:TypeId}{x y:Operand}{z:Nat}{es:List SV}{full:Bool}{J:IntKind}{n:Int}{v:SV}(H:o.op=.indexAddr t x y)(G:evs x=.i z es full)(hn:evs y=.int J n)(h:(BA P t).isSome=true)
 (b:Ho P t (.i z es full) n=some v) (j:V c (evs x) (ev x)) (B:V c (evs y) (ev y)):Qs P ev o c v λ_=>True:=by
 rw[hn]at B;have r:=DF B;obtain⟨e,g⟩:=X6.1 h;have I:=Ay g;simp only[Ho,g]at b;by_cases s:Br P e=0;simp[s]at b;obtain⟨ii,hi,p⟩:=Dy s;simp only[s,if_false]at b;by_cases hc:z=Br P e/\0<=n;simp only[hc,and_self,if_true]at b;obtain⟨k,l⟩:=hc;cases f:es[n.toNat]? with
 | none=>simp[f]at b
 | some v=>
  simp only[f,qO,qk]at b;subst b;rw[G,V]at j;rcases j with⟨j,_⟩|⟨a,cap,vs,q,_,_,i,A⟩
  subst j;simp at f;subst k;have d:a.spot=none:=i.spot (λC=>by have h1:=Ps A;have h2:=(qh.1 f).1;rw[C,vI]at h1;have h3:0<es.length*Br P e:=Nat.mul_pos (by omega) (by omega);omega);obtain⟨u,D,E,g3,F,g5⟩:=RP A f;have m:n<es.length:=by have:=(qh.1 f).1;omega
  refine⟨.pointer (some ⟨a.block,a.off+n.toNat*Br P e,none⟩),?_,λw _=>?_⟩;rw[V];exact⟨_,u.cells.toList,rfl,by rw[<-F];exact i.sub _ _,BP.2 (D.cells E).1,rfl⟩;simp[execOp,H,Instr.indexAt,r,asIntOf,AN I,q,l,m,sizeOf,typeInfo,hi,C4 d,p]
 simp[hc]at b
theorem TW{t:TypeId}{x:Operand}{lo hi mx:Option Operand}{z:Nat}{es:List SV}{full:Bool}{v:SV}(X:o.op=.slice t x lo hi mx)(J:evs x=.i z es full)(hb:KY P t (.i z es full) (lo.map evs) (hi.map evs) (mx.map evs)=some v)
 (H:∀y∈o.op.operands,V c (evs y) (ev y)):Qs P ev o c v λ_=>True:=by
 rw[X]at H;have S:=H x (by simp[Op.operands]);have M:=F5 (c:=c) (ev:=ev) (evs:=evs) lo λy e=>H y (by subst e;simp[Op.operands]);have L:=F5 (c:=c) (ev:=ev) (evs:=evs) hi λy e=>H y (by subst e;simp[Op.operands]);have O:=F5 (c:=c) (ev:=ev) (evs:=evs) mx λy e=>H y (by subst e;simp[Op.operands]);suffices j:∃r,(∀w,(Instr.sliceAt t (ev x) (lo.map ev) (hi.map ev) (mx.map ev)).run P w=.ok r w)/\V c v r by
  obtain⟨r,hr,G⟩:=j;exact⟨r,G,λw _=>by simp[execOp,X,hr w]⟩
 have p:∀{s:Option SV} {I:Option Value} {d:Option Int} {n:Int} {N:Nat},V3 s d=some n->0<=n->((∀x,s=some x->∃u,I=some u/\V c x u)/\(s=none->I=none))->d=some (N:Int)->
  (I=none/\n.toNat=N)\/∃i,I=some (.int i n.toNat):=λhb h0 G hd=>by
  rcases Qw hb G.1 G.2 with⟨_,e,W⟩|⟨i,e⟩
  rw[hd]at W;cases W;exact .inl ⟨e,by simp⟩;exact .inr ⟨i,by rw[e];congr 2;omega⟩
 unfold KY at hb;rw[J]at S;dsimp only at hb;cases a:BA P t with
 | none=>simp[a]at hb
 | some e =>
  have Y:=Ay a;simp only[a,Option.any_some]at hb;split at hb<;>try cases hb
  rename_i E;simp only[UW,XH,qo,bne_iff_ne,ne_eq,vJ,beq_iff_eq,List.isEmpty_iff]at E;obtain⟨U,E⟩:=E;obtain⟨Z,A,C⟩:=Dy U;split at hb<;>try cases hb
  rename_i l m hl hm;split at hb<;>try cases hb
  rename_i K;have g:=p hl K.1 M (by rfl:some (0:Int)=some ((0:Nat):Int));have f:=p hm (by omega) L rfl;cases mx with
  | none=>
   simp only[vH,qk]at hb;subst hb;refine Jf Y S ⟨Z,A,C.symm⟩ E (by omega) (by omega) λcap h1 h2=>⟨cap,by omega,qa _,λF=>?_,λw=>HZ g f (by omega) (by omega) h1 w⟩
   simp at F;have:=h2 F.1;omega
  | some mo=>
   have B:=O.1 _ rfl;simp only[qO]at hb B;split at hb<;>try cases hb
   rename_i b;cases b
   . rename_i i x b;simp only[qk]at b;obtain⟨uu,Q,D⟩:=B;cases Q;rw[b]at D;have R:=DF D;split at hb<;>try cases hb
     rename_i q;simp only[qo,decide_eq_true_eq]at q;have k:∃i,Option.map ev hi=some (.int i m.toNat):=by
      rcases f with⟨J,_⟩|h;cases hi<;>simp at J q;exact h
     have T:(x:Int)=(x.toNat:Int):=by omega
     refine Jf Y S ⟨Z,A,C.symm⟩ E (by omega) (by omega) λcap h1 h2=>⟨x.toNat,by omega,by omega,λF=>?_,λw=>?_⟩
     simp at F;omega;rw[qO,R,T];exact I3 g k (by omega) (by omega) (by omega) w
theorem Qs.mono{v:SV}{W a:World->Prop}(H:Qs P ev o c v W)(h:∀w,a w->W w):Qs P ev o c v a:=let⟨u,h1,h2⟩:=H;⟨u,h1,λw hw=>h2 w (h w hw)⟩
theorem XE{st:Bool}{v:SV}(d:MQ P st evs o.op=some v)(H:∀x∈o.op.operands,V c (evs x) (ev x)){W:World->Prop}(Z:st=true->∀w,W w->∃c',c'.w=w/\EH c c'):Qs P ev o c v W:=by
 unfold MQ at d;split at d;rename_i x g;rw[g]at H;cases d;exact⟨_,H x (by simp[Op.operands]),λw _=>by simp[execOp,g]⟩;rename_i x g;rw[g]at H;cases d;exact⟨_,H x (by simp[Op.operands]),λw _=>by simp[execOp,g]⟩;rename_i t x i g;rw[g]at H;exact(TU g d (H x (by simp[Op.operands]))).mono λ_ _=>trivial
 . rename_i t a g;rw[g]at H;split at d<;>try cases d
   rename_i cs h;exact(VB g h d (H a (by simp[Op.operands]))).mono (Z rfl)
 . rename_i t x i g;rw[g]at H;split at d<;>try cases d
   rename_i z es f k n h q;split at d<;>try cases d
   rename_i A;exact(TV g h q A d (H x (by simp[Op.operands])) (H i (by simp[Op.operands]))).mono λ_ _=>trivial
 . rename_i t x lo hi mx g;split at d<;>try cases d
   rename_i z es f h;exact(TW g h d H).mono λ_ _=>trivial
 . rename_i x i g;rw[g]at H;split at d<;>try cases d
   rename_i vs h;have C:=H x (by simp[Op.operands]);rw[h,V]at C;obtain⟨us,p,hl⟩:=C;obtain⟨u,J,K⟩:=(BP.1 hl).get d;exact⟨u,K,λw _=>by simp[execOp,g,p,Instr.extract,J]⟩
 . rename_i Q t x g;rw[g]at H;have h:=H x (by simp[Op.operands]);split at d<;>try cases d
   rename_i b l;rw[l]at h;exact⟨.bool !b,by rw[V],λw _=>by simp[execOp,g,Hb h,Op.unary]⟩
 . rename_i x a b g;rw[g]at H;have h:=H x (by simp[Op.operands]);split at d<;>try cases d
   rename_i t l;rw[l]at h;have m:=Hb h;cases t;exact⟨ev b,by simpa using H b (by simp[Op.operands]),λw _=>by simp[execOp,g,m,asBool]⟩;exact⟨ev a,by simpa using H a (by simp[Op.operands]),λw _=>by simp[execOp,g,m,asBool]⟩
 rename_i f a b g;rw[g]at H;cases d;refine⟨.func f (a.map ev) (b.map ev),?_,λw _=>by simp[execOp,g,Instr.makeFunc]⟩;rw[V];exact⟨(a.map ev).toList,(b.map ev).toList,by rw[Array.toArray_toList,Array.toArray_toList],BP.2 (HX a λx h=>H x (by simp[Op.operands]at h ⊢;exact .inl h)),BP.2 (HX b λx h=>H x (by simp[Op.operands]at h ⊢;exact .inr h))⟩
 . rename_i x g;rw[g]at H;have h:=H x (by simp[Op.operands]);split at d<;>try cases d
   rename_i j off l;rw[l]at h;have m:=h;rw[V]at h;obtain⟨b,st,_,p⟩:=h;exact⟨ev x,m,λw _=>by simp[execOp,g,p]⟩;rename_i cs l;rw[l]at h;have m:=h;rw[V]at h;obtain⟨a,vs,p,_⟩:=h;exact⟨ev x,m,λw _=>by simp[execOp,g,p]⟩
 . rename_i args R g;rw[g]at H;split at d<;>try cases d
   rename_i x y l;have B:=Jw l;subst B;have h:=H x (by simp[Op.operands,Call.operands]);have q:=H y (by simp[Op.operands,Call.operands]);split at d<;>try cases d
   rename_i k a M b E F;split at d<;>try cases d
   rename_i G;subst G;rw[E]at h;rw[F]at q;exact⟨.int k (if b<a then b else a),by rw[V],λw _=>BY (P:=P) (ev:=ev) g w w _ λcs=>by simp[builtin,DF h,DF q,Builtin.min_,Builtin.min2]⟩
 . rename_i args R g;rw[g]at H;split at d<;>try cases d
   rename_i x y l;have B:=Jw l;subst B;have h:=H x (by simp[Op.operands,Call.operands]);have q:=H y (by simp[Op.operands,Call.operands]);split at d<;>try cases d
   rename_i k a M b E F;split at d<;>try cases d
   rename_i G;subst G;rw[E]at h;rw[F]at q;exact⟨.int k (if b>a then b else a),by rw[V],λw _=>BY (P:=P) (ev:=ev) g w w _ λcs=>by simp[builtin,DF h,DF q,Builtin.max_,Builtin.max2]⟩
 . rename_i Q t x y t2 g;rw[g]at H;have h:=H x (by simp[Op.operands]);have q:=H y (by simp[Op.operands]);split at d<;>try cases d
   rename_i k a M b l D;split at d<;>try cases d
   rename_i hc;obtain⟨N,O,rfl⟩:=hc;rw[l]at h;rw[D]at q;have s:∀w,∃r,(execOp ev o).run P w=.ok (.value r) w/\V c v r:=λw=>by
    obtain⟨r,h1,h2⟩:=Nr (c:=c) (P:=P) (t:=t) d N O w;exact⟨r,by simp[execOp,g,DF h,DF q,I4 (P:=P),h1],h2⟩
   obtain⟨u,p⟩:∃u,∀r,V c v r->r=u:=by
    cases Q<;>simp only[Lk]at d<;>(try split at d)<;>(try cases d)<;>first|exact⟨_,λr I=>DF I⟩|exact⟨_,λr I=>Hb I⟩|(exact absurd rfl N)|(exact absurd rfl O)
   obtain⟨r0,h1,h2⟩:=s c.w;have S:=p r0 h2;subst S;refine⟨_,h2,λw _=>?_⟩;obtain⟨r,X,Y⟩:=s w;rw[X,p r Y]
 . rename_i args R g;rw[g]at H;split at d<;>try cases d
   rename_i t x l D;split at d<;>try cases d
   rename_i z es f T;split at d<;>try cases d
   rename_i A;obtain⟨e,L⟩:=Ma A;have B:=MD D;have U:=MD l;subst B U;have C:=H x (by simp[Op.operands,Call.operands]);rw[T,V]at C;refine⟨.int .i64 es.length,by rw[V],λw _=>BY (P:=P) (ev:=ev) g w w _ λcs=>?_⟩;rcases C with⟨rfl,p⟩|⟨a,cap,vs,p,_⟩
   simp[builtin,p,Builtin.len_,AN (Ay L),goInt];simp[builtin,p,Builtin.len_,AN (Ay L),goInt]
 cases d
theorem TT{st:Bool}{v:SV}(b:MQ P st evs o.op=some v)(w:World):o.about P w ev=none:=by
 unfold Oper.about;unfold MQ at b;split at b<;>first|(rename_i a;rw[a];done)|(rename_i _ a;rw[a];done)|(rename_i _ _ a;rw[a];done)|(rename_i _ _ _ a;rw[a];done)|(rename_i _ _ _ _ _ a;rw[a];done)|(rename_i a;rw[a];simp[resolve,Target.leads];done)|cases b
def Iy:Op->Bool
 | .move _|.assign _|.fieldAddr .. | .load .. | .indexAddr .. | .slice .. | .extract .. | .unOp .. | .pick .. | .binOp .. | .makeFunc .. | .nilCheck _=>true
 | .call { callee:=.builtin .len,.. }|.call { callee:=.builtin .min,.. }|.call { callee:=.builtin .max,.. }=>true
 | _=>false
theorem TK(a:Iy o.op=true)(w:World):o.about P w ev=none:=by
 unfold Oper.about;cases b:o.op<;>simp[b,Iy]at a ⊢;split at a<;>first|(rename_i h;cases h;done)|skip
 all_goals first|(rename_i h;cases h;simp[resolve,Target.leads];done)|(simp at a;done)|trace_state
end
inductive Tr where
 | nil
 | pure (i:Nat) (t:Tr)
 | one (i:Nat) (t:Tr)
 | two (i j:Nat) (t u:Tr)
def OW(ops:Array Oper):Array Bool->Tr->Bool
 | listed,.nil=>(Region.ready .any ops listed).isEmpty
 | listed,.pure i t=>Region.free .any ops listed i&&(Region.ready .any ops listed).contains i&&OW ops (listed.setIfInBounds i true) t
 | listed,.one i t=>Region.ready .any ops listed==[i]&&OW ops (listed.setIfInBounds i true) t
 | listed,.two i j t u=>Region.ready .any ops listed==[i,j]&&OW ops (listed.setIfInBounds i true) t&&OW ops (listed.setIfInBounds j true) u
section
variable(E:CC)(P:Program)(ops:Array Oper)(K:SA->Hp->Nat->Prop)
def OQ(o:Oper)(sa:SA)(h:Hp)(n:Nat)(T:SA->Hp->Nat->Prop):Prop:=
 match Dv ops sa o with
 | some b=>if b=true then MY E P o sa h n λv h' n'=>T (Ek sa o.dst v) h' n' else T (Ek sa o.dst (.tup [])) h n
 | none=>False
def XD(st:Bool)(o:Oper)(sa:SA)(T:SA->Prop):Prop:=
 match Dv ops sa o with
 | some b=>if b=true then match MQ P st (Hc sa) o.op with|some v=>T (Ek sa o.dst v)|none=>False else Iy o.op=true/\T (Ek sa o.dst (.tup []))
 | none=>False
def Qk:Bool->Tr->SA->Hp->Nat->Prop
 | _,.nil,sa,h,n=>K sa h n
 | st,.pure i t,sa,h,n=>match ops[i]? with|some o=>XD P ops st o sa λsa'=>Qk st t sa' h n|none=>False
 | _,.one i t,sa,h,n=>match ops[i]? with|some o=>OQ E P ops o sa h n (Qk false t)|none=>False
 | _,.two i j t u,sa,h,n=>match ops[i]?,ops[j]? with|some o,some q=>OQ E P ops o sa h n (Qk false t)/\OQ E P ops q sa h n (Qk false u)|_,_=>False
end
section
variable{E:CC}{P:Program}{N:Nat}{ops:Array Oper}{K:SA->Hp->Nat->Prop}
def Y4(E:CC)(N n:Nat)(c:Cx)(K:SA->Hp->Nat->Prop):Exit->Act->World->Prop:=λe a' w'=>
 e=.normal/\∃sa' h' n' c',K sa' h' n'/\c'.w=w'/\CF h' c'/\Fr n' c'/\FR E N sa' c' a'/\GB n c n' c'
theorem JF{i:Nat}{o:Oper}{sa:SA}{h:Hp}{n:Nat}{T:SA->Hp->Nat->Prop}{c:Cx}{a:Act}{f:Act->World->Prop}{Qr:Exit->Act->World->Prop}(hi:ops[i]? = some o)(k:∀d,o.dst=some d->d<N)
 (H:OQ E P ops o sa h n T) (I:E.inv c) (R:CF h c) (F:Fr n c) (A:FR E N sa c a)
 (j:∀sa' h' n' e a',T sa' h' n'->CF h' e->Fr n' e->FR E N sa' e a'->GB n c n' e->f a' e.w):wpOpIn E.fc 0 P ops Qr i f a c.w:=by
 unfold wpOpIn;rw[hi];simp only;unfold OQ at H;split at H;rename_i b hg;rw[Hm A hg];cases b;simp only[qn,if_false]at H ⊢;exact⟨λ_ _=>trivial,j _ _ _ c _ H R F (A.put k Mn) (vm n c)⟩;simp only[if_true]at H ⊢;exact JE H I R F A λv h' n' e u p q m l g=>j _ _ _ e _ p m l ((A.ext g.ext).put k q) g;exact H.elim
theorem Xc(hro:E.ro=none)(hdst:∀(i:Nat)(o:Oper),ops[i]? = some o->∀d,o.dst=some d->d<N)(hsel:∀(j:Nat)(o:Oper) cs b,ops[j]? = some o->o.op≠.select cs b){n0:Nat}{c0 c1:Cx}:
 ∀(t:Tr)(st:Bool)(listed:Array Bool)(fuel:Nat)(sa:SA)(h:Hp)(n:Nat)(c:Cx)(a:Act),listed.size=ops.size->Xs listed=fuel->OW ops listed t=true->Qk E P ops K st t sa h n->
  E.inv c->CF h c->Fr n c->FR E N sa c a->GB n0 c0 n c->EH c1 c->(st=true->c=c1)->
  Ob E.fc 0 P .any ops (Y4 E N n0 c0 K) (λw=>∃c',c'.w=w/\EH c1 c') fuel listed a c.w:=by
 have hfr:E.fc.round=none:=hro;intro t
 induction t with
 | nil=>
  intro st listed fuel sa h n c a _ _ hok H I R F A X _ _;have hr:Region.ready .any ops listed=[]:=by simpa[OW]using hok
  have hq:Y4 E N n0 c0 K .normal a c.w:=⟨rfl,sa,h,n,c,H,rfl,R,F,A,X⟩
  cases fuel with
  | zero=>exact⟨hr,hq⟩
  | succ fuel=>exact⟨λ_=>hq,by rw[hr];simp⟩
 | pure i t ih=>
  intro st listed fuel sa h n c a hs hu hok H I R F A X X1 hst;simp only[OW,qo]at hok;obtain⟨⟨hfree,hr⟩,hok⟩:=hok;simp only[Qk]at H;split at H
  case h_2=>exact H.elim
  rename_i o ho;have hmem:i∈Region.ready .any ops listed:=by simpa using hr
  obtain⟨hun,_,_,_⟩:=mem_ready.1 hmem;have hlt:=(qp.1 ho).1;have hF:listed.getD i false=false:=by rw[HR (by omega)]at hun ⊢;exact hun
  have hu2:=LL (by omega) hF;obtain⟨fuel,rfl⟩:∃f,fuel=f+1:=⟨fuel-1,by omega⟩
  unfold XD at H;split at H
  case h_2=>exact H.elim
  rename_i b hg;have hw:=Hm A hg;cases b;simp only[qn,if_false]at H;refine LR (v:=undef) hfr ho hsel (λ_ _ _ e=>by cases e.1) fuel listed a c.w (Region.free_spec ho hfree) hmem ⟨.inr ⟨hw,rfl⟩,λw=>TK H.1 w⟩ ⟨c,rfl,X1⟩ (ih st _ fuel _ h n c _ (by simp[hs]) (by omega) hok H.2 I R F (A.put (hdst i o ho) Mn) X X1 hst)
  . simp only[if_true]at H;split at H
    case h_2=>exact H.elim
    rename_i v hv;obtain⟨u,hvu,hrun⟩:=XE (c:=c) (W:=λw=>∃c',c'.w=w/\EH c1 c') hv (λx _=>A.ev x) (λe w hw=>by rw[hst e];exact hw);refine LR (v:=u) hfr ho hsel (λ_ _ _ e=>by cases e.1) fuel listed a c.w (Region.free_spec ho hfree) hmem ⟨.inl ⟨hw,hrun⟩,λw=>TT hv w⟩ ⟨c,rfl,X1⟩
     (ih st _ fuel _ h n c _ (by simp[hs]) (by omega) hok H I R F (A.put (hdst i o ho) hvu) X X1 hst)
 | one i t ih=>
  intro st listed fuel sa h n c a hs hu hok H I R F A X X1 hst;simp only[OW,qo,beq_iff_eq]at hok;obtain⟨hr,hok⟩:=hok;simp only[Qk]at H;split at H
  case h_2=>exact H.elim
  rename_i o ho;have hmem:i∈Region.ready .any ops listed:=by rw[hr];simp
  obtain⟨hun,_,_,_⟩:=mem_ready.1 hmem;have hlt:=(qp.1 ho).1;have hF:listed.getD i false=false:=by rw[HR (by omega)]at hun ⊢;exact hun
  have hu2:=LL (by omega) hF;obtain⟨fuel,rfl⟩:∃f,fuel=f+1:=⟨fuel-1,by omega⟩
  refine⟨λe=>(by rw[e]at hr;cases hr),λj hj=>?_⟩;rw[hr]at hj;obtain rfl:=qy.1 hj;exact JF ho (hdst j o ho) H I R F A λsa' h' n' c' a' hT R' F' A' X'=>⟨⟨c',rfl,X1.trans X'.ext⟩,ih false _ fuel _ h' n' c' a' (by simp[hs]) (by omega) hok hT (E.ext X'.ext I) R' F' A' (X.trans X') (X1.trans X'.ext) (by simp)⟩
 | two i j t u iht ihu =>
  intro st listed fuel sa h n c a hs hu hok H I R F A X X1 hst;simp only[OW,qo,beq_iff_eq]at hok;obtain⟨⟨hr,hok1⟩,hok2⟩:=hok;simp only[Qk]at H;split at H
  case h_2=>exact H.elim
  rename_i o q ho hq;have hun:∀k,k∈Region.ready .any ops listed->Xs (listed.setIfInBounds k true)+1=Xs listed:=λk hk=>by
   obtain⟨hun,o',ho',_⟩:=mem_ready.1 hk;have hlt:=(qp.1 ho').1;have hF:listed.getD k false=false:=by rw[HR (by omega)]at hun ⊢;exact hun
   exact LL (by omega) hF
  have hui:=hun i (by rw[hr];simp);have huj:=hun j (by rw[hr];simp);obtain⟨fuel,rfl⟩:∃f,fuel=f+1:=⟨fuel-1,by omega⟩
  refine⟨λe=>(by rw[e]at hr;cases hr),λk hk=>?_⟩;rw[hr]at hk;rcases qt.1 hk with rfl|hk;exact JF ho (hdst _ o ho) H.1 I R F A λsa' h' n' c' a' hT R' F' A' X'=>⟨⟨c',rfl,X1.trans X'.ext⟩,iht false _ fuel _ h' n' c' a' (by simp[hs]) (by omega) hok1 hT (E.ext X'.ext I) R' F' A' (X.trans X') (X1.trans X'.ext) (by simp)⟩
  obtain rfl:=qy.1 hk;exact JF hq (hdst _ q hq) H.2 I R F A λsa' h' n' c' a' hT R' F' A' X'=>⟨⟨c',rfl,X1.trans X'.ext⟩,ihu false _ fuel _ h' n' c' a' (by simp[hs]) (by omega) hok2 hT (E.ext X'.ext I) R' F' A' (X.trans X') (X1.trans X'.ext) (by simp)⟩
theorem Zh(k:E.ro=none)(v:P.follows .mixedOrders=true)(t:Tr){id:Nat}{Q:Cu}{sa:SA}{h:Hp}{n:Nat}(y:Region.noSelect ops=true)(g:OW ops (Array.replicate ops.size false) t=true)
 (H:Qk E P ops (Q .normal) true t sa h n):Ic E P N (.region id ops true) Q sa h n:=by
 intro m c a I R F A;simp only[Code.dok,YO]at m;have f:∀(i:Nat)(o:Oper),ops[i]? = some o->∀d,o.dst=some d->d<N:=λi o x d e=>by
  have:=m o (by simpa using Array.mem_of_getElem? x);rw[e]at this;simpa using this
 have:=Xc (E:=E) (P:=P) (N:=N) (K:=Q .normal) (n0:=n) (c0:=c) (c1:=c.drew) k f (Region.noSelect_spec y) t true (Array.replicate ops.size false) ops.size sa h n c.drew a (by simp) (by simp[Xs]) g H
  (E.ext c.c_ I) R.drew (λj u=>F j u) (A.ext c.c_) ⟨c.c_,qa _,λ_ _=>rfl⟩ (wp _) (λ_=>rfl)
 refine wpIn_mono (wpIn_region_any v (LQ (S:=λw=>∃b,b.w=w/\EH c.drew b) _ _ _ _ this)) ?_;rintro e a' w' ⟨rfl,l,h',n',b,h1,h2,p,q,r,s⟩;exact⟨l,h',n',b,h1,h2,p,q,r,s⟩
end
noncomputable def Vo:(E:CC)->(P:Program)->(ops:Array Oper)->(K:SA->Hp->Nat->Prop)->Bool->Tr->SA->Hp->Nat->Prop:=Classical.choose (Bv Qk)
theorem Kc:Vo=Qk:=Xj (Bv Qk)
noncomputable def eB:(E:CC)->(P:Program)->(ops:Array Oper)->(K:SA->Hp->Nat->Prop)->Tr->SA->Option Tmp->SV->Hp->Nat->Prop:=
 Classical.choose (Bv λE P ops K t sa dst v h n=>Vo E P ops K false t (Ek sa dst v) h n)
section
variable(E:CC)(P:Program)(ops:Array Oper)(K:SA->Hp->Nat->Prop)(st:Bool)(t u:Tr)(sa:SA)(h:Hp)(n i j:Nat)
@[go_sem] theorem aF(dst:Option Tmp)(v:SV):eB E P ops K t sa dst v h n=Vo E P ops K false t (Ek sa dst v) h n:=by
 unfold eB;rw[Xj (Bv λE P ops K t sa dst v h n=>Vo E P ops K false t (Ek sa dst v) h n)]
theorem YZ(o:Oper):eB E P ops K t sa o.dst=λv h' n'=>Qk E P ops K false t (Ek sa o.dst v) h' n':=by
 funext v h' n';rw[aF,Kc]
@[go_sem] theorem pf:Vo E P ops K st .nil sa h n=K sa h n:=by rw[Kc];simp only[Qk]
@[go_sem] theorem dm:Vo E P ops K st (.pure i t) sa h n=match ops[i]? with
 | some o=>(match Dv ops sa o with
  | some b=>if b=true then(match MQ P st (Hc sa) o.op with|some v=>Vo E P ops K st t (Ek sa o.dst v) h n|none=>False)else Iy o.op=true/\Vo E P ops K st t (Ek sa o.dst (.tup [])) h n
  | none=>False)
 | none=>False:=by
 rw[Kc];simp only[Qk,XD]
 all_goals
  cases ops[i]? with
  | none=>rfl
  | some o =>
   simp only;cases Dv ops sa o with
   | none=>rfl
   | some b=>cases b with
    | false=>rfl
    | true=>simp only[if_true];cases MQ P st (Hc sa) o.op<;>rfl
def Ph(o:Oper):Prop:=
 match Dv ops sa o with
 | some b=>if b=true then MY E P o sa h n (eB E P ops K t sa o.dst)else Vo E P ops K false t (Ek sa o.dst (.tup [])) h n
 | none=>False
theorem SI(o:Oper):Ph E P ops K t sa h n o=OQ E P ops o sa h n (Qk E P ops K false t):=by
 unfold Ph OQ;rw[YZ,Kc]
 all_goals
  cases Dv ops sa o with
  | none=>rfl
  | some b=>cases b<;>rfl
@[go_sem] theorem pg:Vo E P ops K st (.one i t) sa h n=match ops[i]? with|some o=>Ph E P ops K t sa h n o|none=>False:=by
 rw[Kc];simp only[Qk,SI]<;>cases ops[i]? <;> rfl
@[go_sem] theorem eJ:Vo E P ops K st (.two i j t u) sa h n=match ops[i]?,ops[j]? with|some o,some q=>Ph E P ops K t sa h n o/\Ph E P ops K u sa h n q|_,_=>False:=by
 rw[Kc];simp only[Qk,SI]<;>cases ops[i]? <;> cases ops[j]? <;> rfl
end
attribute [go_sem] Ph MQ Iy
theorem CK{E:CC}{N id:Nat}{ops:Array Oper}{Q:Cu}{sa:SA}{h:Hp}{n:Nat}(t:Tr)(b:E.ro=none)(c:Region.noSelect ops=true)(a:OW ops (Array.replicate ops.size false) t=true)
 (H:Vo E prog ops (Q .normal) true t sa h n):SP E N (.region id ops true) Q sa h n:=
 Zh b follows t c a (by rw[<-Kc];exact H)
end Go.Proofs.YtgakninlhfkkmaaGreat.Sh
namespace Go.Proofs
open Go.Shelf
def Tryz.sortA_ren:Go.Shelf.Ren:=⟨fun|5=>197|8=>169|7=>261|19=>245|20=>246|10=>290|11=>291|12=>292|13=>293|14=>294|15=>295|16=>142|17=>296|18=>297|30=>315|31=>281|32=>282|33=>316|34=>317|35=>170|40=>326|n=>n,fun|23=>61|25=>3|3=>3|32=>213|22=>61|0=>0|44=>306|46=>308|4=>4|36=>300|35=>299|41=>123|5=>5|9=>9|53=>342|57=>72|63=>373|64=>374|n=>n,fun|n=>n⟩
theorem Tryz.sortA:Go.Proofs.SlLaysM.n5 prog Tryz.sortA_ren:={
 mixed:=by kernel_rfl
 f5:=⟨Tryz.f197.name,by decide,func197.trans (congrArg some (by kernel_rfl))⟩
 f7:=⟨Tryz.f261.name,by decide,func261.trans (congrArg some (by kernel_rfl))⟩
 f8:=func169.trans (congrArg some (by kernel_rfl))
 f10:=⟨Tryz.f290.name,by decide,func290.trans (congrArg some (by kernel_rfl))⟩
 f11:=⟨Tryz.f291.name,by decide,func291.trans (congrArg some (by kernel_rfl))⟩
 f12:=⟨Tryz.f292.name,by decide,func292.trans (congrArg some (by kernel_rfl))⟩
 f13:=⟨Tryz.f293.name,by decide,func293.trans (congrArg some (by kernel_rfl))⟩
 f14:=⟨Tryz.f294.name,by decide,func294.trans (congrArg some (by kernel_rfl))⟩
 f15:=⟨Tryz.f295.name,by decide,func295.trans (congrArg some (by kernel_rfl))⟩
 f16:=⟨Tryz.f142.name,by decide,func142.trans (congrArg some (by kernel_rfl))⟩
 f17:=⟨Tryz.f296.name,by decide,func296.trans (congrArg some (by kernel_rfl))⟩
 f18:=⟨Tryz.f297.name,by decide,func297.trans (congrArg some (by kernel_rfl))⟩
 f19:=func245.trans (congrArg some (by kernel_rfl))
 f20:=func246.trans (congrArg some (by kernel_rfl))
 f30:=⟨Tryz.f315.name,by decide,func315.trans (congrArg some (by kernel_rfl))⟩
 f31:=func281.trans (congrArg some (by kernel_rfl))
 f32:=func282.trans (congrArg some (by kernel_rfl))
 f33:=⟨Tryz.f316.name,by decide,func316.trans (congrArg some (by kernel_rfl))⟩
 f34:=⟨Tryz.f317.name,by decide,func317.trans (congrArg some (by kernel_rfl))⟩
 f35:=⟨Tryz.f170.name,by decide,func170.trans (congrArg some (by kernel_rfl))⟩
 f40:=⟨Tryz.f326.name,by decide,func326.trans (congrArg some (by kernel_rfl))⟩
 t0:=Tryz.underlying0
 a0:=Tryz.isAgg0
 z0:=Tryz.sizeOf0
 v0:=Tryz.zeroValue0
 t3:=Tryz.underlying3
 a3:=Tryz.isAgg3
 z3:=Tryz.sizeOf3
 v3:=Tryz.zeroValue3
 t4:=Tryz.underlying4
 a4:=Tryz.isAgg4
 z4:=Tryz.sizeOf4
 v4:=Tryz.zeroValue4
 t5:=Tryz.underlying5
 a5:=Tryz.isAgg5
 z5:=Tryz.sizeOf5
 v5:=Tryz.zeroValue5
 t9:=Tryz.underlying9
 a9:=Tryz.isAgg9
 z9:=Tryz.sizeOf9
 v9:=Tryz.zeroValue9
 t22:=Tryz.underlying61
 a22:=Tryz.isAgg61
 z22:=Tryz.sizeOf61
 v22:=Tryz.zeroValue61
 t23:=Tryz.underlying61
 a23:=Tryz.isAgg61
 z23:=Tryz.sizeOf61
 v23:=Tryz.zeroValue61
 t25:=Tryz.underlying3
 a25:=Tryz.isAgg3
 z25:=Tryz.sizeOf3
 v25:=Tryz.zeroValue3
 t32:=Tryz.underlying213
 a32:=Tryz.isAgg213
 z32:=Tryz.sizeOf213
 v32:=Tryz.zeroValue213
 t35:=Tryz.underlying299
 a35:=Tryz.isAgg299
 z35:=Tryz.sizeOf299
 v35:=Tryz.zeroValue299
 t36:=Tryz.underlying300
 a36:=Tryz.isAgg300
 z36:=Tryz.sizeOf300
 v36:=Tryz.zeroValue300
 t41:=Tryz.underlying123
 a41:=Tryz.isAgg123
 z41:=Tryz.sizeOf123
 v41:=Tryz.zeroValue123
 t44:=Tryz.underlying306
 a44:=Tryz.isAgg306
 z44:=Tryz.sizeOf306
 v44:=Tryz.zeroValue306
 t46:=Tryz.underlying308
 a46:=Tryz.isAgg308
 z46:=Tryz.sizeOf308
 v46:=Tryz.zeroValue308
 t53:=Tryz.underlying342
 a53:=Tryz.isAgg342
 z53:=Tryz.sizeOf342
 v53:=Tryz.zeroValue342
 t57:=Tryz.underlying72
 a57:=Tryz.isAgg72
 z57:=Tryz.sizeOf72
 v57:=Tryz.zeroValue72
 t63:=Tryz.underlying373
 a63:=Tryz.isAgg373
 z63:=Tryz.sizeOf373
 v63:=Tryz.zeroValue373
 t64:=Tryz.underlying374
 a64:=Tryz.isAgg374
 z64:=Tryz.sizeOf374
 v64:=Tryz.zeroValue374 }
end Go.Proofs
namespace Go.Proofs.YtgakninlhfkkmaaGreat.Sh
open Tryz
open Proofs
section
variable{h:Hp}{c:Cx}
theorem CF.write2{w':World}{o b st:Nat}{x y:Bb}(R:CF h c)(r:h o=some x)(p:c.ρ o=some (b,st))
 (l:c.w.heap.size<=w'.heap.size) (d:∀a,a≠b->a<c.w.heap.size->w'.heap[a]? = c.w.heap[a]?) (k:rm c.w b<=rm w' b) (v:w'.os=c.w.os) (n:w'.output=c.w.output)
 (K:EH c { c with w:=w' }->EJ { c with w:=w' } o y) (B:x.lst=false:=by rfl) (C:y.lst=false:=by rfl) (A:Td c.w w':=by first|exact⟨rfl,qa _⟩|exact⟨rfl,Nat.le_add_right _ _⟩):CF (h_ h o (some y)) { c with w:=w' }/\EH c { c with w:=w' }:=by
 have E:EH c { c with w:=w' }:=by
  refine⟨λ_ _ e=>e,l,λa u hn=>⟨hn,?_⟩,λa=>?_,v,n,A⟩;refine d a ?_ u;rintro rfl;exact hn (R.ownI ⟨o,x,st,r,p⟩);by_cases e:a=b;subst e;exact k;rcases YV a c.w.heap.size with hl|hl;simp[rm,d a e hl];simp[rm,Yv hl]
 have s:∀z:Bb,z.lst=false->∀a,BV c o z a->a=b:=λz s a H=>by
  rcases H with⟨st',H⟩|⟨H,_⟩
  rw[p]at H;cases H;rfl;rw[s]at H;cases H
 have f:∀j z,h_ h o (some y) j=some z->∃z0,h j=some z0/\∀a,BV { c with w:=w' } j z a->BV c j z0 a:=λj z e=>by
  simp only[h_]at e;split at e;subst_vars;cases e;exact⟨x,r,λa H=>by rw[s y C a H];exact .inl ⟨st,p⟩⟩;exact⟨z,e,λa H=>H⟩
 refine⟨⟨λj z e=>?_,λi j z M b1 g m G I=>?_,λa=>?_⟩,E⟩;simp only[h_]at e;split at e;subst_vars;cases e;exact K E;rename_i q;refine(R.obj j z e).mono E λF e'=>d F ?_ ((R.obj j z e).hold_lt e');rintro rfl;exact q (R.inj2 j o z x F e r e' (.inl ⟨st,p⟩));obtain⟨z0,t,D⟩:=f i z g;obtain⟨N,J,L⟩:=f j M m;exact R.inj2 i j z0 N b1 t J (D _ G) (L _ I);rw[R.own2 a];constructor;rintro⟨j,z,g,m⟩;by_cases q:j=o;subst q;rw[r]at g;cases g;exact⟨j,y,by simp[h_],by rw[s x B a m];exact .inl ⟨st,p⟩⟩;exact⟨j,z,by simp[h_,q,g],m⟩;rintro⟨j,z,g,m⟩;obtain⟨z0,t,D⟩:=f j z g;exact⟨j,z0,t,D _ m⟩
end
def C9(l:List Int):List Int:=l.mergeSort λx y=>decide (x<=y)
theorem UR{c:Cx}:∀{l:List Int} {vs:List Value},Ag (V c) (l.map AA) vs->vs=l.map (Value.int .i64)
 | [],_,h=>by rw[h.nil_left];rfl
 | a::l,[],h=>h.elim
 | a::l,v::vs,h=>by
  have h1:=DF h.1;rw[h1,UR h.2];rfl
theorem ZS:Ok prog 197=true:=by unfold Ok;rw[func197];kernel_rfl
theorem cI(l:List Int)(hl:l.length<4611686018427387904){H:Hp}{n o:Nat}{full:Bool}(I:H o=some (.cells (l.map AA))):
 BL prog 197 [.sl o 0 1 l.length full] H n (λv h' n'=>v=.tup []/\h'=h_ H o (some (.cells ((C9 l).map AA)))/\n'=n):=by
 refine⟨ZS,λc vs _ R F A=>?_⟩;obtain⟨u,rfl,J⟩:=A.single;rw[V]at J;obtain⟨b,st,cap,hρ,rfl,hcap,_,hroom⟩:=J;obtain⟨N,st',arr,e,vs,G,p,g3,O,g5,_⟩:=R.obj o _ I;rw[hρ]at G;cases G;have D:=UR O;have d:b<c.w.heap.size:=(qp.1 p).1;have f:∀j (r:j<l.length),arr[st+j]? = some (.int .i64 l[j]):=λj r=>g3 j _ (by rw[D];simp[r]);have t:Go.Sort.Holds (Value.int .i64) c.w b (st+0) l.toArray:=λj r=>by
  have q:j<l.length:=by simpa using r
  refine⟨by simp[World.cell?,p,f j q,q],by simp[World.frozen?,p]⟩
 have K:=AnyM.slices_Sort_int Tryz.sortA b (st+0) cap l c.w t d hl;have s:Calls prog 197 #[.slice (some ⟨b,st+0,none⟩) l.length cap] c.w λe w'=>e=.returned (.tuple #[])/\∃n os,w'=Go.Sort.grow (Go.Sort.putRow (Value.int .i64) (Go.Sort.ahead c.w n) b (st+0) (C9 l).toArray) os:=K;refine s.mono ?_;rintro e w' ⟨rfl,k,os,rfl⟩;have hlen:(C9 l).length=l.length:=XI _;have m:(Go.Sort.grow (Go.Sort.putRow (Value.int .i64) (Go.Sort.ahead c.w k) b (st+0) (C9 l).toArray) os).heap=(c.w.heap.modify b (Go.Sort.onCells (Go.Sort.putCells (Value.int .i64) (st+0) (C9 l).toArray)))++os:=rfl;have g:(Go.Sort.grow (Go.Sort.putRow (Value.int .i64) (Go.Sort.ahead c.w k) b (st+0) (C9 l).toArray) os).heap[b]? = some (.cells (Go.Sort.putCells (Value.int .i64) (st+0) (C9 l).toArray arr) e (0,0)):=by
  rw[m,Uo (by simpa using d),Vx,if_pos rfl,p];rfl
 obtain⟨L,M⟩:=R.write2 (w':=Go.Sort.grow (Go.Sort.putRow (Value.int .i64) (Go.Sort.ahead c.w k) b (st+0) (C9 l).toArray) os) (y:=.cells ((C9 l).map AA)) I hρ
  (by rw[m];simp) (λN hb C=>by rw[m,Uo (by simpa using C),Vx,if_neg (Ne.symm hb)])
  (by unfold rm; rw [g, p]; simp [Go.Sort.putCells]) rfl rfl (fun X => by
    refine⟨b,st,_,e,(C9 l).map (Value.int .i64),hρ,g,λi x hi=>?_,?_,λx P=>?_,Ty.none⟩;simp only[qX,qN]at hi;obtain⟨z,E,rfl⟩:=hi;have B:=(qh.1 E).1;have:=f i (by omega);simp only[Go.Sort.putCells,Array.getElem?_mapIdx,this,qO,UO,List.size_toArray];rw[if_pos ⟨by omega,by omega⟩,show st+i-st=i by omega];simp[B]at E ⊢;exact E;exact Ag.map (R:=λa b=>a=b) (λa b e=>by subst e;simp[V]) (by
     have:∀l:List Int,Ag (λa b=>a=b) l l:=λl=>by induction l with|nil=>trivial|cons a l ih=>exact⟨rfl,ih⟩
     exact this _)
    obtain⟨z,_,rfl⟩:=ql.1 P;rfl)
 exact⟨.tuple #[],.tup [],_,n,_,rfl,⟨rfl,rfl,rfl⟩,rfl,by simp[V,VL],L,F,⟨M,qa _,λ_ _=>rfl⟩⟩
theorem ZC(z:Nat)(full:Bool):PC 197 [.i z [] full] (.tup []):=by
 intro h n;refine⟨ZS,λc vs _ R F A=>?_⟩;obtain⟨u,rfl,b⟩:=A.single;rw[V]at b;have fin:∀(p:Option Addr)(cap:Nat),Calls prog 197 #[.slice p 0 cap] c.w λe w'=>e=.returned (.tuple #[])/\w'=c.w:=λp cap=>AnyM.slices_Sort_int_none Tryz.sortA p cap c.w;have key:∃p cap,u=.slice p 0 cap:=by
  rcases b with⟨_,rfl⟩|⟨a,cap,_,rfl,_⟩
  exact⟨_,_,rfl⟩;exact⟨_,_,rfl⟩
 obtain⟨p,cap,rfl⟩:=key;refine(fin p cap).mono ?_;rintro e w' ⟨rfl,rfl⟩;exact⟨.tuple #[],.tup [],h,n,c,rfl,⟨rfl,rfl,rfl⟩,rfl,by simp[V,VL],R,F,vm n c⟩
set_option maxRecDepth 10000
set_option maxHeartbeats 4000000
def FC(l:List Int):List (SV×SV):=l.map λx=>(AA x,.bool true)
theorem ET{x:Int}:∀{l:List Int} (i:Nat),x∉l->DT (AA x) (FC l) i=some none
 | [],i,_=>rfl
 | a::l,i,h=>by
  simp only[qt,not_or]at h;have:(x==a)=false:=by simpa using h.1
  simp only[FC,qr,DT,Ht,if_true,this];exact ET (i+1) h.2
theorem Da{x:Int}:∀{l:List Int} (i:Nat),x∈l->∃j,DT (AA x) (FC l) i=some (some (i+j,.bool true))/\l[j]? = some x
 | a::l,i,h=>by
  by_cases e:x=a;subst e;exact⟨0,by simp[FC,DT,Ht],by simp⟩;have h':x∈l:=by rcases qt.1 h with h|h;exact absurd h e;exact h
  obtain⟨j,h1,h2⟩:=Da (i+1) h';have:(x==a)=false:=by simpa using e
  refine⟨j+1,?_,by simpa using h2⟩;simp only[FC,qr,DT,Ht,if_true,this];rw[show i+(j+1)=i+1+j by omega];exact h1
theorem KX{x:Int}{l:List Int}{j:Nat}(h:l[j]? = some x):JA (FC l) j (AA x) (.bool true)=FC l:=by
 unfold JA FC;apply List.ext_getElem?;intro i;simp only[List.getElem?_modify,qX];by_cases e:j=i;subst e;simp[h];cases l[i]? <;> simp[e]
def Cr(l:List Int):List Int:=l.foldl (λout x=>if x∈out then out else out++[x]) []
theorem J6(l:List Int)(k:Nat)(h:k<l.length):Cr (l.take (k+1))=if l[k]∈Cr (l.take k)then Cr (l.take k)else Cr (l.take k)++[l[k]]:=by
 unfold Cr;rw[qb h,UU];rfl
theorem JO(l:List Int):∀k,k<=l.length->(Cr (l.take k)).length<=k
 | 0,_=>by simp[Cr]
 | k+1,h=>by
  rw[J6 l k h];have:=JO l k (by omega);split;omega;simp;omega
theorem Ux(l:List Int)(x:Int):x∈Cr l↔x∈l:=by
 have b:∀k,k<=l.length->(x∈Cr (l.take k)↔x∈l.take k):=by
  intro k
  induction k with
  | zero=>simp[Cr]
  | succ k a=>
   intro h;have a:=a (by omega);rw[J6 l k h,qb h];split;rename_i c;simp only[qd,qy];constructor;intro g;exact .inl (a.1 g);rintro(g|rfl);exact a.2 g;exact c;simp only[qd,qy,a]
 have:=b l.length (qa _);simpa using this
theorem SC.use{E:CC}{f:FuncId}{args:List SV}{h:Hp}{n:Nat}{Q K:SV->Hp->Nat->Prop}(H:BL prog f args h n Q)(a:∀v h' n',Q v h' n'->K v h' n'):Ap E prog f args h n K:=Ap.lift (H.mono a)
theorem EU:∀l:List Int,(l.map AA).flatMap SV.cells=l.map AA
 | []=>rfl
 | a::l=>by simp[SV.cells,EU l]
theorem bc(l:List Int)(hl:l.length<=1048576):PC 179 [.i 1 [.i 1 (l.map AA) false] false] (.i 1 ((C9 (Cr l)).map AA) false):=by
 intro h n;refine gq func179 rfl λs=>?_;simp[go_sem];have hn0:h n=none:=s.none (qa n);refine Av 1 (α:=Nat×Option Nat) (λq=>[(3,.map n),(4,AW 1 q.2 ((Cr (l.take (if q.1=0 then 0 else l.length))).map AA)),(10,.i 1 [.i 1 (l.map AA) false] false),(11,AA 1),(12,AA q.1)])
  (λq=>AV q.2 ((Cr (l.take (if q.1=0 then 0 else l.length))).map AA) (h_ h n (some (.map (FC (Cr (l.take (if q.1=0 then 0 else l.length))))))))
  (λq m=>q.1<=1/\n<m/\BR (n+1) m 1 q.2 ((Cr (l.take (if q.1=0 then 0 else l.length))).map AA)) (λq=>1-q.1) (0,none) ?_ ?_ ?_ ?_
 simp[Cr];exact vA _ _ _;simp[Ao,Cr,AW];simp[Cr,FC,AV];rintro⟨k,o⟩ m ⟨E,d,b⟩;dsimp only at E b ⊢;by_cases G:k=0;subst G;simp only[if_true,vE]at b ⊢;simp[go_sem];refine Av 1 (α:=Nat×Option Nat) (λq=>[(3,.map n),(4,AW 1 q.2 ((Cr (l.take q.1)).map AA)),(10,.i 1 [.i 1 (l.map AA) false] false),(11,AA 1),(12,AA 0),(16,.i 1 (l.map AA) false),(17,AA l.length),(18,AA q.1)])
  (λq=>AV q.2 ((Cr (l.take q.1)).map AA) (h_ h n (some (.map (FC (Cr (l.take q.1)))))))
  (λq m=>q.1<=l.length/\n<m/\BR (n+1) m 1 q.2 ((Cr (l.take q.1)).map AA)) (λq=>l.length-q.1) (0,o) ?_ ?_ ?_ ?_
 exact⟨qg _,d,by simpa using b⟩;simp[Ao];exact AC;rintro⟨i,o⟩ m ⟨hi,d,b⟩;dsimp only at hi b ⊢;have u:=JO l i hi;have r:∀j,o=some j->n<j/\j<m:=λj e=>by have:=b.lt j e;omega
 by_cases g:i<l.length;have w1:=wS i (by omega);have a:=J6 l i g;obtain⟨x,A⟩:∃x,l[i]=x:=⟨_,rfl⟩
 rw[A]at a;generalize hout:Cr (l.take i)=out at b a u ⊢;have f:AV o (out.map AA) (h_ h n (some (.map (FC out)))) n=some (.map (FC out)):=by
  cases o with
  | none=>simp[AV,h_]
  | some j=>have:=r j rfl;simp[AV,h_];omega
 by_cases c:x∈out;obtain⟨j,h1,h2⟩:=Da 0 c;rw[if_pos c]at a;simp[go_sem,g,A,f,h1,Cc,w1,-Int.natCast_add];exact⟨i+1,by omega,o,⟨⟨by omega,d,by rw[a];exact b⟩,by rw[a];exact⟨IO,IO⟩,by rw[a];exact AC⟩⟩;have h1:=ET 0 c;rw[if_neg c]at a;have z:=λ(H:Hp)(k p:Nat)(C:H k=some (.cells (AA x).cells))(D:∀j,o=some j->H j=some (.cells ((out.map AA).flatMap SV.cells)))=>
  Fa (P:=prog) (H:=H) (t:=61) (t2:=61) (el:=3) (by simp[go_sem]) (by simp[go_sem]) (by simp[go_sem]) (by simp) (by simp[go_sem]) (by simp[go_sem]) (by simp[go_sem]) (by simp;omega) b (e:=AA x) rfl C D p
 simp[go_sem,g,A,f,h1,Cc,w1,-Int.natCast_add];rw[z _ _ _ (by simp[AD,SV.cells]) (by
  intro j e;have:=r j e;subst e;simp only[h_,AV];grind)]
 simp[go_sem,-Int.natCast_add];refine⟨i+1,by omega,some (m+1),⟨⟨by omega,by omega,?_⟩,⟨?_,?_⟩,?_⟩⟩;rw[a,qc];exact b.push rfl rfl (by omega) (by omega);rw[a];simp[AW,IO];exact IO;rw[a];intro j y;have hoj:=s j y;cases o with
 | none=>simp only[AV,h_,FC,qc,qr,Yo,vH,Jk,QZ,List.flatMap_nil,JP,EU,SV.cells];grind
 | some q=>have:=r q rfl;simp only[AV,h_,FC,qc,qr,Yo,qO,Jk,QZ,List.flatMap_nil,JP,EU,SV.cells];grind
 have:i=l.length:=by omega
 subst this;simp[go_sem];have w1:IntKind.i64.wrap 1=1:=by decide
 exact⟨1,by omega,o,⟨by omega,d,by simpa using b⟩,⟨by simp[IO],by simp[w1,IO]⟩,by simp⟩;have:k=1:=by omega
 subst this;simp[go_sem];simp only[Nat.one_ne_zero,if_false,qm]at b;cases o with
 | none=>
  have B:=b.none rfl;simp only[List.map_eq_nil_iff]at B;simp only[AW];refine(ZC 0 true).use ?_;simp[go_sem,AV];have F:C9 (Cr l)=[]:=by rw[B];simp[C9]
  rw[F];exact LH s (AR s (qa _) AC) (by simp) rfl
 | some j=>
  have hj:=b.lt j rfl;simp only[AW,qf];have u:(Cr l).length<=l.length:=by have:=JO l l.length (qa _);simpa using this
  refine SC.use (cI (Cr l) (by omega) (by simp[AV,h_,EU])) ?_;rintro v h' n' ⟨rfl,rfl,rfl⟩;simp[go_sem];have w:(C9 (Cr l)).length=(Cr l).length:=XI _;refine XK Ns (l:=C9 (Cr l)) (full:=false) s (λo x e=>?_) (show n<=j by omega) (by rw[w]) (by simp[h_,EU]);have:=s o x e;simp only[h_,AV];grind
theorem FV.mono{E:CC}{P:Program}{l:Nat}{args:List SV}{h:Hp}{n:Nat}{Q i:SV->Hp->Nat->Prop}(H:FV E P l args h n Q)(j:∀v h' n',Q v h' n'->i v h' n'):FV E P l args h n i:=λc vs I R F A=>by
 obtain⟨a,b,f,d,e,g⟩:=H c vs I R F A;exact⟨a,b,f,d,e,g.mono λ_ _ ⟨u,v,h',n',f,e,q,r⟩=>⟨u,v,h',n',f,e,j _ _ _ q,r⟩⟩
def HN(J:(Nat->Prop)->Hp->Nat->Prop)(Jx:(Nat->Prop)->Hp->Nat->Prop)(D:Nat->Prop)(h:Hp)(m:Nat):SV->Hp->Nat->Prop:=λv h' m'=>
 m<=m'/\∃D',(∀o,D' o->D o\/(m<=o/\o<m'))/\(∀o,¬D o->o<m->h' o=h o)/\((v=.bool true/\J D' h' m')\/(v=.bool false/\Jx D' h' m'))
structure YJ(E:CC)(l:Nat){X:Type}(enc:X->List SV)(xs:List X)(J:Nat->(Nat->Prop)->Hp->Nat->Prop)(Jx:(Nat->Prop)->Hp->Nat->Prop):Prop where
 step:∀k x D h m,xs[k]? = some x->J k D h m->FV E prog l (enc x) h m (HN (J (k+1)) Jx D h m)
 keep:∀k D h m h' m',J k D h m->m<=m'->(∀o,D o->h' o=h o)->J k D h' m'
 lt:∀k D h m,J k D h m->∀o,D o->o<m
def Vh{X:Type}(xs:List X)(k:Nat)(L:List X):Prop:=∃rest,xs.drop k=L++rest
theorem Vh.app{X:Type}{xs A B:List X}{k:Nat}(H:Vh xs k (A++B)):Vh xs k A/\Vh xs (k+A.length) B:=by
 obtain⟨r,h⟩:=H;refine⟨⟨B++r,by rw[h,qj]⟩,⟨r,?_⟩⟩;rw[<-vF,h,qj,List.drop_left]
theorem Vh.H{X:Type}{xs L:List X}{x:X}{k:Nat}(H:Vh xs k (x::L)):xs[k]? = some x/\Vh xs (k+1) L:=by
 obtain⟨r,h⟩:=H;have h1:(xs.drop k)[0]? = some x:=by rw[h];rfl
 refine⟨by simpa using h1,r,?_⟩;rw[<-vF,h];rfl
section
variable{E:CC}{yl:Nat}{X:Type}{enc:X->List SV}{xs:List X}{J:Nat->(Nat->Prop)->Hp->Nat->Prop}{Jx:(Nat->Prop)->Hp->Nat->Prop}
structure Ju(J:Nat->(Nat->Prop)->Hp->Nat->Prop)(D:Nat->Prop)(h:Hp)(m:Nat)(own:List (Nat×Bb))(cnt:Nat)(D2:Nat->Prop)(h2:Hp)(m2:Nat):Prop where
 lt:m<=m2
 j:J cnt D2 h2 m2
 own:∀p∈own,h2 p.1=some p.2/\m<=p.1/\p.1<m2/\¬D2 p.1
 sub:∀o,D2 o->D o\/(m<=o/\o<m2)
 old:∀o,¬D o->o<m->h2 o=h o
theorem Ju.keep(Y:YJ E yl enc xs J Jx){D:Nat->Prop}{h:Hp}{m:Nat}{own:List (Nat×Bb)}{a:Nat}{b:Nat->Prop}{h2:Hp}{m2:Nat}(M:Ju J D h m own a b h2 m2){hb:Hp}{c:Nat}(e:m2<=c)(d:∀o,o<m2->hb o=h2 o):J a b hb c:=
 Y.keep _ _ _ _ _ _ M.j e λo g=>d o (Y.lt _ _ _ _ M.j o g)
theorem Ju.step{D:Nat->Prop}{h:Hp}{m:Nat}{own:List (Nat×Bb)}{j a:Nat}{i:Nat->Prop}{h2:Hp}{m2:Nat}(M:Ju J D h m own j i h2 m2){hb:Hp}{s:Nat}(hm:m2<=s)(r:∀o,o<m2->hb o=h2 o)
 {v:SV} {e:Hp} {f:Nat} (W:HN (J a) Jx i hb s v e f):(v=.bool true/\∃b,Ju J D h m own a b e f)\/(v=.bool false/\HN (J a) Jx D h m v e f):=by
 obtain⟨hm3,b,c,BV,t⟩:=W;have h1:∀o,b o->D o\/(m<=o/\o<f):=λo g=>by
  rcases c o g with g|g;rcases M.sub o g with g|g;exact .inl g;exact .inr (by omega);have:=M.lt;exact .inr (by omega)
 have q:∀o,¬D o->o<m->e o=h o:=λo d k=>by
  have hn:¬i o:=λg=>by rcases M.sub o g with g|g;exact d g;omega
  have:=M.lt;rw[BV o hn (by omega),r o (by omega),M.old o d k]
 have:=M.lt;rcases t with⟨rfl,l⟩|⟨rfl,l⟩
 refine .inl ⟨rfl,b,by omega,l,λp hp=>?_,h1,q⟩;obtain⟨d,k,g3,n⟩:=M.own p hp;refine⟨by rw[BV _ n (by omega),r _ g3,d],k,by omega,λg=>?_⟩;rcases c _ g with g|g;exact n g;omega;exact .inr ⟨rfl,by omega,b,h1,q,.inr ⟨rfl,l⟩⟩
theorem Ju.done{D:Nat->Prop}{h:Hp}{m:Nat}{own:List (Nat×Bb)}{a:Nat}{b:Nat->Prop}{h2:Hp}{m2:Nat}(M:Ju J D h m own a b h2 m2):HN (J a) Jx D h m (.bool true) h2 m2:=
 ⟨M.lt,b,M.sub,M.old,.inl ⟨rfl,M.j⟩⟩
theorem Ju.more(Y:YJ E yl enc xs J Jx){D:Nat->Prop}{h:Hp}{m:Nat}{own:List (Nat×Bb)}{a:Nat}{e:Nat->Prop}{h2:Hp}{m2:Nat}(M:Ju J D h m own a e h2 m2){hb:Hp}{i:Nat}(f:m2<=i)(d:∀o,o<m2->hb o=h2 o):Ju J D h m own a e hb i:=
 ⟨qI M.lt f,M.keep Y f d,λp hp=>by obtain⟨b,c,g3,j⟩:=M.own p hp;exact⟨by rw[d _ g3,b],c,by omega,j⟩,λo g=>by rcases M.sub o g with g|g;exact .inl g;exact .inr (by omega),λo b c=>by have:=M.lt;rw[d o (by omega),M.old o b c]⟩
theorem Ju.add{D:Nat->Prop}{h:Hp}{m:Nat}{own:List (Nat×Bb)}{a:Nat}{b:Nat->Prop}{h2:Hp}{m2:Nat}(M:Ju J D h m own a b h2 m2){j:Nat}{y:Bb}(h1:h2 j=some y)(c:m<=j)(d:j<m2)(e:¬b j):Ju J D h m ((j,y)::own) a b h2 m2:=
 ⟨M.lt,M.j,λp hp=>by rcases qt.1 hp with rfl|hp;exact⟨h1,c,d,e⟩;exact M.own p hp,M.sub,M.old⟩
theorem Ju.drop{D:Nat->Prop}{h:Hp}{m:Nat}{own:List (Nat×Bb)}{p:Nat×Bb}{a:Nat}{b:Nat->Prop}{h2:Hp}{m2:Nat}(M:Ju J D h m (p::own) a b h2 m2):Ju J D h m own a b h2 m2:=
 ⟨M.lt,M.j,λq c=>M.own q (Q9 _ c),M.sub,M.old⟩
theorem Ju.any{f e:Nat}{D:Nat->Prop}{h:Hp}{m:Nat}{h2:Hp}{m2:Nat}(H:HN (J f) Jx D h m (.bool false) h2 m2):HN (J e) Jx D h m (.bool false) h2 m2:=by
 obtain⟨a,g,b,c,d|d⟩:=H;exact absurd d.1 (by simp);exact⟨a,g,b,c,.inr d⟩
end
structure BN where
 body:Bool
 note:Bool
 tables:Int
def BN.e(p:BN):SV:=.agg [.bool p.body,.bool p.note,AA p.tables]
structure Fl where
 id:Int
 items:List AB
 at_:BN
def Fl.e(f:Fl):List SV:=[AA f.id,.agg [AK f.items,.bool f.at_.body,.bool f.at_.note,AA f.at_.tables]]
def BN.inNote(p:BN):BN:=⟨false,true,p.tables⟩
def BN.cy(p:BN):BN:=⟨false,p.note,IntKind.i64.wrap (p.tables+1)⟩
mutual
def AB.fl(p:BN):AB->List Fl
 | .mk k _ i _ _ f r=>if k=6 then⟨i,f,p.inNote⟩::AB.flL p.inNote f else if k=7 then AP.flL p.cy r else[]
def AB.flL(p:BN):List AB->List Fl
 | []=>[]
 | x::l=>AB.fl p x++AB.flL p l
def AP.fl(p:BN):AP->List Fl
 | .mk _ c=>cr.flL p c
def AP.flL(p:BN):List AP->List Fl
 | []=>[]
 | x::l=>AP.fl p x++AP.flL p l
def cr.fl(p:BN):cr->List Fl
 | .mk i _ f=>⟨i,f,p⟩::AB.flL p f
def cr.flL(p:BN):List cr->List Fl
 | []=>[]
 | x::l=>cr.fl p x++cr.flL p l
end
def Eh(id:Int)(l:List AB)(p:BN):List Fl:=⟨id,l,p⟩::AB.flL p l
theorem AB.flL_take(p:BN):∀(l:List AB)(i:Nat)(h:i<l.length),∃r,AB.flL p l=AB.flL p (l.take i)++(AB.fl p l[i]++r)/\AB.flL p (l.take (i+1))=AB.flL p (l.take i)++AB.fl p l[i]
 | x::l,0,_=>⟨AB.flL p l,by simp[AB.flL]⟩
 | x::l,i+1,h=>by
  obtain⟨r,h1,h2⟩:=AB.flL_take p l i (by simpa using h);exact⟨r,by simp only[AB.flL,YP,vB];rw[h1,h2];simp⟩
theorem AP.flL_take(p:BN):∀(l:List AP)(i:Nat)(h:i<l.length),∃r,AP.flL p l=AP.flL p (l.take i)++(AP.fl p l[i]++r)/\AP.flL p (l.take (i+1))=AP.flL p (l.take i)++AP.fl p l[i]
 | x::l,0,_=>⟨AP.flL p l,by simp[AP.flL]⟩
 | x::l,i+1,h=>by
  obtain⟨r,h1,h2⟩:=AP.flL_take p l i (by simpa using h);exact⟨r,by simp only[AP.flL,YP,vB];rw[h1,h2];simp⟩
theorem cr.flL_take(p:BN):∀(l:List cr)(i:Nat)(h:i<l.length),∃r,cr.flL p l=cr.flL p (l.take i)++(cr.fl p l[i]++r)/\cr.flL p (l.take (i+1))=cr.flL p (l.take i)++cr.fl p l[i]
 | x::l,0,_=>⟨cr.flL p l,by simp[cr.flL]⟩
 | x::l,i+1,h=>by
  obtain⟨r,h1,h2⟩:=cr.flL_take p l i (by simpa using h);exact⟨r,by simp only[cr.flL,YP,vB];rw[h1,h2];simp⟩
end Go.Proofs.YtgakninlhfkkmaaGreat.Sh
