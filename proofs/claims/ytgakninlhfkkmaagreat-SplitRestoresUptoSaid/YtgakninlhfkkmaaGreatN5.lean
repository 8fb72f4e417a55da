/- A part of the proof (part 5 of 17). -/
import Derived.Test.YtgakninlhfkkmaaGreatN4
import Derived.OrdersHeld
import Derived.OrdersIn
import Derived.Shelf.SortM.Plain
import Derived.Shelf.SortM.SortNone
import Derived.Test.YtgakninlhfkkmaaGreatProg
namespace Go.Proofs.YtgakninlhfkkmaaGreat.Sh
abbrev ka:=@AE.sizedL_mem
abbrev vd:=@AE.sizedL_of
open Proofs
set_option maxRecDepth 10000
theorem Ff {p:Nat->Bool} {n k:Nat} (e:BD p n k = -1):∀i,k<=i->i<n->p i=false:=by
 intro i hk hi;rw[BD]at e;rw[dif_pos (by omega)]at e;by_cases hp:p k=true;rw[if_pos hp]at e;omega;rw[if_neg hp]at e;by_cases h:i=k;subst h;simpa using hp;exact Ff e i (by omega) hi
termination_by n-k
theorem Gd {p:Nat->Bool} {n k i0:Nat} (e:BD p n k=i0):∀i,k<=i->i<i0->p i=false:=by
 intro i hk hi;rw[BD]at e;split at e;by_cases hp:p k=true;rw[if_pos hp]at e;omega;rw[if_neg hp]at e;by_cases h:i=k;subst h;simpa using hp;exact Gd e i (by omega) hi;omega
termination_by n-k
def BJ {α:Type} (p:α->Bool) (l:List α) (i:Nat):List α:=((l.take i).filter λx=>!p x)++l.drop ((l.take i).filter λx=>!p x).length
theorem bS (l:List Aa) (hl:l.length<=1048576) (g:FuncId) (a b:List SV) (p:Aa->Bool) (hp:∀x∈l,PC g (a++[x.enc]++b) (.bool (p x))) {H:Hp} {n o:Nat} {full:Bool} (R:H o=some (.cells ((l.map Aa.enc).flatMap SV.cells))):
 BA Tryz.prog 133 [.sl o 0 6 l.length full,.fn (.func g) a b] H n (λv h' n'=>v=.imm 6 ((l.filter λx=>!p x).map Aa.enc) false/\h'=hset H o none/\n'=n):=by
 refine gq Tryz.func133 rfl λS=>?_;have hon:o<n:=(S o _ R).1;have hI:=Xe l hl g a b (λi=>match l[i]? with|some x=>p x|none=>false) (λi hi=>by simpa[hi]using hp l[i] (ql hi));have fin:∀(c:List Aa) (h':Hp) (n':Nat) (cs:List SV) (f2:Bool),(l.filter λx=>!p x)=c->(∀j y,j≠o->H j=some y->h' j=some y)->h' o=some (.cells cs)->c.length*6<=cs.length->cs.take (c.length*6)=(c.map Aa.enc).flatMap SV.cells->
  B8 n h' n' (.sl o 0 6 c.length f2) (λv h' n'=>v=.imm 6 ((l.filter λx=>!p x).map Aa.enc) false/\h'=hset H o none/\n'=n):=λc h' n' cs f2 hk hh hc U h2=>by
  refine .inr ⟨1,.imm 6 (c.map Aa.enc) false,hset H o none,.inr ⟨AC _ _ _,by simp,by simp,rfl,cs,(c.map Aa.enc).flatMap SV.cells,hc,by simp[Bg,U,h2],Aa.E.size c,?_⟩,Aa.E.imm _ _ _ _,λj y e=>?_,by rw[hk],rfl,rfl⟩;have:∀l:List SV,AZ (Fz h' (hset H o none) 0) l l:=by
   intro l;induction l with
   | nil=>trivial
   | cons a l ih=>exact⟨IO,ih⟩
  exact this _;by_cases w:j=o;subst w;rw[AC]at e;cases e;rw[AD _ _ w]at e;exact⟨hh j y w e,S j y e⟩
 simp[go_sem];refine hI.lend 2 rfl ⟨?_,IO,trivial⟩ ?_;have:=DV (h':=H) (h:=λ_=>none) (k:=1) (z:=6) (es:=l.map Aa.enc) (full:=full) (full':=false) (o:=o) rfl (by simp) R (Aa.E.size l);rw[qd]at this;exact this;rcases EA (λi=>match l[i]? with|some x=>p x|none=>false) l.length 0 with e|⟨f,_,t,e,Y⟩
 simp[go_sem,e];have N:(l.filter λx=>!p x)=l:=jy.2 λx J=>by
  obtain⟨i,hi,rfl⟩:=jx J;have:=Ff e i (qg _) hi;simpa[hi]using this
 exact fin l H n _ full N (λj y _ e=>e) R (by rw[A7 (Aa.E.size l),qd];exact qa _) (qB (by rw[A7 (Aa.E.size l),qd];exact qa _));have w0:=wS f (by omega);have Z:¬((f:Int) = -1):=by omega
 simp[go_sem,e,w0,Z,-Int.natCast_add];have C:p l[f]=true:=by simpa[t]using Y
 have d:(l.take f).filter (λx=>!p x)=l.take f:=jy.2 λx J=>by
  obtain⟨i,hi,rfl⟩:=jx J;have P:i<f:=by simp at hi;omega
  have:=Gd e i (qg _) P;simpa[show i<l.length by omega]using this
 refine An 1 (α:=Nat) (λi=>[(0,.sl o 0 6 l.length full),(1,.fn (.func g) a b),(5,AA ((l.take i).filter λx=>!p x).length),(6,AA i)]) (λi=>hset H o (some (.cells (((BJ p l i).map Aa.enc).flatMap SV.cells))))
  (λi m=>f<i/\i<=l.length/\n<=m) (λi=>l.length-i) (f+1) ?_ ?_ ?_ ?_
 exact⟨qP _,t,qa _⟩;have:((l.take (f+1)).filter λx=>!p x).length=f:=by
  rw[qb t,qI,d];simp[C];omega
 simp[Ai,this,-Int.natCast_add];have:BJ p l (f+1)=l:=by
  unfold BJ;rw[qb t,qI,d];simp[C,jO (kx t)]
 rw[this];intro j y e;simp only[hset]at e;split at e;rename_i h;subst h;rw[R];exact e;exact e;rintro i m ⟨hi1,P,hnm⟩;have X:((l.take i).filter λx=>!p x).length<i:=by
  have U:l.take i=l.take (f+1)++(l.drop (f+1)).take (i-(f+1)):=by
   rw[<-List.take_add];congr 1;omega
  have h2:((l.take (f+1)).filter λx=>!p x).length=f:=by
   rw[qb t,qI,d];simp[C];omega
  rw[U,qI,qt,h2];have:=qU (λx=>!p x) ((l.drop (f+1)).take (i-(f+1)));simp at this ⊢;omega
 have r:(BJ p l i).length=l.length:=by unfold BJ;simp;omega
 generalize q:(l.take i).filter (λx=>!p x)=c at X ⊢;have u:o≠m:=by omega
 have G:=Aa.E.size (BJ p l i);by_cases B:i<l.length;have w1:=wS i (by omega);have w2:IntKind.i64.wrap ((c.length:Int)+1)=((c.length+1:Nat):Int):=by rw[Cl]<;>omega
 obtain⟨x,J⟩:∃x,l[i]=x:=⟨_,rfl⟩
 have O:(BJ p l i)[i]? = some x:=by
  unfold BJ;rw[q,qV (by omega),qY];have:c.length+(i-c.length)=i:=by omega
  rw[this,qf B,J]
 obtain⟨g1,T⟩:=JU G (i:=i) (e:=x.enc) (by simp[O]);have s:=LT G (j:=c.length) (e:=x.enc) (by simp[r];omega);have g3:c.length*6+6<=(((BJ p l i).map Aa.enc).flatMap SV.cells).length:=by
  rw[A7 G,qd,r];omega
 have hcl:=Aa.E.len x;generalize V:((BJ p l i).map Aa.enc).flatMap SV.cells=F at g1 T g3 s ⊢;have H1:=hp x (by rw[<-J];exact ql B);simp only[qn,qz,qE]at H1;have hpre:=Aa.E.st x;simp[qQ,SV.cells]at T;simp[go_sem,B,AC,g1,T];refine qw (by simpa[qQ]using H1) ?_;by_cases L:p x=true;simp[go_sem,L,w1,-Int.natCast_add];have A:(l.take (i+1)).filter (λx=>!p x)=c:=by rw[qb B,qI,q,J];simp[L]
 have D:BJ p l (i+1)=BJ p l i:=by unfold BJ;rw[A,q]
 refine⟨i+1,by omega,⟨by omega,by omega,by omega⟩,⟨by rw[A];exact IO,IO⟩,λj y e=>?_⟩;rw[D,V]at e;by_cases w:j=o;subst w;rw[AC]at e;rw[AD _ _ u,AD _ _ u,AC];exact e;rw[AD _ _ w]at e;have:=(S j y e).1;rw[AD _ _ (by omega),AD _ _ (by omega),AD _ _ w];exact e;have I:p x=false:=by simpa using L
 have Q:(c.length:Int)<l.length:=by omega
 simp[qQ,SV.cells]at s;simp[go_sem,I,AC,AD,u,Q,g3,s,w1,w2,-Int.natCast_add];have A:(l.take (i+1)).filter (λx=>!p x)=c++[x]:=by rw[qb B,qI,q,J];simp[I]
 have D:(BJ p l (i+1)).map Aa.enc=((BJ p l i).map Aa.enc).set c.length x.enc:=by
  have:BJ p l (i+1)=(BJ p l i).set c.length x:=by
   unfold BJ;rw[A,q,jV _ _ (qa _),Nat.sub_self];simp;rw[qG (show c.length<l.length by omega),List.set_cons_zero]
  rw[this,List.map_set]
 rw[qQ]at D;refine⟨i+1,by omega,⟨by omega,by omega,by omega⟩,⟨by rw[A,qt];exact IO,IO⟩,λj y e=>?_⟩;rw[D]at e;by_cases w:j=o;subst w;rw[AC]at e ⊢;exact e;rw[AD _ _ w]at e ⊢;have:=(S j y e).1;rw[AD _ _ (by omega),AD _ _ (by omega),AD _ _ w];exact e;have:i=l.length:=by omega
 subst this;have q1:c.length<=l.length:=by omega
 have q2:¬((c.length:Int)=l.length):=by omega
 have q3:¬(l.length-c.length=0):=by omega
 rw[qi]at q;have V:((BJ p l l.length).map Aa.enc).flatMap SV.cells=(c.map Aa.enc).flatMap SV.cells++((l.drop c.length).map Aa.enc).flatMap SV.cells:=by unfold BJ;rw[qi,q];simp
 have K:((c.map Aa.enc).flatMap SV.cells).length=c.length*6:=by rw[A7 (Aa.E.size c),qd]
 have W:(((BJ p l l.length).map Aa.enc).flatMap SV.cells).length=l.length*6:=by rw[A7 G,qd,r]
 have q4:c.length*6+(l.length-c.length)*6<=(((BJ p l l.length).map Aa.enc).flatMap SV.cells).length:=by rw[W,<-jB];apply jt;omega
 have M:(((BJ p l l.length).map Aa.enc).flatMap SV.cells).take (c.length*6)=(c.map Aa.enc).flatMap SV.cells:=by rw[V,<-K,List.take_left]
 generalize((BJ p l l.length).map Aa.enc).flatMap SV.cells=F at q4 M ⊢;simp[go_sem,AC,q1,q2,q3,q4];refine fin c _ _ _ _ q (λj y hj e=>by rw[AD _ _ hj,AD _ _ hj];exact e) (AC _ _ _) ?_ ?_;rw[M,qt,K];omega;rw[M,<-K,List.take_left]
theorem d75 (l:List Ax) (hl:l.length<=1048576) (g:FuncId) (a b:List SV) (p:Ax->Bool) (hp:∀x∈l,PC g (a++[x.enc]++b) (.bool (p x))) {H:Hp} {n o:Nat} {full:Bool} (R:H o=some (.cells ((l.map Ax.enc).flatMap SV.cells))):
 BA Tryz.prog 75 [.sl o 0 3 l.length full,.fn (.func g) a b] H n (λv h' n'=>v=.imm 3 ((l.filter λx=>!p x).map Ax.enc) false/\h'=hset H o none/\n'=n):=by
 refine gq Tryz.func75 rfl λS=>?_;have hon:o<n:=(S o _ R).1;have hI:=XW l hl g a b (λi=>match l[i]? with|some x=>p x|none=>false) (λi hi=>by simpa[hi]using hp l[i] (ql hi));have fin:∀(c:List Ax) (h':Hp) (n':Nat) (cs:List SV) (f2:Bool),(l.filter λx=>!p x)=c->(∀j y,j≠o->H j=some y->h' j=some y)->h' o=some (.cells cs)->c.length*3<=cs.length->cs.take (c.length*3)=(c.map Ax.enc).flatMap SV.cells->
  B8 n h' n' (.sl o 0 3 c.length f2) (λv h' n'=>v=.imm 3 ((l.filter λx=>!p x).map Ax.enc) false/\h'=hset H o none/\n'=n):=λc h' n' cs f2 hk hh hc U h2=>by
  refine .inr ⟨1,.imm 3 (c.map Ax.enc) false,hset H o none,.inr ⟨AC _ _ _,by simp,by simp,rfl,cs,(c.map Ax.enc).flatMap SV.cells,hc,by simp[Bg,U,h2],Ax.E.size c,?_⟩,Ax.E.imm _ _ _ _,λj y e=>?_,by rw[hk],rfl,rfl⟩;have:∀l:List SV,AZ (Fz h' (hset H o none) 0) l l:=by
   intro l;induction l with
   | nil=>trivial
   | cons a l ih=>exact⟨IO,ih⟩
  exact this _;by_cases w:j=o;subst w;rw[AC]at e;cases e;rw[AD _ _ w]at e;exact⟨hh j y w e,S j y e⟩
 simp[go_sem];refine hI.lend 2 rfl ⟨?_,IO,trivial⟩ ?_;have:=DV (h':=H) (h:=λ_=>none) (k:=1) (z:=3) (es:=l.map Ax.enc) (full:=full) (full':=false) (o:=o) rfl (by simp) R (Ax.E.size l);rw[qd]at this;exact this;rcases EA (λi=>match l[i]? with|some x=>p x|none=>false) l.length 0 with e|⟨f,_,t,e,Y⟩
 simp[go_sem,e];have N:(l.filter λx=>!p x)=l:=jy.2 λx J=>by
  obtain⟨i,hi,rfl⟩:=jx J;have:=Ff e i (qg _) hi;simpa[hi]using this
 exact fin l H n _ full N (λj y _ e=>e) R (by rw[A7 (Ax.E.size l),qd];exact qa _) (qB (by rw[A7 (Ax.E.size l),qd];exact qa _));have w0:=wS f (by omega);have Z:¬((f:Int) = -1):=by omega
 simp[go_sem,e,w0,Z,-Int.natCast_add];have C:p l[f]=true:=by simpa[t]using Y
 have d:(l.take f).filter (λx=>!p x)=l.take f:=jy.2 λx J=>by
  obtain⟨i,hi,rfl⟩:=jx J;have P:i<f:=by simp at hi;omega
  have:=Gd e i (qg _) P;simpa[show i<l.length by omega]using this
 refine An 1 (α:=Nat) (λi=>[(0,.sl o 0 3 l.length full),(1,.fn (.func g) a b),(5,AA ((l.take i).filter λx=>!p x).length),(6,AA i)]) (λi=>hset H o (some (.cells (((BJ p l i).map Ax.enc).flatMap SV.cells))))
  (λi m=>f<i/\i<=l.length/\n<=m) (λi=>l.length-i) (f+1) ?_ ?_ ?_ ?_
 exact⟨qP _,t,qa _⟩;have:((l.take (f+1)).filter λx=>!p x).length=f:=by
  rw[qb t,qI,d];simp[C];omega
 simp[Ai,this,-Int.natCast_add];have:BJ p l (f+1)=l:=by
  unfold BJ;rw[qb t,qI,d];simp[C,jO (kx t)]
 rw[this];intro j y e;simp only[hset]at e;split at e;rename_i h;subst h;rw[R];exact e;exact e;rintro i m ⟨hi1,P,hnm⟩;have X:((l.take i).filter λx=>!p x).length<i:=by
  have U:l.take i=l.take (f+1)++(l.drop (f+1)).take (i-(f+1)):=by
   rw[<-List.take_add];congr 1;omega
  have h2:((l.take (f+1)).filter λx=>!p x).length=f:=by
   rw[qb t,qI,d];simp[C];omega
  rw[U,qI,qt,h2];have:=qU (λx=>!p x) ((l.drop (f+1)).take (i-(f+1)));simp at this ⊢;omega
 have r:(BJ p l i).length=l.length:=by unfold BJ;simp;omega
 generalize q:(l.take i).filter (λx=>!p x)=c at X ⊢;have u:o≠m:=by omega
 have G:=Ax.E.size (BJ p l i);by_cases B:i<l.length;have w1:=wS i (by omega);have w2:IntKind.i64.wrap ((c.length:Int)+1)=((c.length+1:Nat):Int):=by rw[Cl]<;>omega
 obtain⟨x,J⟩:∃x,l[i]=x:=⟨_,rfl⟩
 have O:(BJ p l i)[i]? = some x:=by
  unfold BJ;rw[q,qV (by omega),qY];have:c.length+(i-c.length)=i:=by omega
  rw[this,qf B,J]
 obtain⟨g1,T⟩:=JU G (i:=i) (e:=x.enc) (by simp[O]);have s:=LT G (j:=c.length) (e:=x.enc) (by simp[r];omega);have g3:c.length*3+3<=(((BJ p l i).map Ax.enc).flatMap SV.cells).length:=by
  rw[A7 G,qd,r];omega
 have hcl:=Ax.E.len x;generalize V:((BJ p l i).map Ax.enc).flatMap SV.cells=F at g1 T g3 s ⊢;have H1:=hp x (by rw[<-J];exact ql B);simp only[qn,qz,qE]at H1;have hpre:=Ax.E.st x;simp[Ax.enc,SV.cells]at T;simp[go_sem,B,AC,g1,T];refine qw (by simpa[Ax.enc]using H1) ?_;by_cases L:p x=true;simp[go_sem,L,w1,-Int.natCast_add];have A:(l.take (i+1)).filter (λx=>!p x)=c:=by rw[qb B,qI,q,J];simp[L]
 have D:BJ p l (i+1)=BJ p l i:=by unfold BJ;rw[A,q]
 refine⟨i+1,by omega,⟨by omega,by omega,by omega⟩,⟨by rw[A];exact IO,IO⟩,λj y e=>?_⟩;rw[D,V]at e;by_cases w:j=o;subst w;rw[AC]at e;rw[AD _ _ u,AD _ _ u,AC];exact e;rw[AD _ _ w]at e;have:=(S j y e).1;rw[AD _ _ (by omega),AD _ _ (by omega),AD _ _ w];exact e;have I:p x=false:=by simpa using L
 have Q:(c.length:Int)<l.length:=by omega
 simp[Ax.enc,SV.cells]at s;simp[go_sem,I,AC,AD,u,Q,g3,s,w1,w2,-Int.natCast_add];have A:(l.take (i+1)).filter (λx=>!p x)=c++[x]:=by rw[qb B,qI,q,J];simp[I]
 have D:(BJ p l (i+1)).map Ax.enc=((BJ p l i).map Ax.enc).set c.length x.enc:=by
  have:BJ p l (i+1)=(BJ p l i).set c.length x:=by
   unfold BJ;rw[A,q,jV _ _ (qa _),Nat.sub_self];simp;rw[qG (show c.length<l.length by omega),List.set_cons_zero]
  rw[this,List.map_set]
 rw[Ax.enc]at D;refine⟨i+1,by omega,⟨by omega,by omega,by omega⟩,⟨by rw[A,qt];exact IO,IO⟩,λj y e=>?_⟩;rw[D]at e;by_cases w:j=o;subst w;rw[AC]at e ⊢;exact e;rw[AD _ _ w]at e ⊢;have:=(S j y e).1;rw[AD _ _ (by omega),AD _ _ (by omega),AD _ _ w];exact e;have:i=l.length:=by omega
 subst this;have q1:c.length<=l.length:=by omega
 have q2:¬((c.length:Int)=l.length):=by omega
 have q3:¬(l.length-c.length=0):=by omega
 rw[qi]at q;have V:((BJ p l l.length).map Ax.enc).flatMap SV.cells=(c.map Ax.enc).flatMap SV.cells++((l.drop c.length).map Ax.enc).flatMap SV.cells:=by unfold BJ;rw[qi,q];simp
 have K:((c.map Ax.enc).flatMap SV.cells).length=c.length*3:=by rw[A7 (Ax.E.size c),qd]
 have W:(((BJ p l l.length).map Ax.enc).flatMap SV.cells).length=l.length*3:=by rw[A7 G,qd,r]
 have q4:c.length*3+(l.length-c.length)*3<=(((BJ p l l.length).map Ax.enc).flatMap SV.cells).length:=by rw[W,<-jB];apply jt;omega
 have M:(((BJ p l l.length).map Ax.enc).flatMap SV.cells).take (c.length*3)=(c.map Ax.enc).flatMap SV.cells:=by rw[V,<-K,List.take_left]
 generalize((BJ p l l.length).map Ax.enc).flatMap SV.cells=F at q4 M ⊢;simp[go_sem,AC,q1,q2,q3,q4];refine fin c _ _ _ _ q (λj y hj e=>by rw[AD _ _ hj,AD _ _ hj];exact e) (AC _ _ _) ?_ ?_;rw[M,qt,K];omega;rw[M,<-K,List.take_left]
def AE.addText (y:AE) (t:ByteArray):AE:=.mk y.kind y.code y.id (y.text++t) y.head y.flow y.rows
def Co (x:AE):Prop:=(x.kind=7/\x.rows=[])\/(x.kind=1/\x.text.size=0)
instance (x:AE):Decidable (Co x):=by unfold Co;cases h:x.rows<;>simp<;>infer_instance
def BK (out:List AE) (x:AE):List AE:=
 if Co x then out else match out.getLast? with
  | some y=>if x.kind=1/\y.kind=1/\y.head=x.head then out.dropLast++[y.addText x.text]else out++[x]
  | none=>out++[x]
def EM (l:List AE):List AE:=l.foldl BK []
mutual
def AE.nrm:AE->AE
 | .mk k c i t h f r=>.mk k c i t h (EM (AE.nrmL f)) ((Aa.nrmL r).filter λr=>!decide (r.cells.length=0))
def AE.nrmL:List AE->List AE
 | []=>[]
 | x::l=>AE.nrm x::AE.nrmL l
def Aa.nrm:Aa->Aa
 | .mk h c=>.mk h (Wl.nrmL c)
def Aa.nrmL:List Aa->List Aa
 | []=>[]
 | x::l=>Aa.nrm x::Aa.nrmL l
def Wl.nrm:Wl->Wl
 | .mk i h f=>.mk i h (EM (AE.nrmL f))
def Wl.nrmL:List Wl->List Wl
 | []=>[]
 | x::l=>Wl.nrm x::Wl.nrmL l
end
theorem AE.nrmL_eq:∀l:List AE,AE.nrmL l=l.map AE.nrm
 | []=>by rw[AE.nrmL];rfl
 | x::l=>by rw[AE.nrmL,AE.nrmL_eq l];rfl
theorem Aa.nrmL_eq:∀l:List Aa,Aa.nrmL l=l.map Aa.nrm
 | []=>by rw[Aa.nrmL];rfl
 | x::l=>by rw[Aa.nrmL,Aa.nrmL_eq l];rfl
theorem Wl.nrmL_eq:∀l:List Wl,Wl.nrmL l=l.map Wl.nrm
 | []=>by rw[Wl.nrmL];rfl
 | x::l=>by rw[Wl.nrmL,Wl.nrmL_eq l];rfl
def Ac (l:List AE):List AE:=EM (AE.nrmL l)
theorem XV (z:Nat) (full:Bool):PC 133 [.imm z [] full,.fn (.func 136) [] []] (.imm 6 [] false):=by
 intro h n;refine gq Tryz.func133 rfl λa=>?_;simp[go_sem];have hI:=(Xe [] (by simp) 136 [] [] (λ_=>false) (by simp)).wk (us:=[.imm z [] full,.fn (.func 136) [] []]) 1 ⟨BC (by simp),IO,trivial⟩;refine qw hI ?_;have e:BD (λ_=>false) 0 0 = -1:=by rw[BD];simp
 simp[go_sem,e];exact Jj a AB (by simp) rfl
theorem Zy (r:Aa):PC 136 [r.enc] (.bool (decide (r.cells.length=0))):=by
 intro h n;refine gq Tryz.func136 rfl λa=>?_;simp[go_sem,qQ,AC];exact Ay a (AQ a (qa _) AB) (by cases r.cells<;>simp;omega) rfl
theorem T4 {E:B6} (l:List Aa) (hl:l.length<=1048576) (H:∀(i:Nat) (h:i<l.length),PC 135 [(l[i]).enc] (Aa.nrm l[i]).enc) {h:Hp} {n:Nat} {K:SV->Hp->Nat->Prop}
 (k:∀v h' n',n<=n'->(∀o x,h o=some x->h' o=some x)->Ak E Tryz.prog 133 [v,.fn (.func 136) [] []] h' n' (λc h2 b=>(∀o x,o<n->h o=some x->h2 o=some x)/\n<=b/\c=.imm 6 (((l.map Aa.nrm).filter λr=>!decide (r.cells.length=0)).map Aa.enc) false)->K v h' n'):
 Ak E Tryz.prog 134 [A3 l,.fn (.func 135) [] []] h n K:=by
 refine(YR l hl 135 [] [] Aa.nrm (λi hi=>H i hi)).use λv h' n' ⟨hn,a,m⟩=>k v h' n' hn a ?_;rcases m with⟨f,p,full,rfl⟩|⟨o,full,h1,h2,rfl,d⟩
 refine qw (XV p full) ⟨λo x _ e=>a o x e,hn,?_⟩;have:l.map Aa.nrm=[]:=by simpa using f
 rw[this];rfl;rw[qd];refine Ak.lift ((bS (l.map Aa.nrm) (by simpa using hl) 136 [] [] (λr=>decide (r.cells.length=0)) (λr _=>Zy r) (n:=n') (full:=full) d).mono ?_);rintro c h2 b ⟨rfl,rfl,rfl⟩;exact⟨λj x g e=>by rw[AD _ _ (by omega)];exact a j x e,hn,rfl⟩
theorem AE.nrm_fields (x:AE):x.nrm.kind=x.kind/\x.nrm.code=x.code/\x.nrm.id=x.id/\x.nrm.text=x.text/\x.nrm.head=x.head/\x.nrm.flow=Ac x.flow/\x.nrm.rows=(x.rows.map Aa.nrm).filter λr=>!decide (r.cells.length=0):=by
 cases x;rw[AE.nrm];simp[AE.kind,AE.code,AE.id,AE.text,AE.head,AE.flow,AE.rows,Ac,Aa.nrmL_eq]
theorem I4 (l:List AE) (k:Nat) (h:k<l.length):EM (AE.nrmL (l.take (k+1)))=BK (EM (AE.nrmL (l.take k))) l[k].nrm:=by
 rw[qb h,AE.nrmL_eq,qc,EM,kg,AE.nrmL_eq];rfl
theorem Jf (out:List AE) (x:AE):(BK out x).length<=out.length+1:=by
 unfold BK;split;omega;split;split<;>simp;simp
theorem Mr (l:List AE):∀k,k<=l.length->(EM (AE.nrmL (l.take k))).length<=k
 | 0,_=>by simp[AE.nrmL,EM]
 | k+1,h=>by
  rw[I4 l k h];have:=Jf (EM (AE.nrmL (l.take k))) l[k].nrm;have:=Mr l k (by omega);omega
theorem Jg {out:List AE} {x y:AE} (h:y∈BK out x):y∈out\/y=x\/∃z∈out,y=z.addText x.text:=by
 unfold BK at h;split at h;exact .inl h;split at h;rename_i z a;split at h;rcases qe.1 h with h|h;exact .inl ((List.dropLast_sublist out).subset h);exact .inr (.inr ⟨z,List.mem_of_getLast? a,qv.1 h⟩);rcases qe.1 h with h|h;exact .inl h;exact .inr (.inl (qv.1 h));rcases qe.1 h with h|h;exact .inl h;exact .inr (.inl (qv.1 h))
theorem J3 (l:List AE) (a:∀x∈l,x.head.sized/\x.text.size<=1048576):∀k,k<=l.length->∀y∈EM (AE.nrmL (l.take k)),y.head.sized/\y.text.size<=k*1048576
 | 0,_,y,hy=>by simp[AE.nrmL,EM]at hy
 | k+1,h,y,hy=>by
  rw[I4 l k h]at hy;have c:=a l[k] (ql h);obtain⟨_,_,_,f4,f5,_,_⟩:=(l[k]).nrm_fields;rcases Jg hy with b|rfl|⟨z,d,rfl⟩
  have:=J3 l a k (by omega) y b;exact⟨this.1,by omega⟩;rw[f4,f5];exact⟨c.1,by omega⟩;have:=J3 l a k (by omega) z d;refine⟨by simpa[AE.addText,AE.head]using this.1,?_⟩;have e:(z.addText (l[k]).nrm.text).text.size=z.text.size+(l[k]).text.size:=by show(z.text++(l[k]).nrm.text).size=_;rw[JN,f4]
  omega
theorem OX (s:ByteArray):(s.toList==ByteArray.empty.toList)=decide (s.size=0):=by
 rw[<-beq_toListBytes];by_cases h:s.size=0;have:s=ByteArray.empty:=by
  obtain⟨⟨l⟩⟩:=s;cases l with
  | nil=>rfl
  | cons a l=>simp[ByteArray.size]at h
 subst this;rfl;have:s≠ByteArray.empty:=by rintro rfl;exact h rfl
 have e:(s==ByteArray.empty)=false:=by
  rw[Bool.eq_false_iff];intro e;exact this ((P5 _ _).1 e)
 rw[e];simp[h]
theorem HN (s:ByteArray):s.toList=[]↔s.size=0:=by
 have h:=OX s;have e:ByteArray.empty.toList=[]:=by
  have:=OX ByteArray.empty;rw[ByteArray.toList_eq];rfl
 rw[e]at h;constructor;intro g;rw[g]at h;simpa using h.symm;intro g;rw[decide_eq_true g]at h;simpa using h
set_option maxHeartbeats 4000000 in
theorem P8 (l:List AE) (hl:l.length<=1048576) (hs:∀x∈l,x.head.sized/\x.text.size<=1048576/\x.rows.length<=1048576)
 (H1:∀x∈l,PC 73 [AG x.flow] (AG (Ac x.flow))) (H2:∀x∈l,∀(i:Nat) (h:i<x.rows.length),PC 135 [(x.rows[i]).enc] (Aa.nrm x.rows[i]).enc):LC 73 [AG l] 11 ((Ac l).map AE.enc):=by
 intro h n;refine gq Tryz.func73 rfl λho=>?_;simp[go_sem];refine An 2 (α:=Nat×Option Nat) (λq=>[(3,AM 11 q.2 ((EM (AE.nrmL (l.take q.1))).map AE.enc)),(7,AG l),(8,AA l.length),(9,AA q.1)]) (λq=>AN q.2 ((EM (AE.nrmL (l.take q.1))).map AE.enc) h)
  (λq m=>q.1<=l.length/\n<=m/\Ar n m 11 q.2 ((EM (AE.nrmL (l.take q.1))).map AE.enc)) (λq=>l.length-q.1) (0,none) ?_ ?_ AB ?_
 exact⟨qg _,qa _,by simp[AE.nrmL,EM];exact jK _ _ _⟩;simp[Ai,AM];rintro⟨k,o⟩ m ⟨hk,hnm,hA⟩;dsimp only at hk hA ⊢;by_cases hlt:k<l.length
 . have w1:=wS k (by omega);obtain⟨x,hx⟩:∃x,l[k]=x:=⟨_,rfl⟩
   have hxm:x∈l:=by rw[<-hx];exact ql hlt
   obtain⟨hxh,hxt,hxr⟩:=hs x hxm;have hft:=I4 l k hlt;rw[hx]at hft;obtain⟨f1,f2,f3,f4,f5,f6,f7⟩:=x.nrm_fields;have hfl:=Mr l k hk;generalize hys:EM (AE.nrmL (l.take k))=ys at hA hft hfl ⊢;have hlo:∀j,o=some j->j<m:=λj e=>(hA.lt j e).2;simp[go_sem,hlt,hx,qx,AC];refine qw (by simpa[AF.enc,AF.flat]using Ob x.head hxh) ?_;simp[go_sem,AC];refine(H1 x hxm).use ?_;simp[go_sem,AC];refine T4 x.rows hxr (λi hi=>H2 x hxm i hi) λv h1 m1 hm1 hh1 hcall=>?_;simp[go_sem];refine kS hcall ?_;rintro v2 h2 m2 ⟨hh2,hm2,rfl⟩;rw[<-f7];generalize hR:x.nrm.rows=R at f7 ⊢;have em0:=hh2 m _ (qP m) (AC _ _ _);have ho2:∀j,o=some j->h2 j=some (.cells ((ys.map AE.enc).flatMap SV.cells)):=λj e=>by
    have:=hlo j e;exact hh2 j _ (by omega) (by rw[AD _ _ (by omega),AD _ _ (by omega),AD _ _ (by omega),AD _ _ (by omega)];exact Cu j e)
   have hacc:∀j y,AN o (ys.map AE.enc) h j=some y->j<m/\h2 j=some y:=λj y e=>by
    have hjm:j<m:=by
     cases o with
     | none=>have:=(ho j y e).1;omega
     | some i=>
      simp only[AN,hset]at e;split at e;rename_i h;subst h;exact hlo _ rfl;have:=(ho j y e).1;omega
    exact⟨hjm,hh2 j _ (by omega) (by rw[AD _ _ (by omega),AD _ _ (by omega),AD _ _ (by omega),AD _ _ (by omega)];exact e)⟩
   have BE:∀j y,h j=some y->h2 j=some y:=λj y e=>(hacc j y (AN.old ho hA j y e)).2;clear hcall hh1 hh2;rcases o with _|j
   . have hys0:ys=[]:=by simpa using hA.none rfl
     subst hys0;have happ:¬Co x.nrm->BK [] x.nrm=[]++[x.nrm]:=λhd=>by rw[BK,if_neg hd];rfl
     by_cases k7:x.kind=7
     . by_cases hR0:R=[];have hd:Co x.nrm:=.inl ⟨by rw[f1,k7],by rw[hR,hR0]⟩;simp[go_sem,AM,em0,AC,k7,hR0,w1,-Int.natCast_add];rw[BK,if_pos hd]at hft;refine⟨k+1,by omega,none,⟨by omega,by omega,by rw[hft];exact hA.mono (by omega)⟩,⟨by rw[hft];first|exact IO|(simp[AM,IO]),IO⟩,λi y e=>?_⟩;rw[hft]at e;obtain⟨g1,g2⟩:=hacc i y e;rw[AD _ _ (by omega)];exact g2
       . have hd:¬Co x.nrm:=by rintro(⟨_,g⟩|⟨g,_⟩);exact hR0 (by rw[<-hR,g]);rw[f1,k7]at g;exact absurd g (by decide)
         rw[happ hd]at hft;simp[go_sem,AM,em0,AC,k7,hR0]
         repeat first|refine nq ?_|refine sq ?_|refine aq ?_
         rw[Ky (e:=x.nrm.enc) (t:=22) (t2:=22) (el:=70) (z:=11) (by simp[go_sem]) (by simp[go_sem]) (by simp[go_sem]) (by simp) (by simp[go_sem]) (by simp[go_sem]) (by simp[go_sem]) (AE.E.len _) ?a1]
         case a1=>simp[AC,qx,SV.cells,f1,f2,f3,f4,f5,f6,hR,k7]
         simp[go_sem,w1,-Int.natCast_add];refine⟨k+1,by omega,some (m2+1),⟨by omega,by omega,by rw[hft,qc];exact hA.push (AE.E.st _) (AE.E.len _) (by omega) (by omega)⟩,⟨by rw[hft];simp[IO],IO⟩,?_⟩;rw[hft,qc];have:=dc (p:=m2+1) (v:=.sl (m2+1) 0 11 (1) false) (e:=x.nrm.enc) ho (by omega) hA (H:=hset (hset h2 m (some (.cells x.nrm.enc.cells))) m2 (some (.cells x.nrm.enc.cells))) (AQ ho (by omega) (AQ ho (by omega) BE));simpa[qx,SV.cells,dW.app,f1,f2,f3,f4,f5,f6,hR,k7]using this
     . by_cases k1:x.kind=1
       . by_cases ht:x.text.size=0;have hd:Co x.nrm:=.inr ⟨by rw[f1,k1],by rw[f4,ht]⟩;simp[go_sem,AM,em0,AC,k1,(HN _).2 ht,w1,-Int.natCast_add];rw[BK,if_pos hd]at hft;refine⟨k+1,by omega,none,⟨by omega,by omega,by rw[hft];exact hA.mono (by omega)⟩,⟨by rw[hft];first|exact IO|(simp[AM,IO]),IO⟩,λi y e=>?_⟩;rw[hft]at e;obtain⟨g1,g2⟩:=hacc i y e;rw[AD _ _ (by omega)];exact g2
         . have hd:¬Co x.nrm:=by rintro(⟨g,_⟩|⟨_,g⟩);rw[f1,k1]at g;exact absurd g (by decide);exact ht (by rw[<-f4,g])
           rw[happ hd]at hft;simp[go_sem,AM,em0,AC,k1,mt (HN _).1 ht]
           repeat first|refine nq ?_|refine sq ?_|refine aq ?_
           rw[Ky (e:=x.nrm.enc) (t:=22) (t2:=22) (el:=70) (z:=11) (by simp[go_sem]) (by simp[go_sem]) (by simp[go_sem]) (by simp) (by simp[go_sem]) (by simp[go_sem]) (by simp[go_sem]) (AE.E.len _) ?a1]
           case a1=>simp[AC,qx,SV.cells,f1,f2,f3,f4,f5,f6,hR,k1]
           simp[go_sem,w1,-Int.natCast_add];refine⟨k+1,by omega,some (m2+1),⟨by omega,by omega,by rw[hft,qc];exact hA.push (AE.E.st _) (AE.E.len _) (by omega) (by omega)⟩,⟨by rw[hft];simp[IO],IO⟩,?_⟩;rw[hft,qc];have:=dc (p:=m2+1) (v:=.sl (m2+1) 0 11 (1) false) (e:=x.nrm.enc) ho (by omega) hA (H:=hset (hset h2 m (some (.cells x.nrm.enc.cells))) m2 (some (.cells x.nrm.enc.cells))) (AQ ho (by omega) (AQ ho (by omega) BE));simpa[qx,SV.cells,dW.app,f1,f2,f3,f4,f5,f6,hR,k1]using this
       . have hd:¬Co x.nrm:=by rintro(⟨g,_⟩|⟨g,_⟩);rw[f1]at g;exact k7 g;rw[f1]at g;exact k1 g
         rw[happ hd]at hft;simp[go_sem,AM,em0,AC,k1,k7]
         repeat first|refine nq ?_|refine sq ?_|refine aq ?_
         rw[Ky (e:=x.nrm.enc) (t:=22) (t2:=22) (el:=70) (z:=11) (by simp[go_sem]) (by simp[go_sem]) (by simp[go_sem]) (by simp) (by simp[go_sem]) (by simp[go_sem]) (by simp[go_sem]) (AE.E.len _) ?a1]
         case a1=>simp[AC,qx,SV.cells,f1,f2,f3,f4,f5,f6,hR]
         simp[go_sem,w1,-Int.natCast_add];refine⟨k+1,by omega,some (m2+1),⟨by omega,by omega,by rw[hft,qc];exact hA.push (AE.E.st _) (AE.E.len _) (by omega) (by omega)⟩,⟨by rw[hft];simp[IO],IO⟩,?_⟩;rw[hft,qc];have:=dc (p:=m2+1) (v:=.sl (m2+1) 0 11 (1) false) (e:=x.nrm.enc) ho (by omega) hA (H:=hset (hset h2 m (some (.cells x.nrm.enc.cells))) m2 (some (.cells x.nrm.enc.cells))) (AQ ho (by omega) (AQ ho (by omega) BE));simpa[qx,SV.cells,dW.app,f1,f2,f3,f4,f5,f6,hR,k1]using this
   . have hj:j<m:=hlo j rfl;have hjm:j≠m:=by omega
     have ho2:=ho2 j rfl;have happ:¬Co x.nrm->x.kind≠1->BK ys x.nrm=ys++[x.nrm]:=λhd hk=>by
      rw[BK,if_neg hd];split;rw[if_neg (by rw[f1];exact λg=>hk g.1)];rfl
     by_cases k7:x.kind=7
     . by_cases hR0:R=[];have hd:Co x.nrm:=.inl ⟨by rw[f1,k7],by rw[hR,hR0]⟩;simp[go_sem,AM,em0,AC,k7,hR0,w1,-Int.natCast_add];rw[BK,if_pos hd]at hft;refine⟨k+1,by omega,some j,⟨by omega,by omega,by rw[hft];exact hA.mono (by omega)⟩,⟨by rw[hft];first|exact IO|(simp[AM,IO]),IO⟩,λi y e=>?_⟩;rw[hft]at e;obtain⟨g1,g2⟩:=hacc i y e;rw[AD _ _ (by omega)];exact g2
       . have hd:¬Co x.nrm:=by rintro(⟨_,g⟩|⟨g,_⟩);exact hR0 (by rw[<-hR,g]);rw[f1,k7]at g;exact absurd g (by decide)
         rw[happ hd (by omega)]at hft;simp[go_sem,AM,em0,AC,k7,hR0]
         repeat first|refine nq ?_|refine sq ?_|refine aq ?_
         rw[GL (es:=ys.map AE.enc) (e:=x.nrm.enc) (t:=22) (t2:=22) (el:=70) (z:=11) (by simp[go_sem]) (by simp[go_sem]) (by simp[go_sem]) (by simp) (by simp[go_sem]) (by simp[go_sem]) (by simp[go_sem]) (by simp;omega) hA (AE.E.len _) ?a1 ?a2 _ (by simp)]
         case a1=>simp[AC,qx,SV.cells,f1,f2,f3,f4,f5,f6,hR,k7]
         case a2=>rw[AD _ _ (by omega),AD _ _ (by omega)];exact ho2
         simp[go_sem,w1,-Int.natCast_add];refine⟨k+1,by omega,some (m2+1),⟨by omega,by omega,by rw[hft,qc];exact hA.push (AE.E.st _) (AE.E.len _) (by omega) (by omega)⟩,⟨by rw[hft];simp[IO],IO⟩,?_⟩;rw[hft,qc];have:=dc (p:=m2+1) (v:=.sl (m2+1) 0 11 ((ys.map AE.enc).length+1) false) (e:=x.nrm.enc) ho (by omega) hA (H:=hset (hset h2 m (some (.cells x.nrm.enc.cells))) m2 (some (.cells x.nrm.enc.cells))) (AQ ho (by omega) (AQ ho (by omega) BE));simpa[qx,SV.cells,dW.app,f1,f2,f3,f4,f5,f6,hR,k7]using this
     . by_cases k1:x.kind=1
       . by_cases ht:x.text.size=0;have hd:Co x.nrm:=.inr ⟨by rw[f1,k1],by rw[f4,ht]⟩;simp[go_sem,AM,em0,AC,k1,(HN _).2 ht,w1,-Int.natCast_add];rw[BK,if_pos hd]at hft;refine⟨k+1,by omega,some j,⟨by omega,by omega,by rw[hft];exact hA.mono (by omega)⟩,⟨by rw[hft];first|exact IO|(simp[AM,IO]),IO⟩,λi y e=>?_⟩;rw[hft]at e;obtain⟨g1,g2⟩:=hacc i y e;rw[AD _ _ (by omega)];exact g2
         . have hd:¬Co x.nrm:=by rintro(⟨g,_⟩|⟨_,g⟩);rw[f1,k1]at g;exact absurd g (by decide);exact ht (by rw[<-f4,g])
           rcases List.eq_nil_or_concat ys with rfl|⟨ys',y,rfl⟩
           . have hft':BK [] x.nrm=[]++[x.nrm]:=by rw[BK,if_neg hd];rfl
             rw[hft']at hft;simp[go_sem,AM,em0,AC,k1,mt (HN _).1 ht]
             repeat first|refine nq ?_|refine sq ?_|refine aq ?_
             rw[GL (es:=[].map AE.enc) (e:=x.nrm.enc) (t:=22) (t2:=22) (el:=70) (z:=11) (by simp[go_sem]) (by simp[go_sem]) (by simp[go_sem]) (by simp) (by simp[go_sem]) (by simp[go_sem]) (by simp[go_sem]) (by simp) hA (AE.E.len _) ?a1 ?a2 _ (by simp)]
             case a1=>simp[AC,qx,SV.cells,f1,f2,f3,f4,f5,f6,hR,k1]
             case a2=>rw[AD _ _ (by omega),AD _ _ (by omega)];exact ho2
             simp[go_sem,w1,-Int.natCast_add];refine⟨k+1,by omega,some (m2+1),⟨by omega,by omega,by rw[hft,qc];exact hA.push (AE.E.st _) (AE.E.len _) (by omega) (by omega)⟩,⟨by rw[hft];simp[IO],IO⟩,?_⟩;rw[hft,qc];have:=dc (p:=m2+1) (v:=.sl (m2+1) 0 11 1 false) (e:=x.nrm.enc) ho (by omega) hA (H:=hset (hset h2 m (some (.cells x.nrm.enc.cells))) m2 (some (.cells x.nrm.enc.cells))) (AQ ho (by omega) (AQ ho (by omega) BE));simpa[qx,SV.cells,dW.app,f1,f2,f3,f4,f5,f6,hR,k1]using this
           . rw[List.concat_eq_append]at *;have hym:=J3 l (λx hx=>⟨(hs x hx).1,(hs x hx).2.1⟩) k hk y (by rw[hys];simp);have hl':(ys'++[y]).length=ys'.length+1:=by simp
             have w2:IntKind.i64.wrap (ys'.length:Int)=(ys'.length:Int):=by rw[Cl]<;>omega
             have hpos:(0:Int)<(ys'.length:Int)+1:=by omega
             have hpos2:(ys'.length:Int)<(ys'.length:Int)+1:=by omega
             have hAl:((ys'.map AE.enc).flatMap SV.cells).length=ys'.length*11:=by rw[A7 (AE.E.size ys'),qd]
             have ho3:h2 j=some (.cells ((ys'.map AE.enc).flatMap SV.cells++y.enc.cells)):=by rw[ho2];simp
             rw[qx y]at ho3;simp only[SV.cells]at ho3;generalize hA':(ys'.map AE.enc).flatMap SV.cells=A at hAl ho3;by_cases hy1:y.kind=1
             . simp[go_sem,AM,em0,AC,AD,hjm,k1,mt (HN _).1 ht,ho3,w2,hpos,hpos2,<-hAl,hy1]
               repeat first|refine nq ?_|refine sq ?_|refine aq ?_
               refine jw _ _ _ _ _ _ (by simpa[AF.enc,AF.flat]using c58 y.head x.head hym.1 hxh) ?_;by_cases hhd:y.head=x.head
               . have hcat:y.text.size+x.text.size<=9223372036854775807:=by have:=hym.2;omega
                 have hft':BK (ys'++[y]) x.nrm=ys'++[y.addText x.text]:=by
                  rw[BK,if_neg hd,JZ];simp only;rw[if_pos ⟨by rw[f1,k1],hy1,by rw[hhd,f5]⟩,Ys,f4]
                 rw[hft']at hft;simp[go_sem,hhd,AC,AD,hjm,ho3,w1,w2,<-hAl,hcat,List.take_length_add_append,-Int.natCast_add]
                 repeat first|refine nq ?_|refine sq ?_|refine aq ?_
                 refine⟨k+1,by omega,some j,⟨by omega,by omega,?_⟩,⟨by rw[hft];simp[IO],IO⟩,λi y' e=>?_⟩;rw[hft];exact⟨by simp,λi e=>⟨(hA.lt i e).1,by have:=(hA.lt i e).2;omega⟩,AE.E.size _⟩;rw[hft]at e;simp only[AN]at e;by_cases e1:i=j;subst e1;rw[AC]at e ⊢;rw[<-e];have ec:(y.addText x.text).enc.cells=[AA y.kind,AA y.code,AA y.id,.str (y.text++x.text),Af y.head.props,AA y.head.ins,AA y.head.move,AP y.head.dels,AL y.head.layers,AG y.flow,A3 y.rows]:=by rw[qx];rfl
                 rw[qc,jm,hA',List.map_singleton,List.flatMap_singleton,ec,hhd];simp[qD];rw[AD _ _ e1]at e;obtain⟨g1,g2⟩:=hacc i y' (by simp only[AN];rw[AD _ _ e1];exact e);rw[AD _ _ e1,AD _ _ (by omega)];exact g2
               . have hft':BK (ys'++[y]) x.nrm=(ys'++[y])++[x.nrm]:=by
                  rw[BK,if_neg hd,JZ];simp only;rw[if_neg (by rw[f5];exact λg=>hhd g.2.2)]
                 rw[hft']at hft;simp[go_sem,hhd,AC]
                 repeat first|refine nq ?_|refine sq ?_|refine aq ?_
                 rw[GL (es:=(ys'++[y]).map AE.enc) (e:=x.nrm.enc) (t:=22) (t2:=22) (el:=70) (z:=11) (by simp[go_sem]) (by simp[go_sem]) (by simp[go_sem]) (by simp) (by simp[go_sem]) (by simp[go_sem]) (by simp[go_sem]) (by simp;omega) hA (AE.E.len _) ?a1 ?a2 _ (by simp)]
                 case a1=>simp[AC,qx,SV.cells,f1,f2,f3,f4,f5,f6,hR,k1]
                 case a2=>rw[AD _ _ (by omega),AD _ _ (by omega)];exact ho2
                 simp[go_sem,w1,-Int.natCast_add];refine⟨k+1,by omega,some (m2+1),⟨by omega,by omega,by rw[hft,qc];exact hA.push (AE.E.st _) (AE.E.len _) (by omega) (by omega)⟩,⟨by rw[hft];simp[IO],IO⟩,?_⟩;rw[hft,qc];have:=dc (p:=m2+1) (v:=.sl (m2+1) 0 11 (((ys'++[y]).map AE.enc).length+1) false) (e:=x.nrm.enc) ho (by omega) hA (H:=hset (hset h2 m (some (.cells x.nrm.enc.cells))) m2 (some (.cells x.nrm.enc.cells))) (AQ ho (by omega) (AQ ho (by omega) BE));simpa[qx,SV.cells,dW.app,f1,f2,f3,f4,f5,f6,hR,k1]using this
             . simp[go_sem,AM,em0,AC,AD,hjm,k1,mt (HN _).1 ht,ho3,w2,hpos,hpos2,<-hAl,hy1]
               repeat first|refine nq ?_|refine sq ?_|refine aq ?_
               have hft':BK (ys'++[y]) x.nrm=(ys'++[y])++[x.nrm]:=by
                rw[BK,if_neg hd,JZ];simp only;rw[if_neg (λg=>hy1 g.2.1)]
               rw[hft']at hft;rw[GL (es:=(ys'++[y]).map AE.enc) (e:=x.nrm.enc) (t:=22) (t2:=22) (el:=70) (z:=11) (by simp[go_sem]) (by simp[go_sem]) (by simp[go_sem]) (by simp) (by simp[go_sem]) (by simp[go_sem]) (by simp[go_sem]) (by simp;omega) hA (AE.E.len _) ?a1 ?a2 _ (by simp)]
               case a1=>simp[AC,qx,SV.cells,f1,f2,f3,f4,f5,f6,hR,k1]
               case a2=>rw[AD _ _ (by omega),AD _ _ (by omega)];exact ho2
               simp[go_sem,w1,-Int.natCast_add];refine⟨k+1,by omega,some (m2+1),⟨by omega,by omega,by rw[hft,qc];exact hA.push (AE.E.st _) (AE.E.len _) (by omega) (by omega)⟩,⟨by rw[hft];simp[IO],IO⟩,?_⟩;rw[hft,qc];have:=dc (p:=m2+1) (v:=.sl (m2+1) 0 11 (((ys'++[y]).map AE.enc).length+1) false) (e:=x.nrm.enc) ho (by omega) hA (H:=hset (hset h2 m (some (.cells x.nrm.enc.cells))) m2 (some (.cells x.nrm.enc.cells))) (AQ ho (by omega) (AQ ho (by omega) BE));simpa[qx,SV.cells,dW.app,f1,f2,f3,f4,f5,f6,hR,k1]using this
       . have hd:¬Co x.nrm:=by rintro(⟨g,_⟩|⟨g,_⟩);rw[f1]at g;exact k7 g;rw[f1]at g;exact k1 g
         rw[happ hd k1]at hft;simp[go_sem,AM,em0,AC,k1,k7]
         repeat first|refine nq ?_|refine sq ?_|refine aq ?_
         rw[GL (es:=ys.map AE.enc) (e:=x.nrm.enc) (t:=22) (t2:=22) (el:=70) (z:=11) (by simp[go_sem]) (by simp[go_sem]) (by simp[go_sem]) (by simp) (by simp[go_sem]) (by simp[go_sem]) (by simp[go_sem]) (by simp;omega) hA (AE.E.len _) ?a1 ?a2 _ (by simp)]
         case a1=>simp[AC,qx,SV.cells,f1,f2,f3,f4,f5,f6,hR]
         case a2=>rw[AD _ _ (by omega),AD _ _ (by omega)];exact ho2
         simp[go_sem,w1,-Int.natCast_add];refine⟨k+1,by omega,some (m2+1),⟨by omega,by omega,by rw[hft,qc];exact hA.push (AE.E.st _) (AE.E.len _) (by omega) (by omega)⟩,⟨by rw[hft];simp[IO],IO⟩,?_⟩;rw[hft,qc];have:=dc (p:=m2+1) (v:=.sl (m2+1) 0 11 ((ys.map AE.enc).length+1) false) (e:=x.nrm.enc) ho (by omega) hA (H:=hset (hset h2 m (some (.cells x.nrm.enc.cells))) m2 (some (.cells x.nrm.enc.cells))) (AQ ho (by omega) (AQ ho (by omega) BE));simpa[qx,SV.cells,dW.app,f1,f2,f3,f4,f5,f6,hR,k1]using this
 have:k=l.length:=by omega
 subst this;rw[qi]at hA ⊢;simp[go_sem];exact .inl (Kv ho hA AB hnm (qa _))
theorem Ud (x:Wl) (b:x.head.sized) (H:PC 73 [AG x.flow] (AG (Ac x.flow))):PC 195 [x.enc] (Wl.nrm x).enc:=by
 intro h n;refine gq Tryz.func195 rfl λa=>?_;have e:(Wl.nrm x).enc=.agg [AA x.id,Af x.head.props,AA x.head.ins,AA x.head.move,AP x.head.dels,AL x.head.layers,AG (Ac x.flow)]:=by cases x;rw[Wl.nrm,QS];rfl
 rw[e];simp[go_sem,QS,AC,AD]
 repeat first|refine nq ?_|refine sq ?_|refine aq ?_
 refine jw _ _ _ _ _ _ (by simpa[AF.enc,AF.flat]using Ob x.head b) ?_;simp[go_sem,AC,AD]
 repeat first|refine nq ?_|refine sq ?_|refine aq ?_
 refine jw _ _ _ _ _ _ H ?_;simp[go_sem,AC]
 repeat first|refine nq ?_|refine sq ?_|refine aq ?_
 exact Ay a (by repeat(first|exact AB|refine AQ a (by omega) ?_)) rfl (by rw[<-e];exact Wl.cl n _)
theorem Ua (x:Aa) (c:x.head.sized) (hc:x.cells.length<=1048576) (H:∀(i:Nat) (h:i<x.cells.length),PC 195 [(x.cells[i]).enc] (Wl.nrm x.cells[i]).enc):PC 135 [x.enc] (Aa.nrm x).enc:=by
 intro h n;refine gq Tryz.func135 rfl λa=>?_;have b:=(YV x.cells hc 195 [] [] Wl.nrm (λi hi=>H i hi)).pc (Wl.E.size _) (λn=>Wl.E.closedL n _);have e:(Aa.nrm x).enc=.agg [Af x.head.props,AA x.head.ins,AA x.head.move,AP x.head.dels,AL x.head.layers,BS (x.cells.map Wl.nrm)]:=by cases x;rw[Aa.nrm,qQ,Wl.nrmL_eq];rfl
 rw[e];simp[go_sem,qQ,AC,AD,-List.map_map]
 repeat first|refine nq ?_|refine sq ?_|refine aq ?_
 refine jw _ _ _ _ _ _ (by simpa[AF.enc,AF.flat]using Ob x.head c) ?_;simp[go_sem,AC,AD,-List.map_map]
 repeat first|refine nq ?_|refine sq ?_|refine aq ?_
 refine jw _ _ _ _ _ _ b ?_;simp[go_sem,AC,-List.map_map]
 repeat first|refine nq ?_|refine sq ?_|refine aq ?_
 exact Ay a (by repeat(first|exact AB|refine AQ a (by omega) ?_)) rfl (by rw[<-e];exact Aa.cl n _)
theorem WR {l:List AE} (H:LC 73 [AG l] 11 ((Ac l).map AE.enc)):PC 73 [AG l] (AG (Ac l)):=H.pc (AE.E.size _) λn=>AE.E.closedL n _
theorem D7 {x:AE} (h:x.sized):x.head.sized/\x.text.size<=1048576/\x.rows.length<=1048576:=by cases x;rw[AE.sized]at h;exact⟨h.2.1,h.1,h.2.2.2.1⟩
def NI (x:AE):Prop:=PC 73 [AG x.flow] (AG (Ac x.flow))/\∀(i:Nat) (h:i<x.rows.length),PC 135 [(x.rows[i]).enc] (Aa.nrm x.rows[i]).enc
mutual
theorem cNI:∀x:AE,x.sized->NI x
 | .mk k c i t hd f r,hs=>by
  rw[AE.sized]at hs;refine⟨WR (P8 f hs.2.2.1 (λx a=>D7 (ka hs.2.2.2.2.1 x a)) (λx a=>(QA f hs.2.2.2.2.1 x a).1) λx a=>(QA f hs.2.2.2.2.1 x a).2),?_⟩;exact VQ r hs.2.2.2.2.2
theorem QA:∀l:List AE,AE.sizedL l->∀x∈l,NI x
 | [],_,x,h=>by simp at h
 | y::l,hs,x,h=>by
  rw[AE.sizedL]at hs;rcases qk.1 h with h|h;rw[h];exact cNI y hs.1;exact QA l hs.2 x h
theorem Zx:∀x:Aa,x.sized->PC 135 [x.enc] (Aa.nrm x).enc
 | .mk hd c,hs=>by
  rw[Aa.sized]at hs;exact Ua (.mk hd c) hs.1 hs.2.1 (VS c hs.2.2)
theorem VQ:∀l:List Aa,Aa.sizedL l->∀(i:Nat) (h:i<l.length),PC 135 [(l[i]).enc] (Aa.nrm l[i]).enc
 | [],_,i,h=>by simp at h
 | x::l,hs,0,_=>by rw[Aa.sizedL]at hs;exact Zx x hs.1
 | x::l,hs,i+1,h=>by rw[Aa.sizedL]at hs;exact VQ l hs.2 i (by simpa using h)
theorem aG:∀x:Wl,x.sized->PC 195 [x.enc] (Wl.nrm x).enc
 | .mk i hd f,hs=>by
  rw[Wl.sized]at hs;exact Ud (.mk i hd f) hs.1 (WR (P8 f hs.2.1 (λx a=>D7 (ka hs.2.2 x a)) (λx a=>(QA f hs.2.2 x a).1) λx a=>(QA f hs.2.2 x a).2))
theorem VS:∀l:List Wl,Wl.sizedL l->∀(i:Nat) (h:i<l.length),PC 195 [(l[i]).enc] (Wl.nrm l[i]).enc
 | [],_,i,h=>by simp at h
 | x::l,hs,0,_=>by rw[Wl.sizedL]at hs;exact aG x hs.1
 | x::l,hs,i+1,h=>by rw[Wl.sizedL]at hs;exact VS l hs.2 i (by simpa using h)
end
theorem l73 (l:List AE) (hl:l.length<=1048576) (b:AE.sizedL l):LC 73 [AG l] 11 ((Ac l).map AE.enc):=
 P8 l hl (λx a=>D7 (ka b x a)) (λx a=>(QA l b x a).1) λx a=>(QA l b x a).2
theorem c73 (l:List AE) (hl:l.length<=1048576) (a:AE.sizedL l):PC 73 [AG l] (AG (Ac l)):=WR (l73 l hl a)
def CL (r:Ax):Int:=
 if r.id<1\/1073741824<r.id then 18 else if r.author.size=0 then 11 else if 40<r.author.size then 10 else if CZ r.author=false then 12 else if r.time<0\/1099511627776<r.time then 40 else 0
theorem W9 (r:Ax):PC 42 [r.enc] (AA (CL r)):=by
 intro h n;refine gq Tryz.func42 rfl λa=>?_;have b:∀y,∀o x,h o=some x->hset h n y o=some x:=λy=>AQ a (qa _) AB;by_cases a1:r.id<1;simp[go_sem,Ax.enc,AC,a1];exact Ay a (b _) (by simp[CL,a1]) rfl;by_cases a2:1073741824<r.id;simp[go_sem,Ax.enc,AC,a1,a2];exact Ay a (b _) (by simp[CL,a2]) rfl;by_cases a3:r.author.size=0;simp[go_sem,Ax.enc,AC,a1,a2,HN,a3];exact Ay a (b _) (by simp[CL,a1,a2,a3]) rfl;by_cases a4:40<r.author.size;have c:(40:Int)<r.author.size:=by omega
 simp[go_sem,Ax.enc,AC,a1,a2,HN,a3,c];exact Ay a (b _) (by simp[CL,a1,a2,a3,a4]) rfl;have c:¬(40:Int)<r.author.size:=by omega
 simp[go_sem,Ax.enc,AC,a1,a2,HN,a3,c];refine(P7 r.author (by omega)).use ?_;cases a5:CZ r.author;simp[go_sem];exact Ay a (b _) (by simp[CL,a1,a2,a3,a4,a5]) rfl;by_cases d:r.time<0;simp[go_sem,AC,d];exact Ay a (b _) (by simp[CL,a1,a2,a3,a4,a5,d]) rfl;by_cases e:1099511627776<r.time;simp[go_sem,AC,d,e];exact Ay a (b _) (by simp[CL,a1,a2,a3,a4,a5,e]) rfl;simp[go_sem,AC,d,e];exact Ay a (b _) (by simp[CL,a1,a2,a3,a4,a5,d,e]) rfl
def E6 (l:List Ax) (i:Nat):Int:=match l[i]? with
 | some r=>if CL r=0 then if i=0 then 0 else match l[i-1]? with|some q=>if Do r.id q.id=0 then 7 else if Do r.id q.id = -1 then 6 else 0|none=>0 else CL r
 | none=>0
def Cd (l:List Ax):Int:=if 256<l.length then 9 else FK (E6 l) l.length
theorem bI (l:List Ax) (hl:l.length<=1048576):PC 71 [Ao l] (AA (Cd l)):=by
 intro h n;refine gq Tryz.func71 rfl λg=>?_;by_cases a0:256<l.length;have c:(256:Int)<l.length:=by omega
 simp[go_sem,c];exact As g rfl (by simp[Cd,a0]);have c:¬(256:Int)<l.length:=by omega
 simp[go_sem,c];refine An 1 (α:=Nat) (λk=>[(0,Ao l),(9,Ao l),(10,AA l.length),(11,AA k)]) (λ_=>h) (λk m=>k<=l.length/\n<=m/\FK (E6 l) k=0) (λk=>l.length-k) 0 ?_ ?_ AB ?_;exact⟨qg _,qa _,rfl⟩;simp[Ai];rintro k m ⟨hk,t,s⟩;have i:∀y,∀o x,h o=some x->hset h m y o=some x:=λy=>AQ g t AB;by_cases f:k<l.length
 . have w1:=wS k (by omega);obtain⟨r,v⟩:∃r,l[k]=r:=⟨_,rfl⟩
   have a:l[k]? = some r:=by simp[f,v]
   have d:∀e,E6 l k=e->e≠0->Cd l=e:=λe u h2=>by rw[Cd,if_neg a0,Ix _ f s (by rw[u];exact h2),u]
   have Gy:E6 l k=0->FK (E6 l) (k+1)=0:=λe=>by rw[FK,s,if_pos rfl,e]
   simp[go_sem,f,v,Ax.enc,AC,AS];refine qw (by simpa[Ax.enc]using W9 r) ?_;by_cases b:CL r=0
   . by_cases p:k=0;subst p;simp[go_sem,b];exact⟨1,by omega,⟨by omega,by omega,Gy (by simp[E6,a,b])⟩,IO,i _⟩
     . have w2:IntKind.i64.wrap ((k:Int)-1)=((k-1:Nat):Int):=by rw[Cl]<;>omega
       obtain⟨q,j⟩:∃q,l[k-1]? = some q:=⟨l[k-1],by simp[show k-1<l.length by omega]⟩
       have hq2:l[k-1]=q:=by have:=(qo.1 j).2;exact this
       simp[go_sem,b,p,AC,w2,j,Ax.enc]
       repeat refine⟨by kernel_rfl,?_⟩
       refine jw _ _ _ _ _ _ (Rg r.id q.id) ?_;by_cases c0:Do r.id q.id=0
       . simp[go_sem,c0]
         repeat refine⟨by kernel_rfl,?_⟩
         exact Ay g (i _) (by rw[d 7 (by simp[E6,a,b,p,j,c0]) (by simp)]) rfl
       . by_cases c1:Do r.id q.id = -1
         . simp[go_sem,c1]
           repeat refine⟨by kernel_rfl,?_⟩
           exact Ay g (i _) (by rw[d 6 (by simp[E6,a,b,p,j,c1]) (by simp)]) rfl
         . simp[go_sem,c0,c1,w1,-Int.natCast_add]
           repeat refine⟨by kernel_rfl,?_⟩
           exact⟨k+1,by omega,⟨by omega,by omega,Gy (by simp[E6,a,b,p,j,c0,c1])⟩,IO,i _⟩
   simp[go_sem,b];exact Ay g (i _) (by rw[d (CL r) (by simp[E6,a,b]) b]) rfl
 have:k=l.length:=by omega
 subst this;simp[go_sem];exact As g rfl (by simp[Cd,a0,s])
theorem Zw (r:Ax) (id:Int):PC 132 [r.enc,AA id] (AA (Do r.id id)):=by
 intro h n;refine gq Tryz.func132 rfl λa=>?_;simp[go_sem,Ax.enc,AC];refine(Rg r.id id).use ?_;simp[go_sem];exact Ay a (AQ a (qa _) AB) rfl rfl
def Gr (l:List Ax) (id:Int) (i:Nat):Int:=match l[i]? with|some r=>Do r.id id|none=>0
theorem bJ (l:List Ax) (hl:l.length<=1048576) (id:Int):PC 72 [Ao l,AA id] (.tup [AA (BI (Gr l id) l.length).1,.bool (BI (Gr l id) l.length).2]):=by
 intro h n;refine gq Tryz.func72 rfl λa=>?_;simp[go_sem];refine(Zv l hl (AA id) 132 [] [] (Gr l id) λi hi=>by simpa[Gr,hi]using Zw l[i] id).use ?_;simp[go_sem];exact As a rfl rfl
def GV:Ax:=⟨0,⟨#[]⟩,0⟩
def GU (id:Int):List Ax->Ax×Bool
 | []=>(GV,false)
 | r::l=>if r.id=id then(r,true)else GU id l
def CA (l:List Ax) (id:Int):Ax×Bool:=if Cd l=0 then(if(BI (Gr l id) l.length).2=true then((l[(BI (Gr l id) l.length).1]?).getD GV,true)else(GV,false))else GU id l
theorem LF (c:Nat->Int) (n:Nat) (h:(BI c n).2=true):(BI c n).1<n:=by
 simp only[BI,decide_eq_true_eq]at h ⊢;exact h.1
theorem V4 (l:List Ax) (hl:l.length<=1048576) (id:Int):PC 20 [Ao l,AA id] (.tup [(CA l id).1.enc,.bool (CA l id).2]):=by
 intro h n;refine gq Tryz.func20 rfl λg=>?_;have s:∀y z,∀o x,h o=some x->hset (hset h n y) n z o=some x:=λy z=>AQ g (qa _) (AQ g (qa _) AB);have j:∀(r:Ax) b,closed n (.tup [r.enc,.bool b])=true:=λr b=>by simp[closed,closedL,Ax.E.cl]
 simp[go_sem];refine(bI l hl).use ?_;by_cases q:Cd l=0;simp[go_sem,q];refine(bJ l hl id).use ?_;cases i:(BI (Gr l id) l.length).2;simp[go_sem,AC];exact Ay g (s _ _) (by simp[CA,q,i];rfl) (j _ _);have d:=LF _ _ i;simp[go_sem,d,AC,Ax.enc];exact Ay g (s _ _) (by simp[CA,q,i,d]) (j _ _);simp[go_sem,q];have v:CA l id=GU id l:=by simp[CA,q]
 rw[v];refine An 1 (α:=Nat) (λk=>[(1,AA id),(4,.ptr n 0),(25,Ao l),(26,AA l.length),(27,AA k)]) (λ_=>hset h n (some (.cells GV.enc.cells))) (λk m=>k<=l.length/\n<m/\GU id l=GU id (l.drop k)) (λk=>l.length-k) 0 ?_ ?_ AB ?_;exact⟨qg _,qP n,rfl⟩;simp[Ai];rintro k m ⟨hk,hnm,p⟩;have f:n≠m:=by omega
 have h2:∀a b c,∀o x,h o=some x->hset (hset (hset h n a) m b) m c o=some x:=λa b c=>AQ g (by omega) (AQ g (by omega) (AQ g (qa _) AB));by_cases d:k<l.length;have w1:=wS k (by omega);obtain⟨r,t⟩:∃r,l[k]=r:=⟨_,rfl⟩
 rw[qG d,t,GU]at p;by_cases i:r.id=id;simp[go_sem,d,t,Ax.enc,AC,AD,f,i,GV];rw[if_pos i]at p;rw[p];exact Ay g (AQ g (qa _) (h2 _ _ _)) (by simp[i]) (j _ _);simp[go_sem,d,t,Ax.enc,AC,i,w1,-Int.natCast_add,GV];rw[if_neg i]at p;refine⟨k+1,by omega,⟨by omega,by omega,p⟩,IO,λo y e=>?_⟩;by_cases u:o=n;subst u;simp only[AC,AD _ _ f]at e ⊢;exact e;simp only[AD _ _ u]at e;exact h2 _ _ _ o y e;have:k=l.length:=by omega
 subst this;simp[go_sem,AC,GV,Ax.enc];rw[List.drop_length]at p;rw[p];exact Ay g (s _ _) rfl (j _ _)
section
variable {F : Fence} {n : Nat} {P : Program} {ops : Array Oper} {Q : Exit → Act → World → Prop} {S : World → Prop} {md : Region.Mode}
def Et (P:Program) (ops:Array Oper) (S:World->Prop) (o:Oper) (v:Value) (a:Act):Prop:=YieldsIf P ops S o v a/\∀w,o.about P w a.eval=none
theorem Et.wpOpIn {i:Nat} {o:Oper} {v:Value} {a:Act} (c:F.round=none) (hi:ops[i]? = some o) (e:Et P ops S o v a)
 {K:Act->World->Prop} {w:World} (g:S w) (h:K (a.put o.dst v) w):wpOpIn F n P ops Q i K a w:=by
 unfold Go.wpOpIn;simp only[hi];have b:∀f,o.about P w a.eval=some f->F.fn f:=λf d=>by rw[e.2 w]at d;cases d
 rcases e.1 with⟨hw,j⟩|⟨hw,rfl⟩
 simp only[hw,if_true,Oper.wpIn,c,Oper.semAt_none,j w g,Oper.uponIn];exact⟨b,h⟩;simp only[hw,qj,if_false];exact⟨b,h⟩
theorem Et.of_same {o:Oper} {v:Value} {a a':Act} (b:Et P ops S o v a) (c:execOp a'.eval o=execOp a.eval o)
 (hw:Region.wanted o (yielded ops a'.tmps)=Region.wanted o (yielded ops a.tmps)) (hb:∀w,o.about P w a'.eval=o.about P w a.eval):Et P ops S o v a':=
 ⟨b.1.of_same c hw,λw=>by rw[hb w];exact b.2 w⟩
theorem Pu {j:Nat} {oi oj:Oper} {v:Value} (hro:F.round=none) (hj:ops[j]? = some oj) (hap:oi.apart ops oj=true)
 (hsi:∀cs b,oi.op≠.select cs b) (hsj:∀cs b,oj.op≠.select cs b)
 (hQ:∀c a w,Q (.panic c) (a.put oi.dst v) w->Q (.panic c) a w) {K:Act->World->Prop} {a:Act} {w:World}
 (hy:Et P ops S oi v a) (h:wpOpIn F n P ops Q j K (a.put oi.dst v) w):
 wpOpIn F n P ops Q j (λa' w'=>Et P ops S oi v a'/\K (a'.put oi.dst v) w') a w:=by
 obtain⟨h1,h2,h3⟩:=Oper.apart_spec hap;have keep:∀(a:Act),Et P ops S oi v a->∀u,Et P ops S oi v (a.put oj.dst u):=λa hy u=>
  hy.of_same (execOp_put oi hsi a oj.dst u h3) (wanted_put oi a oj.dst u h3) (λw=>about_put oi w a oj.dst u h3)
 have keepD:∀d,Et P ops S oi v { a with defers:=d::a.defers }:=λd=>hy.of_same rfl rfl (λ_=>rfl);unfold wpOpIn at *;simp only[hj]at *;rw[wanted_put oj a oi.dst v h1,about_put oj w a oi.dst v h1]at h;split
 . rename_i hw;simp only[hw,if_true]at h;unfold Oper.wpIn at *;rw[about_put oj w a oi.dst v h1]at h;refine⟨h.1,?_⟩;have h:=h.2;rw[hro,Oper.semAt_none,execOp_put oj hsj a oi.dst v h1]at h;rw[hro,Oper.semAt_none];generalize(execOp a.eval oj).run P w=r at *;cases r with
   | ok x w' =>
    cases x<;>simp only[Oper.uponIn]at h ⊢
    case value u=>exact⟨keep a hy u,by rw[<-Act.put_comm a v u h2];exact h⟩
    case skip=>exact⟨keep a hy _,by rw[<-Act.put_comm a v undef h2];exact h⟩
    case defer d=>
     refine⟨keep _ (keepD d) _,?_⟩;rw[<-Act.put_comm _ v undef h2,<-Act.put_defers];exact h
    case enter f args=>
     refine⟨h.1,CallsIn.mono h.2 λe w'' he=>?_⟩;cases e with
     | returned u=>exact⟨keep a hy u,by rw[<-Act.put_comm a v u h2];exact he⟩
     | panicked c=>exact hQ _ _ _ he
     | outgrown=>exact he
    case row row args=>exact⟨h.1,RowsIn.mono h.2 λu w'' he=>⟨keep a hy u,by rw[<-Act.put_comm a v u h2];exact he⟩⟩
    case round l f tmps assign body=>
     refine⟨h.1,RoundIn.mono h.2 λe w'' he=>?_⟩;cases e with
     | returned u=>exact⟨keep a hy u,by rw[<-Act.put_comm a v u h2];exact he⟩
     | panicked c=>exact hQ _ _ _ he
     | outgrown=>exact he
   | halt x w'=>
    cases x<;>simp only[Oper.uponIn]at h ⊢
    case panic u=>exact hQ _ _ _ h
 rename_i hw;simp only[hw]at h;exact⟨h.1,keep a hy _,by rw[<-Act.put_comm a v undef h2];exact h.2⟩
def MI (F:Fence) (n:Nat) (P:Program) (md:Region.Mode) (ops:Array Oper) (Q:Exit->Act->World->Prop) (S:World->Prop):Nat->Array Bool->Act->World->Prop
 | 0,listed,a,w=>Region.ready md ops listed=[]/\Q .normal a w
 | fuel+1,listed,a,w=>
  (Region.ready md ops listed=[]->Q .normal a w)/\
  ∀i∈Region.ready md ops listed,wpOpIn F n P ops Q i (λa' w'=>S w'/\MI F n P md ops Q S fuel (listed.setIfInBounds i true) a' w') a w
theorem Jn:∀(b:Nat) (c:Array Bool) (a:Act) (w:World),MI F n P md ops Q S b c a w->wpAnyIn F n P md ops Q b c a w
 | 0,_,_,_,h=>h
 | b+1,_,_,_,h=>⟨h.1,λi hi=>wpOpIn_mono (λa' w' h'=>Jn b _ a' w' h'.2) (h.2 i hi)⟩
theorem Jo {i:Nat} {x:Oper} {v:Value} (u:F.round=none) (hi:ops[i]? = some x) (q:∀(j:Nat) (o:Oper) cs b,ops[j]? = some o->o.op≠.select cs b)
 (M:∀c a w,Q (.panic c) (a.put x.dst v) w->Q (.panic c) a w):
 ∀(f:Nat) (d:Array Bool) (a:Act) (w:World),
  (∀j y,ops[j]? = some y->j≠i->d.getD j true=false->(∀e∈y.after,Region.binds md e=true->e.on≠i)->x.apart ops y=true)->
  i∈Region.ready md ops d->Et P ops S x v a->S w->
  MI F n P md ops Q S f (d.setIfInBounds i true) (a.put x.dst v) w->MI F n P md ops Q S (f+1) d a w:=by
 intro f
 induction f with
 | zero=>
  intro d a w _ t I z H;refine⟨λh=>(by rw[h]at t;cases t),λj G=>?_⟩;by_cases g:j=i;subst g;exact I.wpOpIn u hi z ⟨z,H⟩;have:=ready_mono G g;rw[H.1]at this;cases this
 | succ f ih=>
  intro d a w l t I z H;refine⟨λh=>(by rw[h]at t;cases t),λj G=>?_⟩;by_cases g:j=i;subst g;exact I.wpOpIn u hi z ⟨z,H⟩;have r:=H.2 j (ready_mono G g);obtain⟨p,y,s,A⟩:=mem_ready.1 G;have C:∀e∈y.after,Region.binds md e=true->e.on≠i:=λe N hb J=>by
   have r:=A e N hb;have h0:=(mem_ready.1 t).1;rw[J]at r;rcases ji i d.size with h'|h';simp[h']at h0 r;rw[h0]at r;cases r;simp[jg h']at r
  have h2:=Pu u s (l j y s g p C) (λcs b=>q i x cs b hi) (λcs b=>q j y cs b s) M I r;have m:∀k ok,ops[k]? = some ok->k≠i->(d.setIfInBounds j true).getD k true=false->
   (∀e∈ok.after,Region.binds md e=true->e.on≠i)->x.apart ops ok=true:=λk ok O K D L=>by
   refine l k ok O K ?_ L;by_cases B:j=k;subst B;exact p;rw[getD_set_ne true B]at D;exact D
  refine wpOpIn_mono (λa' w' E=>⟨E.2.1,ih (d.setIfInBounds j true) a' w' m (ready_mono t (Ne.symm g)) E.1 E.2.1 ?_⟩) h2;rw[Array.setIfInBounds_comm _ _ g];exact E.2.2
end
def KZ (P:Program) (st:Bool) (ev:Operand->SV):Op->Option SV
 | .move x|.assign x=>some (ev x)
 | .fieldAddr t x i=>Gx P t (ev x) i
 | .load t a=>match st,ev a with|true,.iptr cs=>(Bg cs 0 (Bh P t)).bind (P4 (Fm P t))|_,_=>none
 | .indexAddr t x i=>match ev x,ev i with|.imm z es f,.int _ n=>if(A9 P t).isSome then G2 P t (.imm z es f) n else none|_,_=>none
 | .slice t x lo hi mx=>match ev x with|.imm z es f=>JE P t (.imm z es f) (lo.map ev) (hi.map ev) (mx.map ev)|_=>none
 | .extract x i=>match ev x with|.tup vs=>vs[i]? | _=>none
 | .unOp op _ x=>match op,ev x with|.not,.bool b=>some (.bool !b)|_,_=>none
 | .pick x a b=>match ev x with|.bool t=>some (if t then ev a else ev b)|_=>none
 | .makeFunc f a b=>some (.fn f (a.toList.map ev) (b.toList.map ev))
 | .nilCheck x=>match ev x with|.ptr o a=>some (.ptr o a)|.iptr cs=>some (.iptr cs)|_=>none
 | .call { callee:=.builtin .min,args,.. }=>match args.toList with|[x,y]=>(match ev x,ev y with|.int k a,.int k' b=>if k=k' then some (.int k (if b<a then b else a))else none|_,_=>none)|_=>none
 | .call { callee:=.builtin .max,args,.. }=>match args.toList with|[x,y]=>(match ev x,ev y with|.int k a,.int k' b=>if k=k' then some (.int k (if b>a then b else a))else none|_,_=>none)|_=>none
 | .binOp op _ x y _=>match ev x,ev y with|.int k a,.int k' b=>if op≠.shl/\op≠.shr/\k=k' then(J7 op k a b)else none|_,_=>none
 | .call { callee:=.builtin .len,args,argTypes }=>match argTypes.toList,args.toList with|[t],[x]=>(match ev x with|.imm _ es _=>if(A9 P t).isSome then some (.int .i64 es.length)else none|_=>none)|_,_=>none
 | _=>none
def OT (P:Program) (ev:Operand->Value) (o:Oper) (c:Cx) (v:SV) (W:World->Prop):Prop:=∃u,V c v u/\∀w,W w->(execOp ev o).run P w=.ok (.value u) w
section
variable {P : Program} {ev : Operand → Value} {o : Oper} {c : Cx} {evs : Operand → SV}
theorem Rz {t:TypeId} {x:Operand} {v:SV} {cs:List SV} (p:o.op=.load t x) (e:evs x=.iptr cs) (l:(Bg cs 0 (Bh P t)).bind (P4 (Fm P t))=some v) (h:V c (evs x) (ev x)):
 OT P ev o c v λw=>∃d,d.w=w/\DZ c d:=by
 rw[e,V]at h;obtain⟨a,vs,q,k,hc,j⟩:=h;rw[BN]at hc;cases ht:Bg cs 0 (Bh P t)with
 | none=>simp[ht]at l
 | some r =>
  simp only[ht,qJ]at l;obtain⟨hle,rfl⟩:=Ef ht;simp only[kn]at l;have n:=hc.take (Bh P t);have m:∀x∈vs.take (Bh P t),x.oneCell'=true:=λx e=>k.one x (qH e);have f:(vs.take (Bh P t)).length=Bh P t:=by have:=hc.length;simp;omega
  have b:∀d:Cx,DZ c d->∀i x,(vs.take (Bh P t))[i]? = some x->d.w.cell? ⟨a.block,a.off+i,none⟩=some x:=λd X i x e=>by
   rw[jf]at e;split at e;exact(k.mono X).cell _ _ e;cases e
  rcases Kz l n m with⟨g,h⟩|⟨g,x,e,h⟩
  refine⟨_,h,?_⟩;rintro w ⟨d,rfl,X⟩;simp[execOp,p,q,Instr.loadAt,Instr.sureAddr,(ED j g f (b d X)).1 rfl];refine⟨_,h,?_⟩;rintro w ⟨d,rfl,X⟩;simp[execOp,p,q,Instr.loadAt,Instr.sureAddr,(ED j g f (b d X)).2 rfl x e]
theorem QV {t:TypeId} {x:Operand} {i:Nat} {v:SV} (F:o.op=.fieldAddr t x i) (e:Gx P t (evs x) i=some v) (r:V c (evs x) (ev x)):OT P ev o c v λ_=>True:=by
 simp only[Gx]at e;cases g:IR P t i with
 | none=>simp[g]at e
 | some q=>
  obtain⟨off,C⟩:=q;simp only[g]at e;by_cases B:Bh P C=0;simp[B]at e
  . simp only[B,if_false]at e;obtain⟨u,f,y,l,rfl,rfl⟩:∃u f,P.underlying t=some (.struct u)/\u[i]? = some f/\f.offset=off/\f.type=C:=by
     unfold IR at g;cases y:P.underlying t with
     | none=>simp[y]at g
     | some d=>
      cases d<;>simp only[y]at g<;>try cases g
      rename_i u;simp only[qX]at g;obtain⟨f,l,E⟩:=g;cases E;exact⟨u,f,rfl,l,rfl,rfl⟩
    obtain⟨s,hi,hsz⟩:∃s,P.info? f.type=some s/\Bh P f.type=s.size:=by
     cases hi:P.info? f.type with
     | none=>simp[Bh,Program.cellsOf,hi]at B
     | some s=>exact⟨s,rfl,by simp[Bh,Program.cellsOf,hi]⟩
    have z:∀(a:Addr) (w:World),(fieldPlace a f).run P w=.ok (a.add f.offset) w:=λa w=>by
     simp[fieldPlace,sizeOf,typeInfo,hi,show ¬s.size=0 by omega]
    have k:∀(a:Addr) (w:World),ev x=.pointer (some a)->(execOp ev o).run P w=.ok (.value (.pointer (some (a.add f.offset)))) w:=λa w D=>by
     simp[execOp,F,Instr.fieldAt,AO y,l,D,Instr.sureAddr,z]
    split at e<;>try (simp at e;done)
    rename_i j a p;cases e;rw[p,V]at r;obtain⟨b,st,hρ,n⟩:=r;refine⟨_,?_,λw _=>k _ w n⟩;rw[Fc,V];exact⟨b,st,hρ,by rw[qD]⟩;rename_i cs p;cases e;rw[p,V]at r;obtain⟨a,vs,n,m,hc,A⟩:=r;refine⟨_,?_,λw _=>k _ w n⟩;rw[dT A,V];refine⟨_,vs.drop f.offset,rfl,⟨λ_=>rfl,λG=>m.free (by rintro rfl;simp at G),λj x p=>?_,λx r=>m.one x (qT r)⟩,BN.2 ((BN.1 hc).drop _),rfl⟩;rw[qY]at p;simp only[qD];exact m.cell _ _ p
theorem QW {t:TypeId} {x y:Operand} {z:Nat} {es:List SV} {full:Bool} {K:IntKind} {n:Int} {v:SV} (I:o.op=.indexAddr t x y) (H:evs x=.imm z es full) (hn:evs y=.int K n) (h:(A9 P t).isSome=true)
 (b:G2 P t (.imm z es full) n=some v) (j:V c (evs x) (ev x)) (B:V c (evs y) (ev y)):OT P ev o c v λ_=>True:=by
 rw[hn]at B;have r:=C7 B;obtain⟨e,g⟩:=jn.1 h;have J:=A5 g;simp only[G2,g]at b;by_cases s:Bh P e=0;simp[s]at b;obtain⟨ii,hi,p⟩:=EZ s;simp only[s,if_false]at b;by_cases hc:z=Bh P e/\0<=n;simp only[hc,and_self,if_true]at b;obtain⟨k,l⟩:=hc;cases f:es[n.toNat]? with
 | none=>simp[f]at b
 | some v=>
  simp only[f,jk,qh]at b;subst b;rw[H,V]at j;rcases j with⟨j,_⟩|⟨a,cap,vs,q,_,_,i,A⟩
  subst j;simp at f;subst k;have d:a.spot=none:=i.spot (λC=>by have G:=Nd A;have h2:=(qo.1 f).1;rw[C,jI]at G;have h3:0<es.length*Bh P e:=Nat.mul_pos (by omega) (by omega);omega);obtain⟨u,D,E,g3,F,g5⟩:=O2 A f;have m:n<es.length:=by have:=(qo.1 f).1;omega
  refine⟨.pointer (some ⟨a.block,a.off+n.toNat*Bh P e,none⟩),?_,λw _=>?_⟩;rw[V];exact⟨_,u.cells.toList,rfl,by rw[<-F];exact i.sub _ _,BN.2 (D.cells E).1,rfl⟩;simp[execOp,I,Instr.indexAt,r,asIntOf,AO J,q,l,m,sizeOf,typeInfo,hi,dT d,p]
 simp[hc]at b
theorem QX {t:TypeId} {x:Operand} {lo hi mx:Option Operand} {z:Nat} {es:List SV} {full:Bool} {v:SV} (Y:o.op=.slice t x lo hi mx) (J:evs x=.imm z es full) (hb:JE P t (.imm z es full) (lo.map evs) (hi.map evs) (mx.map evs)=some v)
 (H:∀y∈o.op.operands,V c (evs y) (ev y)):OT P ev o c v λ_=>True:=by
 rw[Y]at H;have S:=H x (by simp[Op.operands]);have M:=FU (c:=c) (ev:=ev) (evs:=evs) lo λy e=>H y (by subst e;simp[Op.operands]);have L:=FU (c:=c) (ev:=ev) (evs:=evs) hi λy e=>H y (by subst e;simp[Op.operands]);have O:=FU (c:=c) (ev:=ev) (evs:=evs) mx λy e=>H y (by subst e;simp[Op.operands]);suffices j:∃r,(∀w,(Instr.sliceAt t (ev x) (lo.map ev) (hi.map ev) (mx.map ev)).run P w=.ok r w)/\V c v r by
  obtain⟨r,hr,G⟩:=j;exact⟨r,G,λw _=>by simp[execOp,Y,hr w]⟩
 have p:∀{s:Option SV} {I:Option Value} {d:Option Int} {n:Int} {N:Nat},Sw s d=some n->0<=n->((∀x,s=some x->∃u,I=some u/\V c x u)/\(s=none->I=none))->d=some (N:Int)->
  (I=none/\n.toNat=N)\/∃i,I=some (.int i n.toNat):=λhb h0 G hd=>by
  rcases OZ hb G.1 G.2 with⟨_,e,W⟩|⟨i,e⟩
  rw[hd]at W;cases W;exact .inl ⟨e,by simp⟩;exact .inr ⟨i,by rw[e];congr 2;omega⟩
 unfold JE at hb;rw[J]at S;dsimp only at hb;cases a:A9 P t with
 | none=>simp[a]at hb
 | some e =>
  have Z:=A5 a;simp only[a,Option.any_some]at hb;split at hb<;>try cases hb
  rename_i E;simp only[js,jM,qq,bne_iff_ne,ne_eq,kH,beq_iff_eq,List.isEmpty_iff]at E;obtain⟨U,E⟩:=E;obtain⟨ii,A,C⟩:=EZ U;split at hb<;>try cases hb
  rename_i l m hl hm;split at hb<;>try cases hb
  rename_i K;have g:=p hl K.1 M (by rfl:some (0:Int)=some ((0:Nat):Int));have f:=p hm (by omega) L rfl;cases mx with
  | none=>
   simp only[kh,qh]at hb;subst hb;refine Ij Z S ⟨ii,A,C.symm⟩ E (by omega) (by omega) λcap X h2=>⟨cap,by omega,qa _,λF=>?_,λw=>Gj g f (by omega) (by omega) X w⟩
   simp at F;have:=h2 F.1;omega
  | some mo=>
   have B:=O.1 _ rfl;simp only[jk]at hb B;split at hb<;>try cases hb
   rename_i b;cases b
   . rename_i i x b;simp only[qh]at b;obtain⟨uu,Q,D⟩:=B;cases Q;rw[b]at D;have R:=C7 D;split at hb<;>try cases hb
     rename_i q;simp only[qq,decide_eq_true_eq]at q;have k:∃i,Option.map ev hi=some (.int i m.toNat):=by
      rcases f with⟨J,_⟩|h;cases hi<;>simp at J q;exact h
     have T:(x:Int)=(x.toNat:Int):=by omega
     refine Ij Z S ⟨ii,A,C.symm⟩ E (by omega) (by omega) λcap X h2=>⟨x.toNat,by omega,by omega,λF=>?_,λw=>?_⟩
     simp at F;omega;rw[jk,R,T];exact IG g k (by omega) (by omega) (by omega) w
theorem OT.mono {v:SV} {W a:World->Prop} (H:OT P ev o c v W) (h:∀w,a w->W w):OT P ev o c v a:=let⟨u,h1,h2⟩:=H;⟨u,h1,λw hw=>h2 w (h w hw)⟩
theorem Tu {st:Bool} {v:SV} (d:KZ P st evs o.op=some v) (H:∀x∈o.op.operands,V c (evs x) (ev x)) {W:World->Prop} (hW:st=true->∀w,W w->∃c',c'.w=w/\DZ c c'):OT P ev o c v W:=by
 unfold KZ at d;split at d;rename_i x g;rw[g]at H;cases d;exact⟨_,H x (by simp[Op.operands]),λw _=>by simp[execOp,g]⟩;rename_i x g;rw[g]at H;cases d;exact⟨_,H x (by simp[Op.operands]),λw _=>by simp[execOp,g]⟩;rename_i t x i g;rw[g]at H;exact(QV g d (H x (by simp[Op.operands]))).mono λ_ _=>trivial
 . rename_i t a g;rw[g]at H;split at d<;>try cases d
   rename_i cs h;exact(Rz g h d (H a (by simp[Op.operands]))).mono (hW rfl)
 . rename_i t x i g;rw[g]at H;split at d<;>try cases d
   rename_i z es f k n h q;split at d<;>try cases d
   rename_i A;exact(QW g h q A d (H x (by simp[Op.operands])) (H i (by simp[Op.operands]))).mono λ_ _=>trivial
 . rename_i t x lo hi mx g;split at d<;>try cases d
   rename_i z es f h;exact(QX g h d H).mono λ_ _=>trivial
 . rename_i x i g;rw[g]at H;split at d<;>try cases d
   rename_i vs h;have C:=H x (by simp[Op.operands]);rw[h,V]at C;obtain⟨us,p,hl⟩:=C;obtain⟨u,J,K⟩:=(BN.1 hl).get d;exact⟨u,K,λw _=>by simp[execOp,g,p,Instr.extract,J]⟩
 . rename_i R t x g;rw[g]at H;have h:=H x (by simp[Op.operands]);split at d<;>try cases d
   rename_i b l;rw[l]at h;exact⟨.bool !b,by rw[V],λw _=>by simp[execOp,g,Gm h,Op.unary]⟩
 . rename_i x a b g;rw[g]at H;have h:=H x (by simp[Op.operands]);split at d<;>try cases d
   rename_i t l;rw[l]at h;have m:=Gm h;cases t;exact⟨ev b,by simpa using H b (by simp[Op.operands]),λw _=>by simp[execOp,g,m,asBool]⟩;exact⟨ev a,by simpa using H a (by simp[Op.operands]),λw _=>by simp[execOp,g,m,asBool]⟩
 rename_i f a b g;rw[g]at H;cases d;refine⟨.func f (a.map ev) (b.map ev),?_,λw _=>by simp[execOp,g,Instr.makeFunc]⟩;rw[V];exact⟨(a.map ev).toList,(b.map ev).toList,by rw[Array.toArray_toList,Array.toArray_toList],BN.2 (Gg a λx h=>H x (by simp[Op.operands]at h ⊢;exact .inl h)),BN.2 (Gg b λx h=>H x (by simp[Op.operands]at h ⊢;exact .inr h))⟩
 . rename_i x g;rw[g]at H;have h:=H x (by simp[Op.operands]);split at d<;>try cases d
   rename_i j off l;rw[l]at h;have m:=h;rw[V]at h;obtain⟨b,st,_,p⟩:=h;exact⟨ev x,m,λw _=>by simp[execOp,g,p]⟩;rename_i cs l;rw[l]at h;have m:=h;rw[V]at h;obtain⟨a,vs,p,_⟩:=h;exact⟨ev x,m,λw _=>by simp[execOp,g,p]⟩
 . rename_i args S g;rw[g]at H;split at d<;>try cases d
   rename_i x y l;have B:=In l;subst B;have h:=H x (by simp[Op.operands,Call.operands]);have q:=H y (by simp[Op.operands,Call.operands]);split at d<;>try cases d
   rename_i k a N b E F;split at d<;>try cases d
   rename_i G;subst G;rw[E]at h;rw[F]at q;exact⟨.int k (if b<a then b else a),by rw[V],λw _=>Bi (P:=P) (ev:=ev) g w w _ λcs=>by simp[builtin,C7 h,C7 q,Builtin.min_,Builtin.min2]⟩
 . rename_i args S g;rw[g]at H;split at d<;>try cases d
   rename_i x y l;have B:=In l;subst B;have h:=H x (by simp[Op.operands,Call.operands]);have q:=H y (by simp[Op.operands,Call.operands]);split at d<;>try cases d
   rename_i k a N b E F;split at d<;>try cases d
   rename_i G;subst G;rw[E]at h;rw[F]at q;exact⟨.int k (if b>a then b else a),by rw[V],λw _=>Bi (P:=P) (ev:=ev) g w w _ λcs=>by simp[builtin,C7 h,C7 q,Builtin.max_,Builtin.max2]⟩
 . rename_i R t x y t2 g;rw[g]at H;have h:=H x (by simp[Op.operands]);have q:=H y (by simp[Op.operands]);split at d<;>try cases d
   rename_i k a N b l D;split at d<;>try cases d
   rename_i hc;obtain⟨O,Q,rfl⟩:=hc;rw[l]at h;rw[D]at q;have s:∀w,∃r,(execOp ev o).run P w=.ok (.value r) w/\V c v r:=λw=>by
    obtain⟨r,L,h2⟩:=Lb (c:=c) (P:=P) (t:=t) d O Q w;exact⟨r,by simp[execOp,g,C7 h,C7 q,IH (P:=P),L],h2⟩
   obtain⟨u,p⟩:∃u,∀r,V c v r->r=u:=by
    cases R<;>simp only[J7]at d<;>(try split at d)<;>(try cases d)<;>first|exact⟨_,λr I=>C7 I⟩|exact⟨_,λr I=>Gm I⟩|(exact absurd rfl O)|(exact absurd rfl Q)
   obtain⟨r0,L,h2⟩:=s c.w;have T:=p r0 h2;subst T;refine⟨_,h2,λw _=>?_⟩;obtain⟨r,Y,Z⟩:=s w;rw[Y,p r Z]
 . rename_i args S g;rw[g]at H;split at d<;>try cases d
   rename_i t x l D;split at d<;>try cases d
   rename_i z es f U;split at d<;>try cases d
   rename_i A;obtain⟨e,M⟩:=Ki A;have B:=KR D;have X:=KR l;subst B X;have C:=H x (by simp[Op.operands,Call.operands]);rw[U,V]at C;refine⟨.int .i64 es.length,by rw[V],λw _=>Bi (P:=P) (ev:=ev) g w w _ λcs=>?_⟩;rcases C with⟨rfl,p⟩|⟨a,cap,vs,p,_⟩
   simp[builtin,p,Builtin.len_,AO (A5 M),goInt];simp[builtin,p,Builtin.len_,AO (A5 M),goInt]
 cases d
theorem QU {st:Bool} {v:SV} (b:KZ P st evs o.op=some v) (w:World):o.about P w ev=none:=by
 unfold Oper.about;unfold KZ at b;split at b<;>first|(rename_i a;rw[a];done)|(rename_i _ a;rw[a];done)|(rename_i _ _ a;rw[a];done)|(rename_i _ _ _ a;rw[a];done)|(rename_i _ _ _ _ _ a;rw[a];done)|(rename_i a;rw[a];simp[resolve,Target.leads];done)|cases b
def H9:Op->Bool
 | .move _|.assign _|.fieldAddr .. | .load .. | .indexAddr .. | .slice .. | .extract .. | .unOp .. | .pick .. | .binOp .. | .makeFunc .. | .nilCheck _=>true
 | .call { callee:=.builtin .len,.. }|.call { callee:=.builtin .min,.. }|.call { callee:=.builtin .max,.. }=>true
 | _=>false
theorem QQ (a:H9 o.op=true) (w:World):o.about P w ev=none:=by
 unfold Oper.about;cases b:o.op<;>simp[b,H9]at a ⊢;split at a<;>first|(rename_i h;cases h;done)|skip
 all_goals first|(rename_i h;cases h;simp[resolve,Target.leads];done)|(simp at a;done)|trace_state
end
inductive Tr where
 | nil
 | pure (i:Nat) (t:Tr)
 | one (i:Nat) (t:Tr)
 | two (i j:Nat) (t u:Tr)
def ME (ops:Array Oper):Array Bool->Tr->Bool
 | listed,.nil=>(Region.ready .any ops listed).isEmpty
 | listed,.pure i t=>Region.free .any ops listed i&&(Region.ready .any ops listed).contains i&&ME ops (listed.setIfInBounds i true) t
 | listed,.one i t=>Region.ready .any ops listed==[i]&&ME ops (listed.setIfInBounds i true) t
 | listed,.two i j t u=>Region.ready .any ops listed==[i,j]&&ME ops (listed.setIfInBounds i true) t&&ME ops (listed.setIfInBounds j true) u
section
variable (E : B6) (P : Program) (ops : Array Oper) (K : SA → Hp → Nat → Prop)
def L7 (o:Oper) (sa:SA) (h:Hp) (n:Nat) (T:SA->Hp->Nat->Prop):Prop:=
 match Dg ops sa o with
 | some b=>if b=true then Ke E P o sa h n λv h' n'=>T (EB sa o.dst v) h' n' else T (EB sa o.dst (.tup [])) h n
 | none=>False
def Tt (st:Bool) (o:Oper) (sa:SA) (T:SA->Prop):Prop:=
 match Dg ops sa o with
 | some b=>if b=true then match KZ P st (Gp sa) o.op with|some v=>T (EB sa o.dst v)|none=>False else H9 o.op=true/\T (EB sa o.dst (.tup []))
 | none=>False
def OM:Bool->Tr->SA->Hp->Nat->Prop
 | _,.nil,sa,h,n=>K sa h n
 | st,.pure i t,sa,h,n=>match ops[i]? with|some o=>Tt P ops st o sa λsa'=>OM st t sa' h n|none=>False
 | _,.one i t,sa,h,n=>match ops[i]? with|some o=>L7 E P ops o sa h n (OM false t)|none=>False
 | _,.two i j t u,sa,h,n=>match ops[i]?,ops[j]? with|some o,some q=>L7 E P ops o sa h n (OM false t)/\L7 E P ops q sa h n (OM false u)|_,_=>False
end
section
variable {E : B6} {P : Program} {N : Nat} {ops : Array Oper} {K : SA → Hp → Nat → Prop}
def VK (E:B6) (N n:Nat) (c:Cx) (K:SA->Hp->Nat->Prop):Exit->Act->World->Prop:=λe a' w'=>
 e=.normal/\∃sa' h' n' c',K sa' h' n'/\c'.w=w'/\Bn h' c'/\Fr n' c'/\FR E N sa' c' a'/\Fq n c n' c'
theorem IP {i:Nat} {o:Oper} {sa:SA} {h:Hp} {n:Nat} {T:SA->Hp->Nat->Prop} {c:Cx} {a:Act} {f:Act->World->Prop} {Qr:Exit->Act->World->Prop} (hi:ops[i]? = some o) (k:∀d,o.dst=some d->d<N)
 (H:L7 E P ops o sa h n T) (I:E.inv c) (R:Bn h c) (F:Fr n c) (A:FR E N sa c a)
 (j:∀sa' h' n' e a',T sa' h' n'->Bn h' e->Fr n' e->FR E N sa' e a'->Fq n c n' e->f a' e.w):wpOpIn E.fc 0 P ops Qr i f a c.w:=by
 unfold wpOpIn;rw[hi];simp only;unfold L7 at H;split at H;rename_i b p;rw[Gz A p];cases b;simp only[qj,if_false]at H ⊢;exact⟨λ_ _=>trivial,j _ _ _ c _ H R F (A.put k Ku) (ke n c)⟩;simp only[if_true]at H ⊢;exact IN H I R F A λv h' n' e u q r m l g=>j _ _ _ e _ q m l ((A.ext g.ext).put k r) g;exact H.elim
theorem UI (hro:E.ro=none) (hdst:∀(i:Nat) (o:Oper),ops[i]? = some o->∀d,o.dst=some d->d<N) (hsel:∀(j:Nat) (o:Oper) cs b,ops[j]? = some o->o.op≠.select cs b) {n0:Nat} {c0 c1:Cx}:
 ∀(t:Tr) (st:Bool) (listed:Array Bool) (fuel:Nat) (sa:SA) (h:Hp) (n:Nat) (c:Cx) (a:Act),listed.size=ops.size->UR listed=fuel->ME ops listed t=true->OM E P ops K st t sa h n->
  E.inv c->Bn h c->Fr n c->FR E N sa c a->Fq n0 c0 n c->DZ c1 c->(st=true->c=c1)->
  MI E.fc 0 P .any ops (VK E N n0 c0 K) (λw=>∃c',c'.w=w/\DZ c1 c') fuel listed a c.w:=by
 have hfr:E.fc.round=none:=hro;intro t
 induction t with
 | nil=>
  intro st listed fuel sa h n c a _ _ hok H I R F A X _ _;have hr:Region.ready .any ops listed=[]:=by simpa[ME]using hok
  have hq:VK E N n0 c0 K .normal a c.w:=⟨rfl,sa,h,n,c,H,rfl,R,F,A,X⟩
  cases fuel with
  | zero=>exact⟨hr,hq⟩
  | succ fuel=>exact⟨λ_=>hq,by rw[hr];simp⟩
 | pure i t ih=>
  intro st listed fuel sa h n c a hs hu hok H I R F A X X1 hst;simp only[ME,qq]at hok;obtain⟨⟨hfree,hr⟩,hok⟩:=hok;simp only[OM]at H;split at H
  case h_2=>exact H.elim
  rename_i o ho;have hmem:i∈Region.ready .any ops listed:=by simpa using hr
  obtain⟨hun,_,_,_⟩:=mem_ready.1 hmem;have hlt:=(qp.1 ho).1;have hF:listed.getD i false=false:=by rw[Gc (by omega)]at hun ⊢;exact hun
  have hu2:=Jm (by omega) hF;obtain⟨fuel,rfl⟩:∃f,fuel=f+1:=⟨fuel-1,by omega⟩
  unfold Tt at H;split at H
  case h_2=>exact H.elim
  rename_i b hg;have hw:=Gz A hg;cases b;simp only[qj,if_false]at H;refine Jo (v:=undef) hfr ho hsel (λ_ _ _ e=>by cases e.1) fuel listed a c.w (Region.free_spec ho hfree) hmem ⟨.inr ⟨hw,rfl⟩,λw=>QQ H.1 w⟩ ⟨c,rfl,X1⟩ (ih st _ fuel _ h n c _ (by simp[hs]) (by omega) hok H.2 I R F (A.put (hdst i o ho) Ku) X X1 hst)
  . simp only[if_true]at H;split at H
    case h_2=>exact H.elim
    rename_i v hv;obtain⟨u,hvu,hrun⟩:=Tu (c:=c) (W:=λw=>∃c',c'.w=w/\DZ c1 c') hv (λx _=>A.ev x) (λe w hw=>by rw[hst e];exact hw);refine Jo (v:=u) hfr ho hsel (λ_ _ _ e=>by cases e.1) fuel listed a c.w (Region.free_spec ho hfree) hmem ⟨.inl ⟨hw,hrun⟩,λw=>QU hv w⟩ ⟨c,rfl,X1⟩
     (ih st _ fuel _ h n c _ (by simp[hs]) (by omega) hok H I R F (A.put (hdst i o ho) hvu) X X1 hst)
 | one i t ih=>
  intro st listed fuel sa h n c a hs hu hok H I R F A X X1 hst;simp only[ME,qq,beq_iff_eq]at hok;obtain⟨hr,hok⟩:=hok;simp only[OM]at H;split at H
  case h_2=>exact H.elim
  rename_i o ho;have hmem:i∈Region.ready .any ops listed:=by rw[hr];simp
  obtain⟨hun,_,_,_⟩:=mem_ready.1 hmem;have hlt:=(qp.1 ho).1;have hF:listed.getD i false=false:=by rw[Gc (by omega)]at hun ⊢;exact hun
  have hu2:=Jm (by omega) hF;obtain⟨fuel,rfl⟩:∃f,fuel=f+1:=⟨fuel-1,by omega⟩
  refine⟨λe=>(by rw[e]at hr;cases hr),λj hj=>?_⟩;rw[hr]at hj;obtain rfl:=qv.1 hj;exact IP ho (hdst j o ho) H I R F A λsa' h' n' c' a' hT R' F' A' X'=>⟨⟨c',rfl,X1.trans X'.ext⟩,ih false _ fuel _ h' n' c' a' (by simp[hs]) (by omega) hok hT (E.ext X'.ext I) R' F' A' (X.trans X') (X1.trans X'.ext) (by simp)⟩
 | two i j t u iht ihu =>
  intro st listed fuel sa h n c a hs hu hok H I R F A X X1 hst;simp only[ME,qq,beq_iff_eq]at hok;obtain⟨⟨hr,hok1⟩,hok2⟩:=hok;simp only[OM]at H;split at H
  case h_2=>exact H.elim
  rename_i o q ho hq;have hun:∀k,k∈Region.ready .any ops listed->UR (listed.setIfInBounds k true)+1=UR listed:=λk hk=>by
   obtain⟨hun,o',ho',_⟩:=mem_ready.1 hk;have hlt:=(qp.1 ho').1;have hF:listed.getD k false=false:=by rw[Gc (by omega)]at hun ⊢;exact hun
   exact Jm (by omega) hF
  have hui:=hun i (by rw[hr];simp);have huj:=hun j (by rw[hr];simp);obtain⟨fuel,rfl⟩:∃f,fuel=f+1:=⟨fuel-1,by omega⟩
  refine⟨λe=>(by rw[e]at hr;cases hr),λk hk=>?_⟩;rw[hr]at hk;rcases qk.1 hk with rfl|hk;exact IP ho (hdst _ o ho) H.1 I R F A λsa' h' n' c' a' hT R' F' A' X'=>⟨⟨c',rfl,X1.trans X'.ext⟩,iht false _ fuel _ h' n' c' a' (by simp[hs]) (by omega) hok1 hT (E.ext X'.ext I) R' F' A' (X.trans X') (X1.trans X'.ext) (by simp)⟩
  obtain rfl:=qv.1 hk;exact IP hq (hdst _ q hq) H.2 I R F A λsa' h' n' c' a' hT R' F' A' X'=>⟨⟨c',rfl,X1.trans X'.ext⟩,ihu false _ fuel _ h' n' c' a' (by simp[hs]) (by omega) hok2 hT (E.ext X'.ext I) R' F' A' (X.trans X') (X1.trans X'.ext) (by simp)⟩
theorem Vs (k:E.ro=none) (x:P.follows .mixedOrders=true) (t:Tr) {id:Nat} {Q:dO} {sa:SA} {h:Hp} {n:Nat} (z:Region.noSelect ops=true) (g:ME ops (Array.replicate ops.size false) t=true)
 (H:OM E P ops (Q .normal) true t sa h n):Fs E P N (.region id ops true) Q sa h n:=by
 intro m c a I R F A;simp only[Code.dok,jj]at m;have f:∀(i:Nat) (o:Oper),ops[i]? = some o->∀d,o.dst=some d->d<N:=λi o y d e=>by
  have:=m o (by simpa using Array.mem_of_getElem? y);rw[e]at this;simpa using this
 have:=UI (E:=E) (P:=P) (N:=N) (K:=Q .normal) (n0:=n) (c0:=c) (c1:=c.drew) k f (Region.noSelect_spec z) t true (Array.replicate ops.size false) ops.size sa h n c.drew a (by simp) (by simp[UR]) g H
  (E.ext c.drew_ext I) R.drew (λj v=>F j v) (A.ext c.drew_ext) ⟨c.drew_ext,qa _,λ_ _=>rfl⟩ (kZ _) (λ_=>rfl)
 refine wpIn_mono (wpIn_region_any x (Jn (S:=λw=>∃b,b.w=w/\DZ c.drew b) _ _ _ _ this)) ?_;rintro e a' w' ⟨rfl,l,h',n',b,p,h2,q,r,s,u⟩;exact⟨l,h',n',b,p,h2,q,r,s,u⟩
end
noncomputable def Si:(E:B6)->(P:Program)->(ops:Array Oper)->(K:SA->Hp->Nat->Prop)->Bool->Tr->SA->Hp->Nat->Prop:=Classical.choose (Bf OM)
theorem JH:Si=OM:=jv (Bf OM)
noncomputable def ZS:(E:B6)->(P:Program)->(ops:Array Oper)->(K:SA->Hp->Nat->Prop)->Tr->SA->Option Tmp->SV->Hp->Nat->Prop:=
 Classical.choose (Bf λE P ops K t sa dst v h n=>Si E P ops K false t (EB sa dst v) h n)
section
variable (E : B6) (P : Program) (ops : Array Oper) (K : SA → Hp → Nat → Prop) (st : Bool) (t u : Tr) (sa : SA) (h : Hp) (n i j : Nat)
@[go_sem] theorem WQ (dst:Option Tmp) (v:SV):ZS E P ops K t sa dst v h n=Si E P ops K false t (EB sa dst v) h n:=by
 unfold ZS;rw[jv (Bf λE P ops K t sa dst v h n=>Si E P ops K false t (EB sa dst v) h n)]
theorem Ur (o:Oper):ZS E P ops K t sa o.dst=λv h' n'=>OM E P ops K false t (EB sa o.dst v) h' n':=by
 funext v h' n';rw[WQ,JH]
@[go_sem] theorem Zb:Si E P ops K st .nil sa h n=K sa h n:=by rw[JH];simp only[OM]
@[go_sem] theorem ZD:Si E P ops K st (.pure i t) sa h n=match ops[i]? with
 | some o=>(match Dg ops sa o with
  | some b=>if b=true then(match KZ P st (Gp sa) o.op with|some v=>Si E P ops K st t (EB sa o.dst v) h n|none=>False)else H9 o.op=true/\Si E P ops K st t (EB sa o.dst (.tup [])) h n
  | none=>False)
 | none=>False:=by
 rw[JH];simp only[OM,Tt]
 all_goals
  cases ops[i]? with
  | none=>rfl
  | some o =>
   simp only;cases Dg ops sa o with
   | none=>rfl
   | some b=>cases b with
    | false=>rfl
    | true=>simp only[if_true];cases KZ P st (Gp sa) o.op<;>rfl
def NU (o:Oper):Prop:=
 match Dg ops sa o with
 | some b=>if b=true then Ke E P o sa h n (ZS E P ops K t sa o.dst)else Si E P ops K false t (EB sa o.dst (.tup [])) h n
 | none=>False
theorem Pr (o:Oper):NU E P ops K t sa h n o=L7 E P ops o sa h n (OM E P ops K false t):=by
 unfold NU L7;rw[Ur,JH]
 all_goals
  cases Dg ops sa o with
  | none=>rfl
  | some b=>cases b<;>rfl
@[go_sem] theorem Zc:Si E P ops K st (.one i t) sa h n=match ops[i]? with|some o=>NU E P ops K t sa h n o|none=>False:=by
 rw[JH];simp only[OM,Pr]<;>cases ops[i]? <;> rfl
@[go_sem] theorem Zd:Si E P ops K st (.two i j t u) sa h n=match ops[i]?,ops[j]? with|some o,some q=>NU E P ops K t sa h n o/\NU E P ops K u sa h n q|_,_=>False:=by
 rw[JH];simp only[OM,Pr]<;>cases ops[i]? <;> cases ops[j]? <;> rfl
end
attribute [go_sem] NU KZ H9
theorem BX {E:B6} {N id:Nat} {ops:Array Oper} {Q:dO} {sa:SA} {h:Hp} {n:Nat} (t:Tr) (b:E.ro=none) (c:Region.noSelect ops=true) (a:ME ops (Array.replicate ops.size false) t=true)
 (H:Si E Tryz.prog ops (Q .normal) true t sa h n):SP E N (.region id ops true) Q sa h n:=
 Vs b follows t c a (by rw[<-JH];exact H)
end Go.Proofs.YtgakninlhfkkmaaGreat.Sh
namespace Go.Proofs
open Go.Shelf
def Tryz.sortA_ren:Go.Shelf.Ren:=⟨fun|5=>197|8=>169|7=>261|19=>245|20=>246|10=>290|11=>291|12=>292|13=>293|14=>294|15=>295|16=>142|17=>296|18=>297|30=>315|31=>281|32=>282|33=>316|34=>317|35=>170|40=>326|n=>n,fun|23=>61|25=>3|3=>3|32=>213|22=>61|0=>0|44=>306|46=>308|4=>4|36=>300|35=>299|41=>123|5=>5|9=>9|53=>342|57=>72|63=>373|64=>374|n=>n,fun|n=>n⟩
theorem Tryz.sortA:Go.Proofs.SlLaysM.n5 Tryz.prog Tryz.sortA_ren:={
 mixed:=by kernel_rfl
 f5:=⟨Tryz.f197.name,by decide,Tryz.func197.trans (congrArg some (by kernel_rfl))⟩
 f7:=⟨Tryz.f261.name,by decide,Tryz.func261.trans (congrArg some (by kernel_rfl))⟩
 f8:=Tryz.func169.trans (congrArg some (by kernel_rfl))
 f10:=⟨Tryz.f290.name,by decide,Tryz.func290.trans (congrArg some (by kernel_rfl))⟩
 f11:=⟨Tryz.f291.name,by decide,Tryz.func291.trans (congrArg some (by kernel_rfl))⟩
 f12:=⟨Tryz.f292.name,by decide,Tryz.func292.trans (congrArg some (by kernel_rfl))⟩
 f13:=⟨Tryz.f293.name,by decide,Tryz.func293.trans (congrArg some (by kernel_rfl))⟩
 f14:=⟨Tryz.f294.name,by decide,Tryz.func294.trans (congrArg some (by kernel_rfl))⟩
 f15:=⟨Tryz.f295.name,by decide,Tryz.func295.trans (congrArg some (by kernel_rfl))⟩
 f16:=⟨Tryz.f142.name,by decide,Tryz.func142.trans (congrArg some (by kernel_rfl))⟩
 f17:=⟨Tryz.f296.name,by decide,Tryz.func296.trans (congrArg some (by kernel_rfl))⟩
 f18:=⟨Tryz.f297.name,by decide,Tryz.func297.trans (congrArg some (by kernel_rfl))⟩
 f19:=Tryz.func245.trans (congrArg some (by kernel_rfl))
 f20:=Tryz.func246.trans (congrArg some (by kernel_rfl))
 f30:=⟨Tryz.f315.name,by decide,Tryz.func315.trans (congrArg some (by kernel_rfl))⟩
 f31:=Tryz.func281.trans (congrArg some (by kernel_rfl))
 f32:=Tryz.func282.trans (congrArg some (by kernel_rfl))
 f33:=⟨Tryz.f316.name,by decide,Tryz.func316.trans (congrArg some (by kernel_rfl))⟩
 f34:=⟨Tryz.f317.name,by decide,Tryz.func317.trans (congrArg some (by kernel_rfl))⟩
 f35:=⟨Tryz.f170.name,by decide,Tryz.func170.trans (congrArg some (by kernel_rfl))⟩
 f40:=⟨Tryz.f326.name,by decide,Tryz.func326.trans (congrArg some (by kernel_rfl))⟩
 t0:=Tryz.underlying0
 a0:=Tryz.isAgg0
 z0:=Tryz.sizeOf0
 v0:=Tryz.zeroValue0
 t3:=Tryz.underlying3
 a3:=Tryz.isAgg3
 z3:=Tryz.sizeOf3
 v3:=Tryz.zeroValue3
 t4:=Tryz.underlying4
 a4:=Tryz.isAgg4
 z4:=Tryz.sizeOf4
 v4:=Tryz.zeroValue4
 t5:=Tryz.underlying5
 a5:=Tryz.isAgg5
 z5:=Tryz.sizeOf5
 v5:=Tryz.zeroValue5
 t9:=Tryz.underlying9
 a9:=Tryz.isAgg9
 z9:=Tryz.sizeOf9
 v9:=Tryz.zeroValue9
 t22:=Tryz.underlying61
 a22:=Tryz.isAgg61
 z22:=Tryz.sizeOf61
 v22:=Tryz.zeroValue61
 t23:=Tryz.underlying61
 a23:=Tryz.isAgg61
 z23:=Tryz.sizeOf61
 v23:=Tryz.zeroValue61
 t25:=Tryz.underlying3
 a25:=Tryz.isAgg3
 z25:=Tryz.sizeOf3
 v25:=Tryz.zeroValue3
 t32:=Tryz.underlying213
 a32:=Tryz.isAgg213
 z32:=Tryz.sizeOf213
 v32:=Tryz.zeroValue213
 t35:=Tryz.underlying299
 a35:=Tryz.isAgg299
 z35:=Tryz.sizeOf299
 v35:=Tryz.zeroValue299
 t36:=Tryz.underlying300
 a36:=Tryz.isAgg300
 z36:=Tryz.sizeOf300
 v36:=Tryz.zeroValue300
 t41:=Tryz.underlying123
 a41:=Tryz.isAgg123
 z41:=Tryz.sizeOf123
 v41:=Tryz.zeroValue123
 t44:=Tryz.underlying306
 a44:=Tryz.isAgg306
 z44:=Tryz.sizeOf306
 v44:=Tryz.zeroValue306
 t46:=Tryz.underlying308
 a46:=Tryz.isAgg308
 z46:=Tryz.sizeOf308
 v46:=Tryz.zeroValue308
 t53:=Tryz.underlying342
 a53:=Tryz.isAgg342
 z53:=Tryz.sizeOf342
 v53:=Tryz.zeroValue342
 t57:=Tryz.underlying72
 a57:=Tryz.isAgg72
 z57:=Tryz.sizeOf72
 v57:=Tryz.zeroValue72
 t63:=Tryz.underlying373
 a63:=Tryz.isAgg373
 z63:=Tryz.sizeOf373
 v63:=Tryz.zeroValue373
 t64:=Tryz.underlying374
 a64:=Tryz.isAgg374
 z64:=Tryz.sizeOf374
 v64:=Tryz.zeroValue374 }
end Go.Proofs
namespace Go.Proofs.YtgakninlhfkkmaaGreat.Sh
open Proofs
section
variable {h : Hp} {c : Cx}
theorem Bn.write2 {w':World} {o b st:Nat} {x y:BT} (R:Bn h c) (r:h o=some x) (p:c.ρ o=some (b,st))
 (l:c.w.heap.size<=w'.heap.size) (d:∀a,a≠b->a<c.w.heap.size->w'.heap[a]? = c.w.heap[a]?) (k:rm c.w b<=rm w' b) (v:w'.os=c.w.os) (n:w'.output=c.w.output)
 (K:DZ c { c with w:=w' }->Dl { c with w:=w' } o y) (B:x.lst=false:=by rfl) (C:y.lst=false:=by rfl) (A:Td c.w w':=by first|exact⟨rfl,qa _⟩|exact⟨rfl,Nat.le_add_right _ _⟩):Bn (hset h o (some y)) { c with w:=w' }/\DZ c { c with w:=w' }:=by
 have E:DZ c { c with w:=w' }:=by
  refine⟨λ_ _ e=>e,l,λa u hn=>⟨hn,?_⟩,λa=>?_,v,n,A⟩;refine d a ?_ u;rintro rfl;exact hn (R.ownI ⟨o,x,st,r,p⟩);by_cases e:a=b;subst e;exact k;rcases ji a c.w.heap.size with hl|hl;simp[rm,d a e hl];simp[rm,jg hl]
 have s:∀z:BT,z.lst=false->∀a,BE c o z a->a=b:=λz s a H=>by
  rcases H with⟨st',H⟩|⟨H,_⟩
  rw[p]at H;cases H;rfl;rw[s]at H;cases H
 have f:∀j z,hset h o (some y) j=some z->∃z0,h j=some z0/\∀a,BE { c with w:=w' } j z a->BE c j z0 a:=λj z e=>by
  simp only[hset]at e;split at e;subst_vars;cases e;exact⟨x,r,λa H=>by rw[s y C a H];exact .inl ⟨st,p⟩⟩;exact⟨z,e,λa H=>H⟩
 refine⟨⟨λj z e=>?_,λi j z M b1 g m G I=>?_,λa=>?_⟩,E⟩;simp only[hset]at e;split at e;subst_vars;cases e;exact K E;rename_i q;refine(R.obj j z e).mono E λF e'=>d F ?_ ((R.obj j z e).hold_lt e');rintro rfl;exact q (R.inj2 j o z x F e r e' (.inl ⟨st,p⟩));obtain⟨z0,t,D⟩:=f i z g;obtain⟨N,J,L⟩:=f j M m;exact R.inj2 i j z0 N b1 t J (D _ G) (L _ I);rw[R.own2 a];constructor;rintro⟨j,z,g,m⟩;by_cases q:j=o;subst q;rw[r]at g;cases g;exact⟨j,y,by simp[hset],by rw[s x B a m];exact .inl ⟨st,p⟩⟩;exact⟨j,z,by simp[hset,q,g],m⟩;rintro⟨j,z,g,m⟩;obtain⟨z0,t,D⟩:=f j z g;exact⟨j,z0,t,D _ m⟩
end
def DI (l:List Int):List Int:=l.mergeSort λx y=>decide (x<=y)
theorem Nt {c:Cx}:∀{l:List Int} {vs:List Value},AZ (V c) (l.map AA) vs->vs=l.map (Value.int .i64)
 | [],_,h=>by rw[h.nil_left];rfl
 | a::l,[],h=>h.elim
 | a::l,v::vs,h=>by
  have b:=C7 h.1;rw[b,Nt h.2];rfl
theorem Vg:Kk Tryz.prog 197=true:=by unfold Kk;rw[Tryz.func197];kernel_rfl
theorem Xu (l:List Int) (hl:l.length<4611686018427387904) {H:Hp} {n o:Nat} {full:Bool} (I:H o=some (.cells (l.map AA))):
 BA Tryz.prog 197 [.sl o 0 1 l.length full] H n (λv h' n'=>v=.tup []/\h'=hset H o (some (.cells ((DI l).map AA)))/\n'=n):=by
 refine⟨Vg,λc vs _ R F A=>?_⟩;obtain⟨u,rfl,J⟩:=A.single;rw[V]at J;obtain⟨b,st,cap,hρ,rfl,hcap,_,hroom⟩:=J;obtain⟨N,st',arr,e,vs,G,p,O,P,g5,_⟩:=R.obj o _ I;rw[hρ]at G;cases G;have D:=Nt P;have d:b<c.w.heap.size:=(qp.1 p).1;have f:∀j (r:j<l.length),arr[st+j]? = some (.int .i64 l[j]):=λj r=>O j _ (by rw[D];simp[r]);have t:Go.Sort.Holds (Value.int .i64) c.w b (st+0) l.toArray:=λj r=>by
  have q:j<l.length:=by simpa using r
  refine⟨by simp[World.cell?,p,f j q,q],by simp[World.frozen?,p]⟩
 have K:=AnyM.slices_Sort_int Tryz.sortA b (st+0) cap l c.w t d hl;have s:Calls Tryz.prog 197 #[.slice (some ⟨b,st+0,none⟩) l.length cap] c.w λe w'=>e=.returned (.tuple #[])/\∃n os,w'=Go.Sort.grow (Go.Sort.putRow (Value.int .i64) (Go.Sort.ahead c.w n) b (st+0) (DI l).toArray) os:=K;refine s.mono ?_;rintro e w' ⟨rfl,k,os,rfl⟩;have hlen:(DI l).length=l.length:=jW _;have m:(Go.Sort.grow (Go.Sort.putRow (Value.int .i64) (Go.Sort.ahead c.w k) b (st+0) (DI l).toArray) os).heap=(c.w.heap.modify b (Go.Sort.onCells (Go.Sort.putCells (Value.int .i64) (st+0) (DI l).toArray)))++os:=rfl;have g:(Go.Sort.grow (Go.Sort.putRow (Value.int .i64) (Go.Sort.ahead c.w k) b (st+0) (DI l).toArray) os).heap[b]? = some (.cells (Go.Sort.putCells (Value.int .i64) (st+0) (DI l).toArray arr) e (0,0)):=by
  rw[m,jp (by simpa using d),jX,if_pos rfl,p];rfl
 obtain⟨L,M⟩:=R.write2 (w':=Go.Sort.grow (Go.Sort.putRow (Value.int .i64) (Go.Sort.ahead c.w k) b (st+0) (DI l).toArray) os) (y:=.cells ((DI l).map AA)) I hρ
  (by rw[m];simp) (λN hb C=>by rw[m,jp (by simpa using C),jX,if_neg (Ne.symm hb)])
  (by unfold rm; rw [g, p]; simp [Go.Sort.putCells]) rfl rfl (fun X => by
    refine⟨b,st,_,e,(DI l).map (Value.int .i64),hρ,g,λi x hi=>?_,?_,λx Q=>?_,Ty.none⟩;simp only[qO,qX]at hi;obtain⟨z,E,rfl⟩:=hi;have B:=(qo.1 E).1;have:=f i (by omega);simp only[Go.Sort.putCells,Array.getElem?_mapIdx,this,jk,jJ,List.size_toArray];rw[if_pos ⟨by omega,by omega⟩,show st+i-st=i by omega];simp[B]at E ⊢;exact E;exact AZ.map (R:=λa b=>a=b) (λa b e=>by subst e;simp[V]) (by
     have:∀l:List Int,AZ (λa b=>a=b) l l:=λl=>by induction l with|nil=>trivial|cons a l ih=>exact⟨rfl,ih⟩
     exact this _)
    obtain⟨z,_,rfl⟩:=qy.1 Q;rfl)
 exact⟨.tuple #[],.tup [],_,n,_,rfl,⟨rfl,rfl,rfl⟩,rfl,by simp[V,VL],L,F,⟨M,qa _,λ_ _=>rfl⟩⟩
theorem VT (z:Nat) (full:Bool):PC 197 [.imm z [] full] (.tup []):=by
 intro h n;refine⟨Vg,λc vs _ R F A=>?_⟩;obtain⟨u,rfl,b⟩:=A.single;rw[V]at b;have fin:∀(p:Option Addr) (cap:Nat),Calls Tryz.prog 197 #[.slice p 0 cap] c.w λe w'=>e=.returned (.tuple #[])/\w'=c.w:=λp cap=>AnyM.slices_Sort_int_none Tryz.sortA p cap c.w;have key:∃p cap,u=.slice p 0 cap:=by
  rcases b with⟨_,rfl⟩|⟨a,cap,_,rfl,_⟩
  exact⟨_,_,rfl⟩;exact⟨_,_,rfl⟩
 obtain⟨p,cap,rfl⟩:=key;refine(fin p cap).mono ?_;rintro e w' ⟨rfl,rfl⟩;exact⟨.tuple #[],.tup [],h,n,c,rfl,⟨rfl,rfl,rfl⟩,rfl,by simp[V,VL],R,F,ke n c⟩
set_option maxRecDepth 10000
def Ed (l:List Int):List (SV×SV):=l.map λx=>(AA x,.bool true)
theorem Du {x:Int}:∀{l:List Int} (i:Nat),x∉l->DH (AA x) (Ed l) i=some none
 | [],i,_=>rfl
 | a::l,i,h=>by
  simp only[qk,not_or]at h;have:(x==a)=false:=by simpa using h.1
  simp only[Ed,qu,DH,G5,if_true,this];exact Du (i+1) h.2
theorem DS {x:Int}:∀{l:List Int} (i:Nat),x∈l->∃j,DH (AA x) (Ed l) i=some (some (i+j,.bool true))/\l[j]? = some x
 | a::l,i,h=>by
  by_cases e:x=a;subst e;exact⟨0,by simp[Ed,DH,G5],by simp⟩;have h':x∈l:=by rcases qk.1 h with h|h;exact absurd h e;exact h
  obtain⟨j,b,h2⟩:=DS (i+1) h';have:(x==a)=false:=by simpa using e
  refine⟨j+1,?_,by simpa using h2⟩;simp only[Ed,qu,DH,G5,if_true,this];rw[show i+(j+1)=i+1+j by omega];exact b
theorem JD {x:Int} {l:List Int} {j:Nat} (h:l[j]? = some x):HF (Ed l) j (AA x) (.bool true)=Ed l:=by
 unfold HF Ed;apply List.ext_getElem?;intro i;simp only[List.getElem?_modify,qO];by_cases e:j=i;subst e;simp[h];cases l[i]? <;> simp[e]
def Ca (l:List Int):List Int:=l.foldl (λout x=>if x∈out then out else out++[x]) []
theorem Iz (l:List Int) (k:Nat) (h:k<l.length):Ca (l.take (k+1))=if l[k]∈Ca (l.take k)then Ca (l.take k)else Ca (l.take k)++[l[k]]:=by
 unfold Ca;rw[qb h,kg];rfl
theorem IX (l:List Int):∀k,k<=l.length->(Ca (l.take k)).length<=k
 | 0,_=>by simp[Ca]
 | k+1,h=>by
  rw[Iz l k h];have:=IX l k (by omega);split;omega;simp;omega
theorem Ri (l:List Int) (x:Int):x∈Ca l↔x∈l:=by
 have b:∀k,k<=l.length->(x∈Ca (l.take k)↔x∈l.take k):=by
  intro k
  induction k with
  | zero=>simp[Ca]
  | succ k a=>
   intro h;have a:=a (by omega);rw[Iz l k h,qb h];split;rename_i c;simp only[qe,qv];constructor;intro g;exact .inl (a.1 g);rintro(g|rfl);exact a.2 g;exact c;simp only[qe,qv,a]
 have:=b l.length (qa _);simpa using this
theorem SC.use {E:B6} {f:FuncId} {args:List SV} {h:Hp} {n:Nat} {Q K:SV->Hp->Nat->Prop} (H:BA Tryz.prog f args h n Q) (a:∀v h' n',Q v h' n'->K v h' n'):Ak E Tryz.prog f args h n K:=Ak.lift (H.mono a)
theorem Dv:∀l:List Int,(l.map AA).flatMap SV.cells=l.map AA
 | []=>rfl
 | a::l=>by simp[SV.cells,Dv l]
theorem Xc (l:List Int) (hl:l.length<=1048576):PC 179 [.imm 1 [.imm 1 (l.map AA) false] false] (.imm 1 ((DI (Ca l)).map AA) false):=by
 intro h n;refine gq Tryz.func179 rfl λs=>?_;simp[go_sem];have hn0:h n=none:=s.none (qa n);refine An 1 (α:=Nat×Option Nat) (λq=>[(3,.map n),(4,AM 1 q.2 ((Ca (l.take (if q.1=0 then 0 else l.length))).map AA)),(10,.imm 1 [.imm 1 (l.map AA) false] false),(11,AA 1),(12,AA q.1)])
  (λq=>AN q.2 ((Ca (l.take (if q.1=0 then 0 else l.length))).map AA) (hset h n (some (.map (Ed (Ca (l.take (if q.1=0 then 0 else l.length))))))))
  (λq m=>q.1<=1/\n<m/\Ar (n+1) m 1 q.2 ((Ca (l.take (if q.1=0 then 0 else l.length))).map AA)) (λq=>1-q.1) (0,none) ?_ ?_ ?_ ?_
 simp[Ca];exact jK _ _ _;simp[Ai,Ca,AM];simp[Ca,Ed,AN];rintro⟨k,o⟩ m ⟨F,d,b⟩;dsimp only at F b ⊢;by_cases I:k=0;subst I;simp only[if_true,km]at b ⊢;simp[go_sem];refine An 1 (α:=Nat×Option Nat) (λq=>[(3,.map n),(4,AM 1 q.2 ((Ca (l.take q.1)).map AA)),(10,.imm 1 [.imm 1 (l.map AA) false] false),(11,AA 1),(12,AA 0),(16,.imm 1 (l.map AA) false),(17,AA l.length),(18,AA q.1)])
  (λq=>AN q.2 ((Ca (l.take q.1)).map AA) (hset h n (some (.map (Ed (Ca (l.take q.1)))))))
  (λq m=>q.1<=l.length/\n<m/\Ar (n+1) m 1 q.2 ((Ca (l.take q.1)).map AA)) (λq=>l.length-q.1) (0,o) ?_ ?_ ?_ ?_
 exact⟨qg _,d,by simpa using b⟩;simp[Ai];exact AB;rintro⟨i,o⟩ m ⟨hi,d,b⟩;dsimp only at hi b ⊢;have u:=IX l i hi;have r:∀j,o=some j->n<j/\j<m:=λj e=>by have:=b.lt j e;omega
 by_cases g:i<l.length;have w1:=wS i (by omega);have a:=Iz l i g;obtain⟨x,B⟩:∃x,l[i]=x:=⟨_,rfl⟩
 rw[B]at a;generalize hout:Ca (l.take i)=out at b a u ⊢;have f:AN o (out.map AA) (hset h n (some (.map (Ed out)))) n=some (.map (Ed out)):=by
  cases o with
  | none=>simp[AN,hset]
  | some j=>have:=r j rfl;simp[AN,hset];omega
 by_cases c:x∈out;obtain⟨j,z,h2⟩:=DS 0 c;rw[if_pos c]at a;simp[go_sem,g,B,f,z,CK,w1,-Int.natCast_add];exact⟨i+1,by omega,o,⟨⟨by omega,d,by rw[a];exact b⟩,by rw[a];exact⟨IO,IO⟩,by rw[a];exact AB⟩⟩;have z:=Du 0 c;rw[if_neg c]at a;have A:=λ(H:Hp) (k p:Nat) (D:H k=some (.cells (AA x).cells)) (E:∀j,o=some j->H j=some (.cells ((out.map AA).flatMap SV.cells)))=>
  Dp (P:=Tryz.prog) (H:=H) (t:=61) (t2:=61) (el:=3) (by simp[go_sem]) (by simp[go_sem]) (by simp[go_sem]) (by simp) (by simp[go_sem]) (by simp[go_sem]) (by simp[go_sem]) (by simp;omega) b (e:=AA x) rfl D E p
 simp[go_sem,g,B,f,z,CK,w1,-Int.natCast_add];rw[A _ _ _ (by simp[AC,SV.cells]) (by
  intro j e;have:=r j e;subst e;simp only[hset,AN];grind)]
 simp[go_sem,-Int.natCast_add];refine⟨i+1,by omega,some (m+1),⟨⟨by omega,by omega,?_⟩,⟨?_,?_⟩,?_⟩⟩;rw[a,qc];exact b.push rfl rfl (by omega) (by omega);rw[a];simp[AM,IO];exact IO;rw[a];intro j y;have hoj:=s j y;cases o with
 | none=>simp only[AN,hset,Ed,qc,qu,qS,kh,jm,qK,jY,jq,Dv,SV.cells];grind
 | some q=>have:=r q rfl;simp only[AN,hset,Ed,qc,qu,qS,jk,jm,qK,jY,jq,Dv,SV.cells];grind
 have:i=l.length:=by omega
 subst this;simp[go_sem];have w1:IntKind.i64.wrap 1=1:=by decide
 exact⟨1,by omega,o,⟨by omega,d,by simpa using b⟩,⟨by simp[IO],by simp[w1,IO]⟩,by simp⟩;have:k=1:=by omega
 subst this;simp[go_sem];simp only[Nat.one_ne_zero,if_false,qi]at b;cases o with
 | none=>
  have C:=b.none rfl;simp only[J2]at C;simp only[AM];refine(VT 0 true).use ?_;simp[go_sem,AN];have G:DI (Ca l)=[]:=by rw[C];simp[DI]
  rw[G];exact Jj s (AQ s (qa _) AB) (by simp) rfl
 | some j=>
  have hj:=b.lt j rfl;simp only[AM,qd];have u:(Ca l).length<=l.length:=by have:=IX l l.length (qa _);simpa using this
  refine SC.use (Xu (Ca l) (by omega) (by simp[AN,hset,Dv])) ?_;rintro v h' n' ⟨rfl,rfl,rfl⟩;simp[go_sem];have w:(DI (Ca l)).length=(Ca l).length:=jW _;refine T2 Hz (l:=DI (Ca l)) (full:=false) s (λo x e=>?_) (show n<=j by omega) (by rw[w]) (by simp[hset,Dv]);have:=s o x e;simp only[hset,AN];grind
theorem FJ.mono {E:B6} {P:Program} {l:Nat} {args:List SV} {h:Hp} {n:Nat} {Q i:SV->Hp->Nat->Prop} (H:FJ E P l args h n Q) (j:∀v h' n',Q v h' n'->i v h' n'):FJ E P l args h n i:=λc vs I R F A=>by
 obtain⟨a,b,f,d,e,g⟩:=H c vs I R F A;exact⟨a,b,f,d,e,g.mono λ_ _ ⟨u,v,h',n',f,e,q,r⟩=>⟨u,v,h',n',f,e,j _ _ _ q,r⟩⟩
def He (J:(Nat->Prop)->Hp->Nat->Prop) (Jx:(Nat->Prop)->Hp->Nat->Prop) (D:Nat->Prop) (h:Hp) (m:Nat):SV->Hp->Nat->Prop:=λv h' m'=>
 m<=m'/\∃D',(∀o,D' o->D o\/(m<=o/\o<m'))/\(∀o,¬D o->o<m->h' o=h o)/\((v=.bool true/\J D' h' m')\/(v=.bool false/\Jx D' h' m'))
structure YJ (E:B6) (l:Nat) {X:Type} (enc:X->List SV) (xs:List X) (J:Nat->(Nat->Prop)->Hp->Nat->Prop) (Jx:(Nat->Prop)->Hp->Nat->Prop):Prop where
 step:∀k x D h m,xs[k]? = some x->J k D h m->FJ E Tryz.prog l (enc x) h m (He (J (k+1)) Jx D h m)
 keep:∀k D h m h' m',J k D h m->m<=m'->(∀o,D o->h' o=h o)->J k D h' m'
 lt:∀k D h m,J k D h m->∀o,D o->o<m
def Sc {X:Type} (xs:List X) (k:Nat) (L:List X):Prop:=∃rest,xs.drop k=L++rest
theorem Sc.app {X:Type} {xs A B:List X} {k:Nat} (H:Sc xs k (A++B)):Sc xs k A/\Sc xs (k+A.length) B:=by
 obtain⟨r,h⟩:=H;refine⟨⟨B++r,by rw[h,qn]⟩,⟨r,?_⟩⟩;rw[<-List.drop_drop,h,qn,List.drop_left]
theorem Sc.head {X:Type} {xs L:List X} {x:X} {k:Nat} (H:Sc xs k (x::L)):xs[k]? = some x/\Sc xs (k+1) L:=by
 obtain⟨r,h⟩:=H;have a:(xs.drop k)[0]? = some x:=by rw[h];rfl
 refine⟨by simpa using a,r,?_⟩;rw[<-List.drop_drop,h];rfl
section
variable {E : B6} {yl : Nat} {X : Type} {enc : X → List SV} {xs : List X} {J : Nat → (Nat → Prop) → Hp → Nat → Prop} {Jx : (Nat → Prop) → Hp → Nat → Prop}
structure Jq (J:Nat->(Nat->Prop)->Hp->Nat->Prop) (D:Nat->Prop) (h:Hp) (m:Nat) (own:List (Nat×BT)) (cnt:Nat) (D2:Nat->Prop) (h2:Hp) (m2:Nat):Prop where
 lt:m<=m2
 j:J cnt D2 h2 m2
 own:∀p∈own,h2 p.1=some p.2/\m<=p.1/\p.1<m2/\¬D2 p.1
 sub:∀o,D2 o->D o\/(m<=o/\o<m2)
 old:∀o,¬D o->o<m->h2 o=h o
theorem Jq.keep (Y:YJ E yl enc xs J Jx) {D:Nat->Prop} {h:Hp} {m:Nat} {own:List (Nat×BT)} {a:Nat} {b:Nat->Prop} {h2:Hp} {m2:Nat} (M:Jq J D h m own a b h2 m2) {hb:Hp} {c:Nat} (e:m2<=c) (d:∀o,o<m2->hb o=h2 o):J a b hb c:=
 Y.keep _ _ _ _ _ _ M.j e λo g=>d o (Y.lt _ _ _ _ M.j o g)
theorem Jq.step {D:Nat->Prop} {h:Hp} {m:Nat} {own:List (Nat×BT)} {j a:Nat} {i:Nat->Prop} {h2:Hp} {m2:Nat} (M:Jq J D h m own j i h2 m2) {hb:Hp} {t:Nat} (hm:m2<=t) (s:∀o,o<m2->hb o=h2 o)
 {v:SV} {e:Hp} {f:Nat} (W:He (J a) Jx i hb t v e f):(v=.bool true/\∃b,Jq J D h m own a b e f)\/(v=.bool false/\He (J a) Jx D h m v e f):=by
 obtain⟨hm3,b,c,BE,w⟩:=W;have q:∀o,b o->D o\/(m<=o/\o<f):=λo g=>by
  rcases c o g with g|g;rcases M.sub o g with g|g;exact .inl g;exact .inr (by omega);have:=M.lt;exact .inr (by omega)
 have r:∀o,¬D o->o<m->e o=h o:=λo d k=>by
  have hn:¬i o:=λg=>by rcases M.sub o g with g|g;exact d g;omega
  have:=M.lt;rw[BE o hn (by omega),s o (by omega),M.old o d k]
 have:=M.lt;rcases w with⟨rfl,l⟩|⟨rfl,l⟩
 refine .inl ⟨rfl,b,by omega,l,λp hp=>?_,q,r⟩;obtain⟨d,k,u,n⟩:=M.own p hp;refine⟨by rw[BE _ n (by omega),s _ u,d],k,by omega,λg=>?_⟩;rcases c _ g with g|g;exact n g;omega;exact .inr ⟨rfl,by omega,b,q,r,.inr ⟨rfl,l⟩⟩
theorem Jq.done {D:Nat->Prop} {h:Hp} {m:Nat} {own:List (Nat×BT)} {a:Nat} {b:Nat->Prop} {h2:Hp} {m2:Nat} (M:Jq J D h m own a b h2 m2):He (J a) Jx D h m (.bool true) h2 m2:=
 ⟨M.lt,b,M.sub,M.old,.inl ⟨rfl,M.j⟩⟩
theorem Jq.more (Y:YJ E yl enc xs J Jx) {D:Nat->Prop} {h:Hp} {m:Nat} {own:List (Nat×BT)} {a:Nat} {e:Nat->Prop} {h2:Hp} {m2:Nat} (M:Jq J D h m own a e h2 m2) {hb:Hp} {i:Nat} (f:m2<=i) (d:∀o,o<m2->hb o=h2 o):Jq J D h m own a e hb i:=
 ⟨qr M.lt f,M.keep Y f d,λp hp=>by obtain⟨b,c,j,k⟩:=M.own p hp;exact⟨by rw[d _ j,b],c,by omega,k⟩,λo g=>by rcases M.sub o g with g|g;exact .inl g;exact .inr (by omega),λo b c=>by have:=M.lt;rw[d o (by omega),M.old o b c]⟩
theorem Jq.add {D:Nat->Prop} {h:Hp} {m:Nat} {own:List (Nat×BT)} {a:Nat} {b:Nat->Prop} {h2:Hp} {m2:Nat} (M:Jq J D h m own a b h2 m2) {j:Nat} {y:BT} (c:h2 j=some y) (d:m<=j) (e:j<m2) (f:¬b j):Jq J D h m ((j,y)::own) a b h2 m2:=
 ⟨M.lt,M.j,λp hp=>by rcases qk.1 hp with rfl|hp;exact⟨c,d,e,f⟩;exact M.own p hp,M.sub,M.old⟩
theorem Jq.drop {D:Nat->Prop} {h:Hp} {m:Nat} {own:List (Nat×BT)} {p:Nat×BT} {a:Nat} {b:Nat->Prop} {h2:Hp} {m2:Nat} (M:Jq J D h m (p::own) a b h2 m2):Jq J D h m own a b h2 m2:=
 ⟨M.lt,M.j,λq c=>M.own q (qL _ c),M.sub,M.old⟩
theorem Jq.any {f e:Nat} {D:Nat->Prop} {h:Hp} {m:Nat} {h2:Hp} {m2:Nat} (H:He (J f) Jx D h m (.bool false) h2 m2):He (J e) Jx D h m (.bool false) h2 m2:=by
 obtain⟨a,g,b,c,d|d⟩:=H;exact absurd d.1 (by simp);exact⟨a,g,b,c,.inr d⟩
end
structure Bl where
 body:Bool
 note:Bool
 tables:Int
def Bl.enc (p:Bl):SV:=.agg [.bool p.body,.bool p.note,AA p.tables]
structure Fl where
 id:Int
 items:List AE
 at_:Bl
def Fl.enc (f:Fl):List SV:=[AA f.id,.agg [AG f.items,.bool f.at_.body,.bool f.at_.note,AA f.at_.tables]]
def Bl.inNote (p:Bl):Bl:=⟨false,true,p.tables⟩
def Bl.inTable (p:Bl):Bl:=⟨false,p.note,IntKind.i64.wrap (p.tables+1)⟩
mutual
def AE.fl (p:Bl):AE->List Fl
 | .mk k _ i _ _ f r=>if k=6 then⟨i,f,p.inNote⟩::AE.flL p.inNote f else if k=7 then Aa.flL p.inTable r else[]
def AE.flL (p:Bl):List AE->List Fl
 | []=>[]
 | x::l=>AE.fl p x++AE.flL p l
def Aa.fl (p:Bl):Aa->List Fl
 | .mk _ c=>Wl.flL p c
def Aa.flL (p:Bl):List Aa->List Fl
 | []=>[]
 | x::l=>Aa.fl p x++Aa.flL p l
def Wl.fl (p:Bl):Wl->List Fl
 | .mk i _ f=>⟨i,f,p⟩::AE.flL p f
def Wl.flL (p:Bl):List Wl->List Fl
 | []=>[]
 | x::l=>Wl.fl p x++Wl.flL p l
end
def dK (id:Int) (l:List AE) (p:Bl):List Fl:=⟨id,l,p⟩::AE.flL p l
theorem AE.flL_take (p:Bl):∀(l:List AE) (i:Nat) (h:i<l.length),∃r,AE.flL p l=AE.flL p (l.take i)++(AE.fl p l[i]++r)/\AE.flL p (l.take (i+1))=AE.flL p (l.take i)++AE.fl p l[i]
 | x::l,0,_=>⟨AE.flL p l,by simp[AE.flL]⟩
 | x::l,i+1,h=>by
  obtain⟨r,a,h2⟩:=AE.flL_take p l i (by simpa using h);exact⟨r,by simp only[AE.flL,jl,ju];rw[a,h2];simp⟩
theorem Aa.flL_take (p:Bl):∀(l:List Aa) (i:Nat) (h:i<l.length),∃r,Aa.flL p l=Aa.flL p (l.take i)++(Aa.fl p l[i]++r)/\Aa.flL p (l.take (i+1))=Aa.flL p (l.take i)++Aa.fl p l[i]
 | x::l,0,_=>⟨Aa.flL p l,by simp[Aa.flL]⟩
 | x::l,i+1,h=>by
  obtain⟨r,a,h2⟩:=Aa.flL_take p l i (by simpa using h);exact⟨r,by simp only[Aa.flL,jl,ju];rw[a,h2];simp⟩
theorem Wl.flL_take (p:Bl):∀(l:List Wl) (i:Nat) (h:i<l.length),∃r,Wl.flL p l=Wl.flL p (l.take i)++(Wl.fl p l[i]++r)/\Wl.flL p (l.take (i+1))=Wl.flL p (l.take i)++Wl.fl p l[i]
 | x::l,0,_=>⟨Wl.flL p l,by simp[Wl.flL]⟩
 | x::l,i+1,h=>by
  obtain⟨r,a,h2⟩:=Wl.flL_take p l i (by simpa using h);exact⟨r,by simp only[Wl.flL,jl,ju];rw[a,h2];simp⟩
end Go.Proofs.YtgakninlhfkkmaaGreat.Sh
