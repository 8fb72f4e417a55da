/- A part of the proof (part 5 of 17). -/
import Derived.Test.YthinbkgpjmjfeaaGreatDoorN4
import Derived.OrdersHeld
import Derived.OrdersIn
import Derived.Shelf.SortM.Plain
import Derived.Shelf.SortM.SortNone
import Derived.Test.YthinbkgpjmjfeaaGreatDoorProg
namespace Go.Proofs.YthinbkgpjmjfeaaGreatDoor.Sh
open Go.Proofs.Tryz
abbrev wO:=@AB.zo
open Proofs
set_option maxRecDepth 10000
set_option maxHeartbeats 4000000
theorem gf:(Be prog 164).map (λf=>(f.name == "_",f.type,f.offset))=[(false,3,0),(false,3,1)]:=by kernel_rfl
theorem ge:(Be prog 74).map (λf=>(f.name == "_",f.type,f.offset))=[(false,3,0),(false,3,1)]:=by kernel_rfl
theorem gd:(Be prog 76).map (λf=>(f.name == "_",f.type,f.offset))=[(false,3,0),(false,3,1),(false,3,2),(false,4,3)]:=by kernel_rfl
theorem gV(a b:Fp):CK prog [AA a.key,AA a.value] [AA b.key,AA b.value] (Be prog 164)=some (decide (a=b)):=by
 rw[Ct,gf];cases a;cases b;rename_i a1 a2 b1 c;by_cases h1:a1=b1<;>by_cases h2:a2=c<;>simp[DJ,DZ,go_sem,h1,h2]
theorem gU(a b:Di):CK prog [AA a.rev,AA a.move] [AA b.rev,AA b.move] (Be prog 74)=some (decide (a=b)):=by
 rw[Ct,ge];cases a;cases b;rename_i a1 a2 b1 c;by_cases h1:a1=b1<;>by_cases h2:a2=c<;>simp[DJ,DZ,go_sem,h1,h2]
theorem gT(a b:A3):CK prog [AA a.rev,AA a.key,AA a.before,.bool a.had] [AA b.rev,AA b.key,AA b.before,.bool b.had] (Be prog 76)=some (decide (a=b)):=by
 rw[Ct,gd];cases a;cases b;rename_i a1 a2 a3 a4 b1 c d e;by_cases h1:a1=b1<;>by_cases h2:a2=c<;>by_cases f:a3=d<;>by_cases g:a4=e<;>simp[DJ,DZ,go_sem,h1,h2,f,g]
theorem fa(a b:List Fp)(ha:a.length<=1048576)(hb:b.length<=1048576):PC 126 [.y 2 (a.map Fp.h) false,.y 2 (b.map Fp.h) false] (.bool (decide (a=b))):=by
 intro h n;refine gq func126 rfl λj=>?_;by_cases c:(a.length:Int)=b.length
 . have hlen':a.length=b.length:=by omega
   simp[go_sem,c];refine BC 1 (α:=Nat) (λk=>[(0,.y 2 (a.map Fp.h) false),(1,.y 2 (b.map Fp.h) false),(12,AA a.length),(13,AA k)]) (λ_=>h) (λk m=>k<=a.length/\n<=m/\a.take k=b.take k) (λk=>a.length-k) 0 ?_ ?_ AC ?_;simp;simp[look,c];rintro k m ⟨hk,i,g⟩;by_cases e:k<a.length
   . have p:=wS k mq;have d:k<b.length:=by omega
     obtain⟨x,l⟩:∃x,a[k]=x:=⟨_,rfl⟩
     obtain⟨y,o⟩:∃y,b[k]=y:=⟨_,rfl⟩
     simp[go_sem,e,d,l,o,Fp.h]
     repeat first|refine nq ?_|refine sq ?_|refine aq ?_
     refine⟨_,C7 rfl (.inr rfl) mu mu mu rfl rfl (gV x y),?_⟩;simp[go_sem]
     repeat first|refine nq ?_|refine sq ?_|refine aq ?_
     by_cases f:x=y;simp[go_sem,f,p,-Int.natCast_add];exact⟨k+1,by omega,⟨by omega,i,by rw[qb e,qb d,l,o,g,f]⟩,Or⟩;simp[go_sem,f];have:a≠b:=by rintro rfl;exact f (by rw[<-l,<-o])
     exact Ar j rfl (by simp[this])
   simp[go_sem,e];have:a=b:=by rw[qQ mq,qQ mq]at g;exact g
   exact Ar j rfl (by simp[this])
 simp[go_sem,c];have:a≠b:=by rintro rfl;exact c rfl
 exact Ar j rfl (by simp[this])
theorem js(a b:List Di)(ha:a.length<=1048576)(hb:b.length<=1048576):PC 127 [.y 2 (a.map Di.h) false,.y 2 (b.map Di.h) false] (.bool (decide (a=b))):=by
 intro h n;refine gq func127 rfl λj=>?_;by_cases c:(a.length:Int)=b.length
 . have hlen':a.length=b.length:=by omega
   simp[go_sem,c];refine BC 1 (α:=Nat) (λk=>[(0,.y 2 (a.map Di.h) false),(1,.y 2 (b.map Di.h) false),(12,AA a.length),(13,AA k)]) (λ_=>h) (λk m=>k<=a.length/\n<=m/\a.take k=b.take k) (λk=>a.length-k) 0 ?_ ?_ AC ?_;simp;simp[look,c];rintro k m ⟨hk,i,g⟩;by_cases e:k<a.length
   . have p:=wS k mq;have d:k<b.length:=by omega
     obtain⟨x,l⟩:∃x,a[k]=x:=⟨_,rfl⟩
     obtain⟨y,o⟩:∃y,b[k]=y:=⟨_,rfl⟩
     simp[go_sem,e,d,l,o,Di.h]
     repeat first|refine nq ?_|refine sq ?_|refine aq ?_
     refine⟨_,C7 rfl (.inr rfl) mu mu mu rfl rfl (gU x y),?_⟩;simp[go_sem]
     repeat first|refine nq ?_|refine sq ?_|refine aq ?_
     by_cases f:x=y;simp[go_sem,f,p,-Int.natCast_add];exact⟨k+1,by omega,⟨by omega,i,by rw[qb e,qb d,l,o,g,f]⟩,Or⟩;simp[go_sem,f];have:a≠b:=by rintro rfl;exact f (by rw[<-l,<-o])
     exact Ar j rfl (by simp[this])
   simp[go_sem,e];have:a=b:=by rw[qQ mq,qQ mq]at g;exact g
   exact Ar j rfl (by simp[this])
 simp[go_sem,c];have:a≠b:=by rintro rfl;exact c rfl
 exact Ar j rfl (by simp[this])
theorem jt(a b:List A3)(ha:a.length<=1048576)(hb:b.length<=1048576):PC 128 [.y 4 (a.map A3.h) false,.y 4 (b.map A3.h) false] (.bool (decide (a=b))):=by
 intro h n;refine gq func128 rfl λj=>?_;by_cases c:(a.length:Int)=b.length
 . have hlen':a.length=b.length:=by omega
   simp[go_sem,c];refine BC 1 (α:=Nat) (λk=>[(0,.y 4 (a.map A3.h) false),(1,.y 4 (b.map A3.h) false),(12,AA a.length),(13,AA k)]) (λ_=>h) (λk m=>k<=a.length/\n<=m/\a.take k=b.take k) (λk=>a.length-k) 0 ?_ ?_ AC ?_;simp;simp[look,c];rintro k m ⟨hk,i,g⟩;by_cases e:k<a.length
   . have p:=wS k mq;have d:k<b.length:=by omega
     obtain⟨x,l⟩:∃x,a[k]=x:=⟨_,rfl⟩
     obtain⟨y,o⟩:∃y,b[k]=y:=⟨_,rfl⟩
     simp[go_sem,e,d,l,o,A3.h]
     repeat first|refine nq ?_|refine sq ?_|refine aq ?_
     refine⟨_,C7 rfl (.inr rfl) mu mu mu rfl rfl (gT x y),?_⟩;simp[go_sem]
     repeat first|refine nq ?_|refine sq ?_|refine aq ?_
     by_cases f:x=y;simp[go_sem,f,p,-Int.natCast_add];exact⟨k+1,by omega,⟨by omega,i,by rw[qb e,qb d,l,o,g,f]⟩,Or⟩;simp[go_sem,f];have:a≠b:=by rintro rfl;exact f (by rw[<-l,<-o])
     exact Ar j rfl (by simp[this])
   simp[go_sem,e];have:a=b:=by rw[qQ mq,qQ mq]at g;exact g
   exact Ar j rfl (by simp[this])
 simp[go_sem,c];have:a≠b:=by rintro rfl;exact c rfl
 exact Ar j rfl (by simp[this])
theorem c58(a b:AG)(f:a.l)(hb:b.l):PC 68 [a.h,b.h] (.bool (decide (a=b))):=by
 intro h n;refine gq func68 rfl λc=>?_;have hh:∀y z,∀o x,h o=some x->h_ (h_ h n y) (n+1) z o=some x:=λy z=>by repeat(first|exact AC|refine Aa c mq ?_)
 simp[go_sem,AG.h,AG.j,AE,AD];refine(fa _ _ f.Q hb.Q).use ?_;by_cases h1:a.Q=b.Q;by_cases h2:a.I=b.I;by_cases d:a.move=b.move;simp[go_sem,h1,h2,d,AE,AD];refine(js _ _ f.Y hb.Y).use ?_;by_cases e:a.Y=b.Y;simp[go_sem,e,AE,AD];refine(jt _ _ f.Z hb.Z).use ?_;simp[go_sem];refine Bt c (hh _ _) ?_ rfl;cases a;cases b;simp at h1 h2 d e;simp[h1,h2,d,e];simp[go_sem,e];refine Bt c (hh _ _) ?_ rfl;have:a≠b:=by rintro rfl;exact e rfl
 simp[this];simp[go_sem,h1,h2,d,AE,AD];refine Bt c (hh _ _) ?_ rfl;have:a≠b:=by rintro rfl;exact d rfl
 simp[this];simp[go_sem,h1,h2,AE,AD];refine Bt c (hh _ _) ?_ rfl;have:a≠b:=by rintro rfl;exact h2 rfl
 simp[this];simp[go_sem,h1];refine Bt c (hh _ _) ?_ rfl;have:a≠b:=by rintro rfl;exact h1 rfl
 simp[this]
theorem Ij{p:Nat->Bool}{n k:Nat}(e:BM p n k = -1):∀i,k<=i->i<n->p i=false:=by
 intro i hk hi;rw[BM]at e;rw[dif_pos mq]at e;by_cases hp:p k=true;rw[my hp]at e;omega;rw[mw hp]at e;by_cases h:i=k;subst h;simpa using hp;exact Ij e i mq hi
termination_by n-k
theorem Ik{p:Nat->Bool}{n k i0:Nat}(e:BM p n k=i0):∀i,k<=i->i<i0->p i=false:=by
 intro i hk hi;rw[BM]at e;split at e;by_cases hp:p k=true;rw[my hp]at e;omega;rw[mw hp]at e;by_cases h:i=k;subst h;simpa using hp;exact Ik e i mq hi;omega
termination_by n-k
def Bz{α:Type}(p:α->Bool)(l:List α)(i:Nat):List α:=((l.take i).filter λx=>!p x)++l.drop ((l.take i).filter λx=>!p x).length
theorem kx(l:List AL)(hl:l.length<=1048576)(g:FuncId)(a b:List SV)(p:AL->Bool)(hp:∀x∈l,PC g (a++[x.h]++b) (.bool (p x))){H:Hp}{n o:Nat}{full:Bool}(S:H o=some (.cells ((l.map AL.h).flatMap SV.cells))):
 BP prog 162 [.sl o 0 6 l.length full,.fn (.func g) a b] H n (λv h' n'=>v=.y 6 ((l.filter λx=>!p x).map AL.h) false/\h'=h_ H o none/\n'=n):=by
 refine gq func162 rfl λT=>?_;have hon:o<n:=(T o _ S).1;have hI:=fk l hl g a b (λi=>match l[i]? with|some x=>p x|none=>false) (λi hi=>by simpa[hi]using hp l[i] (qn hi));have fin:∀(c:List AL)(h':Hp)(n':Nat)(N:List SV)(f2:Bool),(l.filter λx=>!p x)=c->(∀j y,j≠o->H j=some y->h' j=some y)->h' o=some (.cells N)->c.length*6<=N.length->N.take (c.length*6)=(c.map AL.h).flatMap SV.cells->
  Ce n h' n' (.sl o 0 6 c.length f2) (λv h' n'=>v=.y 6 ((l.filter λx=>!p x).map AL.h) false/\h'=h_ H o none/\n'=n):=λc h' n' N f2 hk hh hc h1 h2=>by
  refine .inr ⟨1,.y 6 (c.map AL.h) false,h_ H o none,.inr ⟨AE _ _ _,by simp,by simp,rfl,N,(c.map AL.h).flatMap SV.cells,hc,by simp[Cb,h1,h2],AL.E.size c,?_⟩,AL.E.y _ _ _ _,λj y e=>?_,by rw[hk],rfl,rfl⟩;have:∀l:List SV,AU (Fz h' (h_ H o none) 0) l l:=by
   intro l;induction l with
   | nil=>trivial
   | cons a l ih=>exact⟨Or,ih⟩
  exact this _;by_cases w:j=o;subst w;rw[AE]at e;cases e;rw[AD _ _ w]at e;exact⟨hh j y w e,T j y e⟩
 simp[go_sem];refine hI.lend 2 rfl ⟨?_,Or,trivial⟩ ?_;have:=E7 (h':=H) (h:=λ_=>none) (k:=1) (z:=6) (es:=l.map AL.h) (full:=full) (full':=false) (o:=o) rfl mr S (AL.E.size l);rw[qf]at this;exact this;rcases GM (λi=>match l[i]? with|some x=>p x|none=>false) l.length 0 with e|⟨f,_,t,e,Y⟩
 simp[go_sem,e];have O:(l.filter λx=>!p x)=l:=vP.2 λx J=>by
  obtain⟨i,hi,rfl⟩:=vX J;have:=Ij e i (qj _) hi;simpa[hi]using this
 exact fin l H n _ full O (λj y _ e=>e) S (by rw[Bq (AL.E.size l),qf];exact IO _) (qQ (by rw[Bq (AL.E.size l),qf];exact IO _));have w0:=wS f mq;have Z:¬((f:Int) = -1):=by omega
 simp[go_sem,e,w0,Z,-Int.natCast_add];have C:p l[f]=true:=by simpa[t]using Y
 have d:(l.take f).filter (λx=>!p x)=l.take f:=vP.2 λx J=>by
  obtain⟨i,hi,rfl⟩:=vX J;have Q:i<f:=by simp at hi;omega
  have:=Ik e i (qj _) Q;simpa[show i<l.length by omega]using this
 refine BC 1 (α:=Nat) (λi=>[(0,.sl o 0 6 l.length full),(1,.fn (.func g) a b),(5,AA ((l.take i).filter λx=>!p x).length),(6,AA i)]) (λi=>h_ H o (some (.cells (((Bz p l i).map AL.h).flatMap SV.cells))))
  (λi m=>f<i/\i<=l.length/\n<=m) (λi=>l.length-i) (f+1) ?_ ?_ ?_ ?_
 exact⟨vh _,t,IO _⟩;have:((l.take (f+1)).filter λx=>!p x).length=f:=by
  rw[qb t,vL,d];simp[C];omega
 simp[look,this,-Int.natCast_add];have:Bz p l (f+1)=l:=by
  unfold Bz;rw[qb t,vL,d];simp[C,vF (Nat.le_of_lt t)]
 rw[this];intro j y e;simp only[h_]at e;split at e;rename_i h;subst h;rw[S];exact e;exact e;rintro i m ⟨hi1,Q,hnm⟩;have X:((l.take i).filter λx=>!p x).length<i:=by
  have h1:l.take i=l.take (f+1)++(l.drop (f+1)).take (i-(f+1)):=by
   rw[<-List.take_add];congr 1;omega
  have h2:((l.take (f+1)).filter λx=>!p x).length=f:=by
   rw[qb t,vL,d];simp[C];omega
  rw[h1,vL,ql,h2];have:=vC (λx=>!p x) ((l.drop (f+1)).take (i-(f+1)));simp at this ⊢;omega
 have r:(Bz p l i).length=l.length:=by unfold Bz;simp;omega
 generalize q:(l.take i).filter (λx=>!p x)=c at X ⊢;have u:o≠m:=by omega
 have G:=AL.E.size (Bz p l i);by_cases B:i<l.length;have w1:=wS i mq;have w2:IntKind.i64.wrap ((c.length:Int)+1)=((c.length+1:Nat):Int):=by rw[EU]<;>omega
 obtain⟨x,J⟩:∃x,l[i]=x:=⟨_,rfl⟩
 have P:(Bz p l i)[i]? = some x:=by
  unfold Bz;rw[q,vR mq,vw];have:c.length+(i-c.length)=i:=by omega
  rw[this,qk B,J]
 obtain⟨g1,U⟩:=Nf G (i:=i) (e:=x.h) (by simp[P]);have s:=Q6 G (j:=c.length) (e:=x.h) (by simp[r];omega);have g3:c.length*6+6<=(((Bz p l i).map AL.h).flatMap SV.cells).length:=by
  rw[Bq G,qf,r];omega
 have hcl:=AL.E.len x;generalize V:((Bz p l i).map AL.h).flatMap SV.cells=F at g1 U g3 s ⊢;have H1:=hp x (by rw[<-J];exact qn B);simp only[qr,qB,qI]at H1;have hpre:=AL.E.st x;simp[qR,SV.cells]at U;simp[go_sem,B,AE,g1,U];refine qY (by simpa[qR]using H1) ?_;by_cases L:p x=true;simp[go_sem,L,w1,-Int.natCast_add];have A:(l.take (i+1)).filter (λx=>!p x)=c:=by rw[qb B,vL,q,J];simp[L]
 have D:Bz p l (i+1)=Bz p l i:=by unfold Bz;rw[A,q]
 refine⟨i+1,by omega,⟨by omega,by omega,by omega⟩,⟨by rw[A];exact Or,Or⟩,λj y e=>?_⟩;rw[D,V]at e;by_cases w:j=o;subst w;rw[AE]at e;rw[AD _ _ u,AD _ _ u,AE];exact e;rw[AD _ _ w]at e;have:=(T j y e).1;rw[AD _ _ mq,AD _ _ mq,AD _ _ w];exact e;have I:p x=false:=by simpa using L
 have R:(c.length:Int)<l.length:=by omega
 simp[qR,SV.cells]at s;simp[go_sem,I,AE,AD,u,R,g3,s,w1,w2,-Int.natCast_add];have A:(l.take (i+1)).filter (λx=>!p x)=c++[x]:=by rw[qb B,vL,q,J];simp[I]
 have D:(Bz p l (i+1)).map AL.h=((Bz p l i).map AL.h).set c.length x.h:=by
  have:Bz p l (i+1)=(Bz p l i).set c.length x:=by
   unfold Bz;rw[A,q,List.set_append_right _ _ (IO _),Nat.sub_self];simp;rw[qA (show c.length<l.length by omega),List.set_cons_zero]
  rw[this,List.map_set]
 rw[qR]at D;refine⟨i+1,by omega,⟨by omega,by omega,by omega⟩,⟨by rw[A,ql];exact Or,Or⟩,λj y e=>?_⟩;rw[D]at e;by_cases w:j=o;subst w;rw[AE]at e ⊢;exact e;rw[AD _ _ w]at e ⊢;have:=(T j y e).1;rw[AD _ _ mq,AD _ _ mq,AD _ _ w];exact e;have:i=l.length:=by omega
 subst this;have q1:c.length<=l.length:=by omega
 have q2:¬((c.length:Int)=l.length):=by omega
 have q3:¬(l.length-c.length=0):=by omega
 rw[qp]at q;have V:((Bz p l l.length).map AL.h).flatMap SV.cells=(c.map AL.h).flatMap SV.cells++((l.drop c.length).map AL.h).flatMap SV.cells:=by unfold Bz;rw[qp,q];simp
 have K:((c.map AL.h).flatMap SV.cells).length=c.length*6:=by rw[Bq (AL.E.size c),qf]
 have W:(((Bz p l l.length).map AL.h).flatMap SV.cells).length=l.length*6:=by rw[Bq G,qf,r]
 have q4:c.length*6+(l.length-c.length)*6<=(((Bz p l l.length).map AL.h).flatMap SV.cells).length:=by rw[W,<-wi];apply wd;omega
 have M:(((Bz p l l.length).map AL.h).flatMap SV.cells).take (c.length*6)=(c.map AL.h).flatMap SV.cells:=by rw[V,<-K,List.take_left]
 generalize((Bz p l l.length).map AL.h).flatMap SV.cells=F at q4 M ⊢;simp[go_sem,AE,q1,q2,q3,q4];refine fin c _ _ _ _ q (λj y hj e=>by rw[AD _ _ hj,AD _ _ hj];exact e) (AE _ _ _) ?_ ?_;rw[M,ql,K];omega;rw[M,<-K,List.take_left]
theorem d75(l:List By)(hl:l.length<=1048576)(g:FuncId)(a b:List SV)(p:By->Bool)(hp:∀x∈l,PC g (a++[x.h]++b) (.bool (p x))){H:Hp}{n o:Nat}{full:Bool}(S:H o=some (.cells ((l.map By.h).flatMap SV.cells))):
 BP prog 104 [.sl o 0 3 l.length full,.fn (.func g) a b] H n (λv h' n'=>v=.y 3 ((l.filter λx=>!p x).map By.h) false/\h'=h_ H o none/\n'=n):=by
 refine gq func104 rfl λT=>?_;have hon:o<n:=(T o _ S).1;have hI:=ff l hl g a b (λi=>match l[i]? with|some x=>p x|none=>false) (λi hi=>by simpa[hi]using hp l[i] (qn hi));have fin:∀(c:List By)(h':Hp)(n':Nat)(N:List SV)(f2:Bool),(l.filter λx=>!p x)=c->(∀j y,j≠o->H j=some y->h' j=some y)->h' o=some (.cells N)->c.length*3<=N.length->N.take (c.length*3)=(c.map By.h).flatMap SV.cells->
  Ce n h' n' (.sl o 0 3 c.length f2) (λv h' n'=>v=.y 3 ((l.filter λx=>!p x).map By.h) false/\h'=h_ H o none/\n'=n):=λc h' n' N f2 hk hh hc h1 h2=>by
  refine .inr ⟨1,.y 3 (c.map By.h) false,h_ H o none,.inr ⟨AE _ _ _,by simp,by simp,rfl,N,(c.map By.h).flatMap SV.cells,hc,by simp[Cb,h1,h2],By.E.size c,?_⟩,By.E.y _ _ _ _,λj y e=>?_,by rw[hk],rfl,rfl⟩;have:∀l:List SV,AU (Fz h' (h_ H o none) 0) l l:=by
   intro l;induction l with
   | nil=>trivial
   | cons a l ih=>exact⟨Or,ih⟩
  exact this _;by_cases w:j=o;subst w;rw[AE]at e;cases e;rw[AD _ _ w]at e;exact⟨hh j y w e,T j y e⟩
 simp[go_sem];refine hI.lend 2 rfl ⟨?_,Or,trivial⟩ ?_;have:=E7 (h':=H) (h:=λ_=>none) (k:=1) (z:=3) (es:=l.map By.h) (full:=full) (full':=false) (o:=o) rfl mr S (By.E.size l);rw[qf]at this;exact this;rcases GM (λi=>match l[i]? with|some x=>p x|none=>false) l.length 0 with e|⟨f,_,t,e,Y⟩
 simp[go_sem,e];have O:(l.filter λx=>!p x)=l:=vP.2 λx J=>by
  obtain⟨i,hi,rfl⟩:=vX J;have:=Ij e i (qj _) hi;simpa[hi]using this
 exact fin l H n _ full O (λj y _ e=>e) S (by rw[Bq (By.E.size l),qf];exact IO _) (qQ (by rw[Bq (By.E.size l),qf];exact IO _));have w0:=wS f mq;have Z:¬((f:Int) = -1):=by omega
 simp[go_sem,e,w0,Z,-Int.natCast_add];have C:p l[f]=true:=by simpa[t]using Y
 have d:(l.take f).filter (λx=>!p x)=l.take f:=vP.2 λx J=>by
  obtain⟨i,hi,rfl⟩:=vX J;have Q:i<f:=by simp at hi;omega
  have:=Ik e i (qj _) Q;simpa[show i<l.length by omega]using this
 refine BC 1 (α:=Nat) (λi=>[(0,.sl o 0 3 l.length full),(1,.fn (.func g) a b),(5,AA ((l.take i).filter λx=>!p x).length),(6,AA i)]) (λi=>h_ H o (some (.cells (((Bz p l i).map By.h).flatMap SV.cells))))
  (λi m=>f<i/\i<=l.length/\n<=m) (λi=>l.length-i) (f+1) ?_ ?_ ?_ ?_
 exact⟨vh _,t,IO _⟩;have:((l.take (f+1)).filter λx=>!p x).length=f:=by
  rw[qb t,vL,d];simp[C];omega
 simp[look,this,-Int.natCast_add];have:Bz p l (f+1)=l:=by
  unfold Bz;rw[qb t,vL,d];simp[C,vF (Nat.le_of_lt t)]
 rw[this];intro j y e;simp only[h_]at e;split at e;rename_i h;subst h;rw[S];exact e;exact e;rintro i m ⟨hi1,Q,hnm⟩;have X:((l.take i).filter λx=>!p x).length<i:=by
  have h1:l.take i=l.take (f+1)++(l.drop (f+1)).take (i-(f+1)):=by
   rw[<-List.take_add];congr 1;omega
  have h2:((l.take (f+1)).filter λx=>!p x).length=f:=by
   rw[qb t,vL,d];simp[C];omega
  rw[h1,vL,ql,h2];have:=vC (λx=>!p x) ((l.drop (f+1)).take (i-(f+1)));simp at this ⊢;omega
 have r:(Bz p l i).length=l.length:=by unfold Bz;simp;omega
 generalize q:(l.take i).filter (λx=>!p x)=c at X ⊢;have u:o≠m:=by omega
 have G:=By.E.size (Bz p l i);by_cases B:i<l.length;have w1:=wS i mq;have w2:IntKind.i64.wrap ((c.length:Int)+1)=((c.length+1:Nat):Int):=by rw[EU]<;>omega
 obtain⟨x,J⟩:∃x,l[i]=x:=⟨_,rfl⟩
 have P:(Bz p l i)[i]? = some x:=by
  unfold Bz;rw[q,vR mq,vw];have:c.length+(i-c.length)=i:=by omega
  rw[this,qk B,J]
 obtain⟨g1,U⟩:=Nf G (i:=i) (e:=x.h) (by simp[P]);have s:=Q6 G (j:=c.length) (e:=x.h) (by simp[r];omega);have g3:c.length*3+3<=(((Bz p l i).map By.h).flatMap SV.cells).length:=by
  rw[Bq G,qf,r];omega
 have hcl:=By.E.len x;generalize V:((Bz p l i).map By.h).flatMap SV.cells=F at g1 U g3 s ⊢;have H1:=hp x (by rw[<-J];exact qn B);simp only[qr,qB,qI]at H1;have hpre:=By.E.st x;simp[By.h,SV.cells]at U;simp[go_sem,B,AE,g1,U];refine qY (by simpa[By.h]using H1) ?_;by_cases L:p x=true;simp[go_sem,L,w1,-Int.natCast_add];have A:(l.take (i+1)).filter (λx=>!p x)=c:=by rw[qb B,vL,q,J];simp[L]
 have D:Bz p l (i+1)=Bz p l i:=by unfold Bz;rw[A,q]
 refine⟨i+1,by omega,⟨by omega,by omega,by omega⟩,⟨by rw[A];exact Or,Or⟩,λj y e=>?_⟩;rw[D,V]at e;by_cases w:j=o;subst w;rw[AE]at e;rw[AD _ _ u,AD _ _ u,AE];exact e;rw[AD _ _ w]at e;have:=(T j y e).1;rw[AD _ _ mq,AD _ _ mq,AD _ _ w];exact e;have I:p x=false:=by simpa using L
 have R:(c.length:Int)<l.length:=by omega
 simp[By.h,SV.cells]at s;simp[go_sem,I,AE,AD,u,R,g3,s,w1,w2,-Int.natCast_add];have A:(l.take (i+1)).filter (λx=>!p x)=c++[x]:=by rw[qb B,vL,q,J];simp[I]
 have D:(Bz p l (i+1)).map By.h=((Bz p l i).map By.h).set c.length x.h:=by
  have:Bz p l (i+1)=(Bz p l i).set c.length x:=by
   unfold Bz;rw[A,q,List.set_append_right _ _ (IO _),Nat.sub_self];simp;rw[qA (show c.length<l.length by omega),List.set_cons_zero]
  rw[this,List.map_set]
 rw[By.h]at D;refine⟨i+1,by omega,⟨by omega,by omega,by omega⟩,⟨by rw[A,ql];exact Or,Or⟩,λj y e=>?_⟩;rw[D]at e;by_cases w:j=o;subst w;rw[AE]at e ⊢;exact e;rw[AD _ _ w]at e ⊢;have:=(T j y e).1;rw[AD _ _ mq,AD _ _ mq,AD _ _ w];exact e;have:i=l.length:=by omega
 subst this;have q1:c.length<=l.length:=by omega
 have q2:¬((c.length:Int)=l.length):=by omega
 have q3:¬(l.length-c.length=0):=by omega
 rw[qp]at q;have V:((Bz p l l.length).map By.h).flatMap SV.cells=(c.map By.h).flatMap SV.cells++((l.drop c.length).map By.h).flatMap SV.cells:=by unfold Bz;rw[qp,q];simp
 have K:((c.map By.h).flatMap SV.cells).length=c.length*3:=by rw[Bq (By.E.size c),qf]
 have W:(((Bz p l l.length).map By.h).flatMap SV.cells).length=l.length*3:=by rw[Bq G,qf,r]
 have q4:c.length*3+(l.length-c.length)*3<=(((Bz p l l.length).map By.h).flatMap SV.cells).length:=by rw[W,<-wi];apply wd;omega
 have M:(((Bz p l l.length).map By.h).flatMap SV.cells).take (c.length*3)=(c.map By.h).flatMap SV.cells:=by rw[V,<-K,List.take_left]
 generalize((Bz p l l.length).map By.h).flatMap SV.cells=F at q4 M ⊢;simp[go_sem,AE,q1,q2,q3,q4];refine fin c _ _ _ _ q (λj y hj e=>by rw[AD _ _ hj,AD _ _ hj];exact e) (AE _ _ _) ?_ ?_;rw[M,ql,K];omega;rw[M,<-K,List.take_left]
def AB.zb(y:AB)(t:ByteArray):AB:=.mk y.x y.code y.id (y.J++t) y.H y.W y.R
def Bf(x:AB):Prop:=(x.x=7/\x.R=[])\/(x.x=1/\x.J.size=0)
instance(x:AB):Decidable (Bf x):=by unfold Bf;cases h:x.R<;>simp<;>infer_instance
def Ah(out:List AB)(x:AB):List AB:=
 if Bf x then out else match out.getLast? with
  | some y=>if x.x=1/\y.x=1/\y.H=x.H then out.dropLast++[y.zb x.J]else out++[x]
  | none=>out++[x]
def EM(l:List AB):List AB:=l.foldl Ah []
mutual
def AB.N:AB->AB
 | .mk k c i t h f r=>.mk k c i t h (EM (AB.nrmL f)) ((AL.nrmL r).filter λr=>!decide (r.cells.length=0))
def AB.nrmL:List AB->List AB
 | []=>[]
 | x::l=>AB.N x::AB.nrmL l
def AL.N:AL->AL
 | .mk h c=>.mk h (AF.nrmL c)
def AL.nrmL:List AL->List AL
 | []=>[]
 | x::l=>AL.N x::AL.nrmL l
def AF.N:AF->AF
 | .mk i h f=>.mk i h (EM (AB.nrmL f))
def AF.nrmL:List AF->List AF
 | []=>[]
 | x::l=>AF.N x::AF.nrmL l
end
theorem AB.zj:∀l:List AB,AB.nrmL l=l.map AB.N
 | []=>by rw[AB.nrmL];rfl
 | x::l=>by rw[AB.nrmL,AB.zj l];rfl
theorem AL.zj:∀l:List AL,AL.nrmL l=l.map AL.N
 | []=>by rw[AL.nrmL];rfl
 | x::l=>by rw[AL.nrmL,AL.zj l];rfl
theorem AF.zj:∀l:List AF,AF.nrmL l=l.map AF.N
 | []=>by rw[AF.nrmL];rfl
 | x::l=>by rw[AF.nrmL,AF.zj l];rfl
def AY(l:List AB):List AB:=EM (AB.nrmL l)
theorem fb(z:Nat)(full:Bool):PC 162 [.y z [] full,.fn (.func 164) [] []] (.y 6 [] false):=by
 intro h n;refine gq func162 rfl λa=>?_;simp[go_sem];have hI:=(fk [] mr 164 [] [] (λ_=>false) mr).wk (us:=[.y z [] full,.fn (.func 164) [] []]) 1 ⟨Fg mr,Or,trivial⟩;refine qY hI ?_;have e:BM (λ_=>false) 0 0 = -1:=by rw[BM];simp
 simp[go_sem,e];exact P8 a AC mr rfl
theorem jv(r:AL):PC 164 [r.h] (.bool (decide (r.cells.length=0))):=by
 intro h n;refine gq func164 rfl λa=>?_;simp[go_sem,qR,AE];exact Bt a (Aa a (IO _) AC) (by cases r.cells<;>simp;omega) rfl
theorem YS{E:BZ}(l:List AL)(b:l.length<=1048576)(H:∀(i:Nat)(h:i<l.length),PC 163 [(l[i]).h] (AL.N l[i]).h){h:Hp}{n:Nat}{K:SV->Hp->Nat->Prop}
 (hk:∀v h' n',n<=n'->(∀o x,h o=some x->h' o=some x)->Ab E prog 162 [v,.fn (.func 164) [] []] h' n' (λd h2 c=>(∀o x,o<n->h o=some x->h2 o=some x)/\n<=c/\d=.y 6 (((l.map AL.N).filter λr=>!decide (r.cells.length=0)).map AL.h) false)->K v h' n'):
 Ab E prog 157 [Au l,.fn (.func 163) [] []] h n K:=by
 refine(gr l b 163 [] [] AL.N (λi hi=>H i hi)).use λv h' n' ⟨a,hh,hv⟩=>hk v h' n' a hh ?_;rcases hv with⟨k,m,full,rfl⟩|⟨o,full,h1,h2,rfl,f⟩
 refine qY (fb m full) ⟨λo x _ e=>hh o x e,a,?_⟩;have:l.map AL.N=[]:=by simpa using k
 rw[this];rfl;rw[qf];refine Ab.lift ((kx (l.map AL.N) (by simpa using b) 164 [] [] (λr=>decide (r.cells.length=0)) (λr _=>jv r) (n:=n') (full:=full) f).mono ?_);rintro d h2 c ⟨rfl,rfl,rfl⟩;exact⟨λj x g e=>by rw[AD _ _ mq];exact hh j x e,a,rfl⟩
theorem AB.nrm_fields(x:AB):x.N.x=x.x/\x.N.code=x.code/\x.N.id=x.id/\x.N.J=x.J/\x.N.H=x.H/\x.N.W=AY x.W/\x.N.R=(x.R.map AL.N).filter λr=>!decide (r.cells.length=0):=by
 cases x;rw[AB.N];simp[AB.x,AB.code,AB.id,AB.J,AB.H,AB.W,AB.R,AY,AL.zj]
theorem J5(l:List AB)(k:Nat)(h:k<l.length):EM (AB.nrmL (l.take (k+1)))=Ah (EM (AB.nrmL (l.take k))) l[k].N:=by
 rw[qb h,AB.zj,qc,EM,vp,AB.zj];rfl
theorem Kz(out:List AB)(x:AB):(Ah out x).length<=out.length+1:=by
 unfold Ah;split;omega;split;split<;>simp;simp
theorem Oo(l:List AB):∀k,k<=l.length->(EM (AB.nrmL (l.take k))).length<=k
 | 0,_=>by simp[AB.nrmL,EM]
 | k+1,h=>by
  rw[J5 l k h];have:=Kz (EM (AB.nrmL (l.take k))) l[k].N;have:=Oo l k mq;omega
theorem K3{out:List AB}{x y:AB}(h:y∈Ah out x):y∈out\/y=x\/∃z∈out,y=z.zb x.J:=by
 unfold Ah at h;split at h;exact .inl h;split at h;rename_i z a;split at h;rcases qd.1 h with h|h;exact .inl ((List.dropLast_sublist out).subset h);exact .inr (.inr ⟨z,List.mem_of_getLast? a,qw.1 h⟩);rcases qd.1 h with h|h;exact .inl h;exact .inr (.inl (qw.1 h));rcases qd.1 h with h|h;exact .inl h;exact .inr (.inl (qw.1 h))
theorem LT(l:List AB)(a:∀x∈l,x.H.l/\x.J.size<=1048576):∀k,k<=l.length->∀y∈EM (AB.nrmL (l.take k)),y.H.l/\y.J.size<=k*1048576
 | 0,_,y,hy=>by simp[AB.nrmL,EM]at hy
 | k+1,h,y,hy=>by
  rw[J5 l k h]at hy;have b:=a l[k] (qn h);obtain⟨_,_,_,f4,f5,_,_⟩:=(l[k]).nrm_fields;rcases K3 hy with h1|rfl|⟨z,c,rfl⟩
  have:=LT l a k mq y h1;exact⟨this.1,by omega⟩;rw[f4,f5];exact⟨b.1,by omega⟩;have:=LT l a k mq z c;refine⟨by simpa[AB.zb,AB.H]using this.1,?_⟩;have e:(z.zb (l[k]).N.J).J.size=z.J.size+(l[k]).J.size:=by show(z.J++(l[k]).N.J).size=_;rw[ByteArray.size_append,f4]
  omega
theorem Ql(s:ByteArray):(s.toList==ByteArray.empty.toList)=decide (s.size=0):=by
 rw[<-beq_toListBytes];by_cases h:s.size=0;have:s=ByteArray.empty:=by
  obtain⟨⟨l⟩⟩:=s;cases l with
  | nil=>rfl
  | cons a l=>simp[ByteArray.size]at h
 subst this;rfl;have:s≠ByteArray.empty:=by rintro rfl;exact h rfl
 have e:(s==ByteArray.empty)=false:=by
  rw[Bool.eq_false_iff];intro e;exact this ((SY _ _).1 e)
 rw[e];simp[h]
theorem LP(s:ByteArray):s.toList=[]↔s.size=0:=by
 have h:=Ql s;have e:ByteArray.empty.toList=[]:=by
  have:=Ql ByteArray.empty;rw[ByteArray.toList_eq];rfl
 rw[e]at h;constructor;intro g;rw[g]at h;simpa using h.symm;intro g;rw[decide_eq_true g]at h;simpa using h
theorem Sc(l:List AB)(hl:l.length<=1048576)(hs:∀x∈l,x.H.l/\x.J.size<=1048576/\x.R.length<=1048576)
 (H1:∀x∈l,PC 102 [AH x.W] (AH (AY x.W))) (H2:∀x∈l,∀(i:Nat)(h:i<x.R.length),PC 163 [(x.R[i]).h] (AL.N x.R[i]).h):LC 102 [AH l] 11 ((AY l).map AB.h):=by
 intro h n;refine gq func102 rfl λho=>?_;simp[go_sem];refine BC 2 (α:=Nat×Option Nat) (λq=>[(3,AZ 11 q.2 ((EM (AB.nrmL (l.take q.1))).map AB.h)),(7,AH l),(8,AA l.length),(9,AA q.1)]) (λq=>Ae q.2 ((EM (AB.nrmL (l.take q.1))).map AB.h) h)
  (λq m=>q.1<=l.length/\n<=m/\CD n m 11 q.2 ((EM (AB.nrmL (l.take q.1))).map AB.h)) (λq=>l.length-q.1) (0,none) ?_ ?_ AC ?_
 exact⟨qj _,IO _,by simp[AB.nrmL,EM];exact wQ _ _ _⟩;simp[look,AZ];rintro⟨k,o⟩ m ⟨hk,hnm,hA⟩;dsimp only at hk hA ⊢;by_cases hlt:k<l.length
 . have w1:=wS k mq;obtain⟨x,hx⟩:∃x,l[k]=x:=⟨_,rfl⟩
   have hxm:x∈l:=by rw[<-hx];exact qn hlt
   obtain⟨hxh,hxt,hxr⟩:=hs x hxm;have hft:=J5 l k hlt;rw[hx]at hft;obtain⟨f1,f2,f3,f4,f5,f6,f7⟩:=x.nrm_fields;have hfl:=Oo l k hk;generalize hys:EM (AB.nrmL (l.take k))=ys at hA hft hfl ⊢;have hlo:∀j,o=some j->j<m:=λj e=>(hA.lt j e).2;simp[go_sem,hlt,hx,qy,AE];refine qY (by simpa[AG.h,AG.j]using NL x.H hxh) ?_;simp[go_sem,AE];refine(H1 x hxm).use ?_;simp[go_sem,AE];refine YS x.R hxr (λi hi=>H2 x hxm i hi) λv h1 m1 hm1 hh1 hcall=>?_;simp[go_sem];refine ww hcall ?_;rintro v2 h2 m2 ⟨hh2,hm2,rfl⟩;rw[<-f7];generalize hR:x.N.R=R at f7 ⊢;have em0:=hh2 m _ (vh m) (AE _ _ _);have ho2:∀j,o=some j->h2 j=some (.cells ((ys.map AB.h).flatMap SV.cells)):=λj e=>by
    have:=hlo j e;exact hh2 j _ mq (by rw[AD _ _ mq,AD _ _ mq,AD _ _ mq,AD _ _ mq];exact GF j e)
   have hacc:∀j y,Ae o (ys.map AB.h) h j=some y->j<m/\h2 j=some y:=λj y e=>by
    have hjm:j<m:=by
     cases o with
     | none=>have:=(ho j y e).1;omega
     | some i=>
      simp only[Ae,h_]at e;split at e;rename_i h;subst h;exact hlo _ rfl;have:=(ho j y e).1;omega
    exact⟨hjm,hh2 j _ mq (by rw[AD _ _ mq,AD _ _ mq,AD _ _ mq,AD _ _ mq];exact e)⟩
   have BA:∀j y,h j=some y->h2 j=some y:=λj y e=>(hacc j y (Ae.old ho hA j y e)).2;clear hcall hh1 hh2;rcases o with _|j
   . have hys0:ys=[]:=by simpa using hA.none rfl
     subst hys0;have happ:¬Bf x.N->Ah [] x.N=[]++[x.N]:=λhd=>by rw[Ah,mw hd];rfl
     by_cases k7:x.x=7
     . by_cases hR0:R=[];have hd:Bf x.N:=.inl ⟨by rw[f1,k7],by rw[hR,hR0]⟩;simp[go_sem,AZ,em0,AE,k7,hR0,w1,-Int.natCast_add];rw[Ah,my hd]at hft;refine⟨k+1,by omega,none,⟨by omega,by omega,by rw[hft];exact hA.mono mq⟩,⟨by rw[hft];first|exact Or|(simp[AZ,Or]),Or⟩,λi y e=>?_⟩;rw[hft]at e;obtain⟨g1,g2⟩:=hacc i y e;rw[AD _ _ mq];exact g2
       . have hd:¬Bf x.N:=by rintro(⟨_,g⟩|⟨g,_⟩);exact hR0 (by rw[<-hR,g]);rw[f1,k7]at g;exact absurd g (by decide)
         rw[happ hd]at hft;simp[go_sem,AZ,em0,AE,k7,hR0]
         repeat first|refine nq ?_|refine sq ?_|refine aq ?_
         rw[PZ (e:=x.N.h) (t:=22) (t2:=22) (el:=80) (z:=11) ms ms ms mr ms ms ms (AB.E.len _) ?a1]
         case a1=>simp[AE,qy,SV.cells,f1,f2,f3,f4,f5,f6,hR,k7]
         simp[go_sem,w1,-Int.natCast_add];refine⟨k+1,by omega,some (m2+1),⟨by omega,by omega,by rw[hft,qc];exact hA.push (AB.E.st _) (AB.E.len _) mq mq⟩,⟨by rw[hft];simp[Or],Or⟩,?_⟩;rw[hft,qc];have:=EG (p:=m2+1) (v:=.sl (m2+1) 0 11 (1) false) (e:=x.N.h) ho mq hA (H:=h_ (h_ h2 m (some (.cells x.N.h.cells))) m2 (some (.cells x.N.h.cells))) (Aa ho mq (Aa ho mq BA));simpa[qy,SV.cells,Cg.app,f1,f2,f3,f4,f5,f6,hR,k7]using this
     . by_cases k1:x.x=1
       . by_cases ht:x.J.size=0;have hd:Bf x.N:=.inr ⟨by rw[f1,k1],by rw[f4,ht]⟩;simp[go_sem,AZ,em0,AE,k1,(LP _).2 ht,w1,-Int.natCast_add];rw[Ah,my hd]at hft;refine⟨k+1,by omega,none,⟨by omega,by omega,by rw[hft];exact hA.mono mq⟩,⟨by rw[hft];first|exact Or|(simp[AZ,Or]),Or⟩,λi y e=>?_⟩;rw[hft]at e;obtain⟨g1,g2⟩:=hacc i y e;rw[AD _ _ mq];exact g2
         . have hd:¬Bf x.N:=by rintro(⟨g,_⟩|⟨_,g⟩);rw[f1,k1]at g;exact absurd g (by decide);exact ht (by rw[<-f4,g])
           rw[happ hd]at hft;simp[go_sem,AZ,em0,AE,k1,mt (LP _).1 ht]
           repeat first|refine nq ?_|refine sq ?_|refine aq ?_
           rw[PZ (e:=x.N.h) (t:=22) (t2:=22) (el:=80) (z:=11) ms ms ms mr ms ms ms (AB.E.len _) ?a1]
           case a1=>simp[AE,qy,SV.cells,f1,f2,f3,f4,f5,f6,hR,k1]
           simp[go_sem,w1,-Int.natCast_add];refine⟨k+1,by omega,some (m2+1),⟨by omega,by omega,by rw[hft,qc];exact hA.push (AB.E.st _) (AB.E.len _) mq mq⟩,⟨by rw[hft];simp[Or],Or⟩,?_⟩;rw[hft,qc];have:=EG (p:=m2+1) (v:=.sl (m2+1) 0 11 (1) false) (e:=x.N.h) ho mq hA (H:=h_ (h_ h2 m (some (.cells x.N.h.cells))) m2 (some (.cells x.N.h.cells))) (Aa ho mq (Aa ho mq BA));simpa[qy,SV.cells,Cg.app,f1,f2,f3,f4,f5,f6,hR,k1]using this
       . have hd:¬Bf x.N:=by rintro(⟨g,_⟩|⟨g,_⟩);rw[f1]at g;exact k7 g;rw[f1]at g;exact k1 g
         rw[happ hd]at hft;simp[go_sem,AZ,em0,AE,k1,k7]
         repeat first|refine nq ?_|refine sq ?_|refine aq ?_
         rw[PZ (e:=x.N.h) (t:=22) (t2:=22) (el:=80) (z:=11) ms ms ms mr ms ms ms (AB.E.len _) ?a1]
         case a1=>simp[AE,qy,SV.cells,f1,f2,f3,f4,f5,f6,hR]
         simp[go_sem,w1,-Int.natCast_add];refine⟨k+1,by omega,some (m2+1),⟨by omega,by omega,by rw[hft,qc];exact hA.push (AB.E.st _) (AB.E.len _) mq mq⟩,⟨by rw[hft];simp[Or],Or⟩,?_⟩;rw[hft,qc];have:=EG (p:=m2+1) (v:=.sl (m2+1) 0 11 (1) false) (e:=x.N.h) ho mq hA (H:=h_ (h_ h2 m (some (.cells x.N.h.cells))) m2 (some (.cells x.N.h.cells))) (Aa ho mq (Aa ho mq BA));simpa[qy,SV.cells,Cg.app,f1,f2,f3,f4,f5,f6,hR,k1]using this
   . have hj:j<m:=hlo j rfl;have hjm:j≠m:=by omega
     have ho2:=ho2 j rfl;have happ:¬Bf x.N->x.x≠1->Ah ys x.N=ys++[x.N]:=λhd hk=>by
      rw[Ah,mw hd];split;rw[mw (by rw[f1];exact λg=>hk g.1)];rfl
     by_cases k7:x.x=7
     . by_cases hR0:R=[];have hd:Bf x.N:=.inl ⟨by rw[f1,k7],by rw[hR,hR0]⟩;simp[go_sem,AZ,em0,AE,k7,hR0,w1,-Int.natCast_add];rw[Ah,my hd]at hft;refine⟨k+1,by omega,some j,⟨by omega,by omega,by rw[hft];exact hA.mono mq⟩,⟨by rw[hft];first|exact Or|(simp[AZ,Or]),Or⟩,λi y e=>?_⟩;rw[hft]at e;obtain⟨g1,g2⟩:=hacc i y e;rw[AD _ _ mq];exact g2
       . have hd:¬Bf x.N:=by rintro(⟨_,g⟩|⟨g,_⟩);exact hR0 (by rw[<-hR,g]);rw[f1,k7]at g;exact absurd g (by decide)
         rw[happ hd mq]at hft;simp[go_sem,AZ,em0,AE,k7,hR0]
         repeat first|refine nq ?_|refine sq ?_|refine aq ?_
         rw[NH (es:=ys.map AB.h) (e:=x.N.h) (t:=22) (t2:=22) (el:=80) (z:=11) ms ms ms mr ms ms ms (by simp;omega) hA (AB.E.len _) ?a1 ?a2 _ mr]
         case a1=>simp[AE,qy,SV.cells,f1,f2,f3,f4,f5,f6,hR,k7]
         case a2=>rw[AD _ _ mq,AD _ _ mq];exact ho2
         simp[go_sem,w1,-Int.natCast_add];refine⟨k+1,by omega,some (m2+1),⟨by omega,by omega,by rw[hft,qc];exact hA.push (AB.E.st _) (AB.E.len _) mq mq⟩,⟨by rw[hft];simp[Or],Or⟩,?_⟩;rw[hft,qc];have:=EG (p:=m2+1) (v:=.sl (m2+1) 0 11 ((ys.map AB.h).length+1) false) (e:=x.N.h) ho mq hA (H:=h_ (h_ h2 m (some (.cells x.N.h.cells))) m2 (some (.cells x.N.h.cells))) (Aa ho mq (Aa ho mq BA));simpa[qy,SV.cells,Cg.app,f1,f2,f3,f4,f5,f6,hR,k7]using this
     . by_cases k1:x.x=1
       . by_cases ht:x.J.size=0;have hd:Bf x.N:=.inr ⟨by rw[f1,k1],by rw[f4,ht]⟩;simp[go_sem,AZ,em0,AE,k1,(LP _).2 ht,w1,-Int.natCast_add];rw[Ah,my hd]at hft;refine⟨k+1,by omega,some j,⟨by omega,by omega,by rw[hft];exact hA.mono mq⟩,⟨by rw[hft];first|exact Or|(simp[AZ,Or]),Or⟩,λi y e=>?_⟩;rw[hft]at e;obtain⟨g1,g2⟩:=hacc i y e;rw[AD _ _ mq];exact g2
         . have hd:¬Bf x.N:=by rintro(⟨g,_⟩|⟨_,g⟩);rw[f1,k1]at g;exact absurd g (by decide);exact ht (by rw[<-f4,g])
           rcases List.eq_nil_or_concat ys with rfl|⟨ys',y,rfl⟩
           . have hft':Ah [] x.N=[]++[x.N]:=by rw[Ah,mw hd];rfl
             rw[hft']at hft;simp[go_sem,AZ,em0,AE,k1,mt (LP _).1 ht]
             repeat first|refine nq ?_|refine sq ?_|refine aq ?_
             rw[NH (es:=[].map AB.h) (e:=x.N.h) (t:=22) (t2:=22) (el:=80) (z:=11) ms ms ms mr ms ms ms mr hA (AB.E.len _) ?a1 ?a2 _ mr]
             case a1=>simp[AE,qy,SV.cells,f1,f2,f3,f4,f5,f6,hR,k1]
             case a2=>rw[AD _ _ mq,AD _ _ mq];exact ho2
             simp[go_sem,w1,-Int.natCast_add];refine⟨k+1,by omega,some (m2+1),⟨by omega,by omega,by rw[hft,qc];exact hA.push (AB.E.st _) (AB.E.len _) mq mq⟩,⟨by rw[hft];simp[Or],Or⟩,?_⟩;rw[hft,qc];have:=EG (p:=m2+1) (v:=.sl (m2+1) 0 11 1 false) (e:=x.N.h) ho mq hA (H:=h_ (h_ h2 m (some (.cells x.N.h.cells))) m2 (some (.cells x.N.h.cells))) (Aa ho mq (Aa ho mq BA));simpa[qy,SV.cells,Cg.app,f1,f2,f3,f4,f5,f6,hR,k1]using this
           . rw[List.concat_eq_append]at *;have hym:=LT l (λx hx=>⟨(hs x hx).1,(hs x hx).2.1⟩) k hk y (by rw[hys];simp);have hl':(ys'++[y]).length=ys'.length+1:=by simp
             have w2:IntKind.i64.wrap (ys'.length:Int)=(ys'.length:Int):=by rw[EU]<;>omega
             have hpos:(0:Int)<(ys'.length:Int)+1:=by omega
             have hpos2:(ys'.length:Int)<(ys'.length:Int)+1:=by omega
             have hAl:((ys'.map AB.h).flatMap SV.cells).length=ys'.length*11:=by rw[Bq (AB.E.size ys'),qf]
             have ho3:h2 j=some (.cells ((ys'.map AB.h).flatMap SV.cells++y.h.cells)):=by rw[ho2];simp
             rw[qy y]at ho3;simp only[SV.cells]at ho3;generalize hA':(ys'.map AB.h).flatMap SV.cells=A at hAl ho3;by_cases hy1:y.x=1
             . simp[go_sem,AZ,em0,AE,AD,hjm,k1,mt (LP _).1 ht,ho3,w2,hpos,hpos2,<-hAl,hy1]
               repeat first|refine nq ?_|refine sq ?_|refine aq ?_
               refine vy _ _ _ _ _ _ (by simpa[AG.h,AG.j]using c58 y.H x.H hym.1 hxh) ?_;by_cases hhd:y.H=x.H
               . have hcat:y.J.size+x.J.size<=9223372036854775807:=by have:=hym.2;omega
                 have hft':Ah (ys'++[y]) x.N=ys'++[y.zb x.J]:=by
                  rw[Ah,mw hd,wt];simp only;rw[my ⟨by rw[f1,k1],hy1,by rw[hhd,f5]⟩,List.dropLast_concat,f4]
                 rw[hft']at hft;simp[go_sem,hhd,AE,AD,hjm,ho3,w1,w2,<-hAl,hcat,List.take_length_add_append,-Int.natCast_add]
                 repeat first|refine nq ?_|refine sq ?_|refine aq ?_
                 refine⟨k+1,by omega,some j,⟨by omega,by omega,?_⟩,⟨by rw[hft];simp[Or],Or⟩,λi y' e=>?_⟩;rw[hft];exact⟨by simp,λi e=>⟨(hA.lt i e).1,by have:=(hA.lt i e).2;omega⟩,AB.E.size _⟩;rw[hft]at e;simp only[Ae]at e;by_cases e1:i=j;subst e1;rw[AE]at e ⊢;rw[<-e];have ec:(y.zb x.J).h.cells=[AA y.x,AA y.code,AA y.id,.str (y.J++x.J),AO y.H.Q,AA y.H.I,AA y.H.move,AX y.H.Y,AN y.H.Z,AH y.W,Au y.R]:=by rw[qy];rfl
                 rw[qc,qH,hA',List.map_singleton,List.flatMap_singleton,ec,hhd];simp[qq];rw[AD _ _ e1]at e;obtain⟨g1,g2⟩:=hacc i y' (by simp only[Ae];rw[AD _ _ e1];exact e);rw[AD _ _ e1,AD _ _ mq];exact g2
               . have hft':Ah (ys'++[y]) x.N=(ys'++[y])++[x.N]:=by
                  rw[Ah,mw hd,wt];simp only;rw[mw (by rw[f5];exact λg=>hhd g.2.2)]
                 rw[hft']at hft;simp[go_sem,hhd,AE]
                 repeat first|refine nq ?_|refine sq ?_|refine aq ?_
                 rw[NH (es:=(ys'++[y]).map AB.h) (e:=x.N.h) (t:=22) (t2:=22) (el:=80) (z:=11) ms ms ms mr ms ms ms (by simp;omega) hA (AB.E.len _) ?a1 ?a2 _ mr]
                 case a1=>simp[AE,qy,SV.cells,f1,f2,f3,f4,f5,f6,hR,k1]
                 case a2=>rw[AD _ _ mq,AD _ _ mq];exact ho2
                 simp[go_sem,w1,-Int.natCast_add];refine⟨k+1,by omega,some (m2+1),⟨by omega,by omega,by rw[hft,qc];exact hA.push (AB.E.st _) (AB.E.len _) mq mq⟩,⟨by rw[hft];simp[Or],Or⟩,?_⟩;rw[hft,qc];have:=EG (p:=m2+1) (v:=.sl (m2+1) 0 11 (((ys'++[y]).map AB.h).length+1) false) (e:=x.N.h) ho mq hA (H:=h_ (h_ h2 m (some (.cells x.N.h.cells))) m2 (some (.cells x.N.h.cells))) (Aa ho mq (Aa ho mq BA));simpa[qy,SV.cells,Cg.app,f1,f2,f3,f4,f5,f6,hR,k1]using this
             . simp[go_sem,AZ,em0,AE,AD,hjm,k1,mt (LP _).1 ht,ho3,w2,hpos,hpos2,<-hAl,hy1]
               repeat first|refine nq ?_|refine sq ?_|refine aq ?_
               have hft':Ah (ys'++[y]) x.N=(ys'++[y])++[x.N]:=by
                rw[Ah,mw hd,wt];simp only;rw[mw (λg=>hy1 g.2.1)]
               rw[hft']at hft;rw[NH (es:=(ys'++[y]).map AB.h) (e:=x.N.h) (t:=22) (t2:=22) (el:=80) (z:=11) ms ms ms mr ms ms ms (by simp;omega) hA (AB.E.len _) ?a1 ?a2 _ mr]
               case a1=>simp[AE,qy,SV.cells,f1,f2,f3,f4,f5,f6,hR,k1]
               case a2=>rw[AD _ _ mq,AD _ _ mq];exact ho2
               simp[go_sem,w1,-Int.natCast_add];refine⟨k+1,by omega,some (m2+1),⟨by omega,by omega,by rw[hft,qc];exact hA.push (AB.E.st _) (AB.E.len _) mq mq⟩,⟨by rw[hft];simp[Or],Or⟩,?_⟩;rw[hft,qc];have:=EG (p:=m2+1) (v:=.sl (m2+1) 0 11 (((ys'++[y]).map AB.h).length+1) false) (e:=x.N.h) ho mq hA (H:=h_ (h_ h2 m (some (.cells x.N.h.cells))) m2 (some (.cells x.N.h.cells))) (Aa ho mq (Aa ho mq BA));simpa[qy,SV.cells,Cg.app,f1,f2,f3,f4,f5,f6,hR,k1]using this
       . have hd:¬Bf x.N:=by rintro(⟨g,_⟩|⟨g,_⟩);rw[f1]at g;exact k7 g;rw[f1]at g;exact k1 g
         rw[happ hd k1]at hft;simp[go_sem,AZ,em0,AE,k1,k7]
         repeat first|refine nq ?_|refine sq ?_|refine aq ?_
         rw[NH (es:=ys.map AB.h) (e:=x.N.h) (t:=22) (t2:=22) (el:=80) (z:=11) ms ms ms mr ms ms ms (by simp;omega) hA (AB.E.len _) ?a1 ?a2 _ mr]
         case a1=>simp[AE,qy,SV.cells,f1,f2,f3,f4,f5,f6,hR]
         case a2=>rw[AD _ _ mq,AD _ _ mq];exact ho2
         simp[go_sem,w1,-Int.natCast_add];refine⟨k+1,by omega,some (m2+1),⟨by omega,by omega,by rw[hft,qc];exact hA.push (AB.E.st _) (AB.E.len _) mq mq⟩,⟨by rw[hft];simp[Or],Or⟩,?_⟩;rw[hft,qc];have:=EG (p:=m2+1) (v:=.sl (m2+1) 0 11 ((ys.map AB.h).length+1) false) (e:=x.N.h) ho mq hA (H:=h_ (h_ h2 m (some (.cells x.N.h.cells))) m2 (some (.cells x.N.h.cells))) (Aa ho mq (Aa ho mq BA));simpa[qy,SV.cells,Cg.app,f1,f2,f3,f4,f5,f6,hR,k1]using this
 have:k=l.length:=by omega
 subst this;rw[qp]at hA ⊢;simp[go_sem];exact .inl (MY ho hA AC hnm (IO _))
theorem Zf(x:AF)(b:x.H.l)(H:PC 102 [AH x.W] (AH (AY x.W))):PC 213 [x.h] (AF.N x).h:=by
 intro h n;refine gq func213 rfl λa=>?_;have e:(AF.N x).h=.agg [AA x.id,AO x.H.Q,AA x.H.I,AA x.H.move,AX x.H.Y,AN x.H.Z,AH (AY x.W)]:=by cases x;rw[AF.N,vD];rfl
 rw[e];simp[go_sem,vD,AE,AD]
 repeat first|refine nq ?_|refine sq ?_|refine aq ?_
 refine vy _ _ _ _ _ _ (by simpa[AG.h,AG.j]using NL x.H b) ?_;simp[go_sem,AE,AD]
 repeat first|refine nq ?_|refine sq ?_|refine aq ?_
 refine vy _ _ _ _ _ _ H ?_;simp[go_sem,AE]
 repeat first|refine nq ?_|refine sq ?_|refine aq ?_
 exact Bt a (by repeat(first|exact AC|refine Aa a mq ?_)) rfl (by rw[<-e];exact AF.cl n _)
theorem Za(x:AL)(c:x.H.l)(b:x.cells.length<=1048576)(H:∀(i:Nat)(h:i<x.cells.length),PC 213 [(x.cells[i]).h] (AF.N x.cells[i]).h):PC 163 [x.h] (AL.N x).h:=by
 intro h n;refine gq func163 rfl λa=>?_;have h1:=(gv x.cells b 213 [] [] AF.N (λi hi=>H i hi)).pc (AF.E.size _) (λn=>AF.E.c_ n _);have e:(AL.N x).h=.agg [AO x.H.Q,AA x.H.I,AA x.H.move,AX x.H.Y,AN x.H.Z,BS (x.cells.map AF.N)]:=by cases x;rw[AL.N,qR,AF.zj];rfl
 rw[e];simp[go_sem,qR,AE,AD,-List.map_map]
 repeat first|refine nq ?_|refine sq ?_|refine aq ?_
 refine vy _ _ _ _ _ _ (by simpa[AG.h,AG.j]using NL x.H c) ?_;simp[go_sem,AE,AD,-List.map_map]
 repeat first|refine nq ?_|refine sq ?_|refine aq ?_
 refine vy _ _ _ _ _ _ h1 ?_;simp[go_sem,AE,-List.map_map]
 repeat first|refine nq ?_|refine sq ?_|refine aq ?_
 exact Bt a (by repeat(first|exact AC|refine Aa a mq ?_)) rfl (by rw[<-e];exact AL.cl n _)
theorem dD{l:List AB}(H:LC 102 [AH l] 11 ((AY l).map AB.h)):PC 102 [AH l] (AH (AY l)):=H.pc (AB.E.size _) λn=>AB.E.c_ n _
theorem EQ{x:AB}(h:x.l):x.H.l/\x.J.size<=1048576/\x.R.length<=1048576:=by cases x;rw[AB.l]at h;exact⟨h.2.1,h.1,h.2.2.2.1⟩
def NI(x:AB):Prop:=PC 102 [AH x.W] (AH (AY x.W))/\∀(i:Nat)(h:i<x.R.length),PC 163 [(x.R[i]).h] (AL.N x.R[i]).h
mutual
theorem cNI:∀x:AB,x.l->NI x
 | .mk k c i t hd f r,hs=>by
  rw[AB.l]at hs;refine⟨dD (Sc f hs.2.2.1 (λx a=>EQ (wO hs.2.2.2.2.1 x a)) (λx a=>(Sd f hs.2.2.2.2.1 x a).1) λx a=>(Sd f hs.2.2.2.2.1 x a).2),?_⟩;exact ap r hs.2.2.2.2.2
theorem Sd:∀l:List AB,AB.G l->∀x∈l,NI x
 | [],_,x,h=>by simp at h
 | y::l,hs,x,h=>by
  rw[AB.G]at hs;rcases qe.1 h with h|h;rw[h];exact cNI y hs.1;exact Sd l hs.2 x h
theorem ju:∀x:AL,x.l->PC 163 [x.h] (AL.N x).h
 | .mk hd c,hs=>by
  rw[AL.l]at hs;exact Za (.mk hd c) hs.1 hs.2.1 (av c hs.2.2)
theorem ap:∀l:List AL,AL.G l->∀(i:Nat)(h:i<l.length),PC 163 [(l[i]).h] (AL.N l[i]).h
 | [],_,i,h=>by simp at h
 | x::l,hs,0,_=>by rw[AL.G]at hs;exact ju x hs.1
 | x::l,hs,i+1,h=>by rw[AL.G]at hs;exact ap l hs.2 i (by simpa using h)
theorem kF:∀x:AF,x.l->PC 213 [x.h] (AF.N x).h
 | .mk i hd f,hs=>by
  rw[AF.l]at hs;exact Zf (.mk i hd f) hs.1 (dD (Sc f hs.2.1 (λx a=>EQ (wO hs.2.2 x a)) (λx a=>(Sd f hs.2.2 x a).1) λx a=>(Sd f hs.2.2 x a).2))
theorem av:∀l:List AF,AF.G l->∀(i:Nat)(h:i<l.length),PC 213 [(l[i]).h] (AF.N l[i]).h
 | [],_,i,h=>by simp at h
 | x::l,hs,0,_=>by rw[AF.G]at hs;exact kF x hs.1
 | x::l,hs,i+1,h=>by rw[AF.G]at hs;exact av l hs.2 i (by simpa using h)
end
theorem l73(l:List AB)(c:l.length<=1048576)(b:AB.G l):LC 102 [AH l] 11 ((AY l).map AB.h):=
 Sc l c (λx a=>EQ (wO b x a)) (λx a=>(Sd l b x a).1) λx a=>(Sd l b x a).2
theorem c73(l:List AB)(a:l.length<=1048576)(b:AB.G l):PC 102 [AH l] (AH (AY l)):=dD (l73 l a b)
def Jm(r:By):Int:=
 if r.id<1\/1073741824<r.id then 18 else if r.O.size=0 then 11 else if 40<r.O.size then 10 else if Ci r.O=false then 12 else if r.time<0\/1099511627776<r.time then 40 else 0
def QG(l:List By)(i:Nat):Int:=match l[i]? with
 | some r=>if Jm r=0 then if i=0 then 0 else match l[i-1]? with|some q=>if FU r.id q.id=0 then 7 else if FU r.id q.id = -1 then 6 else 0|none=>0 else Jm r
 | none=>0
def HS(l:List By):Int:=if 256<l.length then 9 else CI (QG l) l.length
theorem Sb(c:Nat->Int)(n:Nat)(h:(BY c n).2=true):(BY c n).1<n:=by
 simp only[BY,decide_eq_true_eq]at h ⊢;exact h.1
section
variable{F:Fence}{n:Nat}{P:Program}{ops:Array Oper}{Q:Exit->Act->World->Prop}{S:World->Prop}{md:Region.Mode}
def FG(P:Program)(ops:Array Oper)(S:World->Prop)(o:Oper)(v:Value)(a:Act):Prop:=YieldsIf P ops S o v a/\∀w,o.about P w a.eval=none
theorem FG.wpOpIn{i:Nat}{o:Oper}{v:Value}{a:Act}(c:F.round=none)(hi:ops[i]? = some o)(e:FG P ops S o v a)
 {K:Act->World->Prop} {w:World} (g:S w) (h:K (a.put o.dst v) w):wpOpIn F n P ops Q i K a w:=by
 unfold Go.wpOpIn;simp only[hi];have b:∀f,o.about P w a.eval=some f->F.fn f:=λf d=>by rw[e.2 w]at d;cases d
 rcases e.1 with⟨hw,hv⟩|⟨hw,rfl⟩
 simp only[hw,if_true,Oper.wpIn,c,Oper.semAt_none,hv w g,Oper.uponIn];exact⟨b,h⟩;simp only[hw,qt,if_false];exact⟨b,h⟩
theorem FG.of_same{o:Oper}{v:Value}{a a':Act}(b:FG P ops S o v a)(c:execOp a'.eval o=execOp a.eval o)
 (hw:Region.wanted o (yielded ops a'.tmps)=Region.wanted o (yielded ops a.tmps)) (hb:∀w,o.about P w a'.eval=o.about P w a.eval):FG P ops S o v a':=
 ⟨b.1.of_same c hw,λw=>by rw[hb w];exact b.2 w⟩
theorem SJ{j:Nat}{oi oj:Oper}{v:Value}(hro:F.round=none)(hj:ops[j]? = some oj)(hap:oi.apart ops oj=true)
 (hsi:∀cs b,oi.op≠.select cs b) (hsj:∀cs b,oj.op≠.select cs b)
 (hQ:∀c a w,Q (.panic c) (a.put oi.dst v) w->Q (.panic c) a w) {K:Act->World->Prop} {a:Act} {w:World}
 (hy:FG P ops S oi v a) (h:wpOpIn F n P ops Q j K (a.put oi.dst v) w):
 wpOpIn F n P ops Q j (λa' w'=>FG P ops S oi v a'/\K (a'.put oi.dst v) w') a w:=by
 obtain⟨h1,h2,h3⟩:=Oper.apart_spec hap;have keep:∀(a:Act),FG P ops S oi v a->∀u,FG P ops S oi v (a.put oj.dst u):=λa hy u=>
  hy.of_same (execOp_put oi hsi a oj.dst u h3) (wanted_put oi a oj.dst u h3) (λw=>about_put oi w a oj.dst u h3)
 have keepD:∀d,FG P ops S oi v { a with defers:=d::a.defers }:=λd=>hy.of_same rfl rfl (λ_=>rfl);unfold wpOpIn at *;simp only[hj]at *;rw[wanted_put oj a oi.dst v h1,about_put oj w a oi.dst v h1]at h;split
 . rename_i hw;simp only[hw,if_true]at h;unfold Oper.wpIn at *;rw[about_put oj w a oi.dst v h1]at h;refine⟨h.1,?_⟩;have h:=h.2;rw[hro,Oper.semAt_none,execOp_put oj hsj a oi.dst v h1]at h;rw[hro,Oper.semAt_none];generalize(execOp a.eval oj).run P w=r at *;cases r with
   | ok x w' =>
    cases x<;>simp only[Oper.uponIn]at h ⊢
    case value u=>exact⟨keep a hy u,by rw[<-Act.put_comm a v u h2];exact h⟩
    case skip=>exact⟨keep a hy _,by rw[<-Act.put_comm a v undef h2];exact h⟩
    case defer d=>
     refine⟨keep _ (keepD d) _,?_⟩;rw[<-Act.put_comm _ v undef h2,<-Act.put_defers];exact h
    case enter f args=>
     refine⟨h.1,CallsIn.mono h.2 λe w'' he=>?_⟩;cases e with
     | returned u=>exact⟨keep a hy u,by rw[<-Act.put_comm a v u h2];exact he⟩
     | panicked c=>exact hQ _ _ _ he
     | outgrown=>exact he
    case row row args=>exact⟨h.1,RowsIn.mono h.2 λu w'' he=>⟨keep a hy u,by rw[<-Act.put_comm a v u h2];exact he⟩⟩
    case round l f tmps assign body=>
     refine⟨h.1,RoundIn.mono h.2 λe w'' he=>?_⟩;cases e with
     | returned u=>exact⟨keep a hy u,by rw[<-Act.put_comm a v u h2];exact he⟩
     | panicked c=>exact hQ _ _ _ he
     | outgrown=>exact he
   | halt x w'=>
    cases x<;>simp only[Oper.uponIn]at h ⊢
    case panic u=>exact hQ _ _ _ h
 rename_i hw;simp only[hw]at h;exact⟨h.1,keep a hy _,by rw[<-Act.put_comm a v undef h2];exact h.2⟩
def KU(F:Fence)(n:Nat)(P:Program)(md:Region.Mode)(ops:Array Oper)(Q:Exit->Act->World->Prop)(S:World->Prop):Nat->Array Bool->Act->World->Prop
 | 0,listed,a,w=>Region.ready md ops listed=[]/\Q .normal a w
 | fuel+1,listed,a,w=>
  (Region.ready md ops listed=[]->Q .normal a w)/\
  ∀i∈Region.ready md ops listed,wpOpIn F n P ops Q i (λa' w'=>S w'/\KU F n P md ops Q S fuel (listed.setIfInBounds i true) a' w') a w
theorem GS:∀(b:Nat)(c:Array Bool)(a:Act)(w:World),KU F n P md ops Q S b c a w->wpAnyIn F n P md ops Q b c a w
 | 0,_,_,_,h=>h
 | b+1,_,_,_,h=>⟨h.1,λi hi=>wpOpIn_mono (λa' w' h'=>GS b _ a' w' h'.2) (h.2 i hi)⟩
theorem Ec{i:Nat}{t:Oper}{v:Value}(s:F.round=none)(hi:ops[i]? = some t)(q:∀(j:Nat)(o:Oper) x b,ops[j]? = some o->o.op≠.select x b)
 (L:∀c a w,Q (.panic c) (a.put t.dst v) w->Q (.panic c) a w):
 ∀(f:Nat)(d:Array Bool)(a:Act)(w:World),
  (∀j u,ops[j]? = some u->j≠i->d.getD j true=false->(∀e∈u.after,Region.binds md e=true->e.on≠i)->t.apart ops u=true)->
  i∈Region.ready md ops d->FG P ops S t v a->S w->
  KU F n P md ops Q S f (d.setIfInBounds i true) (a.put t.dst v) w->KU F n P md ops Q S (f+1) d a w:=by
 intro f
 induction f with
 | zero=>
  intro d a w _ hr G y H;refine⟨λh=>(by rw[h]at hr;cases hr),λj E=>?_⟩;by_cases g:j=i;subst g;exact G.wpOpIn s hi y ⟨y,H⟩;have:=ready_mono E g;rw[H.1]at this;cases this
 | succ f ih=>
  intro d a w l hr G y H;refine⟨λh=>(by rw[h]at hr;cases hr),λj E=>?_⟩;by_cases g:j=i;subst g;exact G.wpOpIn s hi y ⟨y,H⟩;have h1:=H.2 j (ready_mono E g);obtain⟨p,u,r,z⟩:=mem_ready.1 E;have B:∀e∈u.after,Region.binds md e=true->e.on≠i:=λe M hb I=>by
   have h1:=z e M hb;have h0:=(mem_ready.1 hr).1;rw[I]at h1;rcases vq i d.size with h'|h';simp[h']at h0 h1;rw[h0]at h1;cases h1;simp[vt h']at h1
  have h2:=SJ s r (l j u r g p B) (λx b=>q i t x b hi) (λx b=>q j u x b r) L G h1;have m:∀k ok,ops[k]? = some ok->k≠i->(d.setIfInBounds j true).getD k true=false->
   (∀e∈ok.after,Region.binds md e=true->e.on≠i)->t.apart ops ok=true:=λk ok hk J C K=>by
   refine l k ok hk J ?_ K;by_cases A:j=k;subst A;exact p;rw[getD_set_ne true A]at C;exact C
  refine wpOpIn_mono (λa' w' D=>⟨D.2.1,ih (d.setIfInBounds j true) a' w' m (ready_mono hr (Ne.symm g)) D.1 D.2.1 ?_⟩) h2;rw[Array.setIfInBounds_comm _ _ g];exact D.2.2
end
def IR(P:Program)(st:Bool)(ev:Operand->SV):Op->Option SV
 | .move x|.assign x=>some (ev x)
 | .fieldAddr t x i=>Gm P t (ev x) i
 | .load t a=>match st,ev a with|true,.q cs=>(Cb cs 0 (Bj P t)).bind (SN (GH P t))|_,_=>none
 | .indexAddr t x i=>match ev x,ev i with|.y z es f,.int _ n=>if(A5 P t).isSome then Gu P t (.y z es f) n else none|_,_=>none
 | .slice t x lo hi mx=>match ev x with|.y z es f=>HZ P t (.y z es f) (lo.map ev) (hi.map ev) (mx.map ev)|_=>none
 | .extract x i=>match ev x with|.tup vs=>vs[i]? | _=>none
 | .unOp op _ x=>match op,ev x with|.not,.bool b=>some (.bool !b)|_,_=>none
 | .pick x a b=>match ev x with|.bool t=>some (if t then ev a else ev b)|_=>none
 | .makeFunc f a b=>some (.fn f (a.toList.map ev) (b.toList.map ev))
 | .nilCheck x=>match ev x with|.ptr o a=>some (.ptr o a)|.q cs=>some (.q cs)|_=>none
 | .call { callee:=.builtin .min,args,.. }=>match args.toList with|[x,y]=>(match ev x,ev y with|.int k a,.int k' b=>if k=k' then some (.int k (if b<a then b else a))else none|_,_=>none)|_=>none
 | .call { callee:=.builtin .max,args,.. }=>match args.toList with|[x,y]=>(match ev x,ev y with|.int k a,.int k' b=>if k=k' then some (.int k (if b>a then b else a))else none|_,_=>none)|_=>none
 | .binOp op _ x y _=>match ev x,ev y with|.int k a,.int k' b=>if op≠.shl/\op≠.shr/\k=k' then(Il op k a b)else none|_,_=>none
 | .call { callee:=.builtin .len,args,argTypes }=>match argTypes.toList,args.toList with|[t],[x]=>(match ev x with|.y _ es _=>if(A5 P t).isSome then some (.int .i64 es.length)else none|_=>none)|_,_=>none
 | _=>none
def Qh(P:Program)(ev:Operand->Value)(o:Oper)(c:Cx)(v:SV)(W:World->Prop):Prop:=∃u,V c v u/\∀w,W w->(execOp ev o).run P w=.ok (.value u) w
section
variable{P:Program}{ev:Operand->Value}{o:Oper}{c:Cx}{evs:Operand->SV}
theorem VY{t:TypeId}{x:Operand}{v:SV}{l:List SV}(s:o.op=.load t x)(e:evs x=.q l)(k:(Cb l 0 (Bj P t)).bind (SN (GH P t))=some v)(hv:V c (evs x) (ev x)):
 Qh P ev o c v λw=>∃d,d.w=w/\DV c d:=by
 rw[e,V]at hv;obtain⟨a,vs,u,j,n,h⟩:=hv;rw[BE]at n;cases ht:Cb l 0 (Bj P t)with
 | none=>simp[ht]at k
 | some r =>
  simp only[ht,qN]at k;obtain⟨hle,rfl⟩:=E4 ht;simp only[vT]at k;have p:=n.take (Bj P t);have m:∀x∈vs.take (Bj P t),x.oneCell'=true:=λx e=>j.one x (vA e);have f:(vs.take (Bj P t)).length=Bj P t:=by have:=n.length;simp;omega
  have b:∀d:Cx,DV c d->∀i x,(vs.take (Bj P t))[i]? = some x->d.w.cell? ⟨a.block,a.off+i,none⟩=some x:=λd X i x e=>by
   rw[vK]at e;split at e;exact(j.mono X).cell _ _ e;cases e
  rcases Ma k p m with⟨g,hv⟩|⟨g,x,e,hv⟩
  refine⟨_,hv,?_⟩;rintro w ⟨d,rfl,X⟩;simp[execOp,s,u,Instr.loadAt,Instr.sureAddr,(EY h g f (b d X)).1 rfl];refine⟨_,hv,?_⟩;rintro w ⟨d,rfl,X⟩;simp[execOp,s,u,Instr.loadAt,Instr.sureAddr,(EY h g f (b d X)).2 rfl x e]
theorem TP{t:TypeId}{x:Operand}{i:Nat}{v:SV}(G:o.op=.fieldAddr t x i)(e:Gm P t (evs x) i=some v)(r:V c (evs x) (ev x)):Qh P ev o c v λ_=>True:=by
 simp only[Gm]at e;cases g:IL P t i with
 | none=>simp[g]at e
 | some q=>
  obtain⟨off,C⟩:=q;simp only[g]at e;by_cases B:Bj P C=0;simp[B]at e
  . simp only[B,if_false]at e;obtain⟨u,f,y,l,rfl,rfl⟩:∃u f,P.underlying t=some (.struct u)/\u[i]? = some f/\f.offset=off/\f.type=C:=by
     unfold IL at g;cases y:P.underlying t with
     | none=>simp[y]at g
     | some d=>
      cases d<;>simp only[y]at g<;>try cases g
      rename_i u;simp only[qT]at g;obtain⟨f,l,F⟩:=g;cases F;exact⟨u,f,rfl,l,rfl,rfl⟩
    obtain⟨s,hi,hsz⟩:∃s,P.info? f.type=some s/\Bj P f.type=s.size:=by
     cases hi:P.info? f.type with
     | none=>simp[Bj,Program.cellsOf,hi]at B
     | some s=>exact⟨s,rfl,by simp[Bj,Program.cellsOf,hi]⟩
    have z:∀(a:Addr)(w:World),(fieldPlace a f).run P w=.ok (a.add f.offset) w:=λa w=>by
     simp[fieldPlace,sizeOf,typeInfo,hi,show ¬s.size=0 by omega]
    have k:∀(a:Addr)(w:World),ev x=.pointer (some a)->(execOp ev o).run P w=.ok (.value (.pointer (some (a.add f.offset)))) w:=λa w D=>by
     simp[execOp,G,Instr.fieldAt,AM y,l,D,Instr.sureAddr,z]
    split at e<;>try (simp at e;done)
    rename_i j a p;cases e;rw[p,V]at r;obtain⟨b,st,hρ,n⟩:=r;refine⟨_,?_,λw _=>k _ w n⟩;rw[Gg,V];exact⟨b,st,hρ,by rw[qq]⟩;rename_i cs p;cases e;rw[p,V]at r;obtain⟨a,vs,n,m,E,A⟩:=r;refine⟨_,?_,λw _=>k _ w n⟩;rw[DY A,V];refine⟨_,vs.drop f.offset,rfl,⟨λ_=>rfl,λhv=>m.free (by rintro rfl;simp at hv),λj x p=>?_,λx r=>m.one x (vB r)⟩,BE.2 ((BE.1 E).drop _),rfl⟩;rw[vw]at p;simp only[qq];exact m.cell _ _ p
theorem TQ{t:TypeId}{x y:Operand}{A:Nat}{es:List SV}{full:Bool}{K:IntKind}{n:Int}{v:SV}(I:o.op=.indexAddr t x y)(G:evs x=.y A es full)(H:evs y=.int K n)(h:(A5 P t).isSome=true)
 (b:Gu P t (.y A es full) n=some v) (j:V c (evs x) (ev x)) (C:V c (evs y) (ev y)):Qh P ev o c v λ_=>True:=by
 rw[H]at C;have s:=Dt C;obtain⟨e,g⟩:=vW.1 h;have J:=A7 g;simp only[Gu,g]at b;by_cases z:Bj P e=0;simp[z]at b;obtain⟨ii,hi,q⟩:=GR z;simp only[z,if_false]at b;by_cases k:A=Bj P e/\0<=n;simp only[k,and_self,if_true]at b;obtain⟨l,m⟩:=k;cases f:es[n.toNat]? with
 | none=>simp[f]at b
 | some v=>
  simp only[f,vE,qm]at b;subst b;rw[G,V]at j;rcases j with⟨j,_⟩|⟨a,cap,vs,r,_,_,i,B⟩
  subst j;simp at f;subst l;have d:a.spot=none:=i.spot (λD=>by have h1:=PX B;have h2:=(qv.1 f).1;rw[D,vU]at h1;have h3:0<es.length*Bj P e:=Nat.mul_pos mq mq;omega);obtain⟨u,g1,E,g3,F,g5⟩:=RD B f;have p:n<es.length:=by have:=(qv.1 f).1;omega
  refine⟨.pointer (some ⟨a.block,a.off+n.toNat*Bj P e,none⟩),?_,λw _=>?_⟩;rw[V];exact⟨_,u.cells.toList,rfl,by rw[<-F];exact i.sub _ _,BE.2 (g1.cells E).1,rfl⟩;simp[execOp,I,Instr.indexAt,s,asIntOf,AM J,r,m,p,sizeOf,typeInfo,hi,DY d,q]
 simp[k]at b
theorem TR{t:TypeId}{x:Operand}{lo hi mx:Option Operand}{z:Nat}{es:List SV}{full:Bool}{v:SV}(W:o.op=.slice t x lo hi mx)(I:evs x=.y z es full)(hb:HZ P t (.y z es full) (lo.map evs) (hi.map evs) (mx.map evs)=some v)
 (H:∀y∈o.op.operands,V c (evs y) (ev y)):Qh P ev o c v λ_=>True:=by
 rw[W]at H;have R:=H x (by simp[Op.operands]);have L:=Fh (c:=c) (ev:=ev) (evs:=evs) lo λy e=>H y (by subst e;simp[Op.operands]);have K:=Fh (c:=c) (ev:=ev) (evs:=evs) hi λy e=>H y (by subst e;simp[Op.operands]);have M:=Fh (c:=c) (ev:=ev) (evs:=evs) mx λy e=>H y (by subst e;simp[Op.operands]);suffices j:∃r,(∀w,(Instr.sliceAt t (ev x) (lo.map ev) (hi.map ev) (mx.map ev)).run P w=.ok r w)/\V c v r by
  obtain⟨r,hr,hv⟩:=j;exact⟨r,hv,λw _=>by simp[execOp,W,hr w]⟩
 have p:∀{s:Option SV} {G:Option Value} {d:Option Int} {n:Int} {N:Nat},Sa s d=some n->0<=n->((∀x,s=some x->∃u,G=some u/\V c x u)/\(s=none->G=none))->d=some (N:Int)->
  (G=none/\n.toNat=N)\/∃i,G=some (.int i n.toNat):=λhb h0 hv hd=>by
  rcases Qm hb hv.1 hv.2 with⟨_,e,U⟩|⟨i,e⟩
  rw[hd]at U;cases U;exact .inl ⟨e,by simp⟩;exact .inr ⟨i,by rw[e];congr 2;omega⟩
 unfold HZ at hb;rw[I]at R;dsimp only at hb;cases a:A5 P t with
 | none=>simp[a]at hb
 | some e =>
  have X:=A7 a;simp only[a,Option.any_some]at hb;split at hb<;>try cases hb
  rename_i E;simp only[qS,vI,qg,bne_iff_ne,ne_eq,vV,beq_iff_eq,List.isEmpty_iff]at E;obtain⟨T,E⟩:=E;obtain⟨Y,A,C⟩:=GR T;split at hb<;>try cases hb
  rename_i l m Z hm;split at hb<;>try cases hb
  rename_i J;have g:=p Z J.1 L (by rfl:some (0:Int)=some ((0:Nat):Int));have f:=p hm mq K rfl;cases mx with
  | none=>
   simp only[Option.map_none,qm]at hb;subst hb;refine JS X R ⟨Y,A,C.symm⟩ E mq mq λcap h1 h2=>⟨cap,by omega,IO _,λF=>?_,λw=>HN g f mq mq h1 w⟩
   simp at F;have:=h2 F.1;omega
  | some mo=>
   have B:=M.1 _ rfl;simp only[vE]at hb B;split at hb<;>try cases hb
   rename_i b;cases b
   . rename_i i x b;simp only[qm]at b;obtain⟨uu,O,D⟩:=B;cases O;rw[b]at D;have Q:=Dt D;split at hb<;>try cases hb
     rename_i q;simp only[qg,decide_eq_true_eq]at q;have k:∃i,Option.map ev hi=some (.int i m.toNat):=by
      rcases f with⟨I,_⟩|h;cases hi<;>simp at I q;exact h
     have S:(x:Int)=(x.toNat:Int):=by omega
     refine JS X R ⟨Y,A,C.symm⟩ E mq mq λcap h1 h2=>⟨x.toNat,by omega,by omega,λF=>?_,λw=>?_⟩
     simp at F;omega;rw[vE,Q,S];exact Iz g k mq mq mq w
theorem Qh.mono{v:SV}{W a:World->Prop}(H:Qh P ev o c v W)(h:∀w,a w->W w):Qh P ev o c v a:=let⟨u,h1,h2⟩:=H;⟨u,h1,λw hw=>h2 w (h w hw)⟩
theorem Nx{st:Bool}{v:SV}(d:IR P st evs o.op=some v)(H:∀x∈o.op.operands,V c (evs x) (ev x)){W:World->Prop}(S:st=true->∀w,W w->∃c',c'.w=w/\DV c c'):Qh P ev o c v W:=by
 unfold IR at d;split at d;rename_i x g;rw[g]at H;cases d;exact⟨_,H x (by simp[Op.operands]),λw _=>by simp[execOp,g]⟩;rename_i x g;rw[g]at H;cases d;exact⟨_,H x (by simp[Op.operands]),λw _=>by simp[execOp,g]⟩;rename_i t x i g;rw[g]at H;exact(TP g d (H x (by simp[Op.operands]))).mono λ_ _=>trivial
 . rename_i t a g;rw[g]at H;split at d<;>try cases d
   rename_i C h;exact(VY g h d (H a (by simp[Op.operands]))).mono (S rfl)
 . rename_i t x i g;rw[g]at H;split at d<;>try cases d
   rename_i z es f k n h q;split at d<;>try cases d
   rename_i A;exact(TQ g h q A d (H x (by simp[Op.operands])) (H i (by simp[Op.operands]))).mono λ_ _=>trivial
 . rename_i t x lo hi mx g;split at d<;>try cases d
   rename_i z es f h;exact(TR g h d H).mono λ_ _=>trivial
 . rename_i x i g;rw[g]at H;split at d<;>try cases d
   rename_i vs h;have hv:=H x (by simp[Op.operands]);rw[h,V]at hv;obtain⟨us,p,U⟩:=hv;obtain⟨u,F,G⟩:=(BE.1 U).get d;exact⟨u,G,λw _=>by simp[execOp,g,p,Instr.extract,F]⟩
 . rename_i op t x g;rw[g]at H;have h:=H x (by simp[Op.operands]);split at d<;>try cases d
   rename_i b l;rw[l]at h;exact⟨.bool !b,by rw[V],λw _=>by simp[execOp,g,HU h,Op.unary]⟩
 . rename_i x a b g;rw[g]at H;have h:=H x (by simp[Op.operands]);split at d<;>try cases d
   rename_i t l;rw[l]at h;have m:=HU h;cases t;exact⟨ev b,by simpa using H b (by simp[Op.operands]),λw _=>by simp[execOp,g,m,asBool]⟩;exact⟨ev a,by simpa using H a (by simp[Op.operands]),λw _=>by simp[execOp,g,m,asBool]⟩
 rename_i f a b g;rw[g]at H;cases d;refine⟨.func f (a.map ev) (b.map ev),?_,λw _=>by simp[execOp,g,Instr.makeFunc]⟩;rw[V];exact⟨(a.map ev).toList,(b.map ev).toList,by rw[Array.toArray_toList,Array.toArray_toList],BE.2 (GN a λx h=>H x (by simp[Op.operands]at h ⊢;exact .inl h)),BE.2 (GN b λx h=>H x (by simp[Op.operands]at h ⊢;exact .inr h))⟩
 . rename_i x g;rw[g]at H;have h:=H x (by simp[Op.operands]);split at d<;>try cases d
   rename_i j off l;rw[l]at h;have m:=h;rw[V]at h;obtain⟨b,st,_,p⟩:=h;exact⟨ev x,m,λw _=>by simp[execOp,g,p]⟩;rename_i C l;rw[l]at h;have m:=h;rw[V]at h;obtain⟨a,vs,p,_⟩:=h;exact⟨ev x,m,λw _=>by simp[execOp,g,p]⟩
 . rename_i args L g;rw[g]at H;split at d<;>try cases d
   rename_i x y l;have B:=Je l;subst B;have h:=H x (by simp[Op.operands,Call.operands]);have q:=H y (by simp[Op.operands,Call.operands]);split at d<;>try cases d
   rename_i k a J b g1 E;split at d<;>try cases d
   rename_i hk;subst hk;rw[g1]at h;rw[E]at q;exact⟨.int k (if b<a then b else a),by rw[V],λw _=>CS (P:=P) (ev:=ev) g w w _ λC=>by simp[builtin,Dt h,Dt q,Builtin.min_,Builtin.min2]⟩
 . rename_i args L g;rw[g]at H;split at d<;>try cases d
   rename_i x y l;have B:=Je l;subst B;have h:=H x (by simp[Op.operands,Call.operands]);have q:=H y (by simp[Op.operands,Call.operands]);split at d<;>try cases d
   rename_i k a J b g1 E;split at d<;>try cases d
   rename_i hk;subst hk;rw[g1]at h;rw[E]at q;exact⟨.int k (if b>a then b else a),by rw[V],λw _=>CS (P:=P) (ev:=ev) g w w _ λC=>by simp[builtin,Dt h,Dt q,Builtin.max_,Builtin.max2]⟩
 . rename_i op t x y t2 g;rw[g]at H;have h:=H x (by simp[Op.operands]);have q:=H y (by simp[Op.operands]);split at d<;>try cases d
   rename_i k a J b l D;split at d<;>try cases d
   rename_i T;obtain⟨n1,K,rfl⟩:=T;rw[l]at h;rw[D]at q;have s:∀w,∃r,(execOp ev o).run P w=.ok (.value r) w/\V c v r:=λw=>by
    obtain⟨r,h1,h2⟩:=Nm (c:=c) (P:=P) (t:=t) d n1 K w;exact⟨r,by simp[execOp,g,Dt h,Dt q,HP (P:=P),h1],h2⟩
   obtain⟨u,p⟩:∃u,∀r,V c v r->r=u:=by
    cases op<;>simp only[Il]at d<;>(try split at d)<;>(try cases d)<;>first|exact⟨_,λr hr=>Dt hr⟩|exact⟨_,λr hr=>HU hr⟩|(exact absurd rfl n1)|(exact absurd rfl K)
   obtain⟨r0,h1,h2⟩:=s c.w;have M:=p r0 h2;subst M;refine⟨_,h2,λw _=>?_⟩;obtain⟨r,Q,R⟩:=s w;rw[Q,p r R]
 . rename_i args L g;rw[g]at H;split at d<;>try cases d
   rename_i t x l D;split at d<;>try cases d
   rename_i z es f N;split at d<;>try cases d
   rename_i A;obtain⟨e,I⟩:=LE A;have B:=L4 D;have O:=L4 l;subst B O;have hv:=H x (by simp[Op.operands,Call.operands]);rw[N,V]at hv;refine⟨.int .i64 es.length,by rw[V],λw _=>CS (P:=P) (ev:=ev) g w w _ λC=>?_⟩;rcases hv with⟨rfl,p⟩|⟨a,cap,vs,p,_⟩
   simp[builtin,p,Builtin.len_,AM (A7 I),goInt];simp[builtin,p,Builtin.len_,AM (A7 I),goInt]
 cases d
theorem KF{st:Bool}{v:SV}(b:IR P st evs o.op=some v)(w:World):o.about P w ev=none:=by
 unfold Oper.about;unfold IR at b;split at b<;>first|(rename_i a;rw[a];done)|(rename_i _ a;rw[a];done)|(rename_i _ _ a;rw[a];done)|(rename_i _ _ _ a;rw[a];done)|(rename_i _ _ _ _ _ a;rw[a];done)|(rename_i a;rw[a];simp[resolve,Target.leads];done)|cases b
def Gy:Op->Bool
 | .move _|.assign _|.fieldAddr .. | .load .. | .indexAddr .. | .slice .. | .extract .. | .unOp .. | .pick .. | .binOp .. | .makeFunc .. | .nilCheck _=>true
 | .call { callee:=.builtin .len,.. }|.call { callee:=.builtin .min,.. }|.call { callee:=.builtin .max,.. }=>true
 | _=>false
theorem J9(a:Gy o.op=true)(w:World):o.about P w ev=none:=by
 unfold Oper.about;cases b:o.op<;>simp[b,Gy]at a ⊢;split at a<;>first|(rename_i h;cases h;done)|skip
 all_goals first|(rename_i h;cases h;simp[resolve,Target.leads];done)|(simp at a;done)|trace_state
end
inductive Tr where
 | nil
 | pure (i:Nat) (t:Tr)
 | one (i:Nat) (t:Tr)
 | two (i j:Nat) (t u:Tr)
def OH(ops:Array Oper):Array Bool->Tr->Bool
 | listed,.nil=>(Region.ready .any ops listed).isEmpty
 | listed,.pure i t=>Region.free .any ops listed i&&(Region.ready .any ops listed).contains i&&OH ops (listed.setIfInBounds i true) t
 | listed,.one i t=>Region.ready .any ops listed==[i]&&OH ops (listed.setIfInBounds i true) t
 | listed,.two i j t u=>Region.ready .any ops listed==[i,j]&&OH ops (listed.setIfInBounds i true) t&&OH ops (listed.setIfInBounds j true) u
section
variable(E:BZ)(P:Program)(ops:Array Oper)(K:SA->Hp->Nat->Prop)
def Df(o:Oper)(sa:SA)(h:Hp)(n:Nat)(T:SA->Hp->Nat->Prop):Prop:=
 match Cz ops sa o with
 | some b=>if b=true then Fa E P o sa h n λv h' n'=>T (C1 sa o.dst v) h' n' else T (C1 sa o.dst (.tup [])) h n
 | none=>False
def K5(st:Bool)(o:Oper)(sa:SA)(T:SA->Prop):Prop:=
 match Cz ops sa o with
 | some b=>if b=true then match IR P st (EV sa) o.op with|some v=>T (C1 sa o.dst v)|none=>False else Gy o.op=true/\T (C1 sa o.dst (.tup []))
 | none=>False
def Qb:Bool->Tr->SA->Hp->Nat->Prop
 | _,.nil,sa,h,n=>K sa h n
 | st,.pure i t,sa,h,n=>match ops[i]? with|some o=>K5 P ops st o sa λsa'=>Qb st t sa' h n|none=>False
 | _,.one i t,sa,h,n=>match ops[i]? with|some o=>Df E P ops o sa h n (Qb false t)|none=>False
 | _,.two i j t u,sa,h,n=>match ops[i]?,ops[j]? with|some o,some q=>Df E P ops o sa h n (Qb false t)/\Df E P ops q sa h n (Qb false u)|_,_=>False
end
section
variable{E:BZ}{P:Program}{N:Nat}{ops:Array Oper}{K:SA->Hp->Nat->Prop}
def OY(E:BZ)(N n:Nat)(c:Cx)(K:SA->Hp->Nat->Prop):Exit->Act->World->Prop:=λe a' w'=>
 e=.normal/\∃sa' h' n' c',K sa' h' n'/\c'.w=w'/\CB h' c'/\Fr n' c'/\FR E N sa' c' a'/\Fo n c n' c'
theorem BT{i:Nat}{o:Oper}{sa:SA}{h:Hp}{n:Nat}{T:SA->Hp->Nat->Prop}{c:Cx}{a:Act}{f:Act->World->Prop}{Qr:Exit->Act->World->Prop}(hi:ops[i]? = some o)(hd:∀d,o.dst=some d->d<N)
 (H:Df E P ops o sa h n T) (I:E.inv c) (R:CB h c) (F:Fr n c) (A:FR E N sa c a)
 (j:∀sa' h' n' e a',T sa' h' n'->CB h' e->Fr n' e->FR E N sa' e a'->Fo n c n' e->f a' e.w):wpOpIn E.fc 0 P ops Qr i f a c.w:=by
 unfold wpOpIn;rw[hi];simp only;unfold Df at H;split at H;rename_i b hg;rw[Ga A hg];cases b;simp only[qt,if_false]at H ⊢;exact⟨λ_ _=>trivial,j _ _ _ c _ H R F (A.put hd Hz) (wE n c)⟩;simp only[if_true]at H ⊢;exact I4 H I R F A λv h' n' e u hk hv l k g=>j _ _ _ e _ hk l k ((A.ext g.ext).put hd hv) g;exact H.elim
theorem Yv(hro:E.ro=none)(hdst:∀(i:Nat)(o:Oper),ops[i]? = some o->∀d,o.dst=some d->d<N)(hsel:∀(j:Nat)(o:Oper) cs b,ops[j]? = some o->o.op≠.select cs b){n0:Nat}{c0 c1:Cx}:
 ∀(t:Tr)(st:Bool)(listed:Array Bool)(fuel:Nat)(sa:SA)(h:Hp)(n:Nat)(c:Cx)(a:Act),listed.size=ops.size->MO listed=fuel->OH ops listed t=true->Qb E P ops K st t sa h n->
  E.inv c->CB h c->Fr n c->FR E N sa c a->Fo n0 c0 n c->DV c1 c->(st=true->c=c1)->
  KU E.fc 0 P .any ops (OY E N n0 c0 K) (λw=>∃c',c'.w=w/\DV c1 c') fuel listed a c.w:=by
 have hfr:E.fc.round=none:=hro;intro t
 induction t with
 | nil=>
  intro st listed fuel sa h n c a _ _ hok H I R F A X _ _;have hr:Region.ready .any ops listed=[]:=by simpa[OH]using hok
  have hq:OY E N n0 c0 K .normal a c.w:=⟨rfl,sa,h,n,c,H,rfl,R,F,A,X⟩
  cases fuel with
  | zero=>exact⟨hr,hq⟩
  | succ fuel=>exact⟨λ_=>hq,by rw[hr];simp⟩
 | pure i t ih=>
  intro st listed fuel sa h n c a hs hu hok H I R F A X X1 hst;simp only[OH,qg]at hok;obtain⟨⟨hfree,hr⟩,hok⟩:=hok;simp only[Qb]at H;split at H
  case h_2=>exact H.elim
  rename_i o ho;have hmem:i∈Region.ready .any ops listed:=by simpa using hr
  obtain⟨hun,_,_,_⟩:=mem_ready.1 hmem;have hlt:=(qh.1 ho).1;have hF:listed.getD i false=false:=by rw[C5 mq]at hun ⊢;exact hun
  have hu2:=Ds mq hF;obtain⟨fuel,rfl⟩:∃f,fuel=f+1:=⟨fuel-1,by omega⟩
  unfold K5 at H;split at H
  case h_2=>exact H.elim
  rename_i b hg;have hw:=Ga A hg;cases b;simp only[qt,if_false]at H;refine Ec (v:=undef) hfr ho hsel (λ_ _ _ e=>by cases e.1) fuel listed a c.w (Region.free_spec ho hfree) hmem ⟨.inr ⟨hw,rfl⟩,λw=>J9 H.1 w⟩ ⟨c,rfl,X1⟩ (ih st _ fuel _ h n c _ (by simp[hs]) mq hok H.2 I R F (A.put (hdst i o ho) Hz) X X1 hst)
  . simp only[if_true]at H;split at H
    case h_2=>exact H.elim
    rename_i v hv;obtain⟨u,hvu,hrun⟩:=Nx (c:=c) (W:=λw=>∃c',c'.w=w/\DV c1 c') hv (λx _=>A.ev x) (λe w hw=>by rw[hst e];exact hw);refine Ec (v:=u) hfr ho hsel (λ_ _ _ e=>by cases e.1) fuel listed a c.w (Region.free_spec ho hfree) hmem ⟨.inl ⟨hw,hrun⟩,λw=>KF hv w⟩ ⟨c,rfl,X1⟩
     (ih st _ fuel _ h n c _ (by simp[hs]) mq hok H I R F (A.put (hdst i o ho) hvu) X X1 hst)
 | one i t ih=>
  intro st listed fuel sa h n c a hs hu hok H I R F A X X1 hst;simp only[OH,qg,beq_iff_eq]at hok;obtain⟨hr,hok⟩:=hok;simp only[Qb]at H;split at H
  case h_2=>exact H.elim
  rename_i o ho;have hmem:i∈Region.ready .any ops listed:=by rw[hr];simp
  obtain⟨hun,_,_,_⟩:=mem_ready.1 hmem;have hlt:=(qh.1 ho).1;have hF:listed.getD i false=false:=by rw[C5 mq]at hun ⊢;exact hun
  have hu2:=Ds mq hF;obtain⟨fuel,rfl⟩:∃f,fuel=f+1:=⟨fuel-1,by omega⟩
  refine⟨λe=>(by rw[e]at hr;cases hr),λj hj=>?_⟩;rw[hr]at hj;obtain rfl:=qw.1 hj;exact BT ho (hdst j o ho) H I R F A λsa' h' n' c' a' hT R' F' A' X'=>⟨⟨c',rfl,X1.trans X'.ext⟩,ih false _ fuel _ h' n' c' a' (by simp[hs]) mq hok hT (E.ext X'.ext I) R' F' A' (X.trans X') (X1.trans X'.ext) mr⟩
 | two i j t u iht ihu =>
  intro st listed fuel sa h n c a hs hu hok H I R F A X X1 hst;simp only[OH,qg,beq_iff_eq]at hok;obtain⟨⟨hr,hok1⟩,hok2⟩:=hok;simp only[Qb]at H;split at H
  case h_2=>exact H.elim
  rename_i o q ho hq;have hun:∀k,k∈Region.ready .any ops listed->MO (listed.setIfInBounds k true)+1=MO listed:=λk hk=>by
   obtain⟨hun,o',ho',_⟩:=mem_ready.1 hk;have hlt:=(qh.1 ho').1;have hF:listed.getD k false=false:=by rw[C5 mq]at hun ⊢;exact hun
   exact Ds mq hF
  have hui:=hun i (by rw[hr];simp);have huj:=hun j (by rw[hr];simp);obtain⟨fuel,rfl⟩:∃f,fuel=f+1:=⟨fuel-1,by omega⟩
  refine⟨λe=>(by rw[e]at hr;cases hr),λk hk=>?_⟩;rw[hr]at hk;rcases qe.1 hk with rfl|hk;exact BT ho (hdst _ o ho) H.1 I R F A λsa' h' n' c' a' hT R' F' A' X'=>⟨⟨c',rfl,X1.trans X'.ext⟩,iht false _ fuel _ h' n' c' a' (by simp[hs]) mq hok1 hT (E.ext X'.ext I) R' F' A' (X.trans X') (X1.trans X'.ext) mr⟩
  obtain rfl:=qw.1 hk;exact BT hq (hdst _ q hq) H.2 I R F A λsa' h' n' c' a' hT R' F' A' X'=>⟨⟨c',rfl,X1.trans X'.ext⟩,ihu false _ fuel _ h' n' c' a' (by simp[hs]) mq hok2 hT (E.ext X'.ext I) R' F' A' (X.trans X') (X1.trans X'.ext) mr⟩
theorem cB(k:E.ro=none)(hm:P.follows .mixedOrders=true)(t:Tr){id:Nat}{Q:CT}{sa:SA}{h:Hp}{n:Nat}(v:Region.noSelect ops=true)(g:OH ops (Array.replicate ops.size false) t=true)
 (H:Qb E P ops (Q .normal) true t sa h n):GU E P N (.region id ops true) Q sa h n:=by
 intro hd c a I R F A;simp only[Code.dok,qG]at hd;have f:∀(i:Nat)(o:Oper),ops[i]? = some o->∀d,o.dst=some d->d<N:=λi o u d e=>by
  have:=hd o (by simpa using Array.mem_of_getElem? u);rw[e]at this;simpa using this
 have:=Yv (E:=E) (P:=P) (N:=N) (K:=Q .normal) (n0:=n) (c0:=c) (c1:=c.drew) k f (Region.noSelect_spec v) t true (Array.replicate ops.size false) ops.size sa h n c.drew a mr (by simp[MO]) g H
  (E.ext c.zc I) R.drew (λj s=>F j s) (A.ext c.zc) ⟨c.zc,IO _,λ_ _=>rfl⟩ (wT _) (λ_=>rfl)
 refine wpIn_mono (wpIn_region_any hm (GS (S:=λw=>∃b,b.w=w/\DV c.drew b) _ _ _ _ this)) ?_;rintro e a' w' ⟨rfl,l,h',n',b,h1,h2,m,p,q,r⟩;exact⟨l,h',n',b,h1,h2,m,p,q,r⟩
end
noncomputable def V3:(E:BZ)->(P:Program)->(ops:Array Oper)->(K:SA->Hp->Nat->Prop)->Bool->Tr->SA->Hp->Nat->Prop:=Classical.choose (BW Qb)
theorem KV:V3=Qb:=vg (BW Qb)
noncomputable def jP:(E:BZ)->(P:Program)->(ops:Array Oper)->(K:SA->Hp->Nat->Prop)->Tr->SA->Option Tmp->SV->Hp->Nat->Prop:=
 Classical.choose (BW λE P ops K t sa dst v h n=>V3 E P ops K false t (C1 sa dst v) h n)
section
variable(E:BZ)(P:Program)(ops:Array Oper)(K:SA->Hp->Nat->Prop)(st:Bool)(t u:Tr)(sa:SA)(h:Hp)(n i j:Nat)
@[go_sem] theorem dC(dst:Option Tmp)(v:SV):jP E P ops K t sa dst v h n=V3 E P ops K false t (C1 sa dst v) h n:=by
 unfold jP;rw[vg (BW λE P ops K t sa dst v h n=>V3 E P ops K false t (C1 sa dst v) h n)]
theorem Z5(o:Oper):jP E P ops K t sa o.dst=λv h' n'=>Qb E P ops K false t (C1 sa o.dst v) h' n':=by
 funext v h' n';rw[dC,KV]
@[go_sem] theorem jZ:V3 E P ops K st .nil sa h n=K sa h n:=by rw[KV];simp only[Qb]
@[go_sem] theorem jC:V3 E P ops K st (.pure i t) sa h n=match ops[i]? with
 | some o=>(match Cz ops sa o with
  | some b=>if b=true then(match IR P st (EV sa) o.op with|some v=>V3 E P ops K st t (C1 sa o.dst v) h n|none=>False)else Gy o.op=true/\V3 E P ops K st t (C1 sa o.dst (.tup [])) h n
  | none=>False)
 | none=>False:=by
 rw[KV];simp only[Qb,K5]
 all_goals
  cases ops[i]? with
  | none=>rfl
  | some o =>
   simp only;cases Cz ops sa o with
   | none=>rfl
   | some b=>cases b with
    | false=>rfl
    | true=>simp only[if_true];cases IR P st (EV sa) o.op<;>rfl
def PJ(o:Oper):Prop:=
 match Cz ops sa o with
 | some b=>if b=true then Fa E P o sa h n (jP E P ops K t sa o.dst)else V3 E P ops K false t (C1 sa o.dst (.tup [])) h n
 | none=>False
theorem SD(o:Oper):PJ E P ops K t sa h n o=Df E P ops o sa h n (Qb E P ops K false t):=by
 unfold PJ Df;rw[Z5,KV]
 all_goals
  cases Cz ops sa o with
  | none=>rfl
  | some b=>cases b<;>rfl
@[go_sem] theorem ja:V3 E P ops K st (.one i t) sa h n=match ops[i]? with|some o=>PJ E P ops K t sa h n o|none=>False:=by
 rw[KV];simp only[Qb,SD]<;>cases ops[i]? <;> rfl
@[go_sem] theorem jb:V3 E P ops K st (.two i j t u) sa h n=match ops[i]?,ops[j]? with|some o,some q=>PJ E P ops K t sa h n o/\PJ E P ops K u sa h n q|_,_=>False:=by
 rw[KV];simp only[Qb,SD]<;>cases ops[i]? <;> cases ops[j]? <;> rfl
end
attribute [go_sem] PJ IR Gy
theorem CN{E:BZ}{N id:Nat}{a:Array Oper}{Q:CT}{sa:SA}{h:Hp}{n:Nat}(t:Tr)(c:E.ro=none)(d:Region.noSelect a=true)(b:OH a (Array.replicate a.size false) t=true)
 (H:V3 E prog a (Q .normal) true t sa h n):SP E N (.region id a true) Q sa h n:=
 cB c follows t d b (by rw[<-KV];exact H)
end Go.Proofs.YthinbkgpjmjfeaaGreatDoor.Sh
namespace Go.Proofs
open Go.Shelf
def Tryz.sortA_ren:Go.Shelf.Ren:=⟨fun|5=>215|8=>243|7=>257|19=>278|20=>266|10=>289|11=>290|12=>291|13=>292|14=>293|15=>294|16=>170|17=>295|18=>296|30=>311|31=>303|32=>304|33=>312|34=>313|35=>185|40=>323|n=>n,fun|23=>91|25=>3|3=>3|32=>236|22=>91|0=>0|44=>328|46=>307|4=>4|36=>345|35=>344|41=>188|5=>5|9=>9|53=>369|57=>177|63=>387|64=>388|n=>n,fun|n=>n⟩
theorem Tryz.sortA:Go.Proofs.SlLaysM.n5 prog Tryz.sortA_ren:={
 mixed:=by kernel_rfl
 f5:=⟨Tryz.f215.name,by decide,func215.trans (congrArg some (by kernel_rfl))⟩
 f7:=⟨Tryz.f257.name,by decide,func257.trans (congrArg some (by kernel_rfl))⟩
 f8:=func243.trans (congrArg some (by kernel_rfl))
 f10:=⟨Tryz.f289.name,by decide,func289.trans (congrArg some (by kernel_rfl))⟩
 f11:=⟨Tryz.f290.name,by decide,func290.trans (congrArg some (by kernel_rfl))⟩
 f12:=⟨Tryz.f291.name,by decide,func291.trans (congrArg some (by kernel_rfl))⟩
 f13:=⟨Tryz.f292.name,by decide,func292.trans (congrArg some (by kernel_rfl))⟩
 f14:=⟨Tryz.f293.name,by decide,func293.trans (congrArg some (by kernel_rfl))⟩
 f15:=⟨Tryz.f294.name,by decide,func294.trans (congrArg some (by kernel_rfl))⟩
 f16:=⟨Tryz.f170.name,by decide,func170.trans (congrArg some (by kernel_rfl))⟩
 f17:=⟨Tryz.f295.name,by decide,func295.trans (congrArg some (by kernel_rfl))⟩
 f18:=⟨Tryz.f296.name,by decide,func296.trans (congrArg some (by kernel_rfl))⟩
 f19:=func278.trans (congrArg some (by kernel_rfl))
 f20:=func266.trans (congrArg some (by kernel_rfl))
 f30:=⟨Tryz.f311.name,by decide,func311.trans (congrArg some (by kernel_rfl))⟩
 f31:=func303.trans (congrArg some (by kernel_rfl))
 f32:=func304.trans (congrArg some (by kernel_rfl))
 f33:=⟨Tryz.f312.name,by decide,func312.trans (congrArg some (by kernel_rfl))⟩
 f34:=⟨Tryz.f313.name,by decide,func313.trans (congrArg some (by kernel_rfl))⟩
 f35:=⟨Tryz.f185.name,by decide,func185.trans (congrArg some (by kernel_rfl))⟩
 f40:=⟨Tryz.f323.name,by decide,func323.trans (congrArg some (by kernel_rfl))⟩
 t0:=Tryz.underlying0
 a0:=Tryz.isAgg0
 z0:=Tryz.sizeOf0
 v0:=Tryz.zeroValue0
 t3:=Tryz.underlying3
 a3:=Tryz.isAgg3
 z3:=Tryz.sizeOf3
 v3:=Tryz.zeroValue3
 t4:=Tryz.underlying4
 a4:=Tryz.isAgg4
 z4:=Tryz.sizeOf4
 v4:=Tryz.zeroValue4
 t5:=Tryz.underlying5
 a5:=Tryz.isAgg5
 z5:=Tryz.sizeOf5
 v5:=Tryz.zeroValue5
 t9:=Tryz.underlying9
 a9:=Tryz.isAgg9
 z9:=Tryz.sizeOf9
 v9:=Tryz.zeroValue9
 t22:=Tryz.underlying91
 a22:=Tryz.isAgg91
 z22:=Tryz.sizeOf91
 v22:=Tryz.zeroValue91
 t23:=Tryz.underlying91
 a23:=Tryz.isAgg91
 z23:=Tryz.sizeOf91
 v23:=Tryz.zeroValue91
 t25:=Tryz.underlying3
 a25:=Tryz.isAgg3
 z25:=Tryz.sizeOf3
 v25:=Tryz.zeroValue3
 t32:=Tryz.underlying236
 a32:=Tryz.isAgg236
 z32:=Tryz.sizeOf236
 v32:=Tryz.zeroValue236
 t35:=Tryz.underlying344
 a35:=Tryz.isAgg344
 z35:=Tryz.sizeOf344
 v35:=Tryz.zeroValue344
 t36:=Tryz.underlying345
 a36:=Tryz.isAgg345
 z36:=Tryz.sizeOf345
 v36:=Tryz.zeroValue345
 t41:=Tryz.underlying188
 a41:=Tryz.isAgg188
 z41:=Tryz.sizeOf188
 v41:=Tryz.zeroValue188
 t44:=Tryz.underlying328
 a44:=Tryz.isAgg328
 z44:=Tryz.sizeOf328
 v44:=Tryz.zeroValue328
 t46:=Tryz.underlying307
 a46:=Tryz.isAgg307
 z46:=Tryz.sizeOf307
 v46:=Tryz.zeroValue307
 t53:=Tryz.underlying369
 a53:=Tryz.isAgg369
 z53:=Tryz.sizeOf369
 v53:=Tryz.zeroValue369
 t57:=Tryz.underlying177
 a57:=Tryz.isAgg177
 z57:=Tryz.sizeOf177
 v57:=Tryz.zeroValue177
 t63:=Tryz.underlying387
 a63:=Tryz.isAgg387
 z63:=Tryz.sizeOf387
 v63:=Tryz.zeroValue387
 t64:=Tryz.underlying388
 a64:=Tryz.isAgg388
 z64:=Tryz.sizeOf388
 v64:=Tryz.zeroValue388 }
end Go.Proofs
namespace Go.Proofs.YthinbkgpjmjfeaaGreatDoor.Sh
open Go.Proofs.Tryz
open Proofs
section
variable{h:Hp}{c:Cx}
theorem CB.write2{w':World}{o b st:Nat}{x y:A9}(R:CB h c)(r:h o=some x)(p:c.ρ o=some (b,st))
 (l:c.w.heap.size<=w'.heap.size) (d:∀a,a≠b->a<c.w.heap.size->w'.heap[a]? = c.w.heap[a]?) (k:rm c.w b<=rm w' b) (v:w'.os=c.w.os) (n:w'.output=c.w.output)
 (M:DV c { c with w:=w' }->EF { c with w:=w' } o y) (B:x.lst=false:=by rfl) (C:y.lst=false:=by rfl) (A:Td c.w w':=by first|exact⟨rfl,IO _⟩|exact⟨rfl,Nat.le_add_right _ _⟩):CB (h_ h o (some y)) { c with w:=w' }/\DV c { c with w:=w' }:=by
 have E:DV c { c with w:=w' }:=by
  refine⟨λ_ _ e=>e,l,λa t I=>⟨I,?_⟩,λa=>?_,v,n,A⟩;refine d a ?_ t;rintro rfl;exact I (R.ownI ⟨o,x,st,r,p⟩);by_cases e:a=b;subst e;exact k;rcases vq a c.w.heap.size with u|u;simp[rm,d a e u];simp[rm,vt u]
 have s:∀z:A9,z.lst=false->∀a,BA c o z a->a=b:=λz s a H=>by
  rcases H with⟨st',H⟩|⟨H,_⟩
  rw[p]at H;cases H;rfl;rw[s]at H;cases H
 have f:∀j z,h_ h o (some y) j=some z->∃z0,h j=some z0/\∀a,BA { c with w:=w' } j z a->BA c j z0 a:=λj z e=>by
  simp only[h_]at e;split at e;subst_vars;cases e;exact⟨x,r,λa H=>by rw[s y C a H];exact .inl ⟨st,p⟩⟩;exact⟨z,e,λa H=>H⟩
 refine⟨⟨λj z e=>?_,λi j z O b1 g m J K=>?_,λa=>?_⟩,E⟩;simp only[h_]at e;split at e;subst_vars;cases e;exact M E;rename_i q;refine(R.obj j z e).mono E λF G=>d F ?_ ((R.obj j z e).hold_lt G);rintro rfl;exact q (R.inj2 j o z x F e r G (.inl ⟨st,p⟩));obtain⟨z0,g1,D⟩:=f i z g;obtain⟨P,L,N⟩:=f j O m;exact R.inj2 i j z0 P b1 g1 L (D _ J) (N _ K);rw[R.own2 a];constructor;rintro⟨j,z,g,m⟩;by_cases q:j=o;subst q;rw[r]at g;cases g;exact⟨j,y,by simp[h_],by rw[s x B a m];exact .inl ⟨st,p⟩⟩;exact⟨j,z,by simp[h_,q,g],m⟩;rintro⟨j,z,g,m⟩;obtain⟨z0,g1,D⟩:=f j z g;exact⟨j,z0,g1,D _ m⟩
end
def E8(l:List Int):List Int:=l.mergeSort λx y=>decide (x<=y)
theorem Pv{c:Cx}:∀{l:List Int} {vs:List Value},AU (V c) (l.map AA) vs->vs=l.map (Value.int .i64)
 | [],_,h=>by rw[h.nil_left];rfl
 | a::l,[],h=>h.elim
 | a::l,v::vs,h=>by
  have h1:=Dt h.1;rw[h1,Pv h.2];rfl
theorem bU:K4 prog 215=true:=by unfold K4;rw[func215];kernel_rfl
theorem lA(l:List Int)(N:l.length<4611686018427387904){H:Hp}{n o:Nat}{full:Bool}(G:H o=some (.cells (l.map AA))):
 BP prog 215 [.sl o 0 1 l.length full] H n (λv h' n'=>v=.tup []/\h'=h_ H o (some (.cells ((E8 l).map AA)))/\n'=n):=by
 refine⟨bU,λc vs _ R F A=>?_⟩;obtain⟨u,rfl,hv⟩:=A.single;rw[V]at hv;obtain⟨b,st,cap,hρ,rfl,hcap,_,hroom⟩:=hv;obtain⟨L,st',arr,e,vs,g1,p,g3,M,g5,_⟩:=R.obj o _ G;rw[hρ]at g1;cases g1;have D:=Pv M;have d:b<c.w.heap.size:=(qh.1 p).1;have f:∀j (r:j<l.length),arr[st+j]? = some (.int .i64 l[j]):=λj r=>g3 j _ (by rw[D];simp[r]);have t:Go.Sort.Holds (Value.int .i64) c.w b (st+0) l.toArray:=λj r=>by
  have q:j<l.length:=by simpa using r
  refine⟨by simp[World.cell?,p,f j q,q],by simp[World.frozen?,p]⟩
 have I:=AnyM.slices_Sort_int Tryz.sortA b (st+0) cap l c.w t d N;have s:Calls prog 215 #[.slice (some ⟨b,st+0,none⟩) l.length cap] c.w λe w'=>e=.returned (.tuple #[])/\∃n os,w'=Go.Sort.grow (Go.Sort.putRow (Value.int .i64) (Go.Sort.ahead c.w n) b (st+0) (E8 l).toArray) os:=I;refine s.mono ?_;rintro e w' ⟨rfl,k,os,rfl⟩;have hlen:(E8 l).length=l.length:=wm _;have m:(Go.Sort.grow (Go.Sort.putRow (Value.int .i64) (Go.Sort.ahead c.w k) b (st+0) (E8 l).toArray) os).heap=(c.w.heap.modify b (Go.Sort.onCells (Go.Sort.putCells (Value.int .i64) (st+0) (E8 l).toArray)))++os:=rfl;have g:(Go.Sort.grow (Go.Sort.putRow (Value.int .i64) (Go.Sort.ahead c.w k) b (st+0) (E8 l).toArray) os).heap[b]? = some (.cells (Go.Sort.putCells (Value.int .i64) (st+0) (E8 l).toArray arr) e (0,0)):=by
  rw[m,vS (by simpa using d),wn,my rfl,p];rfl
 obtain⟨J,K⟩:=R.write2 (w':=Go.Sort.grow (Go.Sort.putRow (Value.int .i64) (Go.Sort.ahead c.w k) b (st+0) (E8 l).toArray) os) (y:=.cells ((E8 l).map AA)) G hρ
  (by rw[m];simp) (λL hb C=>by rw[m,vS (by simpa using C),wn,mw (Ne.symm hb)])
  (by unfold rm; rw [g, p]; simp [Go.Sort.putCells]) rfl rfl (fun X => by
    refine⟨b,st,_,e,(E8 l).map (Value.int .i64),hρ,g,λi x hi=>?_,?_,λx O=>?_,Ty.none⟩;simp only[vo,qT]at hi;obtain⟨z,E,rfl⟩:=hi;have B:=(qv.1 E).1;have:=f i mq;simp only[Go.Sort.putCells,Array.getElem?_mapIdx,this,vE,wz,List.size_toArray];rw[my ⟨by omega,by omega⟩,show st+i-st=i by omega];simp[B]at E ⊢;exact E;exact AU.map (R:=λa b=>a=b) (λa b e=>by subst e;simp[V]) (by
     have:∀l:List Int,AU (λa b=>a=b) l l:=λl=>by induction l with|nil=>trivial|cons a l ih=>exact⟨rfl,ih⟩
     exact this _)
    obtain⟨z,_,rfl⟩:=qa.1 O;rfl)
 exact⟨.tuple #[],.tup [],_,n,_,rfl,⟨rfl,rfl,rfl⟩,rfl,by simp[V,VL],J,F,⟨K,IO _,λ_ _=>rfl⟩⟩
theorem fm(z:Nat)(full:Bool):PC 215 [.y z [] full] (.tup []):=by
 intro h n;refine⟨bU,λc vs _ R F A=>?_⟩;obtain⟨u,rfl,hv⟩:=A.single;rw[V]at hv;have fin:∀(p:Option Addr)(cap:Nat),Calls prog 215 #[.slice p 0 cap] c.w λe w'=>e=.returned (.tuple #[])/\w'=c.w:=λp cap=>AnyM.slices_Sort_int_none Tryz.sortA p cap c.w;have key:∃p cap,u=.slice p 0 cap:=by
  rcases hv with⟨_,rfl⟩|⟨a,cap,_,rfl,_⟩
  exact⟨_,_,rfl⟩;exact⟨_,_,rfl⟩
 obtain⟨p,cap,rfl⟩:=key;refine(fin p cap).mono ?_;rintro e w' ⟨rfl,rfl⟩;exact⟨.tuple #[],.tup [],h,n,c,rfl,⟨rfl,rfl,rfl⟩,rfl,by simp[V,VL],R,F,wE n c⟩
set_option maxRecDepth 10000
set_option maxHeartbeats 4000000
def FX(l:List Int):List (SV×SV):=l.map λx=>(AA x,.bool true)
theorem Ek{x:Int}:∀{l:List Int} (i:Nat),x∉l->CY (AA x) (FX l) i=some none
 | [],i,_=>rfl
 | a::l,i,h=>by
  simp only[qe,not_or]at h;have:(x==a)=false:=by simpa using h.1
  simp only[FX,qi,CY,GJ,if_true,this];exact Ek (i+1) h.2
theorem D4{x:Int}:∀{l:List Int} (i:Nat),x∈l->∃j,CY (AA x) (FX l) i=some (some (i+j,.bool true))/\l[j]? = some x
 | a::l,i,h=>by
  by_cases e:x=a;subst e;exact⟨0,by simp[FX,CY,GJ],by simp⟩;have h':x∈l:=by rcases qe.1 h with h|h;exact absurd h e;exact h
  obtain⟨j,h1,h2⟩:=D4 (i+1) h';have:(x==a)=false:=by simpa using e
  refine⟨j+1,?_,by simpa using h2⟩;simp only[FX,qi,CY,GJ,if_true,this];rw[show i+(j+1)=i+1+j by omega];exact h1
theorem KN{x:Int}{l:List Int}{j:Nat}(h:l[j]? = some x):FY (FX l) j (AA x) (.bool true)=FX l:=by
 unfold FY FX;apply List.ext_getElem?;intro i;simp only[List.getElem?_modify,vo];by_cases e:j=i;subst e;simp[h];cases l[i]? <;> simp[e]
theorem SC.use{E:BZ}{f:FuncId}{args:List SV}{h:Hp}{n:Nat}{Q K:SV->Hp->Nat->Prop}(H:BP prog f args h n Q)(hk:∀v h' n',Q v h' n'->K v h' n'):Ab E prog f args h n K:=Ab.lift (H.mono hk)
theorem Hh:∀l:List Int,(l.map AA).flatMap SV.cells=l.map AA
 | []=>rfl
 | a::l=>by simp[SV.cells,Hh l]
theorem Fb.mono{E:BZ}{P:Program}{l:Nat}{args:List SV}{h:Hp}{n:Nat}{Q i:SV->Hp->Nat->Prop}(H:Fb E P l args h n Q)(j:∀v h' n',Q v h' n'->i v h' n'):Fb E P l args h n i:=λc vs I R F A=>by
 obtain⟨a,b,f,d,e,g⟩:=H c vs I R F A;exact⟨a,b,f,d,e,g.mono λ_ _ ⟨u,v,h',n',f,e,q,r⟩=>⟨u,v,h',n',f,e,j _ _ _ q,r⟩⟩
def Tt(J:(Nat->Prop)->Hp->Nat->Prop)(Jx:(Nat->Prop)->Hp->Nat->Prop)(D:Nat->Prop)(h:Hp)(m:Nat):SV->Hp->Nat->Prop:=λv h' m'=>
 m<=m'/\∃D',(∀o,D' o->D o\/(m<=o/\o<m'))/\(∀o,¬D o->o<m->h' o=h o)/\((v=.bool true/\J D' h' m')\/(v=.bool false/\Jx D' h' m'))
section
variable{E:BZ}{yl:Nat}{X:Type}{enc:X->List SV}{xs:List X}{J:Nat->(Nat->Prop)->Hp->Nat->Prop}{Jx:(Nat->Prop)->Hp->Nat->Prop}
end
structure Cw where
 body:Bool
 note:Bool
 tables:Int
def Cw.h(p:Cw):SV:=.agg [.bool p.body,.bool p.note,AA p.tables]
structure Fl where
 id:Int
 items:List AB
 at_:Cw
def Fl.h(f:Fl):List SV:=[AA f.id,.agg [AH f.items,.bool f.at_.body,.bool f.at_.note,AA f.at_.tables]]
def Cw.inNote(p:Cw):Cw:=⟨false,true,p.tables⟩
def Cw.k_(p:Cw):Cw:=⟨false,p.note,IntKind.i64.wrap (p.tables+1)⟩
theorem VK{l:List AB}{x:AB}(h:x∈l):SizeOf.sizeOf x.W<SizeOf.sizeOf l:=by
 have:=List.sizeOf_lt_of_mem h;cases x;simp only[AB.W,AB.mk.sizeOf_spec]at *;omega
theorem VC{l:List AB}{x:AB}{r:AL}{c:AF}(h:x∈l)(hr:r∈x.R)(a:c∈r.cells):SizeOf.sizeOf c.W<SizeOf.sizeOf l:=by
 have h1:=List.sizeOf_lt_of_mem h;have h2:=List.sizeOf_lt_of_mem hr;have h3:=List.sizeOf_lt_of_mem a;cases x;cases r;cases c;simp only[AB.R,AL.cells,AF.W,AB.mk.sizeOf_spec,AL.mk.sizeOf_spec,AF.mk.sizeOf_spec]at *;omega
section
variable{E:BZ}{yl:Nat}{xs:List Fl}{J:Nat->(Nat->Prop)->Hp->Nat->Prop}{Jx:(Nat->Prop)->Hp->Nat->Prop}
end
def Fl.ok(f:Fl):Prop:=f.items.length<=1048576/\AB.G f.items
section
variable{E:BZ}{yl:Nat}{xs:List Fl}{J:Nat->(Nat->Prop)->Hp->Nat->Prop}{Jx:(Nat->Prop)->Hp->Nat->Prop}
end
theorem Ap{h' h:Hp}{k o:Nat}{b:List SV}(c:h o=none)(hh:h' o=some (.cells b)):Fz h' h (k+1) (.ptr o 0) (.q b):=by
 refine .inr ⟨c,b,hh,by simp,?_⟩;have:∀l:List SV,AU (Fz h' h k) l l:=by
  intro l;induction l with
  | nil=>trivial
  | cons a l ih=>exact⟨Or,ih⟩
 simpa using this b
section
variable{E:BZ}{yl:Nat}{J:Nat->(Nat->Prop)->Hp->Nat->Prop}{Jx:(Nat->Prop)->Hp->Nat->Prop}
end
def AG.V(h:AG):List Int:=(if h.I=0 then[]else[h.I])++h.Y.map (·.rev)++h.Z.map (·.rev)
theorem ZX{H:Hp}{n m k p:Nat}{es:List Int}{x:Int}{o:Option Nat}(a:CD n m 1 o (es.map AA))(hl:es.length<=1073741823)(h1:H k=some (.cells [AA x]))(h2:∀j,o=some j->H j=some (.cells (es.map AA))):
 Ak prog H p .append [91,91] [AZ 1 o (es.map AA),.sl k 0 1 1 true]=some { val:=.sl p 0 1 (es.length+1) false,upd:=o.map λj=>(j,none),new:=some (.cells (es.map AA++[AA x])) }:=by
 have:=Hf (P:=prog) (H:=H) (t:=91) (t2:=91) (el:=3) ms ms ms mr ms ms ms (by simp;omega) a (e:=AA x) rfl h1 (λj e=>by rw[h2 j e,Hh]) p;rw[this,Hh];simp[SV.cells]
def DM(out:List Int)(x:Int):List Int:=if x∈out then out else out++[x]
def BG(out l:List Int):List Int:=l.foldl DM out
theorem CP(out a b:List Int):BG out (a++b)=BG (BG out a) b:=vp
theorem Du(x:Int):∀(l out:List Int),x∈BG out l↔x∈out\/x∈l
 | [],out=>by simp[BG]
 | a::l,out=>by
  have b:=Du x l (DM out a);have e:BG out (a::l)=BG (DM out a) l:=rfl;rw[e,b];unfold DM;split;rename_i h;constructor;rintro(h1|h1);exact .inl h1;exact .inr (qP _ h1);rintro(h1|h1);exact .inl h1;rcases qe.1 h1 with rfl|h1;exact .inl h;exact .inr h1;simp only[qd,qe,vG,or_false,or_assoc]
theorem Jy:∀(l out:List Int),out.Nodup->(BG out l).Nodup
 | [],_,h=>h
 | a::l,out,h=>by
  have e:BG out (a::l)=BG (DM out a) l:=rfl;rw[e];refine Jy l _ ?_;unfold DM;split;exact h;rename_i c;rw[qu];refine⟨h,by simp,λx d y b=>?_⟩;simp at b;rintro rfl;subst b;exact c d
theorem Kb:∀(l out:List Int),(BG out l).length<=out.length+l.length
 | [],out=>by simp[BG]
 | a::l,out=>by
  have e:BG out (a::l)=BG (DM out a) l:=rfl;rw[e];have:=Kb l (DM out a);have h2:(DM out a).length<=out.length+1:=by unfold DM;split<;>simp
  simp;omega
theorem Tl(out:List Int)(x:Int):
 (∃i v,CY (AA x) (FX out) 0=some (some (i,v))/\(FX out).modify i (λ_=>(AA x,.bool true))=FX (DM out x))\/(CY (AA x) (FX out) 0=some none/\FX out++[(AA x,.bool true)]=FX (DM out x)):=by
 by_cases hm:x∈out;obtain⟨j,h1,h2⟩:=D4 0 hm;refine .inl ⟨0+j,_,h1,?_⟩;have:=KN h2;rw[qZ,DM,my hm];exact this;refine .inr ⟨Ek 0 hm,?_⟩;rw[DM,mw hm];simp[FX]
def AG.all(h:AG):List Int:=h.I::(h.Y.map (·.rev)++h.Z.map (·.rev))
theorem Zl(hd:AG)(t:hd.l)(out:List Int){H:Hp}{n p s:Nat}(hp:H p=some (.cells [.map s]))(f:H s=some (.map (FX out))):
 BP prog 165 [hd.h,.ptr p 0] H n (λv h' n'=>v=.tup []/\h'=h_ H s (some (.map (FX (BG out hd.all))))/\n'=n):=by
 refine FF func165 rfl λd=>?_;have hpn:=(d p _ hp).1;have a:=(d s _ f).1;have r:p≠s:=by rintro rfl;rw[hp]at f;cases f
 have e1:p≠n:=by omega
 have e2:s≠n:=by omega
 have hsd:=t.Y;have hsl:=t.Z;have A:∀l:List Int,hd.all=hd.I::l->BG out hd.all=BG (DM out hd.I) l:=λl e=>by rw[e];rfl
 refine Bc 2 [(1,.ptr p 0),(2,.q hd.j)] H (λm=>m=n+1) ?_ (λm hm=>?_);simp[go_sem,AG.h,Or];exact⟨Ap (d.none (IO n)) (by simp[AE]),Aa d (IO _) AC⟩;subst hm;refine Bc 1 [(1,.ptr p 0),(2,.q hd.j)] (h_ H s (some (.map (FX (DM out hd.I))))) (λm=>m=n+1) ?_ (λm hm=>?_);rcases Tl out hd.I with⟨i,v,h1,h2⟩|⟨h1,h2⟩<;>simp[go_sem,AG.j,hp,f,h1,h2,BQ];subst hm;refine AK ?_;simp[go_sem,AG.j];refine BC 1 (α:=Nat) (λi=>[(1,.ptr p 0),(2,.q hd.j),(13,AX hd.Y),(14,AA hd.Y.length),(15,AA i)]) (λi=>h_ H s (some (.map (FX (BG (DM out hd.I) ((hd.Y.take i).map (·.rev)))))))
  (λi m=>i<=hd.Y.length/\n<m) (λi=>hd.Y.length-i) 0 ?_ ?_ ?_ ?_
 exact⟨qj _,vh n⟩;simp[look,AG.j];exact AC;rintro i m ⟨hi,c⟩;have w:p≠m:=by omega
 have z:s≠m:=by omega
 by_cases b:i<hd.Y.length
 . have B:=wS i mq;obtain⟨x,u⟩:∃x,hd.Y[i]=x:=⟨_,rfl⟩
   have a:BG (DM out hd.I) ((hd.Y.take (i+1)).map (·.rev))=DM (BG (DM out hd.I) ((hd.Y.take i).map (·.rev))) x.rev:=by
    rw[qb b,u,qc,CP];rfl
   generalize BG (DM out hd.I) ((hd.Y.take i).map (·.rev))=o2 at a ⊢;rcases Tl o2 x.rev with⟨k,v,h1,h2⟩|⟨h1,h2⟩<;>simp[go_sem,AG.j,b,u,Di.h,hp,h1,h2,BQ,B,AE,AD,w,z,r,-Int.natCast_add]
   all_goals
    refine⟨i+1,by omega,⟨by omega,by omega⟩,Or,?_⟩;rw[<-wq,a];intro j y;have:=d j y;simp only[h_];grind
 . have:i=hd.Y.length:=by omega
   subst this;rw[qp];generalize C:BG (DM out hd.I) (hd.Y.map (·.rev))=out1;simp[go_sem,AG.j];refine BC 1 (α:=Nat) (λi=>[(1,.ptr p 0),(2,.q hd.j),(25,AN hd.Z),(26,AA hd.Z.length),(27,AA i)]) (λi=>h_ H s (some (.map (FX (BG out1 ((hd.Z.take i).map (·.rev)))))))
    (λi m=>i<=hd.Z.length/\n<m) (λi=>hd.Z.length-i) 0 ?_ ?_ ?_ ?_
   exact⟨qj _,c⟩;simp[look,AG.j];exact AC;clear hi c w z m b;rintro i m ⟨hi,c⟩;have w:p≠m:=by omega
   have z:s≠m:=by omega
   by_cases b:i<hd.Z.length
   . have B:=wS i mq;obtain⟨x,u⟩:∃x,hd.Z[i]=x:=⟨_,rfl⟩
     have a:BG out1 ((hd.Z.take (i+1)).map (·.rev))=DM (BG out1 ((hd.Z.take i).map (·.rev))) x.rev:=by
      rw[qb b,u,qc,CP];rfl
     generalize BG out1 ((hd.Z.take i).map (·.rev))=o2 at a ⊢;rcases Tl o2 x.rev with⟨k,v,h1,h2⟩|⟨h1,h2⟩<;>simp[go_sem,AG.j,b,u,A3.h,hp,h1,h2,BQ,B,AE,AD,w,z,r,-Int.natCast_add]
     all_goals
      refine⟨i+1,by omega,⟨by omega,by omega⟩,Or,?_⟩;rw[<-wq,a];intro j y;have:=d j y;simp only[h_];grind
   have:i=hd.Z.length:=by omega
   subst this;rw[qp];simp[go_sem,AG.j];have g:BG out1 (hd.Z.map (·.rev))=BG out hd.all:=by
    rw[<-C,<-CP];exact(A _ rfl).symm
   rw[g];refine .inr ⟨0,.tup [],_,Or,by simp[C_,c_],λo x e=>⟨e,?_⟩,rfl,rfl,rfl⟩;have:=d o x;simp only[h_]at e;split at e;subst_vars;cases e;refine⟨a,?_⟩;simp[BH,FX,C_];exact this e
end Go.Proofs.YthinbkgpjmjfeaaGreatDoor.Sh
