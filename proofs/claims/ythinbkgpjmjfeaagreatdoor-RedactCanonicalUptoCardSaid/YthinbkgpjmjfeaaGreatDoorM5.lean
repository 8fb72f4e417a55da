/- A part of the proof (part 5 of 18). -/
import Derived.Test.YthinbkgpjmjfeaaGreatDoorM4
import Derived.OrdersHeld
import Derived.OrdersIn
import Derived.Shelf.SortM.Plain
import Derived.Shelf.SortM.SortNone
import Derived.Test.YthinbkgpjmjfeaaGreatDoorProg
namespace Go.Proofs.YthinbkgpjmjfeaaGreatDoor.Sh
open Go.Proofs.Tryz
abbrev wN:=@AD.zn
open Proofs
set_option maxRecDepth 10000
set_option maxHeartbeats 4000000
theorem gw:(BY prog 164).map (λf=>(f.name == "_",f.type,f.offset))=[(false,3,0),(false,3,1)]:=by kernel_rfl
theorem gv:(BY prog 74).map (λf=>(f.name == "_",f.type,f.offset))=[(false,3,0),(false,3,1)]:=by kernel_rfl
theorem gu:(BY prog 76).map (λf=>(f.name == "_",f.type,f.offset))=[(false,3,0),(false,3,1),(false,3,2),(false,4,3)]:=by kernel_rfl
theorem gk(a b:Fd):CM prog [AA a.key,AA a.value] [AA b.key,AA b.value] (BY prog 164)=some (decide (a=b)):=by
 rw[Cy,gw];cases a;cases b;rename_i a1 a2 b1 c;by_cases h1:a1=b1<;>by_cases h2:a2=c<;>simp[DH,DW,go_sem,h1,h2]
theorem gj(a b:Dx):CM prog [AA a.rev,AA a.move] [AA b.rev,AA b.move] (BY prog 74)=some (decide (a=b)):=by
 rw[Cy,gv];cases a;cases b;rename_i a1 a2 b1 c;by_cases h1:a1=b1<;>by_cases h2:a2=c<;>simp[DH,DW,go_sem,h1,h2]
theorem gi(a b:BC):CM prog [AA a.rev,AA a.key,AA a.before,.bool a.had] [AA b.rev,AA b.key,AA b.before,.bool b.had] (BY prog 76)=some (decide (a=b)):=by
 rw[Cy,gu];cases a;cases b;rename_i a1 a2 a3 a4 b1 c d e;by_cases h1:a1=b1<;>by_cases h2:a2=c<;>by_cases f:a3=d<;>by_cases g:a4=e<;>simp[DH,DW,go_sem,h1,h2,f,g]
theorem fq(a b:List Fd)(ha:a.length<=1048576)(hb:b.length<=1048576):PC 126 [.x 2 (a.map Fd.h) false,.x 2 (b.map Fd.h) false] (.bool (decide (a=b))):=by
 intro h n;refine gq func126 rfl λj=>?_;by_cases c:(a.length:Int)=b.length
 . have hlen':a.length=b.length:=by omega
   simp[go_sem,c];refine A9 1 (α:=Nat) (λk=>[(0,.x 2 (a.map Fd.h) false),(1,.x 2 (b.map Fd.h) false),(12,AA a.length),(13,AA k)]) (λ_=>h) (λk m=>k<=a.length/\n<=m/\a.take k=b.take k) (λk=>a.length-k) 0 ?_ ?_ AE ?_;simp;simp[look,c];rintro k m ⟨hk,i,g⟩;by_cases e:k<a.length
   . have p:=wS k nN;have d:k<b.length:=by omega
     obtain⟨x,l⟩:∃x,a[k]=x:=⟨_,rfl⟩
     obtain⟨y,o⟩:∃y,b[k]=y:=⟨_,rfl⟩
     simp[go_sem,e,d,l,o,Fd.h]
     repeat first|refine nq ?_|refine sq ?_|refine aq ?_
     refine⟨_,C7 rfl (.inr rfl) nQ nQ nQ rfl rfl (gk x y),?_⟩;simp[go_sem]
     repeat first|refine nq ?_|refine sq ?_|refine aq ?_
     by_cases f:x=y;simp[go_sem,f,p,-Int.natCast_add];exact⟨k+1,by omega,⟨by omega,i,by rw[qa e,qa d,l,o,g,f]⟩,Or⟩;simp[go_sem,f];have:a≠b:=by rintro rfl;exact f (by rw[<-l,<-o])
     exact An j rfl (by simp[this])
   simp[go_sem,e];have:a=b:=by rw[qD nN,qD nN]at g;exact g
   exact An j rfl (by simp[this])
 simp[go_sem,c];have:a≠b:=by rintro rfl;exact c rfl
 exact An j rfl (by simp[this])
theorem kE(a b:List Dx)(ha:a.length<=1048576)(hb:b.length<=1048576):PC 127 [.x 2 (a.map Dx.h) false,.x 2 (b.map Dx.h) false] (.bool (decide (a=b))):=by
 intro h n;refine gq func127 rfl λj=>?_;by_cases c:(a.length:Int)=b.length
 . have hlen':a.length=b.length:=by omega
   simp[go_sem,c];refine A9 1 (α:=Nat) (λk=>[(0,.x 2 (a.map Dx.h) false),(1,.x 2 (b.map Dx.h) false),(12,AA a.length),(13,AA k)]) (λ_=>h) (λk m=>k<=a.length/\n<=m/\a.take k=b.take k) (λk=>a.length-k) 0 ?_ ?_ AE ?_;simp;simp[look,c];rintro k m ⟨hk,i,g⟩;by_cases e:k<a.length
   . have p:=wS k nN;have d:k<b.length:=by omega
     obtain⟨x,l⟩:∃x,a[k]=x:=⟨_,rfl⟩
     obtain⟨y,o⟩:∃y,b[k]=y:=⟨_,rfl⟩
     simp[go_sem,e,d,l,o,Dx.h]
     repeat first|refine nq ?_|refine sq ?_|refine aq ?_
     refine⟨_,C7 rfl (.inr rfl) nQ nQ nQ rfl rfl (gj x y),?_⟩;simp[go_sem]
     repeat first|refine nq ?_|refine sq ?_|refine aq ?_
     by_cases f:x=y;simp[go_sem,f,p,-Int.natCast_add];exact⟨k+1,by omega,⟨by omega,i,by rw[qa e,qa d,l,o,g,f]⟩,Or⟩;simp[go_sem,f];have:a≠b:=by rintro rfl;exact f (by rw[<-l,<-o])
     exact An j rfl (by simp[this])
   simp[go_sem,e];have:a=b:=by rw[qD nN,qD nN]at g;exact g
   exact An j rfl (by simp[this])
 simp[go_sem,c];have:a≠b:=by rintro rfl;exact c rfl
 exact An j rfl (by simp[this])
theorem kF(a b:List BC)(ha:a.length<=1048576)(hb:b.length<=1048576):PC 128 [.x 4 (a.map BC.h) false,.x 4 (b.map BC.h) false] (.bool (decide (a=b))):=by
 intro h n;refine gq func128 rfl λj=>?_;by_cases c:(a.length:Int)=b.length
 . have hlen':a.length=b.length:=by omega
   simp[go_sem,c];refine A9 1 (α:=Nat) (λk=>[(0,.x 4 (a.map BC.h) false),(1,.x 4 (b.map BC.h) false),(12,AA a.length),(13,AA k)]) (λ_=>h) (λk m=>k<=a.length/\n<=m/\a.take k=b.take k) (λk=>a.length-k) 0 ?_ ?_ AE ?_;simp;simp[look,c];rintro k m ⟨hk,i,g⟩;by_cases e:k<a.length
   . have p:=wS k nN;have d:k<b.length:=by omega
     obtain⟨x,l⟩:∃x,a[k]=x:=⟨_,rfl⟩
     obtain⟨y,o⟩:∃y,b[k]=y:=⟨_,rfl⟩
     simp[go_sem,e,d,l,o,BC.h]
     repeat first|refine nq ?_|refine sq ?_|refine aq ?_
     refine⟨_,C7 rfl (.inr rfl) nQ nQ nQ rfl rfl (gi x y),?_⟩;simp[go_sem]
     repeat first|refine nq ?_|refine sq ?_|refine aq ?_
     by_cases f:x=y;simp[go_sem,f,p,-Int.natCast_add];exact⟨k+1,by omega,⟨by omega,i,by rw[qa e,qa d,l,o,g,f]⟩,Or⟩;simp[go_sem,f];have:a≠b:=by rintro rfl;exact f (by rw[<-l,<-o])
     exact An j rfl (by simp[this])
   simp[go_sem,e];have:a=b:=by rw[qD nN,qD nN]at g;exact g
   exact An j rfl (by simp[this])
 simp[go_sem,c];have:a≠b:=by rintro rfl;exact c rfl
 exact An j rfl (by simp[this])
theorem c58(a b:AF)(f:a.D)(hb:b.D):PC 68 [a.h,b.h] (.bool (decide (a=b))):=by
 intro h n;refine gq func68 rfl λc=>?_;have hh:∀y z,∀o x,h o=some x->h_ (h_ h n y) (n+1) z o=some x:=λy z=>by repeat(first|exact AE|refine AY c nN ?_)
 simp[go_sem,AF.h,AF.j,AC,AB];refine(fq _ _ f.Q hb.Q).use ?_;by_cases h1:a.Q=b.Q;by_cases h2:a.I=b.I;by_cases d:a.move=b.move;simp[go_sem,h1,h2,d,AC,AB];refine(kE _ _ f.Y hb.Y).use ?_;by_cases e:a.Y=b.Y;simp[go_sem,e,AC,AB];refine(kF _ _ f.Z hb.Z).use ?_;simp[go_sem];refine Bq c (hh _ _) ?_ rfl;cases a;cases b;simp at h1 h2 d e;simp[h1,h2,d,e];simp[go_sem,e];refine Bq c (hh _ _) ?_ rfl;have:a≠b:=by rintro rfl;exact e rfl
 simp[this];simp[go_sem,h1,h2,d,AC,AB];refine Bq c (hh _ _) ?_ rfl;have:a≠b:=by rintro rfl;exact d rfl
 simp[this];simp[go_sem,h1,h2,AC,AB];refine Bq c (hh _ _) ?_ rfl;have:a≠b:=by rintro rfl;exact h2 rfl
 simp[this];simp[go_sem,h1];refine Bq c (hh _ _) ?_ rfl;have:a≠b:=by rintro rfl;exact h1 rfl
 simp[this]
theorem Iw{p:Nat->Bool}{n k:Nat}(e:BI p n k = -1):∀i,k<=i->i<n->p i=false:=by
 intro i hk hi;rw[BI]at e;rw[dif_pos nN]at e;by_cases hp:p k=true;rw[nS hp]at e;omega;rw[nR hp]at e;by_cases h:i=k;subst h;simpa using hp;exact Iw e i nN hi
termination_by n-k
theorem Ix{p:Nat->Bool}{n k i0:Nat}(e:BI p n k=i0):∀i,k<=i->i<i0->p i=false:=by
 intro i hk hi;rw[BI]at e;split at e;by_cases hp:p k=true;rw[nS hp]at e;omega;rw[nR hp]at e;by_cases h:i=k;subst h;simpa using hp;exact Ix e i nN hi;omega
termination_by n-k
def B6{α:Type}(p:α->Bool)(l:List α)(i:Nat):List α:=((l.take i).filter λx=>!p x)++l.drop ((l.take i).filter λx=>!p x).length
theorem lP(l:List AM)(hl:l.length<=1048576)(g:FuncId)(a b:List SV)(p:AM->Bool)(hp:∀x∈l,PC g (a++[x.h]++b) (.bool (p x))){H:Hp}{n o:Nat}{full:Bool}(S:H o=some (.cells ((l.map AM.h).flatMap SV.cells))):
 BF prog 162 [.sl o 0 6 l.length full,.fn (.func g) a b] H n (λv h' n'=>v=.x 6 ((l.filter λx=>!p x).map AM.h) false/\h'=h_ H o none/\n'=n):=by
 refine gq func162 rfl λT=>?_;have hon:o<n:=(T o _ S).1;have hI:=gB l hl g a b (λi=>match l[i]? with|some x=>p x|none=>false) (λi hi=>by simpa[hi]using hp l[i] (qp hi));have fin:∀(c:List AM)(h':Hp)(n':Nat)(N:List SV)(f2:Bool),(l.filter λx=>!p x)=c->(∀j y,j≠o->H j=some y->h' j=some y)->h' o=some (.cells N)->c.length*6<=N.length->N.take (c.length*6)=(c.map AM.h).flatMap SV.cells->
  Cb n h' n' (.sl o 0 6 c.length f2) (λv h' n'=>v=.x 6 ((l.filter λx=>!p x).map AM.h) false/\h'=h_ H o none/\n'=n):=λc h' n' N f2 hk hh hc h1 h2=>by
  refine .inr ⟨1,.x 6 (c.map AM.h) false,h_ H o none,.inr ⟨AC _ _ _,by simp,by simp,rfl,N,(c.map AM.h).flatMap SV.cells,hc,by simp[CP,h1,h2],AM.E.size c,?_⟩,AM.E.x _ _ _ _,λj y e=>?_,by rw[hk],rfl,rfl⟩;have:∀l:List SV,AT (Fz h' (h_ H o none) 0) l l:=by
   intro l;induction l with
   | nil=>trivial
   | cons a l ih=>exact⟨Or,ih⟩
  exact this _;by_cases w:j=o;subst w;rw[AC]at e;cases e;rw[AB _ _ w]at e;exact⟨hh j y w e,T j y e⟩
 simp[go_sem];refine hI.lend 2 rfl ⟨?_,Or,trivial⟩ ?_;have:=Ez (h':=H) (h:=λ_=>none) (k:=1) (z:=6) (es:=l.map AM.h) (full:=full) (full':=false) (o:=o) rfl nO S (AM.E.size l);rw[qj]at this;exact this;rcases GV (λi=>match l[i]? with|some x=>p x|none=>false) l.length 0 with e|⟨f,_,t,e,Y⟩
 simp[go_sem,e];have O:(l.filter λx=>!p x)=l:=vI.2 λx J=>by
  obtain⟨i,hi,rfl⟩:=vZ J;have:=Iw e i (qi _) hi;simpa[hi]using this
 exact fin l H n _ full O (λj y _ e=>e) S (by rw[Bv (AM.E.size l),qj];exact IO _) (qD (by rw[Bv (AM.E.size l),qj];exact IO _));have w0:=wS f nN;have Z:¬((f:Int) = -1):=by omega
 simp[go_sem,e,w0,Z,-Int.natCast_add];have C:p l[f]=true:=by simpa[t]using Y
 have d:(l.take f).filter (λx=>!p x)=l.take f:=vI.2 λx J=>by
  obtain⟨i,hi,rfl⟩:=vZ J;have Q:i<f:=by simp at hi;omega
  have:=Ix e i (qi _) Q;simpa[show i<l.length by omega]using this
 refine A9 1 (α:=Nat) (λi=>[(0,.sl o 0 6 l.length full),(1,.fn (.func g) a b),(5,AA ((l.take i).filter λx=>!p x).length),(6,AA i)]) (λi=>h_ H o (some (.cells (((B6 p l i).map AM.h).flatMap SV.cells))))
  (λi m=>f<i/\i<=l.length/\n<=m) (λi=>l.length-i) (f+1) ?_ ?_ ?_ ?_
 exact⟨ve _,t,IO _⟩;have:((l.take (f+1)).filter λx=>!p x).length=f:=by
  rw[qa t,vG,d];simp[C];omega
 simp[look,this,-Int.natCast_add];have:B6 p l (f+1)=l:=by
  unfold B6;rw[qa t,vG,d];simp[C,vQ (Nat.le_of_lt t)]
 rw[this];intro j y e;simp only[h_]at e;split at e;rename_i h;subst h;rw[S];exact e;exact e;rintro i m ⟨hi1,Q,hnm⟩;have X:((l.take i).filter λx=>!p x).length<i:=by
  have h1:l.take i=l.take (f+1)++(l.drop (f+1)).take (i-(f+1)):=by
   rw[<-List.take_add];congr 1;omega
  have h2:((l.take (f+1)).filter λx=>!p x).length=f:=by
   rw[qa t,vG,d];simp[C];omega
  rw[h1,vG,qk,h2];have:=vA (λx=>!p x) ((l.drop (f+1)).take (i-(f+1)));simp at this ⊢;omega
 have r:(B6 p l i).length=l.length:=by unfold B6;simp;omega
 generalize q:(l.take i).filter (λx=>!p x)=c at X ⊢;have u:o≠m:=by omega
 have G:=AM.E.size (B6 p l i);by_cases B:i<l.length;have w1:=wS i nN;have w2:IntKind.i64.wrap ((c.length:Int)+1)=((c.length+1:Nat):Int):=by rw[D5]<;>omega
 obtain⟨x,J⟩:∃x,l[i]=x:=⟨_,rfl⟩
 have P:(B6 p l i)[i]? = some x:=by
  unfold B6;rw[q,vM nN,vq];have:c.length+(i-c.length)=i:=by omega
  rw[this,qm B,J]
 obtain⟨g1,U⟩:=Nn G (i:=i) (e:=x.h) (by simp[P]);have s:=RD G (j:=c.length) (e:=x.h) (by simp[r];omega);have g3:c.length*6+6<=(((B6 p l i).map AM.h).flatMap SV.cells).length:=by
  rw[Bv G,qj,r];omega
 have hcl:=AM.E.len x;generalize V:((B6 p l i).map AM.h).flatMap SV.cells=F at g1 U g3 s ⊢;have H1:=hp x (by rw[<-J];exact qp B);simp only[qv,qB,qK]at H1;have hpre:=AM.E.st x;simp[qR,SV.cells]at U;simp[go_sem,B,AC,g1,U];refine qO (by simpa[qR]using H1) ?_;by_cases L:p x=true;simp[go_sem,L,w1,-Int.natCast_add];have A:(l.take (i+1)).filter (λx=>!p x)=c:=by rw[qa B,vG,q,J];simp[L]
 have D:B6 p l (i+1)=B6 p l i:=by unfold B6;rw[A,q]
 refine⟨i+1,by omega,⟨by omega,by omega,by omega⟩,⟨by rw[A];exact Or,Or⟩,λj y e=>?_⟩;rw[D,V]at e;by_cases w:j=o;subst w;rw[AC]at e;rw[AB _ _ u,AB _ _ u,AC];exact e;rw[AB _ _ w]at e;have:=(T j y e).1;rw[AB _ _ nN,AB _ _ nN,AB _ _ w];exact e;have I:p x=false:=by simpa using L
 have R:(c.length:Int)<l.length:=by omega
 simp[qR,SV.cells]at s;simp[go_sem,I,AC,AB,u,R,g3,s,w1,w2,-Int.natCast_add];have A:(l.take (i+1)).filter (λx=>!p x)=c++[x]:=by rw[qa B,vG,q,J];simp[I]
 have D:(B6 p l (i+1)).map AM.h=((B6 p l i).map AM.h).set c.length x.h:=by
  have:B6 p l (i+1)=(B6 p l i).set c.length x:=by
   unfold B6;rw[A,q,List.set_append_right _ _ (IO _),Nat.sub_self];simp;rw[qG (show c.length<l.length by omega),List.set_cons_zero]
  rw[this,List.map_set]
 rw[qR]at D;refine⟨i+1,by omega,⟨by omega,by omega,by omega⟩,⟨by rw[A,qk];exact Or,Or⟩,λj y e=>?_⟩;rw[D]at e;by_cases w:j=o;subst w;rw[AC]at e ⊢;exact e;rw[AB _ _ w]at e ⊢;have:=(T j y e).1;rw[AB _ _ nN,AB _ _ nN,AB _ _ w];exact e;have:i=l.length:=by omega
 subst this;have q1:c.length<=l.length:=by omega
 have q2:¬((c.length:Int)=l.length):=by omega
 have q3:¬(l.length-c.length=0):=by omega
 rw[qn]at q;have V:((B6 p l l.length).map AM.h).flatMap SV.cells=(c.map AM.h).flatMap SV.cells++((l.drop c.length).map AM.h).flatMap SV.cells:=by unfold B6;rw[qn,q];simp
 have K:((c.map AM.h).flatMap SV.cells).length=c.length*6:=by rw[Bv (AM.E.size c),qj]
 have W:(((B6 p l l.length).map AM.h).flatMap SV.cells).length=l.length*6:=by rw[Bv G,qj,r]
 have q4:c.length*6+(l.length-c.length)*6<=(((B6 p l l.length).map AM.h).flatMap SV.cells).length:=by rw[W,<-wd];apply vX;omega
 have M:(((B6 p l l.length).map AM.h).flatMap SV.cells).take (c.length*6)=(c.map AM.h).flatMap SV.cells:=by rw[V,<-K,List.take_left]
 generalize((B6 p l l.length).map AM.h).flatMap SV.cells=F at q4 M ⊢;simp[go_sem,AC,q1,q2,q3,q4];refine fin c _ _ _ _ q (λj y hj e=>by rw[AB _ _ hj,AB _ _ hj];exact e) (AC _ _ _) ?_ ?_;rw[M,qk,K];omega;rw[M,<-K,List.take_left]
theorem d75(l:List CI)(hl:l.length<=1048576)(g:FuncId)(a b:List SV)(p:CI->Bool)(hp:∀x∈l,PC g (a++[x.h]++b) (.bool (p x))){H:Hp}{n o:Nat}{full:Bool}(S:H o=some (.cells ((l.map CI.h).flatMap SV.cells))):
 BF prog 104 [.sl o 0 3 l.length full,.fn (.func g) a b] H n (λv h' n'=>v=.x 3 ((l.filter λx=>!p x).map CI.h) false/\h'=h_ H o none/\n'=n):=by
 refine gq func104 rfl λT=>?_;have hon:o<n:=(T o _ S).1;have hI:=fv l hl g a b (λi=>match l[i]? with|some x=>p x|none=>false) (λi hi=>by simpa[hi]using hp l[i] (qp hi));have fin:∀(c:List CI)(h':Hp)(n':Nat)(N:List SV)(f2:Bool),(l.filter λx=>!p x)=c->(∀j y,j≠o->H j=some y->h' j=some y)->h' o=some (.cells N)->c.length*3<=N.length->N.take (c.length*3)=(c.map CI.h).flatMap SV.cells->
  Cb n h' n' (.sl o 0 3 c.length f2) (λv h' n'=>v=.x 3 ((l.filter λx=>!p x).map CI.h) false/\h'=h_ H o none/\n'=n):=λc h' n' N f2 hk hh hc h1 h2=>by
  refine .inr ⟨1,.x 3 (c.map CI.h) false,h_ H o none,.inr ⟨AC _ _ _,by simp,by simp,rfl,N,(c.map CI.h).flatMap SV.cells,hc,by simp[CP,h1,h2],CI.E.size c,?_⟩,CI.E.x _ _ _ _,λj y e=>?_,by rw[hk],rfl,rfl⟩;have:∀l:List SV,AT (Fz h' (h_ H o none) 0) l l:=by
   intro l;induction l with
   | nil=>trivial
   | cons a l ih=>exact⟨Or,ih⟩
  exact this _;by_cases w:j=o;subst w;rw[AC]at e;cases e;rw[AB _ _ w]at e;exact⟨hh j y w e,T j y e⟩
 simp[go_sem];refine hI.lend 2 rfl ⟨?_,Or,trivial⟩ ?_;have:=Ez (h':=H) (h:=λ_=>none) (k:=1) (z:=3) (es:=l.map CI.h) (full:=full) (full':=false) (o:=o) rfl nO S (CI.E.size l);rw[qj]at this;exact this;rcases GV (λi=>match l[i]? with|some x=>p x|none=>false) l.length 0 with e|⟨f,_,t,e,Y⟩
 simp[go_sem,e];have O:(l.filter λx=>!p x)=l:=vI.2 λx J=>by
  obtain⟨i,hi,rfl⟩:=vZ J;have:=Iw e i (qi _) hi;simpa[hi]using this
 exact fin l H n _ full O (λj y _ e=>e) S (by rw[Bv (CI.E.size l),qj];exact IO _) (qD (by rw[Bv (CI.E.size l),qj];exact IO _));have w0:=wS f nN;have Z:¬((f:Int) = -1):=by omega
 simp[go_sem,e,w0,Z,-Int.natCast_add];have C:p l[f]=true:=by simpa[t]using Y
 have d:(l.take f).filter (λx=>!p x)=l.take f:=vI.2 λx J=>by
  obtain⟨i,hi,rfl⟩:=vZ J;have Q:i<f:=by simp at hi;omega
  have:=Ix e i (qi _) Q;simpa[show i<l.length by omega]using this
 refine A9 1 (α:=Nat) (λi=>[(0,.sl o 0 3 l.length full),(1,.fn (.func g) a b),(5,AA ((l.take i).filter λx=>!p x).length),(6,AA i)]) (λi=>h_ H o (some (.cells (((B6 p l i).map CI.h).flatMap SV.cells))))
  (λi m=>f<i/\i<=l.length/\n<=m) (λi=>l.length-i) (f+1) ?_ ?_ ?_ ?_
 exact⟨ve _,t,IO _⟩;have:((l.take (f+1)).filter λx=>!p x).length=f:=by
  rw[qa t,vG,d];simp[C];omega
 simp[look,this,-Int.natCast_add];have:B6 p l (f+1)=l:=by
  unfold B6;rw[qa t,vG,d];simp[C,vQ (Nat.le_of_lt t)]
 rw[this];intro j y e;simp only[h_]at e;split at e;rename_i h;subst h;rw[S];exact e;exact e;rintro i m ⟨hi1,Q,hnm⟩;have X:((l.take i).filter λx=>!p x).length<i:=by
  have h1:l.take i=l.take (f+1)++(l.drop (f+1)).take (i-(f+1)):=by
   rw[<-List.take_add];congr 1;omega
  have h2:((l.take (f+1)).filter λx=>!p x).length=f:=by
   rw[qa t,vG,d];simp[C];omega
  rw[h1,vG,qk,h2];have:=vA (λx=>!p x) ((l.drop (f+1)).take (i-(f+1)));simp at this ⊢;omega
 have r:(B6 p l i).length=l.length:=by unfold B6;simp;omega
 generalize q:(l.take i).filter (λx=>!p x)=c at X ⊢;have u:o≠m:=by omega
 have G:=CI.E.size (B6 p l i);by_cases B:i<l.length;have w1:=wS i nN;have w2:IntKind.i64.wrap ((c.length:Int)+1)=((c.length+1:Nat):Int):=by rw[D5]<;>omega
 obtain⟨x,J⟩:∃x,l[i]=x:=⟨_,rfl⟩
 have P:(B6 p l i)[i]? = some x:=by
  unfold B6;rw[q,vM nN,vq];have:c.length+(i-c.length)=i:=by omega
  rw[this,qm B,J]
 obtain⟨g1,U⟩:=Nn G (i:=i) (e:=x.h) (by simp[P]);have s:=RD G (j:=c.length) (e:=x.h) (by simp[r];omega);have g3:c.length*3+3<=(((B6 p l i).map CI.h).flatMap SV.cells).length:=by
  rw[Bv G,qj,r];omega
 have hcl:=CI.E.len x;generalize V:((B6 p l i).map CI.h).flatMap SV.cells=F at g1 U g3 s ⊢;have H1:=hp x (by rw[<-J];exact qp B);simp only[qv,qB,qK]at H1;have hpre:=CI.E.st x;simp[CI.h,SV.cells]at U;simp[go_sem,B,AC,g1,U];refine qO (by simpa[CI.h]using H1) ?_;by_cases L:p x=true;simp[go_sem,L,w1,-Int.natCast_add];have A:(l.take (i+1)).filter (λx=>!p x)=c:=by rw[qa B,vG,q,J];simp[L]
 have D:B6 p l (i+1)=B6 p l i:=by unfold B6;rw[A,q]
 refine⟨i+1,by omega,⟨by omega,by omega,by omega⟩,⟨by rw[A];exact Or,Or⟩,λj y e=>?_⟩;rw[D,V]at e;by_cases w:j=o;subst w;rw[AC]at e;rw[AB _ _ u,AB _ _ u,AC];exact e;rw[AB _ _ w]at e;have:=(T j y e).1;rw[AB _ _ nN,AB _ _ nN,AB _ _ w];exact e;have I:p x=false:=by simpa using L
 have R:(c.length:Int)<l.length:=by omega
 simp[CI.h,SV.cells]at s;simp[go_sem,I,AC,AB,u,R,g3,s,w1,w2,-Int.natCast_add];have A:(l.take (i+1)).filter (λx=>!p x)=c++[x]:=by rw[qa B,vG,q,J];simp[I]
 have D:(B6 p l (i+1)).map CI.h=((B6 p l i).map CI.h).set c.length x.h:=by
  have:B6 p l (i+1)=(B6 p l i).set c.length x:=by
   unfold B6;rw[A,q,List.set_append_right _ _ (IO _),Nat.sub_self];simp;rw[qG (show c.length<l.length by omega),List.set_cons_zero]
  rw[this,List.map_set]
 rw[CI.h]at D;refine⟨i+1,by omega,⟨by omega,by omega,by omega⟩,⟨by rw[A,qk];exact Or,Or⟩,λj y e=>?_⟩;rw[D]at e;by_cases w:j=o;subst w;rw[AC]at e ⊢;exact e;rw[AB _ _ w]at e ⊢;have:=(T j y e).1;rw[AB _ _ nN,AB _ _ nN,AB _ _ w];exact e;have:i=l.length:=by omega
 subst this;have q1:c.length<=l.length:=by omega
 have q2:¬((c.length:Int)=l.length):=by omega
 have q3:¬(l.length-c.length=0):=by omega
 rw[qn]at q;have V:((B6 p l l.length).map CI.h).flatMap SV.cells=(c.map CI.h).flatMap SV.cells++((l.drop c.length).map CI.h).flatMap SV.cells:=by unfold B6;rw[qn,q];simp
 have K:((c.map CI.h).flatMap SV.cells).length=c.length*3:=by rw[Bv (CI.E.size c),qj]
 have W:(((B6 p l l.length).map CI.h).flatMap SV.cells).length=l.length*3:=by rw[Bv G,qj,r]
 have q4:c.length*3+(l.length-c.length)*3<=(((B6 p l l.length).map CI.h).flatMap SV.cells).length:=by rw[W,<-wd];apply vX;omega
 have M:(((B6 p l l.length).map CI.h).flatMap SV.cells).take (c.length*3)=(c.map CI.h).flatMap SV.cells:=by rw[V,<-K,List.take_left]
 generalize((B6 p l l.length).map CI.h).flatMap SV.cells=F at q4 M ⊢;simp[go_sem,AC,q1,q2,q3,q4];refine fin c _ _ _ _ q (λj y hj e=>by rw[AB _ _ hj,AB _ _ hj];exact e) (AC _ _ _) ?_ ?_;rw[M,qk,K];omega;rw[M,<-K,List.take_left]
def AD.zb(y:AD)(t:ByteArray):AD:=.mk y.l y.code y.id (y.J++t) y.H y.W y.R
def Bg(x:AD):Prop:=(x.l=7/\x.R=[])\/(x.l=1/\x.J.size=0)
instance(x:AD):Decidable (Bg x):=by unfold Bg;cases h:x.R<;>simp<;>infer_instance
def Ah(out:List AD)(x:AD):List AD:=
 if Bg x then out else match out.getLast? with
  | some y=>if x.l=1/\y.l=1/\y.H=x.H then out.dropLast++[y.zb x.J]else out++[x]
  | none=>out++[x]
def Eg(l:List AD):List AD:=l.foldl Ah []
mutual
def AD.N:AD->AD
 | .mk k c i t h f r=>.mk k c i t h (Eg (AD.nrmL f)) ((AM.nrmL r).filter λr=>!decide (r.cells.length=0))
def AD.nrmL:List AD->List AD
 | []=>[]
 | x::l=>AD.N x::AD.nrmL l
def AM.N:AM->AM
 | .mk h c=>.mk h (AG.nrmL c)
def AM.nrmL:List AM->List AM
 | []=>[]
 | x::l=>AM.N x::AM.nrmL l
def AG.N:AG->AG
 | .mk i h f=>.mk i h (Eg (AD.nrmL f))
def AG.nrmL:List AG->List AG
 | []=>[]
 | x::l=>AG.N x::AG.nrmL l
end
theorem AD.zh:∀l:List AD,AD.nrmL l=l.map AD.N
 | []=>by rw[AD.nrmL];rfl
 | x::l=>by rw[AD.nrmL,AD.zh l];rfl
theorem AM.zh:∀l:List AM,AM.nrmL l=l.map AM.N
 | []=>by rw[AM.nrmL];rfl
 | x::l=>by rw[AM.nrmL,AM.zh l];rfl
theorem AG.zh:∀l:List AG,AG.nrmL l=l.map AG.N
 | []=>by rw[AG.nrmL];rfl
 | x::l=>by rw[AG.nrmL,AG.zh l];rfl
def Ae(l:List AD):List AD:=Eg (AD.nrmL l)
theorem fu(z:Nat)(full:Bool):PC 162 [.x z [] full,.fn (.func 164) [] []] (.x 6 [] false):=by
 intro h n;refine gq func162 rfl λa=>?_;simp[go_sem];have hI:=(gB [] nO 164 [] [] (λ_=>false) nO).wk (us:=[.x z [] full,.fn (.func 164) [] []]) 1 ⟨Iv nO,Or,trivial⟩;refine qO hI ?_;have e:BI (λ_=>false) 0 0 = -1:=by rw[BI];simp
 simp[go_sem,e];exact QD a AE nO rfl
theorem kH(r:AM):PC 164 [r.h] (.bool (decide (r.cells.length=0))):=by
 intro h n;refine gq func164 rfl λa=>?_;simp[go_sem,qR,AC];exact Bq a (AY a (IO _) AE) (by cases r.cells<;>simp;omega) rfl
theorem Ye{E:BU}(l:List AM)(b:l.length<=1048576)(H:∀(i:Nat)(h:i<l.length),PC 163 [(l[i]).h] (AM.N l[i]).h){h:Hp}{n:Nat}{K:SV->Hp->Nat->Prop}
 (hk:∀v h' n',n<=n'->(∀o x,h o=some x->h' o=some x)->Ab E prog 162 [v,.fn (.func 164) [] []] h' n' (λd h2 c=>(∀o x,o<n->h o=some x->h2 o=some x)/\n<=c/\d=.x 6 (((l.map AM.N).filter λr=>!decide (r.cells.length=0)).map AM.h) false)->K v h' n'):
 Ab E prog 157 [Ap l,.fn (.func 163) [] []] h n K:=by
 refine(iD l b 163 [] [] AM.N (λi hi=>H i hi)).use λv h' n' ⟨a,hh,hv⟩=>hk v h' n' a hh ?_;rcases hv with⟨k,m,full,rfl⟩|⟨o,full,h1,h2,rfl,f⟩
 refine qO (fu m full) ⟨λo x _ e=>hh o x e,a,?_⟩;have:l.map AM.N=[]:=by simpa using k
 rw[this];rfl;rw[qj];refine Ab.lift ((lP (l.map AM.N) (by simpa using b) 164 [] [] (λr=>decide (r.cells.length=0)) (λr _=>kH r) (n:=n') (full:=full) f).mono ?_);rintro d h2 c ⟨rfl,rfl,rfl⟩;exact⟨λj x g e=>by rw[AB _ _ nN];exact hh j x e,a,rfl⟩
theorem AD.nrm_fields(x:AD):x.N.l=x.l/\x.N.code=x.code/\x.N.id=x.id/\x.N.J=x.J/\x.N.H=x.H/\x.N.W=Ae x.W/\x.N.R=(x.R.map AM.N).filter λr=>!decide (r.cells.length=0):=by
 cases x;rw[AD.N];simp[AD.l,AD.code,AD.id,AD.J,AD.H,AD.W,AD.R,Ae,AM.zh]
theorem J4(l:List AD)(k:Nat)(h:k<l.length):Eg (AD.nrmL (l.take (k+1)))=Ah (Eg (AD.nrmL (l.take k))) l[k].N:=by
 rw[qa h,AD.zh,qc,Eg,qX,AD.zh];rfl
theorem Ky(out:List AD)(x:AD):(Ah out x).length<=out.length+1:=by
 unfold Ah;split;omega;split;split<;>simp;simp
theorem Oy(l:List AD):∀k,k<=l.length->(Eg (AD.nrmL (l.take k))).length<=k
 | 0,_=>by simp[AD.nrmL,Eg]
 | k+1,h=>by
  rw[J4 l k h];have:=Ky (Eg (AD.nrmL (l.take k))) l[k].N;have:=Oy l k nN;omega
theorem Kz{out:List AD}{x y:AD}(h:y∈Ah out x):y∈out\/y=x\/∃z∈out,y=z.zb x.J:=by
 unfold Ah at h;split at h;exact .inl h;split at h;rename_i z a;split at h;rcases qf.1 h with h|h;exact .inl ((List.dropLast_sublist out).subset h);exact .inr (.inr ⟨z,List.mem_of_getLast? a,qA.1 h⟩);rcases qf.1 h with h|h;exact .inl h;exact .inr (.inl (qA.1 h));rcases qf.1 h with h|h;exact .inl h;exact .inr (.inl (qA.1 h))
theorem LZ(l:List AD)(a:∀x∈l,x.H.D/\x.J.size<=1048576):∀k,k<=l.length->∀y∈Eg (AD.nrmL (l.take k)),y.H.D/\y.J.size<=k*1048576
 | 0,_,y,hy=>by simp[AD.nrmL,Eg]at hy
 | k+1,h,y,hy=>by
  rw[J4 l k h]at hy;have b:=a l[k] (qp h);obtain⟨_,_,_,f4,f5,_,_⟩:=(l[k]).nrm_fields;rcases Kz hy with h1|rfl|⟨z,c,rfl⟩
  have:=LZ l a k nN y h1;exact⟨this.1,by omega⟩;rw[f4,f5];exact⟨b.1,by omega⟩;have:=LZ l a k nN z c;refine⟨by simpa[AD.zb,AD.H]using this.1,?_⟩;have e:(z.zb (l[k]).N.J).J.size=z.J.size+(l[k]).J.size:=by show(z.J++(l[k]).N.J).size=_;rw[ByteArray.size_append,f4]
  omega
theorem Qx(s:ByteArray):(s.toList==ByteArray.empty.toList)=decide (s.size=0):=by
 rw[<-beq_toListBytes];by_cases h:s.size=0;have:s=ByteArray.empty:=by
  obtain⟨⟨l⟩⟩:=s;cases l with
  | nil=>rfl
  | cons a l=>simp[ByteArray.size]at h
 subst this;rfl;have:s≠ByteArray.empty:=by rintro rfl;exact h rfl
 have e:(s==ByteArray.empty)=false:=by
  rw[Bool.eq_false_iff];intro e;exact this ((Sf _ _).1 e)
 rw[e];simp[h]
theorem LU(s:ByteArray):s.toList=[]↔s.size=0:=by
 have h:=Qx s;have e:ByteArray.empty.toList=[]:=by
  have:=Qx ByteArray.empty;rw[ByteArray.toList_eq];rfl
 rw[e]at h;constructor;intro g;rw[g]at h;simpa using h.symm;intro g;rw[decide_eq_true g]at h;simpa using h
theorem Sk(l:List AD)(hl:l.length<=1048576)(hs:∀x∈l,x.H.D/\x.J.size<=1048576/\x.R.length<=1048576)
 (H1:∀x∈l,PC 102 [AI x.W] (AI (Ae x.W))) (H2:∀x∈l,∀(i:Nat)(h:i<x.R.length),PC 163 [(x.R[i]).h] (AM.N x.R[i]).h):LC 102 [AI l] 11 ((Ae l).map AD.h):=by
 intro h n;refine gq func102 rfl λho=>?_;simp[go_sem];refine A9 2 (α:=Nat×Option Nat) (λq=>[(3,AQ 11 q.2 ((Eg (AD.nrmL (l.take q.1))).map AD.h)),(7,AI l),(8,AA l.length),(9,AA q.1)]) (λq=>AS q.2 ((Eg (AD.nrmL (l.take q.1))).map AD.h) h)
  (λq m=>q.1<=l.length/\n<=m/\BG n m 11 q.2 ((Eg (AD.nrmL (l.take q.1))).map AD.h)) (λq=>l.length-q.1) (0,none) ?_ ?_ AE ?_
 exact⟨qi _,IO _,by simp[AD.nrmL,Eg];exact wF _ _ _⟩;simp[look,AQ];rintro⟨k,o⟩ m ⟨hk,hnm,hA⟩;dsimp only at hk hA ⊢;by_cases hlt:k<l.length
 . have w1:=wS k nN;obtain⟨x,hx⟩:∃x,l[k]=x:=⟨_,rfl⟩
   have hxm:x∈l:=by rw[<-hx];exact qp hlt
   obtain⟨hxh,hxt,hxr⟩:=hs x hxm;have hft:=J4 l k hlt;rw[hx]at hft;obtain⟨f1,f2,f3,f4,f5,f6,f7⟩:=x.nrm_fields;have hfl:=Oy l k hk;generalize hys:Eg (AD.nrmL (l.take k))=ys at hA hft hfl ⊢;have hlo:∀j,o=some j->j<m:=λj e=>(hA.lt j e).2;simp[go_sem,hlt,hx,qz,AC];refine qO (by simpa[AF.h,AF.j]using NS x.H hxh) ?_;simp[go_sem,AC];refine(H1 x hxm).use ?_;simp[go_sem,AC];refine Ye x.R hxr (λi hi=>H2 x hxm i hi) λv h1 m1 hm1 hh1 hcall=>?_;simp[go_sem];refine wn hcall ?_;rintro v2 h2 m2 ⟨hh2,hm2,rfl⟩;rw[<-f7];generalize hR:x.N.R=R at f7 ⊢;have em0:=hh2 m _ (ve m) (AC _ _ _);have ho2:∀j,o=some j->h2 j=some (.cells ((ys.map AD.h).flatMap SV.cells)):=λj e=>by
    have:=hlo j e;exact hh2 j _ nN (by rw[AB _ _ nN,AB _ _ nN,AB _ _ nN,AB _ _ nN];exact GN j e)
   have hacc:∀j y,AS o (ys.map AD.h) h j=some y->j<m/\h2 j=some y:=λj y e=>by
    have hjm:j<m:=by
     cases o with
     | none=>have:=(ho j y e).1;omega
     | some i=>
      simp only[AS,h_]at e;split at e;rename_i h;subst h;exact hlo _ rfl;have:=(ho j y e).1;omega
    exact⟨hjm,hh2 j _ nN (by rw[AB _ _ nN,AB _ _ nN,AB _ _ nN,AB _ _ nN];exact e)⟩
   have Ar:∀j y,h j=some y->h2 j=some y:=λj y e=>(hacc j y (AS.old ho hA j y e)).2;clear hcall hh1 hh2;rcases o with _|j
   . have hys0:ys=[]:=by simpa using hA.none rfl
     subst hys0;have happ:¬Bg x.N->Ah [] x.N=[]++[x.N]:=λhd=>by rw[Ah,nR hd];rfl
     by_cases k7:x.l=7
     . by_cases hR0:R=[];have hd:Bg x.N:=.inl ⟨by rw[f1,k7],by rw[hR,hR0]⟩;simp[go_sem,AQ,em0,AC,k7,hR0,w1,-Int.natCast_add];rw[Ah,nS hd]at hft;refine⟨k+1,by omega,none,⟨by omega,by omega,by rw[hft];exact hA.mono nN⟩,⟨by rw[hft];first|exact Or|(simp[AQ,Or]),Or⟩,λi y e=>?_⟩;rw[hft]at e;obtain⟨g1,g2⟩:=hacc i y e;rw[AB _ _ nN];exact g2
       . have hd:¬Bg x.N:=by rintro(⟨_,g⟩|⟨g,_⟩);exact hR0 (by rw[<-hR,g]);rw[f1,k7]at g;exact absurd g (by decide)
         rw[happ hd]at hft;simp[go_sem,AQ,em0,AC,k7,hR0]
         repeat first|refine nq ?_|refine sq ?_|refine aq ?_
         rw[Ph (e:=x.N.h) (t:=22) (t2:=22) (el:=80) (z:=11) nP nP nP nO nP nP nP (AD.E.len _) ?a1]
         case a1=>simp[AC,qz,SV.cells,f1,f2,f3,f4,f5,f6,hR,k7]
         simp[go_sem,w1,-Int.natCast_add];refine⟨k+1,by omega,some (m2+1),⟨by omega,by omega,by rw[hft,qc];exact hA.push (AD.E.st _) (AD.E.len _) nN nN⟩,⟨by rw[hft];simp[Or],Or⟩,?_⟩;rw[hft,qc];have:=EG (p:=m2+1) (v:=.sl (m2+1) 0 11 (1) false) (e:=x.N.h) ho nN hA (H:=h_ (h_ h2 m (some (.cells x.N.h.cells))) m2 (some (.cells x.N.h.cells))) (AY ho nN (AY ho nN Ar));simpa[qz,SV.cells,CS.app,f1,f2,f3,f4,f5,f6,hR,k7]using this
     . by_cases k1:x.l=1
       . by_cases ht:x.J.size=0;have hd:Bg x.N:=.inr ⟨by rw[f1,k1],by rw[f4,ht]⟩;simp[go_sem,AQ,em0,AC,k1,(LU _).2 ht,w1,-Int.natCast_add];rw[Ah,nS hd]at hft;refine⟨k+1,by omega,none,⟨by omega,by omega,by rw[hft];exact hA.mono nN⟩,⟨by rw[hft];first|exact Or|(simp[AQ,Or]),Or⟩,λi y e=>?_⟩;rw[hft]at e;obtain⟨g1,g2⟩:=hacc i y e;rw[AB _ _ nN];exact g2
         . have hd:¬Bg x.N:=by rintro(⟨g,_⟩|⟨_,g⟩);rw[f1,k1]at g;exact absurd g (by decide);exact ht (by rw[<-f4,g])
           rw[happ hd]at hft;simp[go_sem,AQ,em0,AC,k1,mt (LU _).1 ht]
           repeat first|refine nq ?_|refine sq ?_|refine aq ?_
           rw[Ph (e:=x.N.h) (t:=22) (t2:=22) (el:=80) (z:=11) nP nP nP nO nP nP nP (AD.E.len _) ?a1]
           case a1=>simp[AC,qz,SV.cells,f1,f2,f3,f4,f5,f6,hR,k1]
           simp[go_sem,w1,-Int.natCast_add];refine⟨k+1,by omega,some (m2+1),⟨by omega,by omega,by rw[hft,qc];exact hA.push (AD.E.st _) (AD.E.len _) nN nN⟩,⟨by rw[hft];simp[Or],Or⟩,?_⟩;rw[hft,qc];have:=EG (p:=m2+1) (v:=.sl (m2+1) 0 11 (1) false) (e:=x.N.h) ho nN hA (H:=h_ (h_ h2 m (some (.cells x.N.h.cells))) m2 (some (.cells x.N.h.cells))) (AY ho nN (AY ho nN Ar));simpa[qz,SV.cells,CS.app,f1,f2,f3,f4,f5,f6,hR,k1]using this
       . have hd:¬Bg x.N:=by rintro(⟨g,_⟩|⟨g,_⟩);rw[f1]at g;exact k7 g;rw[f1]at g;exact k1 g
         rw[happ hd]at hft;simp[go_sem,AQ,em0,AC,k1,k7]
         repeat first|refine nq ?_|refine sq ?_|refine aq ?_
         rw[Ph (e:=x.N.h) (t:=22) (t2:=22) (el:=80) (z:=11) nP nP nP nO nP nP nP (AD.E.len _) ?a1]
         case a1=>simp[AC,qz,SV.cells,f1,f2,f3,f4,f5,f6,hR]
         simp[go_sem,w1,-Int.natCast_add];refine⟨k+1,by omega,some (m2+1),⟨by omega,by omega,by rw[hft,qc];exact hA.push (AD.E.st _) (AD.E.len _) nN nN⟩,⟨by rw[hft];simp[Or],Or⟩,?_⟩;rw[hft,qc];have:=EG (p:=m2+1) (v:=.sl (m2+1) 0 11 (1) false) (e:=x.N.h) ho nN hA (H:=h_ (h_ h2 m (some (.cells x.N.h.cells))) m2 (some (.cells x.N.h.cells))) (AY ho nN (AY ho nN Ar));simpa[qz,SV.cells,CS.app,f1,f2,f3,f4,f5,f6,hR,k1]using this
   . have hj:j<m:=hlo j rfl;have hjm:j≠m:=by omega
     have ho2:=ho2 j rfl;have happ:¬Bg x.N->x.l≠1->Ah ys x.N=ys++[x.N]:=λhd hk=>by
      rw[Ah,nR hd];split;rw[nR (by rw[f1];exact λg=>hk g.1)];rfl
     by_cases k7:x.l=7
     . by_cases hR0:R=[];have hd:Bg x.N:=.inl ⟨by rw[f1,k7],by rw[hR,hR0]⟩;simp[go_sem,AQ,em0,AC,k7,hR0,w1,-Int.natCast_add];rw[Ah,nS hd]at hft;refine⟨k+1,by omega,some j,⟨by omega,by omega,by rw[hft];exact hA.mono nN⟩,⟨by rw[hft];first|exact Or|(simp[AQ,Or]),Or⟩,λi y e=>?_⟩;rw[hft]at e;obtain⟨g1,g2⟩:=hacc i y e;rw[AB _ _ nN];exact g2
       . have hd:¬Bg x.N:=by rintro(⟨_,g⟩|⟨g,_⟩);exact hR0 (by rw[<-hR,g]);rw[f1,k7]at g;exact absurd g (by decide)
         rw[happ hd nN]at hft;simp[go_sem,AQ,em0,AC,k7,hR0]
         repeat first|refine nq ?_|refine sq ?_|refine aq ?_
         rw[NP (es:=ys.map AD.h) (e:=x.N.h) (t:=22) (t2:=22) (el:=80) (z:=11) nP nP nP nO nP nP nP (by simp;omega) hA (AD.E.len _) ?a1 ?a2 _ nO]
         case a1=>simp[AC,qz,SV.cells,f1,f2,f3,f4,f5,f6,hR,k7]
         case a2=>rw[AB _ _ nN,AB _ _ nN];exact ho2
         simp[go_sem,w1,-Int.natCast_add];refine⟨k+1,by omega,some (m2+1),⟨by omega,by omega,by rw[hft,qc];exact hA.push (AD.E.st _) (AD.E.len _) nN nN⟩,⟨by rw[hft];simp[Or],Or⟩,?_⟩;rw[hft,qc];have:=EG (p:=m2+1) (v:=.sl (m2+1) 0 11 ((ys.map AD.h).length+1) false) (e:=x.N.h) ho nN hA (H:=h_ (h_ h2 m (some (.cells x.N.h.cells))) m2 (some (.cells x.N.h.cells))) (AY ho nN (AY ho nN Ar));simpa[qz,SV.cells,CS.app,f1,f2,f3,f4,f5,f6,hR,k7]using this
     . by_cases k1:x.l=1
       . by_cases ht:x.J.size=0;have hd:Bg x.N:=.inr ⟨by rw[f1,k1],by rw[f4,ht]⟩;simp[go_sem,AQ,em0,AC,k1,(LU _).2 ht,w1,-Int.natCast_add];rw[Ah,nS hd]at hft;refine⟨k+1,by omega,some j,⟨by omega,by omega,by rw[hft];exact hA.mono nN⟩,⟨by rw[hft];first|exact Or|(simp[AQ,Or]),Or⟩,λi y e=>?_⟩;rw[hft]at e;obtain⟨g1,g2⟩:=hacc i y e;rw[AB _ _ nN];exact g2
         . have hd:¬Bg x.N:=by rintro(⟨g,_⟩|⟨_,g⟩);rw[f1,k1]at g;exact absurd g (by decide);exact ht (by rw[<-f4,g])
           rcases List.eq_nil_or_concat ys with rfl|⟨ys',y,rfl⟩
           . have hft':Ah [] x.N=[]++[x.N]:=by rw[Ah,nR hd];rfl
             rw[hft']at hft;simp[go_sem,AQ,em0,AC,k1,mt (LU _).1 ht]
             repeat first|refine nq ?_|refine sq ?_|refine aq ?_
             rw[NP (es:=[].map AD.h) (e:=x.N.h) (t:=22) (t2:=22) (el:=80) (z:=11) nP nP nP nO nP nP nP nO hA (AD.E.len _) ?a1 ?a2 _ nO]
             case a1=>simp[AC,qz,SV.cells,f1,f2,f3,f4,f5,f6,hR,k1]
             case a2=>rw[AB _ _ nN,AB _ _ nN];exact ho2
             simp[go_sem,w1,-Int.natCast_add];refine⟨k+1,by omega,some (m2+1),⟨by omega,by omega,by rw[hft,qc];exact hA.push (AD.E.st _) (AD.E.len _) nN nN⟩,⟨by rw[hft];simp[Or],Or⟩,?_⟩;rw[hft,qc];have:=EG (p:=m2+1) (v:=.sl (m2+1) 0 11 1 false) (e:=x.N.h) ho nN hA (H:=h_ (h_ h2 m (some (.cells x.N.h.cells))) m2 (some (.cells x.N.h.cells))) (AY ho nN (AY ho nN Ar));simpa[qz,SV.cells,CS.app,f1,f2,f3,f4,f5,f6,hR,k1]using this
           . rw[List.concat_eq_append]at *;have hym:=LZ l (λx hx=>⟨(hs x hx).1,(hs x hx).2.1⟩) k hk y (by rw[hys];simp);have hl':(ys'++[y]).length=ys'.length+1:=by simp
             have w2:IntKind.i64.wrap (ys'.length:Int)=(ys'.length:Int):=by rw[D5]<;>omega
             have hpos:(0:Int)<(ys'.length:Int)+1:=by omega
             have hpos2:(ys'.length:Int)<(ys'.length:Int)+1:=by omega
             have hAl:((ys'.map AD.h).flatMap SV.cells).length=ys'.length*11:=by rw[Bv (AD.E.size ys'),qj]
             have ho3:h2 j=some (.cells ((ys'.map AD.h).flatMap SV.cells++y.h.cells)):=by rw[ho2];simp
             rw[qz y]at ho3;simp only[SV.cells]at ho3;generalize hA':(ys'.map AD.h).flatMap SV.cells=A at hAl ho3;by_cases hy1:y.l=1
             . simp[go_sem,AQ,em0,AC,AB,hjm,k1,mt (LU _).1 ht,ho3,w2,hpos,hpos2,<-hAl,hy1]
               repeat first|refine nq ?_|refine sq ?_|refine aq ?_
               refine vw _ _ _ _ _ _ (by simpa[AF.h,AF.j]using c58 y.H x.H hym.1 hxh) ?_;by_cases hhd:y.H=x.H
               . have hcat:y.J.size+x.J.size<=9223372036854775807:=by have:=hym.2;omega
                 have hft':Ah (ys'++[y]) x.N=ys'++[y.zb x.J]:=by
                  rw[Ah,nR hd,ws];simp only;rw[nS ⟨by rw[f1,k1],hy1,by rw[hhd,f5]⟩,List.dropLast_concat,f4]
                 rw[hft']at hft;simp[go_sem,hhd,AC,AB,hjm,ho3,w1,w2,<-hAl,hcat,List.take_length_add_append,-Int.natCast_add]
                 repeat first|refine nq ?_|refine sq ?_|refine aq ?_
                 refine⟨k+1,by omega,some j,⟨by omega,by omega,?_⟩,⟨by rw[hft];simp[Or],Or⟩,λi y' e=>?_⟩;rw[hft];exact⟨by simp,λi e=>⟨(hA.lt i e).1,by have:=(hA.lt i e).2;omega⟩,AD.E.size _⟩;rw[hft]at e;simp only[AS]at e;by_cases e1:i=j;subst e1;rw[AC]at e ⊢;rw[<-e];have ec:(y.zb x.J).h.cells=[AA y.l,AA y.code,AA y.id,.str (y.J++x.J),AU y.H.Q,AA y.H.I,AA y.H.move,Aa y.H.Y,AN y.H.Z,AI y.W,Ap y.R]:=by rw[qz];rfl
                 rw[qc,qS,hA',List.map_singleton,List.flatMap_singleton,ec,hhd];simp[qw];rw[AB _ _ e1]at e;obtain⟨g1,g2⟩:=hacc i y' (by simp only[AS];rw[AB _ _ e1];exact e);rw[AB _ _ e1,AB _ _ nN];exact g2
               . have hft':Ah (ys'++[y]) x.N=(ys'++[y])++[x.N]:=by
                  rw[Ah,nR hd,ws];simp only;rw[nR (by rw[f5];exact λg=>hhd g.2.2)]
                 rw[hft']at hft;simp[go_sem,hhd,AC]
                 repeat first|refine nq ?_|refine sq ?_|refine aq ?_
                 rw[NP (es:=(ys'++[y]).map AD.h) (e:=x.N.h) (t:=22) (t2:=22) (el:=80) (z:=11) nP nP nP nO nP nP nP (by simp;omega) hA (AD.E.len _) ?a1 ?a2 _ nO]
                 case a1=>simp[AC,qz,SV.cells,f1,f2,f3,f4,f5,f6,hR,k1]
                 case a2=>rw[AB _ _ nN,AB _ _ nN];exact ho2
                 simp[go_sem,w1,-Int.natCast_add];refine⟨k+1,by omega,some (m2+1),⟨by omega,by omega,by rw[hft,qc];exact hA.push (AD.E.st _) (AD.E.len _) nN nN⟩,⟨by rw[hft];simp[Or],Or⟩,?_⟩;rw[hft,qc];have:=EG (p:=m2+1) (v:=.sl (m2+1) 0 11 (((ys'++[y]).map AD.h).length+1) false) (e:=x.N.h) ho nN hA (H:=h_ (h_ h2 m (some (.cells x.N.h.cells))) m2 (some (.cells x.N.h.cells))) (AY ho nN (AY ho nN Ar));simpa[qz,SV.cells,CS.app,f1,f2,f3,f4,f5,f6,hR,k1]using this
             . simp[go_sem,AQ,em0,AC,AB,hjm,k1,mt (LU _).1 ht,ho3,w2,hpos,hpos2,<-hAl,hy1]
               repeat first|refine nq ?_|refine sq ?_|refine aq ?_
               have hft':Ah (ys'++[y]) x.N=(ys'++[y])++[x.N]:=by
                rw[Ah,nR hd,ws];simp only;rw[nR (λg=>hy1 g.2.1)]
               rw[hft']at hft;rw[NP (es:=(ys'++[y]).map AD.h) (e:=x.N.h) (t:=22) (t2:=22) (el:=80) (z:=11) nP nP nP nO nP nP nP (by simp;omega) hA (AD.E.len _) ?a1 ?a2 _ nO]
               case a1=>simp[AC,qz,SV.cells,f1,f2,f3,f4,f5,f6,hR,k1]
               case a2=>rw[AB _ _ nN,AB _ _ nN];exact ho2
               simp[go_sem,w1,-Int.natCast_add];refine⟨k+1,by omega,some (m2+1),⟨by omega,by omega,by rw[hft,qc];exact hA.push (AD.E.st _) (AD.E.len _) nN nN⟩,⟨by rw[hft];simp[Or],Or⟩,?_⟩;rw[hft,qc];have:=EG (p:=m2+1) (v:=.sl (m2+1) 0 11 (((ys'++[y]).map AD.h).length+1) false) (e:=x.N.h) ho nN hA (H:=h_ (h_ h2 m (some (.cells x.N.h.cells))) m2 (some (.cells x.N.h.cells))) (AY ho nN (AY ho nN Ar));simpa[qz,SV.cells,CS.app,f1,f2,f3,f4,f5,f6,hR,k1]using this
       . have hd:¬Bg x.N:=by rintro(⟨g,_⟩|⟨g,_⟩);rw[f1]at g;exact k7 g;rw[f1]at g;exact k1 g
         rw[happ hd k1]at hft;simp[go_sem,AQ,em0,AC,k1,k7]
         repeat first|refine nq ?_|refine sq ?_|refine aq ?_
         rw[NP (es:=ys.map AD.h) (e:=x.N.h) (t:=22) (t2:=22) (el:=80) (z:=11) nP nP nP nO nP nP nP (by simp;omega) hA (AD.E.len _) ?a1 ?a2 _ nO]
         case a1=>simp[AC,qz,SV.cells,f1,f2,f3,f4,f5,f6,hR]
         case a2=>rw[AB _ _ nN,AB _ _ nN];exact ho2
         simp[go_sem,w1,-Int.natCast_add];refine⟨k+1,by omega,some (m2+1),⟨by omega,by omega,by rw[hft,qc];exact hA.push (AD.E.st _) (AD.E.len _) nN nN⟩,⟨by rw[hft];simp[Or],Or⟩,?_⟩;rw[hft,qc];have:=EG (p:=m2+1) (v:=.sl (m2+1) 0 11 ((ys.map AD.h).length+1) false) (e:=x.N.h) ho nN hA (H:=h_ (h_ h2 m (some (.cells x.N.h.cells))) m2 (some (.cells x.N.h.cells))) (AY ho nN (AY ho nN Ar));simpa[qz,SV.cells,CS.app,f1,f2,f3,f4,f5,f6,hR,k1]using this
 have:k=l.length:=by omega
 subst this;rw[qn]at hA ⊢;simp[go_sem];exact .inl (Md ho hA AE hnm (IO _))
theorem Zt(x:AG)(b:x.H.D)(H:PC 102 [AI x.W] (AI (Ae x.W))):PC 213 [x.h] (AG.N x).h:=by
 intro h n;refine gq func213 rfl λa=>?_;have e:(AG.N x).h=.agg [AA x.id,AU x.H.Q,AA x.H.I,AA x.H.move,Aa x.H.Y,AN x.H.Z,AI (Ae x.W)]:=by cases x;rw[AG.N,vB];rfl
 rw[e];simp[go_sem,vB,AC,AB]
 repeat first|refine nq ?_|refine sq ?_|refine aq ?_
 refine vw _ _ _ _ _ _ (by simpa[AF.h,AF.j]using NS x.H b) ?_;simp[go_sem,AC,AB]
 repeat first|refine nq ?_|refine sq ?_|refine aq ?_
 refine vw _ _ _ _ _ _ H ?_;simp[go_sem,AC]
 repeat first|refine nq ?_|refine sq ?_|refine aq ?_
 exact Bq a (by repeat(first|exact AE|refine AY a nN ?_)) rfl (by rw[<-e];exact AG.cl n _)
theorem Zo(x:AM)(c:x.H.D)(b:x.cells.length<=1048576)(H:∀(i:Nat)(h:i<x.cells.length),PC 213 [(x.cells[i]).h] (AG.N x.cells[i]).h):PC 163 [x.h] (AM.N x).h:=by
 intro h n;refine gq func163 rfl λa=>?_;have h1:=(iG x.cells b 213 [] [] AG.N (λi hi=>H i hi)).pc (AG.E.size _) (λn=>AG.E.c_ n _);have e:(AM.N x).h=.agg [AU x.H.Q,AA x.H.I,AA x.H.move,Aa x.H.Y,AN x.H.Z,Bf (x.cells.map AG.N)]:=by cases x;rw[AM.N,qR,AG.zh];rfl
 rw[e];simp[go_sem,qR,AC,AB,-List.map_map]
 repeat first|refine nq ?_|refine sq ?_|refine aq ?_
 refine vw _ _ _ _ _ _ (by simpa[AF.h,AF.j]using NS x.H c) ?_;simp[go_sem,AC,AB,-List.map_map]
 repeat first|refine nq ?_|refine sq ?_|refine aq ?_
 refine vw _ _ _ _ _ _ h1 ?_;simp[go_sem,AC,-List.map_map]
 repeat first|refine nq ?_|refine sq ?_|refine aq ?_
 exact Bq a (by repeat(first|exact AE|refine AY a nN ?_)) rfl (by rw[<-e];exact AM.cl n _)
theorem dV{l:List AD}(H:LC 102 [AI l] 11 ((Ae l).map AD.h)):PC 102 [AI l] (AI (Ae l)):=H.pc (AD.E.size _) λn=>AD.E.c_ n _
theorem ES{x:AD}(h:x.D):x.H.D/\x.J.size<=1048576/\x.R.length<=1048576:=by cases x;rw[AD.D]at h;exact⟨h.2.1,h.1,h.2.2.2.1⟩
def NI(x:AD):Prop:=PC 102 [AI x.W] (AI (Ae x.W))/\∀(i:Nat)(h:i<x.R.length),PC 163 [(x.R[i]).h] (AM.N x.R[i]).h
mutual
theorem cNI:∀x:AD,x.D->NI x
 | .mk k c i t hd f r,hs=>by
  rw[AD.D]at hs;refine⟨dV (Sk f hs.2.2.1 (λx a=>ES (wN hs.2.2.2.2.1 x a)) (λx a=>(Sl f hs.2.2.2.2.1 x a).1) λx a=>(Sl f hs.2.2.2.2.1 x a).2),?_⟩;exact bO r hs.2.2.2.2.2
theorem Sl:∀l:List AD,AD.G l->∀x∈l,NI x
 | [],_,x,h=>by simp at h
 | y::l,hs,x,h=>by
  rw[AD.G]at hs;rcases qd.1 h with h|h;rw[h];exact cNI y hs.1;exact Sl l hs.2 x h
theorem kG:∀x:AM,x.D->PC 163 [x.h] (AM.N x).h
 | .mk hd c,hs=>by
  rw[AM.D]at hs;exact Zo (.mk hd c) hs.1 hs.2.1 (bQ c hs.2.2)
theorem bO:∀l:List AM,AM.G l->∀(i:Nat)(h:i<l.length),PC 163 [(l[i]).h] (AM.N l[i]).h
 | [],_,i,h=>by simp at h
 | x::l,hs,0,_=>by rw[AM.G]at hs;exact kG x hs.1
 | x::l,hs,i+1,h=>by rw[AM.G]at hs;exact bO l hs.2 i (by simpa using h)
theorem kW:∀x:AG,x.D->PC 213 [x.h] (AG.N x).h
 | .mk i hd f,hs=>by
  rw[AG.D]at hs;exact Zt (.mk i hd f) hs.1 (dV (Sk f hs.2.1 (λx a=>ES (wN hs.2.2 x a)) (λx a=>(Sl f hs.2.2 x a).1) λx a=>(Sl f hs.2.2 x a).2))
theorem bQ:∀l:List AG,AG.G l->∀(i:Nat)(h:i<l.length),PC 213 [(l[i]).h] (AG.N l[i]).h
 | [],_,i,h=>by simp at h
 | x::l,hs,0,_=>by rw[AG.G]at hs;exact kW x hs.1
 | x::l,hs,i+1,h=>by rw[AG.G]at hs;exact bQ l hs.2 i (by simpa using h)
end
theorem l73(l:List AD)(c:l.length<=1048576)(b:AD.G l):LC 102 [AI l] 11 ((Ae l).map AD.h):=
 Sk l c (λx a=>ES (wN b x a)) (λx a=>(Sl l b x a).1) λx a=>(Sl l b x a).2
theorem c73(l:List AD)(a:l.length<=1048576)(b:AD.G l):PC 102 [AI l] (AI (Ae l)):=dV (l73 l a b)
def MM(r:CI):Int:=
 if r.id<1\/1073741824<r.id then 18 else if r.O.size=0 then 11 else if 40<r.O.size then 10 else if Cj r.O=false then 12 else if r.time<0\/1099511627776<r.time then 40 else 0
def QO(l:List CI)(i:Nat):Int:=match l[i]? with
 | some r=>if MM r=0 then if i=0 then 0 else match l[i-1]? with|some q=>if Fe r.id q.id=0 then 7 else if Fe r.id q.id = -1 then 6 else 0|none=>0 else MM r
 | none=>0
def Ha(l:List CI):Int:=if 256<l.length then 9 else CK (QO l) l.length
theorem Sj(c:Nat->Int)(n:Nat)(h:(Bc c n).2=true):(Bc c n).1<n:=by
 simp only[Bc,decide_eq_true_eq]at h ⊢;exact h.1
section
variable{F:Fence}{n:Nat}{P:Program}{ops:Array Oper}{Q:Exit->Act->World->Prop}{S:World->Prop}{md:Region.Mode}
def FO(P:Program)(ops:Array Oper)(S:World->Prop)(o:Oper)(v:Value)(a:Act):Prop:=YieldsIf P ops S o v a/\∀w,o.about P w a.eval=none
theorem FO.wpOpIn{i:Nat}{o:Oper}{v:Value}{a:Act}(c:F.round=none)(hi:ops[i]? = some o)(e:FO P ops S o v a)
 {K:Act->World->Prop} {w:World} (g:S w) (h:K (a.put o.dst v) w):wpOpIn F n P ops Q i K a w:=by
 unfold Go.wpOpIn;simp only[hi];have b:∀f,o.about P w a.eval=some f->F.fn f:=λf d=>by rw[e.2 w]at d;cases d
 rcases e.1 with⟨hw,hv⟩|⟨hw,rfl⟩
 simp only[hw,if_true,Oper.wpIn,c,Oper.semAt_none,hv w g,Oper.uponIn];exact⟨b,h⟩;simp only[hw,qq,if_false];exact⟨b,h⟩
theorem FO.of_same{o:Oper}{v:Value}{a a':Act}(b:FO P ops S o v a)(c:execOp a'.eval o=execOp a.eval o)
 (hw:Region.wanted o (yielded ops a'.tmps)=Region.wanted o (yielded ops a.tmps)) (hb:∀w,o.about P w a'.eval=o.about P w a.eval):FO P ops S o v a':=
 ⟨b.1.of_same c hw,λw=>by rw[hb w];exact b.2 w⟩
theorem SS{j:Nat}{oi oj:Oper}{v:Value}(hro:F.round=none)(hj:ops[j]? = some oj)(hap:oi.apart ops oj=true)
 (hsi:∀cs b,oi.op≠.select cs b) (hsj:∀cs b,oj.op≠.select cs b)
 (hQ:∀c a w,Q (.panic c) (a.put oi.dst v) w->Q (.panic c) a w) {K:Act->World->Prop} {a:Act} {w:World}
 (hy:FO P ops S oi v a) (h:wpOpIn F n P ops Q j K (a.put oi.dst v) w):
 wpOpIn F n P ops Q j (λa' w'=>FO P ops S oi v a'/\K (a'.put oi.dst v) w') a w:=by
 obtain⟨h1,h2,h3⟩:=Oper.apart_spec hap;have keep:∀(a:Act),FO P ops S oi v a->∀u,FO P ops S oi v (a.put oj.dst u):=λa hy u=>
  hy.of_same (execOp_put oi hsi a oj.dst u h3) (wanted_put oi a oj.dst u h3) (λw=>about_put oi w a oj.dst u h3)
 have keepD:∀d,FO P ops S oi v { a with defers:=d::a.defers }:=λd=>hy.of_same rfl rfl (λ_=>rfl);unfold wpOpIn at *;simp only[hj]at *;rw[wanted_put oj a oi.dst v h1,about_put oj w a oi.dst v h1]at h;split
 . rename_i hw;simp only[hw,if_true]at h;unfold Oper.wpIn at *;rw[about_put oj w a oi.dst v h1]at h;refine⟨h.1,?_⟩;have h:=h.2;rw[hro,Oper.semAt_none,execOp_put oj hsj a oi.dst v h1]at h;rw[hro,Oper.semAt_none];generalize(execOp a.eval oj).run P w=r at *;cases r with
   | ok x w' =>
    cases x<;>simp only[Oper.uponIn]at h ⊢
    case value u=>exact⟨keep a hy u,by rw[<-Act.put_comm a v u h2];exact h⟩
    case skip=>exact⟨keep a hy _,by rw[<-Act.put_comm a v undef h2];exact h⟩
    case defer d=>
     refine⟨keep _ (keepD d) _,?_⟩;rw[<-Act.put_comm _ v undef h2,<-Act.put_defers];exact h
    case enter f args=>
     refine⟨h.1,CallsIn.mono h.2 λe w'' he=>?_⟩;cases e with
     | returned u=>exact⟨keep a hy u,by rw[<-Act.put_comm a v u h2];exact he⟩
     | panicked c=>exact hQ _ _ _ he
     | outgrown=>exact he
    case row row args=>exact⟨h.1,RowsIn.mono h.2 λu w'' he=>⟨keep a hy u,by rw[<-Act.put_comm a v u h2];exact he⟩⟩
    case round l f tmps assign body=>
     refine⟨h.1,RoundIn.mono h.2 λe w'' he=>?_⟩;cases e with
     | returned u=>exact⟨keep a hy u,by rw[<-Act.put_comm a v u h2];exact he⟩
     | panicked c=>exact hQ _ _ _ he
     | outgrown=>exact he
   | halt x w'=>
    cases x<;>simp only[Oper.uponIn]at h ⊢
    case panic u=>exact hQ _ _ _ h
 rename_i hw;simp only[hw]at h;exact⟨h.1,keep a hy _,by rw[<-Act.put_comm a v undef h2];exact h.2⟩
def KU(F:Fence)(n:Nat)(P:Program)(md:Region.Mode)(ops:Array Oper)(Q:Exit->Act->World->Prop)(S:World->Prop):Nat->Array Bool->Act->World->Prop
 | 0,listed,a,w=>Region.ready md ops listed=[]/\Q .normal a w
 | fuel+1,listed,a,w=>
  (Region.ready md ops listed=[]->Q .normal a w)/\
  ∀i∈Region.ready md ops listed,wpOpIn F n P ops Q i (λa' w'=>S w'/\KU F n P md ops Q S fuel (listed.setIfInBounds i true) a' w') a w
theorem Gd:∀(b:Nat)(c:Array Bool)(a:Act)(w:World),KU F n P md ops Q S b c a w->wpAnyIn F n P md ops Q b c a w
 | 0,_,_,_,h=>h
 | b+1,_,_,_,h=>⟨h.1,λi hi=>wpOpIn_mono (λa' w' h'=>Gd b _ a' w' h'.2) (h.2 i hi)⟩
theorem Ee{i:Nat}{t:Oper}{v:Value}(s:F.round=none)(hi:ops[i]? = some t)(q:∀(j:Nat)(o:Oper) x b,ops[j]? = some o->o.op≠.select x b)
 (L:∀c a w,Q (.panic c) (a.put t.dst v) w->Q (.panic c) a w):
 ∀(f:Nat)(d:Array Bool)(a:Act)(w:World),
  (∀j u,ops[j]? = some u->j≠i->d.getD j true=false->(∀e∈u.after,Region.binds md e=true->e.on≠i)->t.apart ops u=true)->
  i∈Region.ready md ops d->FO P ops S t v a->S w->
  KU F n P md ops Q S f (d.setIfInBounds i true) (a.put t.dst v) w->KU F n P md ops Q S (f+1) d a w:=by
 intro f
 induction f with
 | zero=>
  intro d a w _ hr G y H;refine⟨λh=>(by rw[h]at hr;cases hr),λj E=>?_⟩;by_cases g:j=i;subst g;exact G.wpOpIn s hi y ⟨y,H⟩;have:=ready_mono E g;rw[H.1]at this;cases this
 | succ f ih=>
  intro d a w l hr G y H;refine⟨λh=>(by rw[h]at hr;cases hr),λj E=>?_⟩;by_cases g:j=i;subst g;exact G.wpOpIn s hi y ⟨y,H⟩;have h1:=H.2 j (ready_mono E g);obtain⟨p,u,r,z⟩:=mem_ready.1 E;have B:∀e∈u.after,Region.binds md e=true->e.on≠i:=λe M hb I=>by
   have h1:=z e M hb;have h0:=(mem_ready.1 hr).1;rw[I]at h1;rcases vk i d.size with h'|h';simp[h']at h0 h1;rw[h0]at h1;cases h1;simp[vo h']at h1
  have h2:=SS s r (l j u r g p B) (λx b=>q i t x b hi) (λx b=>q j u x b r) L G h1;have m:∀k ok,ops[k]? = some ok->k≠i->(d.setIfInBounds j true).getD k true=false->
   (∀e∈ok.after,Region.binds md e=true->e.on≠i)->t.apart ops ok=true:=λk ok hk J C K=>by
   refine l k ok hk J ?_ K;by_cases A:j=k;subst A;exact p;rw[getD_set_ne true A]at C;exact C
  refine wpOpIn_mono (λa' w' D=>⟨D.2.1,ih (d.setIfInBounds j true) a' w' m (ready_mono hr (Ne.symm g)) D.1 D.2.1 ?_⟩) h2;rw[Array.setIfInBounds_comm _ _ g];exact D.2.2
end
def IY(P:Program)(st:Bool)(ev:Operand->SV):Op->Option SV
 | .move x|.assign x=>some (ev x)
 | .fieldAddr t x i=>Gx P t (ev x) i
 | .load t a=>match st,ev a with|true,.q cs=>(CP cs 0 (Bd P t)).bind (SX (GR P t))|_,_=>none
 | .indexAddr t x i=>match ev x,ev i with|.x z es f,.int _ n=>if(Ax P t).isSome then G6 P t (.x z es f) n else none|_,_=>none
 | .slice t x lo hi mx=>match ev x with|.x z es f=>Hg P t (.x z es f) (lo.map ev) (hi.map ev) (mx.map ev)|_=>none
 | .extract x i=>match ev x with|.tup vs=>vs[i]? | _=>none
 | .unOp op _ x=>match op,ev x with|.not,.bool b=>some (.bool !b)|_,_=>none
 | .pick x a b=>match ev x with|.bool t=>some (if t then ev a else ev b)|_=>none
 | .makeFunc f a b=>some (.fn f (a.toList.map ev) (b.toList.map ev))
 | .nilCheck x=>match ev x with|.ptr o a=>some (.ptr o a)|.q cs=>some (.q cs)|_=>none
 | .call { callee:=.builtin .min,args,.. }=>match args.toList with|[x,y]=>(match ev x,ev y with|.int k a,.int k' b=>if k=k' then some (.int k (if b<a then b else a))else none|_,_=>none)|_=>none
 | .call { callee:=.builtin .max,args,.. }=>match args.toList with|[x,y]=>(match ev x,ev y with|.int k a,.int k' b=>if k=k' then some (.int k (if b>a then b else a))else none|_,_=>none)|_=>none
 | .binOp op _ x y _=>match ev x,ev y with|.int k a,.int k' b=>if op≠.shl/\op≠.shr/\k=k' then(Iy op k a b)else none|_,_=>none
 | .call { callee:=.builtin .len,args,argTypes }=>match argTypes.toList,args.toList with|[t],[x]=>(match ev x with|.x _ es _=>if(Ax P t).isSome then some (.int .i64 es.length)else none|_=>none)|_,_=>none
 | _=>none
def Qu(P:Program)(ev:Operand->Value)(o:Oper)(c:Cx)(v:SV)(W:World->Prop):Prop:=∃u,V c v u/\∀w,W w->(execOp ev o).run P w=.ok (.value u) w
section
variable{P:Program}{ev:Operand->Value}{o:Oper}{c:Cx}{evs:Operand->SV}
theorem Vf{t:TypeId}{x:Operand}{v:SV}{l:List SV}(s:o.op=.load t x)(e:evs x=.q l)(k:(CP l 0 (Bd P t)).bind (SX (GR P t))=some v)(hv:V c (evs x) (ev x)):
 Qu P ev o c v λw=>∃d,d.w=w/\DF c d:=by
 rw[e,V]at hv;obtain⟨a,vs,u,j,n,h⟩:=hv;rw[BE]at n;cases ht:CP l 0 (Bd P t)with
 | none=>simp[ht]at k
 | some r =>
  simp only[ht,qL]at k;obtain⟨hle,rfl⟩:=FA ht;simp only[wq]at k;have p:=n.take (Bd P t);have m:∀x∈vs.take (Bd P t),x.oneCell'=true:=λx e=>j.one x (vD e);have f:(vs.take (Bd P t)).length=Bd P t:=by have:=n.length;simp;omega
  have b:∀d:Cx,DF c d->∀i x,(vs.take (Bd P t))[i]? = some x->d.w.cell? ⟨a.block,a.off+i,none⟩=some x:=λd X i x e=>by
   rw[vF]at e;split at e;exact(j.mono X).cell _ _ e;cases e
  rcases Me k p m with⟨g,hv⟩|⟨g,x,e,hv⟩
  refine⟨_,hv,?_⟩;rintro w ⟨d,rfl,X⟩;simp[execOp,s,u,Instr.loadAt,Instr.sureAddr,(Ea h g f (b d X)).1 rfl];refine⟨_,hv,?_⟩;rintro w ⟨d,rfl,X⟩;simp[execOp,s,u,Instr.loadAt,Instr.sureAddr,(Ea h g f (b d X)).2 rfl x e]
theorem TR{t:TypeId}{x:Operand}{i:Nat}{v:SV}(G:o.op=.fieldAddr t x i)(e:Gx P t (evs x) i=some v)(r:V c (evs x) (ev x)):Qu P ev o c v λ_=>True:=by
 simp only[Gx]at e;cases g:IU P t i with
 | none=>simp[g]at e
 | some q=>
  obtain⟨off,C⟩:=q;simp only[g]at e;by_cases B:Bd P C=0;simp[B]at e
  . simp only[B,if_false]at e;obtain⟨u,f,y,l,rfl,rfl⟩:∃u f,P.underlying t=some (.struct u)/\u[i]? = some f/\f.offset=off/\f.type=C:=by
     unfold IU at g;cases y:P.underlying t with
     | none=>simp[y]at g
     | some d=>
      cases d<;>simp only[y]at g<;>try cases g
      rename_i u;simp only[qQ]at g;obtain⟨f,l,F⟩:=g;cases F;exact⟨u,f,rfl,l,rfl,rfl⟩
    obtain⟨s,hi,hsz⟩:∃s,P.info? f.type=some s/\Bd P f.type=s.size:=by
     cases hi:P.info? f.type with
     | none=>simp[Bd,Program.cellsOf,hi]at B
     | some s=>exact⟨s,rfl,by simp[Bd,Program.cellsOf,hi]⟩
    have z:∀(a:Addr)(w:World),(fieldPlace a f).run P w=.ok (a.add f.offset) w:=λa w=>by
     simp[fieldPlace,sizeOf,typeInfo,hi,show ¬s.size=0 by omega]
    have k:∀(a:Addr)(w:World),ev x=.pointer (some a)->(execOp ev o).run P w=.ok (.value (.pointer (some (a.add f.offset)))) w:=λa w D=>by
     simp[execOp,G,Instr.fieldAt,AL y,l,D,Instr.sureAddr,z]
    split at e<;>try (simp at e;done)
    rename_i j a p;cases e;rw[p,V]at r;obtain⟨b,st,hρ,n⟩:=r;refine⟨_,?_,λw _=>k _ w n⟩;rw[Gr,V];exact⟨b,st,hρ,by rw[qw]⟩;rename_i cs p;cases e;rw[p,V]at r;obtain⟨a,vs,n,m,E,A⟩:=r;refine⟨_,?_,λw _=>k _ w n⟩;rw[DV A,V];refine⟨_,vs.drop f.offset,rfl,⟨λ_=>rfl,λhv=>m.free (by rintro rfl;simp at hv),λj x p=>?_,λx r=>m.one x (vu r)⟩,BE.2 ((BE.1 E).drop _),rfl⟩;rw[vq]at p;simp only[qw];exact m.cell _ _ p
theorem TS{t:TypeId}{x y:Operand}{A:Nat}{es:List SV}{full:Bool}{K:IntKind}{n:Int}{v:SV}(I:o.op=.indexAddr t x y)(G:evs x=.x A es full)(H:evs y=.int K n)(h:(Ax P t).isSome=true)
 (b:G6 P t (.x A es full) n=some v) (j:V c (evs x) (ev x)) (C:V c (evs y) (ev y)):Qu P ev o c v λ_=>True:=by
 rw[H]at C;have s:=Dl C;obtain⟨e,g⟩:=vR.1 h;have J:=Az g;simp only[G6,g]at b;by_cases z:Bd P e=0;simp[z]at b;obtain⟨ii,hi,q⟩:=Gc z;simp only[z,if_false]at b;by_cases k:A=Bd P e/\0<=n;simp only[k,and_self,if_true]at b;obtain⟨l,m⟩:=k;cases f:es[n.toNat]? with
 | none=>simp[f]at b
 | some v=>
  simp only[f,vK,ql]at b;subst b;rw[G,V]at j;rcases j with⟨j,_⟩|⟨a,cap,vs,r,_,_,i,B⟩
  subst j;simp at f;subst l;have d:a.spot=none:=i.spot (λD=>by have h1:=Pd B;have h2:=(qu.1 f).1;rw[D,vL]at h1;have h3:0<es.length*Bd P e:=Nat.mul_pos nN nN;omega);obtain⟨u,g1,E,g3,F,g5⟩:=RM B f;have p:n<es.length:=by have:=(qu.1 f).1;omega
  refine⟨.pointer (some ⟨a.block,a.off+n.toNat*Bd P e,none⟩),?_,λw _=>?_⟩;rw[V];exact⟨_,u.cells.toList,rfl,by rw[<-F];exact i.sub _ _,BE.2 (g1.cells E).1,rfl⟩;simp[execOp,I,Instr.indexAt,s,asIntOf,AL J,r,m,p,sizeOf,typeInfo,hi,DV d,q]
 simp[k]at b
theorem TT{t:TypeId}{x:Operand}{lo hi mx:Option Operand}{z:Nat}{es:List SV}{full:Bool}{v:SV}(W:o.op=.slice t x lo hi mx)(I:evs x=.x z es full)(hb:Hg P t (.x z es full) (lo.map evs) (hi.map evs) (mx.map evs)=some v)
 (H:∀y∈o.op.operands,V c (evs y) (ev y)):Qu P ev o c v λ_=>True:=by
 rw[W]at H;have R:=H x (by simp[Op.operands]);have L:=Fs (c:=c) (ev:=ev) (evs:=evs) lo λy e=>H y (by subst e;simp[Op.operands]);have K:=Fs (c:=c) (ev:=ev) (evs:=evs) hi λy e=>H y (by subst e;simp[Op.operands]);have M:=Fs (c:=c) (ev:=ev) (evs:=evs) mx λy e=>H y (by subst e;simp[Op.operands]);suffices j:∃r,(∀w,(Instr.sliceAt t (ev x) (lo.map ev) (hi.map ev) (mx.map ev)).run P w=.ok r w)/\V c v r by
  obtain⟨r,hr,hv⟩:=j;exact⟨r,hv,λw _=>by simp[execOp,W,hr w]⟩
 have p:∀{s:Option SV} {G:Option Value} {d:Option Int} {n:Int} {N:Nat},Si s d=some n->0<=n->((∀x,s=some x->∃u,G=some u/\V c x u)/\(s=none->G=none))->d=some (N:Int)->
  (G=none/\n.toNat=N)\/∃i,G=some (.int i n.toNat):=λhb h0 hv hd=>by
  rcases Qy hb hv.1 hv.2 with⟨_,e,U⟩|⟨i,e⟩
  rw[hd]at U;cases U;exact .inl ⟨e,by simp⟩;exact .inr ⟨i,by rw[e];congr 2;omega⟩
 unfold Hg at hb;rw[I]at R;dsimp only at hb;cases a:Ax P t with
 | none=>simp[a]at hb
 | some e =>
  have X:=Az a;simp only[a,Option.any_some]at hb;split at hb<;>try cases hb
  rename_i E;simp only[qP,vO,qh,bne_iff_ne,ne_eq,vU,beq_iff_eq,List.isEmpty_iff]at E;obtain⟨T,E⟩:=E;obtain⟨Y,A,C⟩:=Gc T;split at hb<;>try cases hb
  rename_i l m Z hm;split at hb<;>try cases hb
  rename_i J;have g:=p Z J.1 L (by rfl:some (0:Int)=some ((0:Nat):Int));have f:=p hm nN K rfl;cases mx with
  | none=>
   simp only[Option.map_none,ql]at hb;subst hb;refine JV X R ⟨Y,A,C.symm⟩ E nN nN λcap h1 h2=>⟨cap,by omega,IO _,λF=>?_,λw=>HX g f nN nN h1 w⟩
   simp at F;have:=h2 F.1;omega
  | some mo=>
   have B:=M.1 _ rfl;simp only[vK]at hb B;split at hb<;>try cases hb
   rename_i b;cases b
   . rename_i i x b;simp only[ql]at b;obtain⟨uu,O,D⟩:=B;cases O;rw[b]at D;have Q:=Dl D;split at hb<;>try cases hb
     rename_i q;simp only[qh,decide_eq_true_eq]at q;have k:∃i,Option.map ev hi=some (.int i m.toNat):=by
      rcases f with⟨I,_⟩|h;cases hi<;>simp at I q;exact h
     have S:(x:Int)=(x.toNat:Int):=by omega
     refine JV X R ⟨Y,A,C.symm⟩ E nN nN λcap h1 h2=>⟨x.toNat,by omega,by omega,λF=>?_,λw=>?_⟩
     simp at F;omega;rw[vK,Q,S];exact I8 g k nN nN nN w
theorem Qu.mono{v:SV}{W a:World->Prop}(H:Qu P ev o c v W)(h:∀w,a w->W w):Qu P ev o c v a:=let⟨u,h1,h2⟩:=H;⟨u,h1,λw hw=>h2 w (h w hw)⟩
theorem N6{st:Bool}{v:SV}(d:IY P st evs o.op=some v)(H:∀x∈o.op.operands,V c (evs x) (ev x)){W:World->Prop}(S:st=true->∀w,W w->∃c',c'.w=w/\DF c c'):Qu P ev o c v W:=by
 unfold IY at d;split at d;rename_i x g;rw[g]at H;cases d;exact⟨_,H x (by simp[Op.operands]),λw _=>by simp[execOp,g]⟩;rename_i x g;rw[g]at H;cases d;exact⟨_,H x (by simp[Op.operands]),λw _=>by simp[execOp,g]⟩;rename_i t x i g;rw[g]at H;exact(TR g d (H x (by simp[Op.operands]))).mono λ_ _=>trivial
 . rename_i t a g;rw[g]at H;split at d<;>try cases d
   rename_i C h;exact(Vf g h d (H a (by simp[Op.operands]))).mono (S rfl)
 . rename_i t x i g;rw[g]at H;split at d<;>try cases d
   rename_i z es f k n h q;split at d<;>try cases d
   rename_i A;exact(TS g h q A d (H x (by simp[Op.operands])) (H i (by simp[Op.operands]))).mono λ_ _=>trivial
 . rename_i t x lo hi mx g;split at d<;>try cases d
   rename_i z es f h;exact(TT g h d H).mono λ_ _=>trivial
 . rename_i x i g;rw[g]at H;split at d<;>try cases d
   rename_i vs h;have hv:=H x (by simp[Op.operands]);rw[h,V]at hv;obtain⟨us,p,U⟩:=hv;obtain⟨u,F,G⟩:=(BE.1 U).get d;exact⟨u,G,λw _=>by simp[execOp,g,p,Instr.extract,F]⟩
 . rename_i op t x g;rw[g]at H;have h:=H x (by simp[Op.operands]);split at d<;>try cases d
   rename_i b l;rw[l]at h;exact⟨.bool !b,by rw[V],λw _=>by simp[execOp,g,Hc h,Op.unary]⟩
 . rename_i x a b g;rw[g]at H;have h:=H x (by simp[Op.operands]);split at d<;>try cases d
   rename_i t l;rw[l]at h;have m:=Hc h;cases t;exact⟨ev b,by simpa using H b (by simp[Op.operands]),λw _=>by simp[execOp,g,m,asBool]⟩;exact⟨ev a,by simpa using H a (by simp[Op.operands]),λw _=>by simp[execOp,g,m,asBool]⟩
 rename_i f a b g;rw[g]at H;cases d;refine⟨.func f (a.map ev) (b.map ev),?_,λw _=>by simp[execOp,g,Instr.makeFunc]⟩;rw[V];exact⟨(a.map ev).toList,(b.map ev).toList,by rw[Array.toArray_toList,Array.toArray_toList],BE.2 (GW a λx h=>H x (by simp[Op.operands]at h ⊢;exact .inl h)),BE.2 (GW b λx h=>H x (by simp[Op.operands]at h ⊢;exact .inr h))⟩
 . rename_i x g;rw[g]at H;have h:=H x (by simp[Op.operands]);split at d<;>try cases d
   rename_i j off l;rw[l]at h;have m:=h;rw[V]at h;obtain⟨b,st,_,p⟩:=h;exact⟨ev x,m,λw _=>by simp[execOp,g,p]⟩;rename_i C l;rw[l]at h;have m:=h;rw[V]at h;obtain⟨a,vs,p,_⟩:=h;exact⟨ev x,m,λw _=>by simp[execOp,g,p]⟩
 . rename_i args L g;rw[g]at H;split at d<;>try cases d
   rename_i x y l;have B:=Jd l;subst B;have h:=H x (by simp[Op.operands,Call.operands]);have q:=H y (by simp[Op.operands,Call.operands]);split at d<;>try cases d
   rename_i k a J b g1 E;split at d<;>try cases d
   rename_i hk;subst hk;rw[g1]at h;rw[E]at q;exact⟨.int k (if b<a then b else a),by rw[V],λw _=>CV (P:=P) (ev:=ev) g w w _ λC=>by simp[builtin,Dl h,Dl q,Builtin.min_,Builtin.min2]⟩
 . rename_i args L g;rw[g]at H;split at d<;>try cases d
   rename_i x y l;have B:=Jd l;subst B;have h:=H x (by simp[Op.operands,Call.operands]);have q:=H y (by simp[Op.operands,Call.operands]);split at d<;>try cases d
   rename_i k a J b g1 E;split at d<;>try cases d
   rename_i hk;subst hk;rw[g1]at h;rw[E]at q;exact⟨.int k (if b>a then b else a),by rw[V],λw _=>CV (P:=P) (ev:=ev) g w w _ λC=>by simp[builtin,Dl h,Dl q,Builtin.max_,Builtin.max2]⟩
 . rename_i op t x y t2 g;rw[g]at H;have h:=H x (by simp[Op.operands]);have q:=H y (by simp[Op.operands]);split at d<;>try cases d
   rename_i k a J b l D;split at d<;>try cases d
   rename_i T;obtain⟨n1,K,rfl⟩:=T;rw[l]at h;rw[D]at q;have s:∀w,∃r,(execOp ev o).run P w=.ok (.value r) w/\V c v r:=λw=>by
    obtain⟨r,h1,h2⟩:=Nv (c:=c) (P:=P) (t:=t) d n1 K w;exact⟨r,by simp[execOp,g,Dl h,Dl q,HY (P:=P),h1],h2⟩
   obtain⟨u,p⟩:∃u,∀r,V c v r->r=u:=by
    cases op<;>simp only[Iy]at d<;>(try split at d)<;>(try cases d)<;>first|exact⟨_,λr hr=>Dl hr⟩|exact⟨_,λr hr=>Hc hr⟩|(exact absurd rfl n1)|(exact absurd rfl K)
   obtain⟨r0,h1,h2⟩:=s c.w;have M:=p r0 h2;subst M;refine⟨_,h2,λw _=>?_⟩;obtain⟨r,Q,R⟩:=s w;rw[Q,p r R]
 . rename_i args L g;rw[g]at H;split at d<;>try cases d
   rename_i t x l D;split at d<;>try cases d
   rename_i z es f N;split at d<;>try cases d
   rename_i A;obtain⟨e,I⟩:=LH A;have B:=L9 D;have O:=L9 l;subst B O;have hv:=H x (by simp[Op.operands,Call.operands]);rw[N,V]at hv;refine⟨.int .i64 es.length,by rw[V],λw _=>CV (P:=P) (ev:=ev) g w w _ λC=>?_⟩;rcases hv with⟨rfl,p⟩|⟨a,cap,vs,p,_⟩
   simp[builtin,p,Builtin.len_,AL (Az I),goInt];simp[builtin,p,Builtin.len_,AL (Az I),goInt]
 cases d
theorem KF{st:Bool}{v:SV}(b:IY P st evs o.op=some v)(w:World):o.about P w ev=none:=by
 unfold Oper.about;unfold IY at b;split at b<;>first|(rename_i a;rw[a];done)|(rename_i _ a;rw[a];done)|(rename_i _ _ a;rw[a];done)|(rename_i _ _ _ a;rw[a];done)|(rename_i _ _ _ _ _ a;rw[a];done)|(rename_i a;rw[a];simp[resolve,Target.leads];done)|cases b
def G9:Op->Bool
 | .move _|.assign _|.fieldAddr .. | .load .. | .indexAddr .. | .slice .. | .extract .. | .unOp .. | .pick .. | .binOp .. | .makeFunc .. | .nilCheck _=>true
 | .call { callee:=.builtin .len,.. }|.call { callee:=.builtin .min,.. }|.call { callee:=.builtin .max,.. }=>true
 | _=>false
theorem J8(a:G9 o.op=true)(w:World):o.about P w ev=none:=by
 unfold Oper.about;cases b:o.op<;>simp[b,G9]at a ⊢;split at a<;>first|(rename_i h;cases h;done)|skip
 all_goals first|(rename_i h;cases h;simp[resolve,Target.leads];done)|(simp at a;done)|trace_state
end
inductive Tr where
 | nil
 | pure (i:Nat) (t:Tr)
 | one (i:Nat) (t:Tr)
 | two (i j:Nat) (t u:Tr)
def ON(ops:Array Oper):Array Bool->Tr->Bool
 | listed,.nil=>(Region.ready .any ops listed).isEmpty
 | listed,.pure i t=>Region.free .any ops listed i&&(Region.ready .any ops listed).contains i&&ON ops (listed.setIfInBounds i true) t
 | listed,.one i t=>Region.ready .any ops listed==[i]&&ON ops (listed.setIfInBounds i true) t
 | listed,.two i j t u=>Region.ready .any ops listed==[i,j]&&ON ops (listed.setIfInBounds i true) t&&ON ops (listed.setIfInBounds j true) u
section
variable(E:BU)(P:Program)(ops:Array Oper)(K:SA->Hp->Nat->Prop)
def Da(o:Oper)(sa:SA)(h:Hp)(n:Nat)(T:SA->Hp->Nat->Prop):Prop:=
 match C1 ops sa o with
 | some b=>if b=true then Fj E P o sa h n λv h' n'=>T (C3 sa o.dst v) h' n' else T (C3 sa o.dst (.tup [])) h n
 | none=>False
def K4(st:Bool)(o:Oper)(sa:SA)(T:SA->Prop):Prop:=
 match C1 ops sa o with
 | some b=>if b=true then match IY P st (EV sa) o.op with|some v=>T (C3 sa o.dst v)|none=>False else G9 o.op=true/\T (C3 sa o.dst (.tup []))
 | none=>False
def Ql:Bool->Tr->SA->Hp->Nat->Prop
 | _,.nil,sa,h,n=>K sa h n
 | st,.pure i t,sa,h,n=>match ops[i]? with|some o=>K4 P ops st o sa λsa'=>Ql st t sa' h n|none=>False
 | _,.one i t,sa,h,n=>match ops[i]? with|some o=>Da E P ops o sa h n (Ql false t)|none=>False
 | _,.two i j t u,sa,h,n=>match ops[i]?,ops[j]? with|some o,some q=>Da E P ops o sa h n (Ql false t)/\Da E P ops q sa h n (Ql false u)|_,_=>False
end
section
variable{E:BU}{P:Program}{N:Nat}{ops:Array Oper}{K:SA->Hp->Nat->Prop}
def Oc(E:BU)(N n:Nat)(c:Cx)(K:SA->Hp->Nat->Prop):Exit->Act->World->Prop:=λe a' w'=>
 e=.normal/\∃sa' h' n' c',K sa' h' n'/\c'.w=w'/\Bk h' c'/\Fr n' c'/\FR E N sa' c' a'/\Fx n c n' c'
theorem BS{i:Nat}{o:Oper}{sa:SA}{h:Hp}{n:Nat}{T:SA->Hp->Nat->Prop}{c:Cx}{a:Act}{f:Act->World->Prop}{Qr:Exit->Act->World->Prop}(hi:ops[i]? = some o)(hd:∀d,o.dst=some d->d<N)
 (H:Da E P ops o sa h n T) (I:E.inv c) (R:Bk h c) (F:Fr n c) (A:FR E N sa c a)
 (j:∀sa' h' n' e a',T sa' h' n'->Bk h' e->Fr n' e->FR E N sa' e a'->Fx n c n' e->f a' e.w):wpOpIn E.fc 0 P ops Qr i f a c.w:=by
 unfold wpOpIn;rw[hi];simp only;unfold Da at H;split at H;rename_i b hg;rw[Gl A hg];cases b;simp only[qq,if_false]at H ⊢;exact⟨λ_ _=>trivial,j _ _ _ c _ H R F (A.put hd IE) (wD n c)⟩;simp only[if_true]at H ⊢;exact JD H I R F A λv h' n' e u hk hv l k g=>j _ _ _ e _ hk l k ((A.ext g.ext).put hd hv) g;exact H.elim
theorem Y6(hro:E.ro=none)(hdst:∀(i:Nat)(o:Oper),ops[i]? = some o->∀d,o.dst=some d->d<N)(hsel:∀(j:Nat)(o:Oper) cs b,ops[j]? = some o->o.op≠.select cs b){n0:Nat}{c0 c1:Cx}:
 ∀(t:Tr)(st:Bool)(listed:Array Bool)(fuel:Nat)(sa:SA)(h:Hp)(n:Nat)(c:Cx)(a:Act),listed.size=ops.size->MR listed=fuel->ON ops listed t=true->Ql E P ops K st t sa h n->
  E.inv c->Bk h c->Fr n c->FR E N sa c a->Fx n0 c0 n c->DF c1 c->(st=true->c=c1)->
  KU E.fc 0 P .any ops (Oc E N n0 c0 K) (λw=>∃c',c'.w=w/\DF c1 c') fuel listed a c.w:=by
 have hfr:E.fc.round=none:=hro;intro t
 induction t with
 | nil=>
  intro st listed fuel sa h n c a _ _ hok H I R F A X _ _;have hr:Region.ready .any ops listed=[]:=by simpa[ON]using hok
  have hq:Oc E N n0 c0 K .normal a c.w:=⟨rfl,sa,h,n,c,H,rfl,R,F,A,X⟩
  cases fuel with
  | zero=>exact⟨hr,hq⟩
  | succ fuel=>exact⟨λ_=>hq,by rw[hr];simp⟩
 | pure i t ih=>
  intro st listed fuel sa h n c a hs hu hok H I R F A X X1 hst;simp only[ON,qh]at hok;obtain⟨⟨hfree,hr⟩,hok⟩:=hok;simp only[Ql]at H;split at H
  case h_2=>exact H.elim
  rename_i o ho;have hmem:i∈Region.ready .any ops listed:=by simpa using hr
  obtain⟨hun,_,_,_⟩:=mem_ready.1 hmem;have hlt:=(qe.1 ho).1;have hF:listed.getD i false=false:=by rw[C6 nN]at hun ⊢;exact hun
  have hu2:=Dk nN hF;obtain⟨fuel,rfl⟩:∃f,fuel=f+1:=⟨fuel-1,by omega⟩
  unfold K4 at H;split at H
  case h_2=>exact H.elim
  rename_i b hg;have hw:=Gl A hg;cases b;simp only[qq,if_false]at H;refine Ee (v:=undef) hfr ho hsel (λ_ _ _ e=>by cases e.1) fuel listed a c.w (Region.free_spec ho hfree) hmem ⟨.inr ⟨hw,rfl⟩,λw=>J8 H.1 w⟩ ⟨c,rfl,X1⟩ (ih st _ fuel _ h n c _ (by simp[hs]) nN hok H.2 I R F (A.put (hdst i o ho) IE) X X1 hst)
  . simp only[if_true]at H;split at H
    case h_2=>exact H.elim
    rename_i v hv;obtain⟨u,hvu,hrun⟩:=N6 (c:=c) (W:=λw=>∃c',c'.w=w/\DF c1 c') hv (λx _=>A.ev x) (λe w hw=>by rw[hst e];exact hw);refine Ee (v:=u) hfr ho hsel (λ_ _ _ e=>by cases e.1) fuel listed a c.w (Region.free_spec ho hfree) hmem ⟨.inl ⟨hw,hrun⟩,λw=>KF hv w⟩ ⟨c,rfl,X1⟩
     (ih st _ fuel _ h n c _ (by simp[hs]) nN hok H I R F (A.put (hdst i o ho) hvu) X X1 hst)
 | one i t ih=>
  intro st listed fuel sa h n c a hs hu hok H I R F A X X1 hst;simp only[ON,qh,beq_iff_eq]at hok;obtain⟨hr,hok⟩:=hok;simp only[Ql]at H;split at H
  case h_2=>exact H.elim
  rename_i o ho;have hmem:i∈Region.ready .any ops listed:=by rw[hr];simp
  obtain⟨hun,_,_,_⟩:=mem_ready.1 hmem;have hlt:=(qe.1 ho).1;have hF:listed.getD i false=false:=by rw[C6 nN]at hun ⊢;exact hun
  have hu2:=Dk nN hF;obtain⟨fuel,rfl⟩:∃f,fuel=f+1:=⟨fuel-1,by omega⟩
  refine⟨λe=>(by rw[e]at hr;cases hr),λj hj=>?_⟩;rw[hr]at hj;obtain rfl:=qA.1 hj;exact BS ho (hdst j o ho) H I R F A λsa' h' n' c' a' hT R' F' A' X'=>⟨⟨c',rfl,X1.trans X'.ext⟩,ih false _ fuel _ h' n' c' a' (by simp[hs]) nN hok hT (E.ext X'.ext I) R' F' A' (X.trans X') (X1.trans X'.ext) nO⟩
 | two i j t u iht ihu =>
  intro st listed fuel sa h n c a hs hu hok H I R F A X X1 hst;simp only[ON,qh,beq_iff_eq]at hok;obtain⟨⟨hr,hok1⟩,hok2⟩:=hok;simp only[Ql]at H;split at H
  case h_2=>exact H.elim
  rename_i o q ho hq;have hun:∀k,k∈Region.ready .any ops listed->MR (listed.setIfInBounds k true)+1=MR listed:=λk hk=>by
   obtain⟨hun,o',ho',_⟩:=mem_ready.1 hk;have hlt:=(qe.1 ho').1;have hF:listed.getD k false=false:=by rw[C6 nN]at hun ⊢;exact hun
   exact Dk nN hF
  have hui:=hun i (by rw[hr];simp);have huj:=hun j (by rw[hr];simp);obtain⟨fuel,rfl⟩:∃f,fuel=f+1:=⟨fuel-1,by omega⟩
  refine⟨λe=>(by rw[e]at hr;cases hr),λk hk=>?_⟩;rw[hr]at hk;rcases qd.1 hk with rfl|hk;exact BS ho (hdst _ o ho) H.1 I R F A λsa' h' n' c' a' hT R' F' A' X'=>⟨⟨c',rfl,X1.trans X'.ext⟩,iht false _ fuel _ h' n' c' a' (by simp[hs]) nN hok1 hT (E.ext X'.ext I) R' F' A' (X.trans X') (X1.trans X'.ext) nO⟩
  obtain rfl:=qA.1 hk;exact BS hq (hdst _ q hq) H.2 I R F A λsa' h' n' c' a' hT R' F' A' X'=>⟨⟨c',rfl,X1.trans X'.ext⟩,ihu false _ fuel _ h' n' c' a' (by simp[hs]) nN hok2 hT (E.ext X'.ext I) R' F' A' (X.trans X') (X1.trans X'.ext) nO⟩
theorem cW(k:E.ro=none)(hm:P.follows .mixedOrders=true)(t:Tr){id:Nat}{Q:Ca}{sa:SA}{h:Hp}{n:Nat}(v:Region.noSelect ops=true)(g:ON ops (Array.replicate ops.size false) t=true)
 (H:Ql E P ops (Q .normal) true t sa h n):Fc E P N (.region id ops true) Q sa h n:=by
 intro hd c a I R F A;simp only[Code.dok,qE]at hd;have f:∀(i:Nat)(o:Oper),ops[i]? = some o->∀d,o.dst=some d->d<N:=λi o u d e=>by
  have:=hd o (by simpa using Array.mem_of_getElem? u);rw[e]at this;simpa using this
 have:=Y6 (E:=E) (P:=P) (N:=N) (K:=Q .normal) (n0:=n) (c0:=c) (c1:=c.drew) k f (Region.noSelect_spec v) t true (Array.replicate ops.size false) ops.size sa h n c.drew a nO (by simp[MR]) g H
  (E.ext c.zc I) R.drew (λj s=>F j s) (A.ext c.zc) ⟨c.zc,IO _,λ_ _=>rfl⟩ (wR _) (λ_=>rfl)
 refine wpIn_mono (wpIn_region_any hm (Gd (S:=λw=>∃b,b.w=w/\DF c.drew b) _ _ _ _ this)) ?_;rintro e a' w' ⟨rfl,l,h',n',b,h1,h2,m,p,q,r⟩;exact⟨l,h',n',b,h1,h2,m,p,q,r⟩
end
noncomputable def V7:(E:BU)->(P:Program)->(ops:Array Oper)->(K:SA->Hp->Nat->Prop)->Bool->Tr->SA->Hp->Nat->Prop:=Classical.choose (BT Ql)
theorem KV:V7=Ql:=vb (BT Ql)
noncomputable def jf:(E:BU)->(P:Program)->(ops:Array Oper)->(K:SA->Hp->Nat->Prop)->Tr->SA->Option Tmp->SV->Hp->Nat->Prop:=
 Classical.choose (BT λE P ops K t sa dst v h n=>V7 E P ops K false t (C3 sa dst v) h n)
section
variable(E:BU)(P:Program)(ops:Array Oper)(K:SA->Hp->Nat->Prop)(st:Bool)(t u:Tr)(sa:SA)(h:Hp)(n i j:Nat)
@[go_sem] theorem dU(dst:Option Tmp)(v:SV):jf E P ops K t sa dst v h n=V7 E P ops K false t (C3 sa dst v) h n:=by
 unfold jf;rw[vb (BT λE P ops K t sa dst v h n=>V7 E P ops K false t (C3 sa dst v) h n)]
theorem aJ(o:Oper):jf E P ops K t sa o.dst=λv h' n'=>Ql E P ops K false t (C3 sa o.dst v) h' n':=by
 funext v h' n';rw[dU,KV]
@[go_sem] theorem js:V7 E P ops K st .nil sa h n=K sa h n:=by rw[KV];simp only[Ql]
@[go_sem] theorem jN:V7 E P ops K st (.pure i t) sa h n=match ops[i]? with
 | some o=>(match C1 ops sa o with
  | some b=>if b=true then(match IY P st (EV sa) o.op with|some v=>V7 E P ops K st t (C3 sa o.dst v) h n|none=>False)else G9 o.op=true/\V7 E P ops K st t (C3 sa o.dst (.tup [])) h n
  | none=>False)
 | none=>False:=by
 rw[KV];simp only[Ql,K4]
 all_goals
  cases ops[i]? with
  | none=>rfl
  | some o =>
   simp only;cases C1 ops sa o with
   | none=>rfl
   | some b=>cases b with
    | false=>rfl
    | true=>simp only[if_true];cases IY P st (EV sa) o.op<;>rfl
def PQ(o:Oper):Prop:=
 match C1 ops sa o with
 | some b=>if b=true then Fj E P o sa h n (jf E P ops K t sa o.dst)else V7 E P ops K false t (C3 sa o.dst (.tup [])) h n
 | none=>False
theorem SL(o:Oper):PQ E P ops K t sa h n o=Da E P ops o sa h n (Ql E P ops K false t):=by
 unfold PQ Da;rw[aJ,KV]
 all_goals
  cases C1 ops sa o with
  | none=>rfl
  | some b=>cases b<;>rfl
@[go_sem] theorem jt:V7 E P ops K st (.one i t) sa h n=match ops[i]? with|some o=>PQ E P ops K t sa h n o|none=>False:=by
 rw[KV];simp only[Ql,SL]<;>cases ops[i]? <;> rfl
@[go_sem] theorem ju:V7 E P ops K st (.two i j t u) sa h n=match ops[i]?,ops[j]? with|some o,some q=>PQ E P ops K t sa h n o/\PQ E P ops K u sa h n q|_,_=>False:=by
 rw[KV];simp only[Ql,SL]<;>cases ops[i]? <;> cases ops[j]? <;> rfl
end
attribute [go_sem] PQ IY G9
theorem CJ{E:BU}{N id:Nat}{a:Array Oper}{Q:Ca}{sa:SA}{h:Hp}{n:Nat}(t:Tr)(c:E.ro=none)(d:Region.noSelect a=true)(b:ON a (Array.replicate a.size false) t=true)
 (H:V7 E prog a (Q .normal) true t sa h n):SP E N (.region id a true) Q sa h n:=
 cW c follows t d b (by rw[<-KV];exact H)
end Go.Proofs.YthinbkgpjmjfeaaGreatDoor.Sh
namespace Go.Proofs
open Go.Shelf
def Tryz.sortA_ren:Go.Shelf.Ren:=⟨fun|5=>215|8=>243|7=>257|19=>278|20=>266|10=>289|11=>290|12=>291|13=>292|14=>293|15=>294|16=>170|17=>295|18=>296|30=>311|31=>303|32=>304|33=>312|34=>313|35=>185|40=>323|n=>n,fun|23=>91|25=>3|3=>3|32=>236|22=>91|0=>0|44=>328|46=>307|4=>4|36=>345|35=>344|41=>188|5=>5|9=>9|53=>369|57=>177|63=>387|64=>388|n=>n,fun|n=>n⟩
theorem Tryz.sortA:Go.Proofs.SlLaysM.n5 prog Tryz.sortA_ren:={
 mixed:=by kernel_rfl
 f5:=⟨Tryz.f215.name,by decide,func215.trans (congrArg some (by kernel_rfl))⟩
 f7:=⟨Tryz.f257.name,by decide,func257.trans (congrArg some (by kernel_rfl))⟩
 f8:=func243.trans (congrArg some (by kernel_rfl))
 f10:=⟨Tryz.f289.name,by decide,func289.trans (congrArg some (by kernel_rfl))⟩
 f11:=⟨Tryz.f290.name,by decide,func290.trans (congrArg some (by kernel_rfl))⟩
 f12:=⟨Tryz.f291.name,by decide,func291.trans (congrArg some (by kernel_rfl))⟩
 f13:=⟨Tryz.f292.name,by decide,func292.trans (congrArg some (by kernel_rfl))⟩
 f14:=⟨Tryz.f293.name,by decide,func293.trans (congrArg some (by kernel_rfl))⟩
 f15:=⟨Tryz.f294.name,by decide,func294.trans (congrArg some (by kernel_rfl))⟩
 f16:=⟨Tryz.f170.name,by decide,func170.trans (congrArg some (by kernel_rfl))⟩
 f17:=⟨Tryz.f295.name,by decide,func295.trans (congrArg some (by kernel_rfl))⟩
 f18:=⟨Tryz.f296.name,by decide,func296.trans (congrArg some (by kernel_rfl))⟩
 f19:=func278.trans (congrArg some (by kernel_rfl))
 f20:=func266.trans (congrArg some (by kernel_rfl))
 f30:=⟨Tryz.f311.name,by decide,func311.trans (congrArg some (by kernel_rfl))⟩
 f31:=func303.trans (congrArg some (by kernel_rfl))
 f32:=func304.trans (congrArg some (by kernel_rfl))
 f33:=⟨Tryz.f312.name,by decide,func312.trans (congrArg some (by kernel_rfl))⟩
 f34:=⟨Tryz.f313.name,by decide,func313.trans (congrArg some (by kernel_rfl))⟩
 f35:=⟨Tryz.f185.name,by decide,func185.trans (congrArg some (by kernel_rfl))⟩
 f40:=⟨Tryz.f323.name,by decide,func323.trans (congrArg some (by kernel_rfl))⟩
 t0:=Tryz.underlying0
 a0:=Tryz.isAgg0
 z0:=Tryz.sizeOf0
 v0:=Tryz.zeroValue0
 t3:=Tryz.underlying3
 a3:=Tryz.isAgg3
 z3:=Tryz.sizeOf3
 v3:=Tryz.zeroValue3
 t4:=Tryz.underlying4
 a4:=Tryz.isAgg4
 z4:=Tryz.sizeOf4
 v4:=Tryz.zeroValue4
 t5:=Tryz.underlying5
 a5:=Tryz.isAgg5
 z5:=Tryz.sizeOf5
 v5:=Tryz.zeroValue5
 t9:=Tryz.underlying9
 a9:=Tryz.isAgg9
 z9:=Tryz.sizeOf9
 v9:=Tryz.zeroValue9
 t22:=Tryz.underlying91
 a22:=Tryz.isAgg91
 z22:=Tryz.sizeOf91
 v22:=Tryz.zeroValue91
 t23:=Tryz.underlying91
 a23:=Tryz.isAgg91
 z23:=Tryz.sizeOf91
 v23:=Tryz.zeroValue91
 t25:=Tryz.underlying3
 a25:=Tryz.isAgg3
 z25:=Tryz.sizeOf3
 v25:=Tryz.zeroValue3
 t32:=Tryz.underlying236
 a32:=Tryz.isAgg236
 z32:=Tryz.sizeOf236
 v32:=Tryz.zeroValue236
 t35:=Tryz.underlying344
 a35:=Tryz.isAgg344
 z35:=Tryz.sizeOf344
 v35:=Tryz.zeroValue344
 t36:=Tryz.underlying345
 a36:=Tryz.isAgg345
 z36:=Tryz.sizeOf345
 v36:=Tryz.zeroValue345
 t41:=Tryz.underlying188
 a41:=Tryz.isAgg188
 z41:=Tryz.sizeOf188
 v41:=Tryz.zeroValue188
 t44:=Tryz.underlying328
 a44:=Tryz.isAgg328
 z44:=Tryz.sizeOf328
 v44:=Tryz.zeroValue328
 t46:=Tryz.underlying307
 a46:=Tryz.isAgg307
 z46:=Tryz.sizeOf307
 v46:=Tryz.zeroValue307
 t53:=Tryz.underlying369
 a53:=Tryz.isAgg369
 z53:=Tryz.sizeOf369
 v53:=Tryz.zeroValue369
 t57:=Tryz.underlying177
 a57:=Tryz.isAgg177
 z57:=Tryz.sizeOf177
 v57:=Tryz.zeroValue177
 t63:=Tryz.underlying387
 a63:=Tryz.isAgg387
 z63:=Tryz.sizeOf387
 v63:=Tryz.zeroValue387
 t64:=Tryz.underlying388
 a64:=Tryz.isAgg388
 z64:=Tryz.sizeOf388
 v64:=Tryz.zeroValue388 }
end Go.Proofs
namespace Go.Proofs.YthinbkgpjmjfeaaGreatDoor.Sh
open Go.Proofs.Tryz
open Proofs
section
variable{h:Hp}{c:Cx}
theorem Bk.write2{w':World}{o b st:Nat}{x y:A7}(R:Bk h c)(r:h o=some x)(p:c.ρ o=some (b,st))
 (l:c.w.heap.size<=w'.heap.size) (d:∀a,a≠b->a<c.w.heap.size->w'.heap[a]? = c.w.heap[a]?) (k:rm c.w b<=rm w' b) (v:w'.os=c.w.os) (n:w'.output=c.w.output)
 (M:DF c { c with w:=w' }->D0 { c with w:=w' } o y) (B:x.lst=false:=by rfl) (C:y.lst=false:=by rfl) (A:Td c.w w':=by first|exact⟨rfl,IO _⟩|exact⟨rfl,Nat.le_add_right _ _⟩):Bk (h_ h o (some y)) { c with w:=w' }/\DF c { c with w:=w' }:=by
 have E:DF c { c with w:=w' }:=by
  refine⟨λ_ _ e=>e,l,λa t I=>⟨I,?_⟩,λa=>?_,v,n,A⟩;refine d a ?_ t;rintro rfl;exact I (R.ownI ⟨o,x,st,r,p⟩);by_cases e:a=b;subst e;exact k;rcases vk a c.w.heap.size with u|u;simp[rm,d a e u];simp[rm,vo u]
 have s:∀z:A7,z.lst=false->∀a,Ar c o z a->a=b:=λz s a H=>by
  rcases H with⟨st',H⟩|⟨H,_⟩
  rw[p]at H;cases H;rfl;rw[s]at H;cases H
 have f:∀j z,h_ h o (some y) j=some z->∃z0,h j=some z0/\∀a,Ar { c with w:=w' } j z a->Ar c j z0 a:=λj z e=>by
  simp only[h_]at e;split at e;subst_vars;cases e;exact⟨x,r,λa H=>by rw[s y C a H];exact .inl ⟨st,p⟩⟩;exact⟨z,e,λa H=>H⟩
 refine⟨⟨λj z e=>?_,λi j z O b1 g m J K=>?_,λa=>?_⟩,E⟩;simp only[h_]at e;split at e;subst_vars;cases e;exact M E;rename_i q;refine(R.obj j z e).mono E λF G=>d F ?_ ((R.obj j z e).hold_lt G);rintro rfl;exact q (R.inj2 j o z x F e r G (.inl ⟨st,p⟩));obtain⟨z0,g1,D⟩:=f i z g;obtain⟨P,L,N⟩:=f j O m;exact R.inj2 i j z0 P b1 g1 L (D _ J) (N _ K);rw[R.own2 a];constructor;rintro⟨j,z,g,m⟩;by_cases q:j=o;subst q;rw[r]at g;cases g;exact⟨j,y,by simp[h_],by rw[s x B a m];exact .inl ⟨st,p⟩⟩;exact⟨j,z,by simp[h_,q,g],m⟩;rintro⟨j,z,g,m⟩;obtain⟨z0,g1,D⟩:=f j z g;exact⟨j,z0,g1,D _ m⟩
end
def FG(l:List Int):List Int:=l.mergeSort λx y=>decide (x<=y)
theorem P1{c:Cx}:∀{l:List Int} {vs:List Value},AT (V c) (l.map AA) vs->vs=l.map (Value.int .i64)
 | [],_,h=>by rw[h.nil_left];rfl
 | a::l,[],h=>h.elim
 | a::l,v::vs,h=>by
  have h1:=Dl h.1;rw[h1,P1 h.2];rfl
theorem bt:K3 prog 215=true:=by unfold K3;rw[func215];kernel_rfl
theorem lT(l:List Int)(N:l.length<4611686018427387904){H:Hp}{n o:Nat}{full:Bool}(G:H o=some (.cells (l.map AA))):
 BF prog 215 [.sl o 0 1 l.length full] H n (λv h' n'=>v=.tup []/\h'=h_ H o (some (.cells ((FG l).map AA)))/\n'=n):=by
 refine⟨bt,λc vs _ R F A=>?_⟩;obtain⟨u,rfl,hv⟩:=A.single;rw[V]at hv;obtain⟨b,st,cap,hρ,rfl,hcap,_,hroom⟩:=hv;obtain⟨L,st',arr,e,vs,g1,p,g3,M,g5,_⟩:=R.obj o _ G;rw[hρ]at g1;cases g1;have D:=P1 M;have d:b<c.w.heap.size:=(qe.1 p).1;have f:∀j (r:j<l.length),arr[st+j]? = some (.int .i64 l[j]):=λj r=>g3 j _ (by rw[D];simp[r]);have t:Go.Sort.Holds (Value.int .i64) c.w b (st+0) l.toArray:=λj r=>by
  have q:j<l.length:=by simpa using r
  refine⟨by simp[World.cell?,p,f j q,q],by simp[World.frozen?,p]⟩
 have I:=AnyM.slices_Sort_int Tryz.sortA b (st+0) cap l c.w t d N;have s:Calls prog 215 #[.slice (some ⟨b,st+0,none⟩) l.length cap] c.w λe w'=>e=.returned (.tuple #[])/\∃n os,w'=Go.Sort.grow (Go.Sort.putRow (Value.int .i64) (Go.Sort.ahead c.w n) b (st+0) (FG l).toArray) os:=I;refine s.mono ?_;rintro e w' ⟨rfl,k,os,rfl⟩;have hlen:(FG l).length=l.length:=wh _;have m:(Go.Sort.grow (Go.Sort.putRow (Value.int .i64) (Go.Sort.ahead c.w k) b (st+0) (FG l).toArray) os).heap=(c.w.heap.modify b (Go.Sort.onCells (Go.Sort.putCells (Value.int .i64) (st+0) (FG l).toArray)))++os:=rfl;have g:(Go.Sort.grow (Go.Sort.putRow (Value.int .i64) (Go.Sort.ahead c.w k) b (st+0) (FG l).toArray) os).heap[b]? = some (.cells (Go.Sort.putCells (Value.int .i64) (st+0) (FG l).toArray arr) e (0,0)):=by
  rw[m,vN (by simpa using d),wi,nS rfl,p];rfl
 obtain⟨J,K⟩:=R.write2 (w':=Go.Sort.grow (Go.Sort.putRow (Value.int .i64) (Go.Sort.ahead c.w k) b (st+0) (FG l).toArray) os) (y:=.cells ((FG l).map AA)) G hρ
  (by rw[m];simp) (λL hb C=>by rw[m,vN (by simpa using C),wi,nR (Ne.symm hb)])
  (by unfold rm; rw [g, p]; simp [Go.Sort.putCells]) rfl rfl (fun X => by
    refine⟨b,st,_,e,(FG l).map (Value.int .i64),hρ,g,λi x hi=>?_,?_,λx O=>?_,Ty.none⟩;simp only[vj,qQ]at hi;obtain⟨z,E,rfl⟩:=hi;have B:=(qu.1 E).1;have:=f i nN;simp only[Go.Sort.putCells,Array.getElem?_mapIdx,this,vK,ww,List.size_toArray];rw[nS ⟨by omega,by omega⟩,show st+i-st=i by omega];simp[B]at E ⊢;exact E;exact AT.map (R:=λa b=>a=b) (λa b e=>by subst e;simp[V]) (by
     have:∀l:List Int,AT (λa b=>a=b) l l:=λl=>by induction l with|nil=>trivial|cons a l ih=>exact⟨rfl,ih⟩
     exact this _)
    obtain⟨z,_,rfl⟩:=qb.1 O;rfl)
 exact⟨.tuple #[],.tup [],_,n,_,rfl,⟨rfl,rfl,rfl⟩,rfl,by simp[V,VL],J,F,⟨K,IO _,λ_ _=>rfl⟩⟩
theorem gD(z:Nat)(full:Bool):PC 215 [.x z [] full] (.tup []):=by
 intro h n;refine⟨bt,λc vs _ R F A=>?_⟩;obtain⟨u,rfl,hv⟩:=A.single;rw[V]at hv;have fin:∀(p:Option Addr)(cap:Nat),Calls prog 215 #[.slice p 0 cap] c.w λe w'=>e=.returned (.tuple #[])/\w'=c.w:=λp cap=>AnyM.slices_Sort_int_none Tryz.sortA p cap c.w;have key:∃p cap,u=.slice p 0 cap:=by
  rcases hv with⟨_,rfl⟩|⟨a,cap,_,rfl,_⟩
  exact⟨_,_,rfl⟩;exact⟨_,_,rfl⟩
 obtain⟨p,cap,rfl⟩:=key;refine(fin p cap).mono ?_;rintro e w' ⟨rfl,rfl⟩;exact⟨.tuple #[],.tup [],h,n,c,rfl,⟨rfl,rfl,rfl⟩,rfl,by simp[V,VL],R,F,wD n c⟩
set_option maxRecDepth 10000
set_option maxHeartbeats 4000000
def Fh(l:List Int):List (SV×SV):=l.map λx=>(AA x,.bool true)
theorem Et{x:Int}:∀{l:List Int} (i:Nat),x∉l->Cd (AA x) (Fh l) i=some none
 | [],i,_=>rfl
 | a::l,i,h=>by
  simp only[qd,not_or]at h;have:(x==a)=false:=by simpa using h.1
  simp only[Fh,qg,Cd,GT,if_true,this];exact Et (i+1) h.2
theorem Dy{x:Int}:∀{l:List Int} (i:Nat),x∈l->∃j,Cd (AA x) (Fh l) i=some (some (i+j,.bool true))/\l[j]? = some x
 | a::l,i,h=>by
  by_cases e:x=a;subst e;exact⟨0,by simp[Fh,Cd,GT],by simp⟩;have h':x∈l:=by rcases qd.1 h with h|h;exact absurd h e;exact h
  obtain⟨j,h1,h2⟩:=Dy (i+1) h';have:(x==a)=false:=by simpa using e
  refine⟨j+1,?_,by simpa using h2⟩;simp only[Fh,qg,Cd,GT,if_true,this];rw[show i+(j+1)=i+1+j by omega];exact h1
theorem KO{x:Int}{l:List Int}{j:Nat}(h:l[j]? = some x):Fi (Fh l) j (AA x) (.bool true)=Fh l:=by
 unfold Fi Fh;apply List.ext_getElem?;intro i;simp only[List.getElem?_modify,vj];by_cases e:j=i;subst e;simp[h];cases l[i]? <;> simp[e]
theorem SC.use{E:BU}{f:FuncId}{args:List SV}{h:Hp}{n:Nat}{Q K:SV->Hp->Nat->Prop}(H:BF prog f args h n Q)(hk:∀v h' n',Q v h' n'->K v h' n'):Ab E prog f args h n K:=Ab.lift (H.mono hk)
theorem Hq:∀l:List Int,(l.map AA).flatMap SV.cells=l.map AA
 | []=>rfl
 | a::l=>by simp[SV.cells,Hq l]
theorem Fm.mono{E:BU}{P:Program}{l:Nat}{args:List SV}{h:Hp}{n:Nat}{Q i:SV->Hp->Nat->Prop}(H:Fm E P l args h n Q)(j:∀v h' n',Q v h' n'->i v h' n'):Fm E P l args h n i:=λc vs I R F A=>by
 obtain⟨a,b,f,d,e,g⟩:=H c vs I R F A;exact⟨a,b,f,d,e,g.mono λ_ _ ⟨u,v,h',n',f,e,q,r⟩=>⟨u,v,h',n',f,e,j _ _ _ q,r⟩⟩
def Tv(J:(Nat->Prop)->Hp->Nat->Prop)(Jx:(Nat->Prop)->Hp->Nat->Prop)(D:Nat->Prop)(h:Hp)(m:Nat):SV->Hp->Nat->Prop:=λv h' m'=>
 m<=m'/\∃D',(∀o,D' o->D o\/(m<=o/\o<m'))/\(∀o,¬D o->o<m->h' o=h o)/\((v=.bool true/\J D' h' m')\/(v=.bool false/\Jx D' h' m'))
section
variable{E:BU}{yl:Nat}{X:Type}{enc:X->List SV}{xs:List X}{J:Nat->(Nat->Prop)->Hp->Nat->Prop}{Jx:(Nat->Prop)->Hp->Nat->Prop}
end
structure C8 where
 body:Bool
 note:Bool
 tables:Int
def C8.h(p:C8):SV:=.agg [.bool p.body,.bool p.note,AA p.tables]
structure Fl where
 id:Int
 items:List AD
 at_:C8
def Fl.h(f:Fl):List SV:=[AA f.id,.agg [AI f.items,.bool f.at_.body,.bool f.at_.note,AA f.at_.tables]]
def C8.inNote(p:C8):C8:=⟨false,true,p.tables⟩
def C8.k_(p:C8):C8:=⟨false,p.note,IntKind.i64.wrap (p.tables+1)⟩
theorem VS{l:List AD}{x:AD}(h:x∈l):SizeOf.sizeOf x.W<SizeOf.sizeOf l:=by
 have:=List.sizeOf_lt_of_mem h;cases x;simp only[AD.W,AD.mk.sizeOf_spec]at *;omega
theorem VI{l:List AD}{x:AD}{r:AM}{c:AG}(h:x∈l)(hr:r∈x.R)(a:c∈r.cells):SizeOf.sizeOf c.W<SizeOf.sizeOf l:=by
 have h1:=List.sizeOf_lt_of_mem h;have h2:=List.sizeOf_lt_of_mem hr;have h3:=List.sizeOf_lt_of_mem a;cases x;cases r;cases c;simp only[AD.R,AM.cells,AG.W,AD.mk.sizeOf_spec,AM.mk.sizeOf_spec,AG.mk.sizeOf_spec]at *;omega
section
variable{E:BU}{yl:Nat}{xs:List Fl}{J:Nat->(Nat->Prop)->Hp->Nat->Prop}{Jx:(Nat->Prop)->Hp->Nat->Prop}
end
def Fl.ok(f:Fl):Prop:=f.items.length<=1048576/\AD.G f.items
section
variable{E:BU}{yl:Nat}{xs:List Fl}{J:Nat->(Nat->Prop)->Hp->Nat->Prop}{Jx:(Nat->Prop)->Hp->Nat->Prop}
end
theorem Ak{h' h:Hp}{k o:Nat}{b:List SV}(c:h o=none)(hh:h' o=some (.cells b)):Fz h' h (k+1) (.ptr o 0) (.q b):=by
 refine .inr ⟨c,b,hh,by simp,?_⟩;have:∀l:List SV,AT (Fz h' h k) l l:=by
  intro l;induction l with
  | nil=>trivial
  | cons a l ih=>exact⟨Or,ih⟩
 simpa using this b
section
variable{E:BU}{yl:Nat}{J:Nat->(Nat->Prop)->Hp->Nat->Prop}{Jx:(Nat->Prop)->Hp->Nat->Prop}
end
def AF.V(h:AF):List Int:=(if h.I=0 then[]else[h.I])++h.Y.map (·.rev)++h.Z.map (·.rev)
theorem T5{H:Hp}{n m k p:Nat}{es:List Int}{x:Int}{o:Option Nat}(a:BG n m 1 o (es.map AA))(hl:es.length<=1073741823)(h1:H k=some (.cells [AA x]))(h2:∀j,o=some j->H j=some (.cells (es.map AA))):
 Af prog H p .append [91,91] [AQ 1 o (es.map AA),.sl k 0 1 1 true]=some { val:=.sl p 0 1 (es.length+1) false,upd:=o.map λj=>(j,none),new:=some (.cells (es.map AA++[AA x])) }:=by
 have:=Hl (P:=prog) (H:=H) (t:=91) (t2:=91) (el:=3) nP nP nP nO nP nP nP (by simp;omega) a (e:=AA x) rfl h1 (λj e=>by rw[h2 j e,Hq]) p;rw[this,Hq];simp[SV.cells]
def B8(out:List Int)(x:Int):List Int:=if x∈out then out else out++[x]
def BD(out l:List Int):List Int:=l.foldl B8 out
theorem CT(out a b:List Int):BD out (a++b)=BD (BD out a) b:=qX
theorem Do(x:Int):∀(l out:List Int),x∈BD out l↔x∈out\/x∈l
 | [],out=>by simp[BD]
 | a::l,out=>by
  have b:=Do x l (B8 out a);have e:BD out (a::l)=BD (B8 out a) l:=rfl;rw[e,b];unfold B8;split;rename_i h;constructor;rintro(h1|h1);exact .inl h1;exact .inr (qT _ h1);rintro(h1|h1);exact .inl h1;rcases qd.1 h1 with rfl|h1;exact .inl h;exact .inr h1;simp only[qf,qd,vC,or_false,or_assoc]
theorem Jv:∀(l out:List Int),out.Nodup->(BD out l).Nodup
 | [],_,h=>h
 | a::l,out,h=>by
  have e:BD out (a::l)=BD (B8 out a) l:=rfl;rw[e];refine Jv l _ ?_;unfold B8;split;exact h;rename_i c;rw[qr];refine⟨h,by simp,λx d y b=>?_⟩;simp at b;rintro rfl;subst b;exact c d
theorem Ka:∀(l out:List Int),(BD out l).length<=out.length+l.length
 | [],out=>by simp[BD]
 | a::l,out=>by
  have e:BD out (a::l)=BD (B8 out a) l:=rfl;rw[e];have:=Ka l (B8 out a);have h2:(B8 out a).length<=out.length+1:=by unfold B8;split<;>simp
  simp;omega
theorem Tm(out:List Int)(x:Int):
 (∃i v,Cd (AA x) (Fh out) 0=some (some (i,v))/\(Fh out).modify i (λ_=>(AA x,.bool true))=Fh (B8 out x))\/(Cd (AA x) (Fh out) 0=some none/\Fh out++[(AA x,.bool true)]=Fh (B8 out x)):=by
 by_cases hm:x∈out;obtain⟨j,h1,h2⟩:=Dy 0 hm;refine .inl ⟨0+j,_,h1,?_⟩;have:=KO h2;rw[qW,B8,nS hm];exact this;refine .inr ⟨Et 0 hm,?_⟩;rw[B8,nR hm];simp[Fh]
def AF.all(h:AF):List Int:=h.I::(h.Y.map (·.rev)++h.Z.map (·.rev))
theorem Zz(hd:AF)(t:hd.D)(out:List Int){H:Hp}{n p s:Nat}(hp:H p=some (.cells [.map s]))(f:H s=some (.map (Fh out))):
 BF prog 165 [hd.h,.ptr p 0] H n (λv h' n'=>v=.tup []/\h'=h_ H s (some (.map (Fh (BD out hd.all))))/\n'=n):=by
 refine E8 func165 rfl λd=>?_;have hpn:=(d p _ hp).1;have a:=(d s _ f).1;have r:p≠s:=by rintro rfl;rw[hp]at f;cases f
 have e1:p≠n:=by omega
 have e2:s≠n:=by omega
 have hsd:=t.Y;have hsl:=t.Z;have A:∀l:List Int,hd.all=hd.I::l->BD out hd.all=BD (B8 out hd.I) l:=λl e=>by rw[e];rfl
 refine A6 2 [(1,.ptr p 0),(2,.q hd.j)] H (λm=>m=n+1) ?_ (λm hm=>?_);simp[go_sem,AF.h,Or];exact⟨Ak (d.none (IO n)) (by simp[AC]),AY d (IO _) AE⟩;subst hm;refine A6 1 [(1,.ptr p 0),(2,.q hd.j)] (h_ H s (some (.map (Fh (B8 out hd.I))))) (λm=>m=n+1) ?_ (λm hm=>?_);rcases Tm out hd.I with⟨i,v,h1,h2⟩|⟨h1,h2⟩<;>simp[go_sem,AF.j,hp,f,h1,h2,BN];subst hm;refine AJ ?_;simp[go_sem,AF.j];refine A9 1 (α:=Nat) (λi=>[(1,.ptr p 0),(2,.q hd.j),(13,Aa hd.Y),(14,AA hd.Y.length),(15,AA i)]) (λi=>h_ H s (some (.map (Fh (BD (B8 out hd.I) ((hd.Y.take i).map (·.rev)))))))
  (λi m=>i<=hd.Y.length/\n<m) (λi=>hd.Y.length-i) 0 ?_ ?_ ?_ ?_
 exact⟨qi _,ve n⟩;simp[look,AF.j];exact AE;rintro i m ⟨hi,c⟩;have w:p≠m:=by omega
 have z:s≠m:=by omega
 by_cases b:i<hd.Y.length
 . have B:=wS i nN;obtain⟨x,u⟩:∃x,hd.Y[i]=x:=⟨_,rfl⟩
   have a:BD (B8 out hd.I) ((hd.Y.take (i+1)).map (·.rev))=B8 (BD (B8 out hd.I) ((hd.Y.take i).map (·.rev))) x.rev:=by
    rw[qa b,u,qc,CT];rfl
   generalize BD (B8 out hd.I) ((hd.Y.take i).map (·.rev))=o2 at a ⊢;rcases Tm o2 x.rev with⟨k,v,h1,h2⟩|⟨h1,h2⟩<;>simp[go_sem,AF.j,b,u,Dx.h,hp,h1,h2,BN,B,AC,AB,w,z,r,-Int.natCast_add]
   all_goals
    refine⟨i+1,by omega,⟨by omega,by omega⟩,Or,?_⟩;rw[<-vT,a];intro j y;have:=d j y;simp only[h_];grind
 . have:i=hd.Y.length:=by omega
   subst this;rw[qn];generalize C:BD (B8 out hd.I) (hd.Y.map (·.rev))=out1;simp[go_sem,AF.j];refine A9 1 (α:=Nat) (λi=>[(1,.ptr p 0),(2,.q hd.j),(25,AN hd.Z),(26,AA hd.Z.length),(27,AA i)]) (λi=>h_ H s (some (.map (Fh (BD out1 ((hd.Z.take i).map (·.rev)))))))
    (λi m=>i<=hd.Z.length/\n<m) (λi=>hd.Z.length-i) 0 ?_ ?_ ?_ ?_
   exact⟨qi _,c⟩;simp[look,AF.j];exact AE;clear hi c w z m b;rintro i m ⟨hi,c⟩;have w:p≠m:=by omega
   have z:s≠m:=by omega
   by_cases b:i<hd.Z.length
   . have B:=wS i nN;obtain⟨x,u⟩:∃x,hd.Z[i]=x:=⟨_,rfl⟩
     have a:BD out1 ((hd.Z.take (i+1)).map (·.rev))=B8 (BD out1 ((hd.Z.take i).map (·.rev))) x.rev:=by
      rw[qa b,u,qc,CT];rfl
     generalize BD out1 ((hd.Z.take i).map (·.rev))=o2 at a ⊢;rcases Tm o2 x.rev with⟨k,v,h1,h2⟩|⟨h1,h2⟩<;>simp[go_sem,AF.j,b,u,BC.h,hp,h1,h2,BN,B,AC,AB,w,z,r,-Int.natCast_add]
     all_goals
      refine⟨i+1,by omega,⟨by omega,by omega⟩,Or,?_⟩;rw[<-vT,a];intro j y;have:=d j y;simp only[h_];grind
   have:i=hd.Z.length:=by omega
   subst this;rw[qn];simp[go_sem,AF.j];have g:BD out1 (hd.Z.map (·.rev))=BD out hd.all:=by
    rw[<-C,<-CT];exact(A _ rfl).symm
   rw[g];refine .inr ⟨0,.tup [],_,Or,by simp[C_,c_],λo x e=>⟨e,?_⟩,rfl,rfl,rfl⟩;have:=d o x;simp only[h_]at e;split at e;subst_vars;cases e;refine⟨a,?_⟩;simp[Ay,Fh,C_];exact this e
end Go.Proofs.YthinbkgpjmjfeaaGreatDoor.Sh
