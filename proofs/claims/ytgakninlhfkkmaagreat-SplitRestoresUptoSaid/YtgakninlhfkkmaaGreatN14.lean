/- A part of the proof (part 14 of 17). -/
import Derived.Test.YtgakninlhfkkmaaGreatN13
namespace Go.Proofs.YtgakninlhfkkmaaGreat.Sh
abbrev kE:=@Rd.zero
abbrev kT:=@Ct.nil
abbrev kY:=@Ct.rd
abbrev qN:=@Ct.cons
open Proofs
set_option maxRecDepth 10000
def Ip (l:List (Int×Int)):Nat->List (Int×Int)
 | 0=>[]
 | i+1=>if 0<i/\l[i]? = l[i-1]? then Ip l i else Ip l i++(l[i]?).toList
theorem Q3 (l:List (Int×Int)):∀i,(Ip l i).length<=i
 | 0=>qa _
 | i+1=>by
  have:=Q3 l i;rw[Ip];split;omega;rw[qt];cases l[i]? <;> simp<;>omega
theorem YC (a b:Int×Int):Bv Tryz.prog [AA a.1,AA a.2] [AA b.1,AA b.2] (Ba Tryz.prog 89)=some (a==b):=by
 rw[show Bv Tryz.prog [AA a.1,AA a.2] [AA b.1,AA b.2] (Ba Tryz.prog 89)=_ from WG a.1 a.2 b.1 b.2];congr 1
def Fw (l:List (Int×Int)):List SV:=(l.map B5).flatMap SV.cells
theorem F9 (l:List (Int×Int)):(Fw l).length=l.length*2:=by unfold Fw;rw[A7 (E3 l),qd]
theorem K4 (a b:List (Int×Int)):Fw (a++b)=Fw a++Fw b:=by simp[Fw]
theorem WV (l:List (Int×Int)) (t:List SV) {i:Nat} (hi:i<l.length):(Fw l++t).drop (i*2)=AA l[i].1::AA l[i].2::(Fw l++t).drop (i*2+2):=by
 have h:l=l.take i++l[i]::l.drop (i+1):=by rw[Q6,ja]
 have e:Fw l=Fw (l.take i)++(AA l[i].1::AA l[i].2::Fw (l.drop (i+1))):=by
  conv=>lhs;rw[h]
  rw[K4];rfl
 have n:(Fw (l.take i)).length=i*2:=by rw[F9,jr];omega
 rw[e,qn,<-n];generalize Fw (l.take i)=A;simp
theorem Uw (l:List (Int×Int)) (t:List SV) {i:Nat} (hi:i<l.length) (x:Int×Int):(Fw l++t).take (i*2)++(AA x.1::AA x.2::(Fw l++t).drop (i*2+2))=Fw (l.set i x)++t:=by
 have h:l=l.take i++l[i]::l.drop (i+1):=by rw[Q6,ja]
 have e:Fw l=Fw (l.take i)++(AA l[i].1::AA l[i].2::Fw (l.drop (i+1))):=by
  conv=>lhs;rw[h]
  rw[K4];rfl
 have n:(Fw (l.take i)).length=i*2:=by rw[F9,jr];omega
 have a:l.set i x=l.take i++x::l.drop (i+1):=by rw[ku,if_pos hi]
 rw[a,K4,e,qn,<-n];generalize Fw (l.take i)=A;simp[Fw,B5,SV.cells]
theorem LL (l:List (Int×Int)) {i:Nat} (h0:0<i) (h:i<l.length):Ip l (i+1)=if l[i]=l[i-1]then Ip l i else Ip l i++[l[i]]:=by
 rw[Ip,qf h,qf (by omega)];simp[h0]
theorem K5 (l:List (Int×Int)) (t:List SV) {i:Nat} (hi:i<l.length):i*2+2<=(Fw l++t).length/\((Fw l++t).drop (i*2)).take 2=[AA l[i].1,AA l[i].2]:=by
 refine⟨by rw[qt,F9];omega,?_⟩;rw[WV l t hi];rfl
set_option maxHeartbeats 2000000 in
theorem lr (l:List (Int×Int)) (hl:l.length<=1048576) {H:Hp} {n o:Nat} {full:Bool} {t:List SV} (B:H o=some (.cells (Fw l++t))):
 BA Tryz.prog 101 [.sl o 0 2 l.length full] H n (ZU (Ip l l.length) H o n):=by
 refine gq Tryz.func101 rfl λZ=>?_;have N:o<n:=(Z o _ B).1;have ht:closedL n t=true:=by
  have:=(Z o _ B).2;change closedL n (Fw l++t)=true at this;rw[BU]at this ⊢;exact λe p=>this e (jN _ p)
 have fin:∀(c:List (Int×Int)) (h':Hp) (n':Nat) (cs t:List SV) (f2:Bool),Ip l l.length=c->(∀j y,j≠o->H j=some y->h' j=some y)->h' o=some (.cells cs)->cs=Fw c++t->closedL n t=true->
  B8 n h' n' (.sl o 0 2 c.length f2) (ZU (Ip l l.length) H o n):=λc h' n' cs t f2 hk hh hc Q h2=>by
  refine .inr ⟨0,.sl o 0 2 c.length f2,hset H o (some (.cells cs)),IO,by simpa[closed]using N,λj y e=>?_,f2,t,by rw[hk],by rw[hk,Q];rfl,rfl⟩;by_cases E:j=o;subst E;rw[AC]at e;cases e;refine⟨hc,N,?_⟩;show closedL n cs=true;rw[Q,BU];intro e p;rcases qe.1 p with p|p;exact BU.1 (KC n c) e p;exact BU.1 h2 e p;rw[AD _ _ E]at e;exact⟨hh j y E e,Z j y e⟩
 by_cases h2:l.length<2;have z:(l.length:Int)<2:=by omega
 have hd:Ip l l.length=l:=by
  rcases l with _|⟨a,_|⟨b,l⟩⟩
  rfl;rfl;simp at h2;omega
 simp[go_sem,z];exact fin l H n _ t full hd (λj y _ e=>e) B rfl ht;have z:¬(l.length:Int)<2:=by omega
 simp[go_sem,z];refine An 0 (α:=Nat) (λk=>[(0,.sl o 0 2 l.length full),(3,AA k)]) (λ_=>H) (λk m=>1<=k/\k<=l.length/\n<=m/\Ip l k=l.take k) (λk=>l.length-k) 1 ?_ ?_ AB ?_;refine⟨by omega,by omega,by omega,?_⟩;rcases l with _|⟨a,l⟩
 rfl;rfl;simp[Ai,IO];rintro k m ⟨hk1,hk2,hnm,I⟩;by_cases q:k<l.length
 . have w1:=wS k (by omega);have w2:IntKind.i64.wrap ((k:Int)-1)=((k-1:Nat):Int):=by rw[Cl]<;>omega
   have b1:(k:Int)<l.length:=by omega
   have b2:((k-1:Nat):Int)<l.length:=by omega
   obtain⟨g1,U⟩:=K5 l t q;obtain⟨g3,V⟩:=K5 l t (show k-1<l.length by omega);have g:=LL l (by omega) q;obtain⟨x,hx⟩:∃x,l[k]=x:=⟨_,rfl⟩
   obtain⟨y,hy⟩:∃y,l[k-1]=y:=⟨_,rfl⟩
   rw[hx,hy]at g;rw[hx]at U;rw[hy]at V;generalize hF:Fw l++t=F at B g1 U g3 V;simp[go_sem,B,g1,U,g3,V,w1,w2,b1,b2,-Int.natCast_add]
   repeat first|refine nq ?_|refine sq ?_|refine aq ?_
   refine⟨_,Cp rfl (.inl rfl) (by kernel_rfl) (by kernel_rfl) (by kernel_rfl) rfl rfl (YC x y),?_⟩;simp[go_sem]
   repeat first|refine nq ?_|refine sq ?_|refine aq ?_
   by_cases p:x=y
   . have J:k<=l.length:=by omega
     have ne:¬((k:Int)=l.length):=by omega
     rw[if_pos p]at g;simp[go_sem,p,J,ne,-Int.natCast_add];refine An 0 (α:=Nat) (λj=>[(0,.sl o 0 2 l.length full),(3,AA (Ip l (k+j)).length),(4,.sl o (k*2) 2 (l.length-k) full),(5,AA j)]) (λj=>hset H o (some (.cells (Fw (Ip l (k+j)++l.drop (Ip l (k+j)).length)++t))))
      (λj m=>1<=j/\k+j<=l.length/\n<=m/\(Ip l (k+j)).length<k+j) (λj=>l.length-(k+j)) 1 ?_ ?_ ?_ ?_
     refine⟨by omega,by omega,by omega,?_⟩;rw[g,I,jr];omega;have:((Ip l (k+1)).length:Int)=k:=by rw[g,I,jr];omega
     simp[Ai,IO,this,-Int.natCast_add];have:Ip l (k+1)++l.drop (Ip l (k+1)).length=l:=by
      rw[g,I,jr,jO J,ja]
     rw[this,hF];intro j y e;simp only[hset]at e;split at e;rename_i h;subst h;rw[B];exact e;exact e;rintro j m2 ⟨hj1,hj2,hnm2,Y⟩;have hkj:k<=k+j:=by omega
     generalize K:Ip l (k+j)=c at Y ⊢;obtain⟨L,C⟩:∃L,L=c++l.drop c.length:=⟨_,rfl⟩
     rw[<-C];have X:L.length=l.length:=by rw[C];simp;omega
     by_cases M:k+j<l.length
     . have v1:=wS j (by omega);have v2:IntKind.i64.wrap ((j:Int)-1)=((j-1:Nat):Int):=by rw[Cl]<;>omega
       have v3:IntKind.i64.wrap ((c.length:Int)+1)=((c.length+1:Nat):Int):=by rw[Cl]<;>omega
       have c1:(j:Int)<(l.length-k:Nat):=by omega
       have c2:((j-1:Nat):Int)<(l.length-k:Nat):=by omega
       have c3:j<l.length-k:=by omega
       have c4:j-1<l.length-k:=by omega
       have c5:(c.length:Int)<l.length:=by omega
       obtain⟨S,P⟩:=K5 L t (show k+j<L.length by omega);obtain⟨q3,T⟩:=K5 L t (show k+j-1<L.length by omega);have d:=LL l (show 0<k+j by omega) M;obtain⟨u,hu⟩:∃u,l[k+j]=u:=⟨_,rfl⟩
       obtain⟨w,hw⟩:∃w,l[k+j-1]=w:=⟨_,rfl⟩
       have E:L[k+j]'(by omega)=u:=by rw[<-hu];simp only[C];rw[List.getElem_append_right (by omega)];simp;congr 1;omega
       have e2:L[k+j-1]'(by omega)=w:=by rw[<-hw];simp only[C];rw[List.getElem_append_right (by omega)];simp;congr 1;omega
       rw[hu,hw,K]at d;rw[E]at P;rw[e2]at T;rw[jB]at S P;rw[show(k+j-1)*2=k*2+(j-1)*2 by omega]at q3 T;have q5:=Uw L t (show c.length<L.length by omega) u;have q6:c.length*2+2<=(Fw L++t).length:=by rw[qt,F9];omega
       generalize A:Fw L++t=FL at S P q3 T q5 q6 ⊢;simp[go_sem,AC,c1,c2,S,P,q3,T,v1,v2,-Int.natCast_add]
       repeat first|refine nq ?_|refine sq ?_|refine aq ?_
       refine⟨_,Cp rfl (.inr rfl) (by kernel_rfl) (by kernel_rfl) (by kernel_rfl) rfl rfl (YC u w),?_⟩;simp[go_sem]
       repeat first|refine nq ?_|refine sq ?_|refine aq ?_
       by_cases r:u=w;rw[if_pos r];rw[if_pos r]at d;have f:Ip l (k+(j+1))=c:=d;refine⟨j+1,by omega,⟨by omega,by omega,by omega,by rw[f];omega⟩,⟨by rw[f];exact IO,IO⟩,λi y e=>?_⟩;rw[f,<-C,A]at e;exact e;rw[if_neg r];rw[if_neg r]at d;have f:Ip l (k+(j+1))=c++[u]:=d;have W:c++[u]++l.drop (c++[u]).length=L.set c.length u:=by
        rw[C,jV _ _ (qa _),Nat.sub_self,qG (show c.length<l.length by omega),List.set_cons_zero];simp
       have c6:c.length<l.length:=by omega
       simp[go_sem,AC,c6,q5,q6,v3,-Int.natCast_add];have v:(c++[u]).length=c.length+1:=by simp
       refine⟨j+1,by omega,⟨by omega,by omega,by omega,by rw[f,v];omega⟩,⟨by rw[f,v];exact IO,IO⟩,λi y e=>?_⟩;rw[f,W]at e;simp only[hset]at e ⊢;split at e;rename_i h;rw[if_pos h];exact e;rename_i h;rw[if_neg h,if_neg h];exact e
     have:k+j=l.length:=by omega
     have d1:¬((j:Int)<(l.length-k:Nat)):=by omega
     have d2:c.length<=l.length:=by omega
     have d3:¬((c.length:Int)=l.length):=by omega
     have d4:¬(l.length-c.length=0):=by omega
     have G:(Fw L).length=l.length*2:=by rw[F9,X]
     have O:(Fw L++t).take (c.length*2)=Fw c:=by rw[C,K4,<-F9 c,qn,List.take_left]
     have d5:c.length*2+(l.length-c.length)*2<=(Fw L++t).length:=by rw[qt,G];omega
     generalize A:Fw L++t=FL at O d5 ⊢;simp[go_sem,AC,d1,d2,d3,d4,d5,-Int.natCast_add];refine fin c _ _ _ _ _ (by rw[<-this];exact K) (λi y hi e=>by rw[AD _ _ hi,AD _ _ hi];exact e) (AC _ _ _) (by rw[O]) ?_;rw[BU];intro s D;rcases qe.1 D with D|D;obtain⟨l1,Q,R⟩:=List.mem_flatten.1 D;rw[(List.mem_replicate.1 Q).2]at R;rcases qk.1 R with rfl|R;rfl;rw[qv.1 R];rfl;rw[<-A,List.drop_append,jF (by rw[G];omega),qE]at D;exact BU.1 ht s (qT D)
   simp[go_sem,p,-Int.natCast_add];exact⟨k+1,by omega,⟨by omega,by omega,by omega,by rw[g,if_neg p,I,qb q,hx]⟩,IO⟩
 have:k=l.length:=by omega
 subst this;simp[go_sem];exact fin l H m _ t full (by rw[I,qi]) (λj y _ e=>e) B rfl ht
section
variable {E : B6} {P : Program} {N : Nat} {code : Code} {Q : dO} {sa : SA} {h h' : Hp} {n n' : Nat} {c : Cx}
theorem IT (hn:n<=n') (s:∀c,Bn h c->Fr n c->∃b:Cx,b.w=c.w/\DZ c b/\Bn h' b/\Fr n' b/\∀j,j<n->b.ρ j=c.ρ j) (H:Fs E P N code Q sa h' n'):Fs E P N code Q sa h n:=by
 intro r c a I R F A;obtain⟨b,hw,X,m,l,hρ⟩:=s c R F;rw[<-hw];refine wpIn_mono (H r b a (E.ext X I) m l (A.ext X)) ?_;rintro e a' w' ⟨i,h2,u,p,q,g,o,d,k,f⟩;exact⟨i,h2,u,p,q,g,o,d,k,⟨X.trans f.ext,qr hn f.le,λj t=>(f.same j (by omega)).trans (hρ j t)⟩⟩
theorem Bn.pack {p q z:Nat} {es:List SV} {full:Bool} {ty ty2:Option TypeId} (R:Bn h c) (hp:h p=some (.cells [.sl q 0 z es.length full] ty)) (G:h q=some (.cells (es.flatMap SV.cells) ty2)) (N:es≠[]) (C:p≠q):
 ∃k:Cx,k.w=c.w/\k.ρ=c.ρ/\DZ c k/\Bn (hset (hset h p (some (.list z es))) q none) k:=by
 obtain⟨b,st,arr,e,vs,a1,a2,a3,a4,a5,_⟩:=R.obj p _ hp;obtain⟨B,I,u,d,us,b1,S,W,Y,Z,_⟩:=R.obj q _ G;obtain⟨v,rfl,T⟩:=a4.single;rw[V]at T;obtain⟨B',st',cap,c1,c2,c3,_,c5⟩:=T;rw[b1]at c1;cases c1;have O:rm c.w B=u.size:=by simp[rm,S]
 rw[O]at c5;obtain⟨k,t⟩:∃k:Cx,k={ c with bk:=λj=>if j=p then some B else c.bk j }:=⟨_,rfl⟩
 have r:k.w=c.w:=by rw[t]
 have D:k.ρ=c.ρ:=by rw[t]
 have U:k.own=c.own:=by rw[t]
 have E:∀j,k.bk j=if j=p then some B else c.bk j:=λj=>by rw[t]
 have X:DZ c k:=⟨λ_ _ e=>by rw[D];exact e,by rw[r];exact qa _,λb _ ho=>⟨by rw[U];exact ho,by rw[r]⟩,λ_=>by rw[r];exact qa _,by rw[r],by rw[r],by rw[r];exact⟨rfl,qa _⟩⟩
 have get:∀j y,hset (hset h p (some (.list z es))) q none j=some y->(j=p/\y=.list z es)\/(j≠p/\j≠q/\h j=some y):=λj y e=>by
  simp only[hset]at e;split at e;cases e;split at e;cases e;exact .inl ⟨by assumption,rfl⟩;exact .inr ⟨by assumption,by assumption,e⟩
 have f:∀j y a,j≠p->BE k j y a->BE c j y a:=λj y a l H=>by
  simp only[BE,D,E,l,if_false]at H;exact H
 have A:∀a,BE k p (.list z es) a->a=b\/a=B:=λa H=>by
  rcases H with⟨s,H⟩|⟨_,H⟩
  rw[D,a1]at H;cases H;exact .inl rfl;rw[E,if_pos rfl]at H;cases H;exact .inr rfl
 have m:∀j y a,j≠p->j≠q->h j=some y->BE c j y a->a≠b/\a≠B:=λj y a h1 h2 e H=>
  ⟨λg=>h1 (R.inj2 j p y _ a e hp H (.inl ⟨st,by rw[g];exact a1⟩)),λg=>h2 (R.inj2 j q y _ a e G H (.inl ⟨I,by rw[g];exact b1⟩))⟩
 refine⟨k,r,D,X,⟨λj y J=>?_,λi j y F a n d K L=>?_,λa=>?_⟩⟩;rcases get j y J with⟨rfl,rfl⟩|⟨l,_,J⟩
 refine⟨b,st,arr,e,v,by rw[D];exact a1,by rw[r];exact a2,by simpa using a3 0 v rfl,a5 v (by simp),.inr ⟨B,I+0,u,d,us,cap,N,λg=>C (R.inj j q _ _ b st I hp G a1 (by rw[<-g];exact b1)),by rw[E,if_pos rfl],by rw[r];exact S,c2,c3,by omega,λi x hx=>by simpa using W i x hx,kL X Y,Z⟩⟩;exact(R.obj j y J).mono X (λ_ _=>by rw[r]) (by rw[E,if_neg l]);rcases get i y n with⟨rfl,rfl⟩|⟨hi,M,f1⟩
 rcases get j F d with⟨rfl,rfl⟩|⟨l,o,f2⟩
 rfl;obtain⟨P,Q⟩:=m j F a l o f2 (f j F a l L);rcases A a K with g|g;exact absurd g P;exact absurd g Q;rcases get j F d with⟨rfl,rfl⟩|⟨l,o,f2⟩
 obtain⟨P,Q⟩:=m i y a hi M f1 (f i y a hi K);rcases A a L with g|g;exact absurd g P;exact absurd g Q;exact R.inj2 i j y F a f1 f2 (f i y a hi K) (f j F a l L);rw[U,R.own2 a];constructor;rintro⟨j,y,n,d⟩;by_cases l:j=p;subst l;rw[hp]at n;cases n;rcases d with⟨s,d⟩|⟨d,_⟩
 exact⟨j,.list z es,by simp[hset,C],.inl ⟨s,by rw[D];exact d⟩⟩;cases d;by_cases o:j=q;subst o;rw[G]at n;cases n;rcases d with⟨s,d⟩|⟨d,_⟩
 rw[b1]at d;cases d;exact⟨p,.list z es,by simp[hset,C],.inr ⟨rfl,by rw[E,if_pos rfl]⟩⟩;cases d;exact⟨j,y,by simp[hset,l,o,n],by simpa only[BE,D,E,l,if_false]using d⟩;rintro⟨j,y,n,d⟩;rcases get j y n with⟨rfl,rfl⟩|⟨l,_,n⟩
 rcases A a d with rfl|rfl;exact⟨j,_,hp,.inl ⟨st,a1⟩⟩;exact⟨q,_,G,.inl ⟨I,b1⟩⟩;exact⟨j,y,n,f j y a l d⟩
theorem Bn.unpack {p k z:Nat} {es:List SV} (R:Bn h c) (Q:c.ρ k=none) (hp:h p=some (.list z es)) (W:es≠[]):
 ∃m:Cx,m.w=c.w/\(∀j,j≠k->m.ρ j=c.ρ j)/\DZ c m/\Bn (hset (hset h p (some (.cells [.sl k 0 z es.length false]))) k (some (.cells (es.flatMap SV.cells)))) m:=by
 have K:=R.none_of Q;have O:p≠k:=by rintro rfl;rw[hp]at K;cases K
 obtain⟨b,st,arr,e,v,a1,a2,a3,a4,⟨g,_⟩|⟨B,P,G,n,us,cap,_,N,b1,b2,c2,c3,c5,b3,b4,b5⟩⟩:=R.obj p _ hp;exact absurd g W;obtain⟨m,E⟩:∃m:Cx,m={ c with ρ:=λj=>if j=k then some (B,P)else c.ρ j,bk:=λj=>if j=p then none else c.bk j }:=⟨_,rfl⟩
 have C:m.w=c.w:=by rw[E]
 have A:∀j,m.ρ j=if j=k then some (B,P)else c.ρ j:=λj=>by rw[E]
 have ko:m.own=c.own:=by rw[E]
 have Z:∀j,m.bk j=if j=p then none else c.bk j:=λj=>by rw[E]
 have X:DZ c m:=⟨λj q e=>by rw[A];split;(subst_vars;rw[Q]at e;cases e);exact e,by rw[C];exact qa _,λb _ ho=>⟨by rw[ko];exact ho,by rw[C]⟩,λ_=>by rw[C];exact qa _,by rw[C],by rw[C],by rw[C];exact⟨rfl,qa _⟩⟩
 have Y:rm m.w B=G.size:=by rw[C];simp[rm,b2]
 have get:∀j y,hset (hset h p (some (.cells [.sl k 0 z es.length false]))) k (some (.cells (es.flatMap SV.cells))) j=some y->(j=k/\y=.cells (es.flatMap SV.cells))\/(j=p/\y=.cells [.sl k 0 z es.length false])\/(j≠p/\j≠k/\h j=some y):=λj y e=>by
  simp only[hset]at e;split at e;cases e;exact .inl ⟨by assumption,rfl⟩;split at e;cases e;exact .inr (.inl ⟨by assumption,rfl⟩);exact .inr (.inr ⟨by assumption,by assumption,e⟩)
 have f:∀j y a,j≠p->j≠k->BE m j y a->BE c j y a:=λj y a l Q H=>by
  simp only[BE,A,Z,l,Q,if_false]at H;exact H
 have o:∀a,BE m k (.cells (es.flatMap SV.cells)) a->BE c p (.list z es) a/\a=B:=λa H=>by
  rcases H with⟨s,H⟩|⟨H,_⟩
  rw[A,if_pos rfl]at H;cases H;exact⟨.inr ⟨rfl,b1⟩,rfl⟩;cases H
 have r:∀a,BE m p (.cells [.sl k 0 z es.length false]) a->BE c p (.list z es) a/\a=b:=λa H=>by
  rcases H with⟨s,H⟩|⟨H,_⟩
  rw[A,if_neg O,a1]at H;cases H;exact⟨.inl ⟨st,a1⟩,rfl⟩;cases H
 have D:∀j y a,h j=some y->BE c p (.list z es) a->BE c j y a->j=p:=λj y a e L H2=>R.inj2 j p y _ a e hp H2 L;refine⟨m,C,λj l=>by rw[A,if_neg l],X,⟨λj y T=>?_,λi j y F a u n M I=>?_,λa=>?_⟩⟩;rcases get j y T with⟨rfl,rfl⟩|⟨rfl,rfl⟩|⟨l,d,T⟩
 exact⟨B,P,G,n,us,by rw[A,if_pos rfl],by rw[C];exact b2,b3,kL X b4,b5,λt h=>by cases h⟩;refine⟨b,st,arr,e,[v],by rw[A,if_neg O];exact a1,by rw[C];exact a2,λi x S=>?_,⟨?_,trivial⟩,λx S=>?_,λt h=>by cases h⟩;cases i with
 | zero=>cases S;exact a3
 | succ i=>simp at S
 rw[V];exact⟨B,P,cap,by rw[A,if_pos rfl],c2,c3,by simp,by rw[Y];omega⟩;rw[qv.1 S];exact a4;exact(R.obj j y T).mono X (λ_ _=>by rw[C]) (by rw[Z,if_neg l]);rcases get i y u with⟨rfl,rfl⟩|⟨rfl,rfl⟩|⟨hi,J,f1⟩
 obtain⟨L,U⟩:=o a M;rcases get j F n with⟨rfl,rfl⟩|⟨rfl,rfl⟩|⟨l,d,f2⟩
 rfl;exact absurd ((r a I).2.symm.trans U).symm N;exact absurd (D j F a f2 L (f j F a l d I)) l;obtain⟨L,U⟩:=r a M;rcases get j F n with⟨rfl,rfl⟩|⟨rfl,rfl⟩|⟨l,d,f2⟩
 exact absurd ((o a I).2.symm.trans U) N;rfl;exact absurd (D j F a f2 L (f j F a l d I)) l;rcases get j F n with⟨rfl,rfl⟩|⟨rfl,rfl⟩|⟨l,d,f2⟩
 exact absurd (D i y a f1 (o a I).1 (f i y a hi J M)) hi;exact absurd (D i y a f1 (r a I).1 (f i y a hi J M)) hi;exact R.inj2 i j y F a f1 f2 (f i y a hi J M) (f j F a l d I);rw[ko,R.own2 a];constructor;rintro⟨j,y,u,n⟩;have d:j≠k:=by rintro rfl;rw[K]at u;cases u
 by_cases l:j=p;subst l;rw[hp]at u;cases u;rcases n with⟨s,n⟩|⟨_,n⟩
 exact⟨j,_,by simp only[hset,d,if_false,if_true];rfl,.inl ⟨s,by rw[A,if_neg d];exact n⟩⟩;rw[b1]at n;cases n;exact⟨k,_,by simp only[hset,if_true];rfl,.inl ⟨P,by rw[A,if_pos rfl]⟩⟩;exact⟨j,y,by simp[hset,l,d,u],by simpa only[BE,A,Z,l,d,if_false]using n⟩;rintro⟨j,y,u,n⟩;rcases get j y u with⟨rfl,rfl⟩|⟨rfl,rfl⟩|⟨l,d,u⟩
 exact⟨p,_,hp,(o a n).1⟩;exact⟨j,_,hp,(r a n).1⟩;exact⟨j,y,u,f j y a l d n⟩
theorem Bn.swap0 {p:Nat} {x y:BT} (R:Bn h c) (hp:h p=some x) (B:∀b,BE c p x b->∃st,c.ρ p=some (b,st)) (H:∀a:Cx,a.w=c.w->a.ρ=c.ρ->a.bk p=none->DZ c a->Dl a p y):
 ∃a:Cx,a.w=c.w/\a.ρ=c.ρ/\DZ c a/\Bn (hset h p (some y)) a:=by
 obtain⟨a,f⟩:∃a:Cx,a={ c with bk:=λj=>if j=p then none else c.bk j }:=⟨_,rfl⟩
 have g:a.w=c.w:=by rw[f]
 have l:a.ρ=c.ρ:=by rw[f]
 have t:a.own=c.own:=by rw[f]
 have o:∀j,a.bk j=if j=p then none else c.bk j:=λj=>by rw[f]
 have X:DZ c a:=⟨λ_ _ e=>by rw[l];exact e,by rw[g];exact qa _,λb _ A=>⟨by rw[t];exact A,by rw[g]⟩,λ_=>by rw[g];exact qa _,by rw[g],by rw[g],by rw[g];exact⟨rfl,qa _⟩⟩
 have get:∀j z,hset h p (some y) j=some z->∃z0,h j=some z0/\(∀b,BE a j z b->BE c j z0 b)/\(j=p/\z=y\/j≠p/\z=z0):=λj z e=>by
  simp only[hset]at e;split at e;rename_i d;cases e;subst d;refine⟨x,hp,λb H=>?_,.inl ⟨rfl,rfl⟩⟩;rcases H with⟨s,H⟩|⟨_,H⟩
  exact .inl ⟨s,by rw[<-l];exact H⟩;rw[o,if_pos rfl]at H;cases H;rename_i d;exact⟨z,e,λb H=>by simpa only[BE,l,o,d,if_false]using H,.inr ⟨d,rfl⟩⟩
 refine⟨a,g,l,X,⟨λj z e=>?_,λi j z D b k m q u=>?_,λb=>?_⟩⟩;obtain⟨z0,n,_,⟨rfl,rfl⟩|⟨d,rfl⟩⟩:=get j z e;exact H a g l (by rw[o,if_pos rfl]) X;exact(R.obj j z n).mono X (λ_ _=>by rw[g]) (by rw[o,if_neg d]);obtain⟨z0,n,r,_⟩:=get i z k;obtain⟨E,v,C,_⟩:=get j D m;exact R.inj2 i j z0 E b n v (r b q) (C b u);rw[t,R.own2 b];constructor;rintro⟨j,z,k,m⟩;by_cases d:j=p;subst d;rw[hp]at k;cases k;obtain⟨s,q⟩:=B b m;exact⟨j,y,by simp[hset],.inl ⟨s,by rw[l];exact q⟩⟩;exact⟨j,z,by simp[hset,d,k],by simpa only[BE,l,o,d,if_false]using m⟩;rintro⟨j,z,k,m⟩;obtain⟨z0,n,r,_⟩:=get j z k;exact⟨j,z0,n,r b m⟩
theorem Bn.pack0 {p z:Nat} {ty:Option TypeId} (R:Bn h c) (hp:h p=some (.cells [.imm 0 [] true] ty)):∃a:Cx,a.w=c.w/\a.ρ=c.ρ/\DZ c a/\Bn (hset h p (some (.list z []))) a:=by
 refine R.swap0 hp (λb H=>H.elim id λg=>by cases g.1) λa j i f X=>?_;obtain⟨b,st,arr,e,vs,a1,a2,a3,a4,a5,_⟩:=R.obj p _ hp;obtain⟨v,rfl,d⟩:=a4.single;exact⟨b,st,arr,e,v,by rw[i];exact a1,by rw[j];exact a2,by simpa using a3 0 v rfl,a5 v (by simp),.inl ⟨rfl,f,d.mono X⟩⟩
theorem Bn.unpack0 {p z:Nat} (R:Bn h c) (hp:h p=some (.list z [])):∃a:Cx,a.w=c.w/\a.ρ=c.ρ/\DZ c a/\Bn (hset h p (some (.cells [.imm 0 [] true]))) a:=by
 obtain⟨b,st,arr,e,v,a1,a2,a3,a4,⟨_,b1,f⟩|⟨B,sB,arr2,e2,us,cap,g,_⟩⟩:=R.obj p _ hp;refine R.swap0 hp (λb H=>H.elim id λg=>by rw[b1]at g;cases g.2) λa k j kb X=>?_;refine⟨b,st,arr,e,[v],by rw[j];exact a1,by rw[k];exact a2,λi x d=>?_,⟨f.mono X,trivial⟩,λx d=>?_,λt h=>by cases h⟩;cases i with
 | zero=>cases d;exact a3
 | succ i=>simp at d
 rw[qv.1 d];exact a4;exact absurd rfl g
theorem So (p q z:Nat) (es:List SV) (full:Bool) (ty ty2:Option TypeId) (hp:h p=some (.cells [.sl q 0 z es.length full] ty)) (d:h q=some (.cells (es.flatMap SV.cells) ty2)) (a:es≠[]) (b:p≠q)
 (H:Fs E P N code Q sa (hset (hset h p (some (.list z es))) q none) n):Fs E P N code Q sa h n:=
 IT (qa _) (λ_ R F=>let⟨c',e1,e2,X,R'⟩:=R.pack hp d a b;⟨c',e1,X,R',λj c=>by rw[e2];exact F j c,λj _=>by rw[e2]⟩) H
theorem Jt (p z:Nat) (ty:Option TypeId) (hp:h p=some (.cells [.imm 0 [] true] ty)) (H:Fs E P N code Q sa (hset h p (some (.list z []))) n):Fs E P N code Q sa h n:=
 IT (qa _) (λ_ R F=>let⟨c',e1,e2,X,R'⟩:=R.pack0 hp;⟨c',e1,X,R',λj a=>by rw[e2];exact F j a,λj _=>by rw[e2]⟩) H
theorem OS (p z:Nat) (hp:h p=some (.list z [])) (H:Fs E P N code Q sa (hset h p (some (.cells [.imm 0 [] true]))) n):Fs E P N code Q sa h n:=
 IT (qa _) (λ_ R F=>let⟨c',e1,e2,X,R'⟩:=R.unpack0 hp;⟨c',e1,X,R',λj a=>by rw[e2];exact F j a,λj _=>by rw[e2]⟩) H
theorem P0 (p z:Nat) (es:List SV) (hp:h p=some (.list z es)) (a:es≠[]) (H:Fs E P N code Q sa (hset (hset h p (some (.cells [.sl n 0 z es.length false]))) n (some (.cells (es.flatMap SV.cells)))) (n+1)):Fs E P N code Q sa h n:=
 IT (je _) (λ_ R F=>let⟨c',e1,e2,X,R'⟩:=R.unpack (F n (qa _)) hp a;⟨c',e1,X,R',λj b=>by rw[e2 j (by omega)];exact F j (by omega),λj b=>e2 j (by omega)⟩) H
end
theorem AZ.pre {α β:Type} {R:α->β->Prop}:∀{l t:List α} {m:List β},AZ R (l++t) m->AZ R l (m.take l.length)
 | [],_,_,_=>trivial
 | _a::_l,_t,[],h=>h.elim
 | _a::_l,_t,_b::_m,h=>⟨h.1,AZ.pre h.2⟩
section
variable {E : B6} {P : Program} {N : Nat} {code : Code} {Q : dO} {sa : SA} {h : Hp} {n : Nat}
end
def Gh (h h2:Hp) (n:Nat):Prop:=∀c,Bn h c->Fr n c->∃c':Cx,c'.w=c.w/\DZ c c'/\Bn h2 c'/\Fr n c'/\∀j,j<n->c'.ρ j=c.ρ j
theorem Gh.pack {h:Hp} {n p q z:Nat} {es:List SV} {full:Bool} {ty ty2:Option TypeId} (hp:h p=some (.cells [.sl q 0 z es.length full] ty)) (d:h q=some (.cells (es.flatMap SV.cells) ty2)) (a:es≠[]) (b:p≠q):Gh h (hset (hset h p (some (.list z es))) q none) n:=
 λ_ R F=>let⟨c',e1,e2,X,R'⟩:=R.pack hp d a b;⟨c',e1,X,R',λj c=>by rw[e2];exact F j c,λj _=>by rw[e2]⟩
theorem Gh.pack0 {h:Hp} {n p z:Nat} {ty:Option TypeId} (hp:h p=some (.cells [.imm 0 [] true] ty)):Gh h (hset h p (some (.list z []))) n:=
 λ_ R F=>let⟨c',e1,e2,X,R'⟩:=R.pack0 hp;⟨c',e1,X,R',λj a=>by rw[e2];exact F j a,λj _=>by rw[e2]⟩
section
variable {E : B6} {P : Program} {N : Nat} {code : Code} {Q : dO} {sa : SA} {h : Hp} {n : Nat}
theorem Rb (H:Fs E P N code (λe b h' n'=>∃h2,Gh h' h2 n'/\Q e b h2 n') sa h n):Fs E P N code Q sa h n:=by
 intro t c a I R F A;refine wpIn_mono (H t c a I R F A) ?_;rintro e a' w' ⟨b,h',n',r,⟨h2,g,q⟩,hw,o,l,k,X⟩;obtain⟨s,d,f,p,m,hρ2⟩:=g r o l;refine⟨b,h2,n',s,q,?_,p,m,k.ext f,⟨X.ext.trans f,X.le,λj i=>(hρ2 j (kq i X.le)).trans (X.same j i)⟩⟩;rw[d];exact hw
end
section
variable {P : Program}
end
def E4:List (Int×Int)->Int×Int->Int->Int
 | [],_,_=>0
 | y::l,x,k=>if y=x then k+1 else E4 l x (k+1)
section
variable {E : B6} {evs : Operand → SV} {o : Oper} {h : Hp} {n : Nat} {K : SV → Hp → Nat → Prop}
theorem Iq {m x:Operand} {q:Nat} {a b:Int} {es:List (SV×SV)} {r:Option (Nat×SV)} (D:o.op=.lookup 155 m x false) (U:evs m=.map q) (W:h q=some (.map es)) (X:evs x=.agg [.int .i64 a,.int .i64 b])
 {v:SV} (H:(match r with|some p=>p.2|none=>BH Tryz.prog 3)=v) (T:F3 Tryz.prog 89 [.int .i64 a,.int .i64 b] es 0=some r) (N:K v h n):EI E Tryz.prog evs o h n K:=by
 subst H;refine⟨by rw[D];simp,λc ev _ _ R F O=>?_⟩;have y:=O m;have k:=O x;rw[U,V]at y;obtain⟨P,hρ,s⟩:=y;rw[X]at k;have u:=Vv k;obtain⟨b',d,f,M,Q,S,_⟩:=R.obj _ _ W;rw[hρ]at M;cases M;have t:(getObj P).run Tryz.prog c.w=.ok (.map d f) c.w:=by simp[getObj,Sem.run,Q]
 have e:Tryz.prog.underlying 155=some (.map 89 3):=Tryz.underlying155;have l:∀B,(Instr.checkKey B 10000 89 (ev x)).run Tryz.prog c.w=.ok () c.w:=λB=>by rw[u];exact LH B a b c.w
 have G:(BH Tryz.prog 3).storable=true:=by simp[go_sem]
 obtain⟨i,z,hi,L,J⟩:=CB G;have A:=C9 c z;rw[<-J]at A;rcases J1 Vf k c.w es d.toList 0 r S T with⟨rfl,C⟩|⟨j,Y,Z,e2,ds,rfl,C,I,_,_⟩
 have g:=GB Tryz.underlying89 C;refine⟨z,BH Tryz.prog 3,h,n,c,?_,A,R,F,ke n c,N⟩;simp[execOp,D,Instr.lookup,AO e,s,t,l,g,E5 hi L];have g:=GB Tryz.underlying89 C;refine⟨Z,Y,h,n,c,?_,I,R,F,ke n c,N⟩;simp[execOp,D,Instr.lookup,AO e,s,t,l,g]
theorem KJ {m y x:Operand} {q:Nat} {a b:Int} {es:List (SV×SV)} {r:Option (Nat×SV)} (ho:o.op=.mapUpdate 155 m y x) (hm:evs m=.map q) (hq:h q=some (.map es)) (hy:evs y=.agg [.int .i64 a,.int .i64 b]) (S:∀p∈es,Vd p)
 {es2:List (SV×SV)} (O:(match r with|some p=>HF es p.1 (.agg [.int .i64 a,.int .i64 b]) (evs x)|none=>es++[(.agg [.int .i64 a,.int .i64 b],evs x)])=es2) (T:F3 Tryz.prog 89 [.int .i64 a,.int .i64 b] es 0=some r)
 (hk:K (.tup []) (hset h q (some (.map es2))) n):XM E Tryz.prog evs o h n K:=by
 subst O;refine⟨by rw[ho];simp,λc ev _ _ R F Y=>?_⟩;have B:=Y m;have k:=Y y;have C:=Y x;rw[hm,V]at B;obtain⟨D,hρ,z⟩:=B;rw[hy]at k;have s:=Vv k;obtain⟨b',g,d,g1,L,G,hB⟩:=R.obj _ _ hq;rw[hρ]at g1;cases g1;have A:(getObj D).run Tryz.prog c.w=.ok (.map g d) c.w:=by simp[getObj,Sem.run,L]
 have t:Tryz.prog.underlying 155=some (.map 89 3):=Tryz.underlying155;have v:∀J,(Instr.checkKey J 10000 89 (ev y)).run Tryz.prog c.w=.ok () c.w:=λJ=>by rw[s];exact LH J a b c.w
 have i:∀Z:Obj,(setObj D Z).run Tryz.prog c.w=.ok () { c.w with heap:=c.w.heap.setIfInBounds D Z }:=λZ=>by
  simp[setObj,Sem.run,L]
 have fin:∀(u:List (SV×SV)) (f:Array MapEntry) (clock':Nat),AZ (λ(p:SV×SV) (e:MapEntry)=>V c p.1 e.key/\V c p.2 e.val) u f.toList->Hm f.toList clock'->
  (Instr.mapUpdate 155 (ev m) (ev y) (ev x)).run Tryz.prog c.w=.ok () { c.w with heap:=c.w.heap.setIfInBounds D (.map f clock') }->K (.tup []) (hset h q (some (.map u))) n->
  ∃h' n' c',(execOp ev o).run Tryz.prog c.w=.ok .skip c'.w/\Bn h' c'/\Fr n' c'/\Fq n c n' c'/\K (.tup []) h' n':=λu f clock' he M hr hK=>by
  obtain⟨R',E'⟩:=KB (clock':=clock') R hq hρ L he M;exact⟨_,n,_,by simp[execOp,ho,hr],R',F,⟨E',qa n,λ_ _=>rfl⟩,hK⟩
 rcases J1 Vf k c.w es g.toList 0 r G T with⟨rfl,U⟩|⟨j,x2,y2,e2,ds,rfl,U,hxy,hj,hds,hfe⟩
 have l:=GB Tryz.underlying89 U;refine fin _ (g.push { key:=ev y,val:=ev x,born:=d }) (d+1) (by rw[Array.toList_push];exact jS G (as':=[(_,evs x)]) ⟨⟨k,C⟩,trivial⟩) (by rw[Array.toList_push];exact hB.push _ rfl) ?_ hk;simp[Instr.mapUpdate,AO t,z,A,v,l,i];have l:=GB Tryz.underlying89 U;rw[jc]at T l;obtain⟨H,v',k1,k2⟩:=Ou es 0 j x2 (by rw[jc];exact T);obtain⟨a',b',k3⟩:=S _ (jb k1);have N:H=[.int .i64 a',.int .i64 b']:=by simpa using k3
 have hs:=Wo (by rw[N];rfl) k2;obtain⟨I,k4,k5,_⟩:=AZ.get G k1;have P:I=e2:=by rw[hj]at k4;exact(Option.some.inj k4).symm
 subst P;simp only[hs]at k5;have Q:=Vv k5;have W:g[j]? = some I:=by simpa using hj
 have X:Instr.sameBits 10000 I.key (ev y)=true:=by
  rw[Q,s];have:∀n,Instr.sameBits (n+1) (.agg #[.int .i64 a,.int .i64 b]) (.agg #[.int .i64 a,.int .i64 b])=true:=λn=>by simp[Instr.sameBits]
  exact this 9999
 refine fin _ _ d (Oq j k C G) (Hm.modify hB j _ λ_=>rfl) ?_ (by simpa using hk);simp[Instr.mapUpdate,AO t,z,A,v,l,Instr.keyThatStays,W,X,i]
end
def Cy:List (Int×Int)->Int->List (SV×SV)
 | [],_=>[]
 | x::l,k=>(B5 x,AA (k+1))::Cy l (k+1)
theorem KA (x:Int×Int):∀(L:List (Int×Int)) (k:Int) (i:Nat),∃r,F3 Tryz.prog 89 [.int .i64 x.1,.int .i64 x.2] (Cy L k) i=some r/\(match r with|some p=>p.2|none=>BH Tryz.prog 3)=AA (E4 L x k)
 | [],k,i=>⟨none,rfl,by simp[E4,go_sem]⟩
 | y::L,k,i=>by
  simp only[Cy,F3,B5,WG,E4];by_cases e:y=x;subst e;rw[if_pos rfl];have a:(y.1==y.1&&y.2==y.2)=true:=by simp
  rw[a];exact⟨_,rfl,rfl⟩;have a:(x.1==y.1&&x.2==y.2)=false:=by
   cases b:(x.1==y.1)<;>cases h2:(x.2==y.2)<;>simp;exact e (Prod.ext (by simpa using b:x.1=y.1).symm (by simpa using h2:x.2=y.2).symm)
  rw[a,if_neg e];exact KA x L (k+1) (i+1)
section
variable (l : List Int) (L : List (Int × Int))
def Hf (q:List Az×Bool) (d:Az):List Az×Bool:=if BV l d.rev then(if q.2 then q.1++[⟨d.rev,E4 L (d.rev,d.move) 0⟩]else q.1,false)else(q.1++[d],q.2)
def Dn (ds:List Az):List Az:=(ds.foldl (Hf l L) ([],true)).1
def dN (Y:List Am):Nat->List Am
 | 0=>[]
 | i+1=>match Y[i]? with
  | none=>dN Y i
  | some y=>if 0<i/\BV l y.rev=true/\(∀z,Y[i-1]? = some z->BV l z.rev=true/\z.key=y.key)then dN Y i else dN Y i++[y]
def Hr (x:AF):AF:={ x with move:=if BV l x.ins then E4 L (x.ins,x.move) 0 else x.move,dels:=Dn l L x.dels,layers:=dN l x.layers x.layers.length }
def combo (to:Int) (x:AF):AF×Bool:=if BV l x.ins&&x.dels.any (λd=>BV l d.rev)then(Fo,false)else(Ji (BV l) to (Hr l L x),true)
theorem IU:∀(a:List Az) (q:List Az×Bool),(a.foldl (Hf l L) q).1.length<=q.1.length+a.length
 | [],q=>by simp
 | d :: a, q => by
  have h:=IU a (Hf l L q d);have h2:(Hf l L q d).1.length<=q.1.length+1:=by
   unfold Hf;split;split<;>simp;simp
  simp only[qM,qF];omega
theorem IV (Y:List Am):∀i,(dN l Y i).length<=i
 | 0=>qa _
 | i+1=>by
  have:=IV Y i;rw[dN];split;omega;split;omega;simp;omega
end
def Vj:Tr:=.pure 0<|.pure 1<|.pure 2<|.pure 3<|.pure 4<|.pure 6<|.pure 7<|.pure 8<|.two 5 9 (.one 9<|.one 10<|.one 11<|.pure 12<|.pure 13<|.one 14 .nil) (.one 5<|.one 10<|.one 11<|.pure 12<|.pure 13<|.one 14 .nil)
def VI:Tr:=.pure 0<|.pure 1<|.pure 2<|.pure 3<|.pure 4<|.pure 5<|.one 6<|.pure 7<|.pure 8<|.pure 9<|.pure 10<|.pure 11<|.pure 12<|.pure 13<|.pure 14<|.pure 15<|.pure 16<|.pure 17<|.pure 18<|.one 19<|.pure 20<|.pure 21<|.pure 22<|.pure 23<|.pure 24<|.pure 25<|.pure 26<|.pure 27<|.pure 28<|.pure 29<|.pure 30<|.pure 31<|.pure 32<|.pure 33<|.pure 34 .nil
def Y5:Tr:=.pure 0<|.pure 1<|.pure 2<|.pure 3<|.pure 4<|.pure 5<|.one 6<|.pure 7<|.pure 8<|.pure 9<|.pure 10<|.pure 11<|.pure 12<|.pure 14<|.pure 15<|.one 13<|.pure 16<|.pure 17<|.one 18<|.one 19<|.pure 20<|.pure 21<|.pure 22<|.pure 23<|.pure 24<|.pure 25<|.pure 26<|.pure 27<|.pure 28<|.pure 29<|.pure 30<|.pure 31<|.pure 32<|.pure 33<|.pure 34 .nil
def Y6:Tr:=.pure 0<|.pure 1<|.pure 2<|.pure 3<|.pure 4<|.pure 5<|.one 6<|.pure 7<|.pure 8<|.pure 9<|.pure 10<|.pure 11<|.pure 12<|.pure 14<|.pure 15<|.one 13<|.pure 16<|.pure 17<|.one 18<|.one 19<|.pure 20<|.pure 21<|.pure 22<|.pure 23<|.pure 24<|.pure 26<|.pure 27<|.pure 31<|.two 25 32 (.pure 28<|.pure 29<|.two 30 32 (.one 32<|.pure 33<|.pure 34 .nil) (.one 30<|.pure 33<|.pure 34 .nil)) (.one 25<|.pure 28<|.pure 29<|.one 30<|.pure 33<|.pure 34 .nil)
def U0 (l:List Int) (own:Bool) (ds:List Az):Prop:=(own&&ds.any (λd=>BV l d.rev))=false
def OJ:List SV:=[.imm 0 [] true,AA 0,AA 0,.imm 0 [] true,.imm 0 [] true]
set_option maxHeartbeats 4000000 in
theorem bP (l:List Int) (hl:l.length<=1073741824) (full:Bool) (L:List (Int×Int)) (x:AF) (hs:x.sized) (hd:x.dels.length<20) (to:Int) {H:Hp} {n k:Nat} (hk:H k=some (.map (Cy L 0))):
 BA Tryz.prog 103 [.imm 1 (l.map AA) full,x.enc,AA to,.map k] H n (λv h' n'=>v=.tup [(combo l L to x).1.enc,.bool (combo l L to x).2]/\h'=H/\n'=n):=by
 refine Db Tryz.func103 rfl λho=>?_;have V:=ho.lt;have hkn:=V k _ hk;have q1:n≠n+1:=by omega
 obtain⟨I,hI⟩:∃I:SV,I=.imm 1 (l.map AA) full:=⟨_,rfl⟩
 have Z:=λy=>ZN l hl y full;rw[<-hI]at Z ⊢;obtain⟨W,hW⟩:∃W:Int->SV->SV->Hp,∀mv g ys,W mv g ys=hset (hset H n (some (.cells [Af x.props,AA x.ins,AA mv,g,ys]))) (n+1) (some (.cells OJ)):=⟨_,λ_ _ _=>rfl⟩
 have B:∀mv g ys,W mv g ys n=some (.cells [Af x.props,AA x.ins,AA mv,g,ys]):=λmv g ys=>by rw[hW,AD _ _ q1,AC]
 have hWz:∀mv g ys,W mv g ys (n+1)=some (.cells OJ):=λmv g ys=>by rw[hW,AC]
 have hWk:∀mv g ys,W mv g ys k=some (.map (Cy L 0)):=λmv g ys=>by rw[hW,AD _ _ (by omega),AD _ _ (by omega)];exact hk
 have hWs:∀mv g ys mv' ds' ys',hset (W mv g ys) n (some (.cells [Af x.props,AA x.ins,AA mv',ds',ys']))=W mv' ds' ys':=λmv g ys mv' ds' ys'=>by
  rw[hW,hW];funext j;simp only[hset];grind
 have s:∀mv g ys j y,W mv g ys j=some y->j<n+2:=λmv g ys j y e=>by
  rw[hW]at e;simp only[hset]at e;split at e;omega;split at e;omega;have:=V j y e;omega
 have hWH:∀mv g ys j y,H j=some y->W mv g ys j=some y:=λmv g ys j y e=>by
  have:=V j y e;rw[hW,AD _ _ (by omega),AD _ _ (by omega)];exact e
 refine BP 0 [(0,I),(2,AA to),(3,.map k),(5,.ptr n 0),(8,.ptr (n+1) 0)] (W x.move (AP x.dels) (AL x.layers)) (λm=>n+2=m) ?_ (λm f=>?_);rw[hW];simp[go_sem,AF.enc,AF.flat,IO,OJ];subst f;refine BP 0 [(0,I),(2,AA to),(3,.map k),(5,.ptr n 0),(8,.ptr (n+1) 0)] (W x.move (AP x.dels) (AL x.layers)) (λm=>n+2<=m) ?_ (λm f=>?_);simp[go_sem,B];refine qw (by simpa[AF.enc,AF.flat]using Ob x hs) ?_;simp[go_sem,B,hWs,IO];refine BP 0 [(0,I),(2,AA to),(3,.map k),(5,.ptr n 0),(8,.ptr (n+1) 0),(10,.ptr n 1)] (W x.move (AP x.dels) (AL x.layers)) (λm=>n+2<=m) ?_ (λm f=>?_);simp[go_sem,IO,f];obtain⟨own,O⟩:∃own,own=BV l x.ins:=⟨_,rfl⟩
 refine BP 0 [(0,I),(2,AA to),(3,.map k),(5,.ptr n 0),(8,.ptr (n+1) 0),(10,.ptr n 1),(11,.bool own)] (W x.move (AP x.dels) (AL x.layers)) (λm=>n+2<=m) ?_ (λm f=>?_);simp[go_sem,B];refine qw (Z x.ins) ?_;rw[<-O];simp[go_sem,IO,f];obtain⟨mv,R⟩:∃mv,mv=if own then E4 L (x.ins,x.move) 0 else x.move:=⟨_,rfl⟩
 refine Bo 0 [(0,I),(2,AA to),(3,.map k),(5,.ptr n 0),(8,.ptr (n+1) 0),(10,.ptr n 1),(11,.bool own)] (W mv (AP x.dels) (AL x.layers)) (λm=>n+2<=m) ?_ (λm f=>?_);cases T:own with
 | false=>
  rw[T]at R;refine AH ?_;simp[go_sem,IO,f,R]
 | true=>
  rw[T]at R;obtain⟨r,hr1,hr2⟩:=KA (x.ins,x.move) L 0 0;refine BP 0 [(0,I),(2,AA to),(3,.map k),(5,.ptr n 0),(8,.ptr (n+1) 0),(10,.ptr n 1),(11,.bool true),(28,.bool true)] (W x.move (AP x.dels) (AL x.layers)) (λm=>n+2<=m) ?_ (λm f=>?_);simp[go_sem,IO,f];refine Ah (b:=true) (by simp[go_sem]) ?_;rw[if_pos rfl];refine BX Vj rfl (by kernel_rfl) (by kernel_rfl) ?_;simp[go_sem,Vj,B,CK];rw[if_pos rfl]at R;refine⟨?_,?_⟩ <;>
  . refine Iq (q:=k) (a:=x.ins) (b:=x.move) rfl (by simp[go_sem]) (hWk _ _ _) (by simp[go_sem]) hr2 hr1 ?_;rw[<-R];simp[go_sem,B,hWs,IO];omega
 obtain⟨S,hS⟩:∃S:Nat->List Az×Bool,∀i,S i=(x.dels.take i).foldl (Hf l L) ([],true):=⟨_,λ_=>rfl⟩
 have hS0:S 0=([],true):=by rw[hS];rfl
 have hSs:∀i d,(h:i<x.dels.length)->x.dels[i]=d->S (i+1)=Hf l L (S i) d:=λi d h hd=>by rw[hS,hS,DE _ _ _ _ _ h hd]
 have hSl:(S x.dels.length).1=Dn l L x.dels:=by rw[hS,qi];rfl
 have hSn:∀i,(S i).1.length<=i:=λi=>by
  rw[hS];have h1:=IU l L (x.dels.take i) ([],true);have h2:(x.dels.take i).length<=i:=List.length_take_le _ _;simp at h1;omega
 clear hS;refine BP 0 [(0,I),(2,AA to),(3,.map k),(5,.ptr n 0),(8,.ptr (n+1) 0),(10,.ptr n 1),(11,.bool own),(12,.imm 0 [] true)] (W mv (AP x.dels) (AL x.layers)) (λm=>n+2<=m) ?_ (λm f=>?_);simp[go_sem,IO,f];refine BP 0 [(0,I),(2,AA to),(3,.map k),(5,.ptr n 0),(8,.ptr (n+1) 0),(10,.ptr n 1),(11,.bool own),(12,.imm 0 [] true),(13,.bool true)] (W mv (AP x.dels) (AL x.layers)) (λm=>n+2<=m) ?_ (λm f=>?_);simp[go_sem,IO,f];refine Bo 1 [(0,I),(2,AA to),(5,.ptr n 0),(8,.ptr (n+1) 0),(10,.ptr n 1),(12,AP (Dn l L x.dels))] (W mv (AP x.dels) (AL x.layers)) (λm=>n+2<=m/\U0 l own x.dels) ?_ (λm f=>?_);refine BP 0 [(0,I),(2,AA to),(3,.map k),(5,.ptr n 0),(8,.ptr (n+1) 0),(10,.ptr n 1),(11,.bool own),(12,.imm 0 [] true),(13,.bool true),(46,AP x.dels),(47,AA x.dels.length),(48,AA 0)] (W mv (AP x.dels) (AL x.layers)) (λm=>n+2<=m) ?_ (λm f=>?_);simp[go_sem,B,IO,f];refine AR (BG 0 (α:=Nat×Option Nat) (λq=>[(0,I),(2,AA to),(3,.map k),(5,.ptr n 0),(8,.ptr (n+1) 0),(10,.ptr n 1),(11,.bool own),(12,AM 2 q.2 ((S q.1).1.map Az.enc)),(13,.bool (S q.1).2),(46,AP x.dels),(47,AA x.dels.length),(48,AA q.1)])
  (λq=>AN q.2 ((S q.1).1.map Az.enc) (W mv (AP x.dels) (AL x.layers))) (λq m=>q.1<=x.dels.length/\n+2<=m/\Ar (n+2) m 2 q.2 ((S q.1).1.map Az.enc)/\U0 l own (x.dels.take q.1)) (λq=>x.dels.length-q.1) (0,none) ⟨by omega,f,by simp only[hS0];exact jK _ _ _,by simp[U0]⟩ ?_ ?_ ?_)
 simp[Ai,hS0,AM,IO];simp only[hS0];exact AB;clear f m;rintro⟨i,o⟩ m ⟨hi,f,A,K⟩;dsimp only at hi A K ⊢;have hEn:((S i).1.map Az.enc).length<=i:=by rw[qd];exact hSn i
 by_cases C:i<x.dels.length;have w1:=wS i (by omega);obtain⟨d,hd'⟩:∃d,x.dels[i]=d:=⟨_,rfl⟩
 have U:=hSs i d C hd';have htk:(x.dels.take (i+1)).any (λd=>BV l d.rev)=((x.dels.take i).any (λd=>BV l d.rev)||BV l d.rev):=by
  rw[qb C,hd'];simp
 generalize Q:(S i).1.map Az.enc=E at A hEn ⊢;have J:∀j y,AN o E (W mv (AP x.dels) (AL x.layers)) j=some y->j<m:=Dm (s _ _ _) f A;refine Bp 0 [(0,I),(2,AA to),(3,.map k),(5,.ptr n 0),(8,.ptr (n+1) 0),(10,.ptr n 1),(11,.bool own),(12,AM 2 o E),(13,.bool (S i).2),(46,AP x.dels),(47,AA x.dels.length),(48,AA i),(49,.bool true)] (AN o E (W mv (AP x.dels) (AL x.layers))) m ?_ (λm' D=>?_);simp[go_sem,IO,C];subst D;refine Bp 0 [(0,I),(2,AA to),(3,.map k),(5,.ptr n 0),(8,.ptr (n+1) 0),(10,.ptr n 1),(11,.bool own),(12,AM 2 o E),(13,.bool (S i).2),(46,AP x.dels),(47,AA x.dels.length),(48,AA i)] (AN o E (W mv (AP x.dels) (AL x.layers))) m ?_ (λm' D=>?_);simp[go_sem,IO];subst D;refine AT 0 (α:=Option Nat) (λo=>[(0,I),(2,AA to),(3,.map k),(5,.ptr n 0),(8,.ptr (n+1) 0),(10,.ptr n 1),(11,.bool own),(12,AM 2 o ((S (i+1)).1.map Az.enc)),(13,.bool (S (i+1)).2),(46,AP x.dels),(47,AA x.dels.length),(48,AA i)]) (λo=>AN o ((S (i+1)).1.map Az.enc) (W mv (AP x.dels) (AL x.layers)))
  (λo m=>n+2<=m/\Ar (n+2) m 2 o ((S (i+1)).1.map Az.enc)/\U0 l own (x.dels.take (i+1))) ?_ (λo m f=>?_)
 refine AR ?_;refine BM 0 (α:=Nat) (λp=>[(0,I),(2,AA to),(3,.map k),(5,.ptr n 0),(8,.ptr (n+1) 0),(10,.ptr n 1),(11,.bool own),(12,AM 2 o E),(13,.bool (S i).2),(46,AP x.dels),(47,AA x.dels.length),(48,AA i),(15,.ptr p 0)]) (λp=>hset (AN o E (W mv (AP x.dels) (AL x.layers))) p (some (.cells [AA d.rev,AA d.move]))) (λp m'=>m<=p/\p+1=m') ?_ (λp m' D=>?_);simp[go_sem,IO,C,hd',Az.enc,AC,AS];exact⟨m,by omega,rfl,AB⟩;obtain⟨hmp,rfl⟩:=D;have push:∀(e:Az) (q r:Nat) (X:Hp),m<=q->q<r->(∀j y,AN o E (W mv (AP x.dels) (AL x.layers)) j=some y->X j=some y)->X q=some (.cells e.enc.cells)->
  ∃out,AU Tryz.prog X r .append [24,24] [AM 2 o E,.sl q 0 2 1 true]=some out/\∃o',Ar (n+2) (if out.new.isSome=true then r+1 else r) 2 o' (E++[e.enc])/\out.val=AM 2 o' (E++[e.enc])/\∀(j:Nat) (y:BT),AN o' (E++[e.enc]) (W mv (AP x.dels) (AL x.layers)) j=some y->(dW.app X r out) j=some y:=λe q r X h1 h2 h3 h4=>by
  refine⟨_,Dp (P:=Tryz.prog) (es:=E) (e:=e.enc) (o:=o) (t:=24) (t2:=24) (el:=166) (z:=2) (by simp[go_sem]) (by simp[go_sem]) (by simp[go_sem]) (by simp) (by simp[go_sem]) (by simp[go_sem]) (by simp[go_sem]) (by omega) A rfl h4 (λj e=>h3 j _ (Cu j e)) r,some r,?_,?_,?_⟩;simpa using A.push (j:=r) (m':=r+1) (e:=e.enc) (by rfl) (by rfl) (by omega) (by omega);simp[AM];exact CY (p:=r) (v:=.sl r 0 2 (E.length+1) false) (e:=e.enc) (s mv (AP x.dels) (AL x.layers)) (by omega) A (H:=X) (λj y e=>h3 j y (Be (s _ _ _) A j y e))
 cases e:BV l d.rev with
 | false=>
  have u:S (i+1)=((S i).1++[d],(S i).2):=by rw[U,Hf,e];rfl
  simp only[u,qc,Q,qu,qS];refine AH ?_;simp[go_sem,AC];refine qw (Z d.rev) ?_;rw[e];simp[go_sem,AC];have N:U0 l own (x.dels.take (i+1)):=by unfold U0 at K ⊢;rw[htk,e,Bool.or_false];exact K
  have kp:∀y z,∀j w,AN o E (W mv (AP x.dels) (AL x.layers)) j=some w->hset (hset (AN o E (W mv (AP x.dels) (AL x.layers))) p y) (p+1) z j=some w:=λy z j w e=>by have:=J j w e;rw[AD _ _ (by omega),AD _ _ (by omega)];exact e
  obtain⟨out,b1,o',b2,b3,b4⟩:=push d (p+1) (p+1+1) (hset (hset (AN o E (W mv (AP x.dels) (AL x.layers))) p (some (.cells [AA d.rev,AA d.move]))) (p+1) (some (.cells [AA d.rev,AA d.move]))) (by omega) (by omega) (kp _ _) (by simp[AC,Az.enc,SV.cells]);simp[go_sem,b1,b3];exact⟨o',⟨by split<;>omega,b2,N⟩,rfl,b4⟩
 | true =>
  have hrd:BV l d.rev=true:=e;refine Bo 0 [(0,I),(2,AA to),(3,.map k),(5,.ptr n 0),(8,.ptr (n+1) 0),(10,.ptr n 1),(11,.bool own),(12,AM 2 o E),(13,.bool (S i).2),(46,AP x.dels),(47,AA x.dels.length),(48,AA i),(15,.ptr p 0)] (hset (AN o E (W mv (AP x.dels) (AL x.layers))) p (some (.cells [AA d.rev,AA d.move]))) (λm'=>p+1<=m') (AH ?_) (λm1 F=>?_);simp[go_sem,AC];refine qw (Z d.rev) ?_;rw[e];simp[go_sem,IO];refine Bo 0 [(0,I),(2,AA to),(3,.map k),(5,.ptr n 0),(8,.ptr (n+1) 0),(10,.ptr n 1),(11,.bool own),(12,AM 2 o E),(13,.bool (S i).2),(46,AP x.dels),(47,AA x.dels.length),(48,AA i),(15,.ptr p 0)] (hset (AN o E (W mv (AP x.dels) (AL x.layers))) p (some (.cells [AA d.rev,AA d.move]))) (λm'=>p+1<=m'/\own=false) (AH ?_) (λm1 F=>?_);cases T:own with
  | false=>simp[go_sem,IO,F]
  | true =>
   have hz:hset (AN o E (W mv (AP x.dels) (AL x.layers))) p (some (.cells [AA d.rev,AA d.move])) (n+1)=some (.cells OJ):=by
    rw[AD _ _ (by omega)];exact Be (s _ _ _) A _ _ (hWz _ _ _)
   simp[go_sem,hz,OJ,AC];have hc:combo l L to x=(Fo,false):=by
    have hx:x.dels.any (λd=>BV l d.rev)=true:=List.any_eq_true.2 ⟨d,by rw[<-hd'];exact ql C,hrd⟩;unfold combo;rw[<-O,T,hx];rfl
   rw[hc];refine RQ (h:=H) (r:=.tup [Fo.enc,.bool false]) 3 ho (.inr ⟨.inr ⟨BC (by simp),IO,IO,BC (by simp),BC (by simp),trivial⟩,IO,trivial⟩) (by simp[closed,closedL,AF.enc,AF.flat,Fo]) (λj y e=>?_);have:=V j y e;rw[AD _ _ (by omega),AD _ _ (by omega)];exact Be (s _ _ _) A _ _ (hWH _ _ _ j y e)
  obtain⟨F,T⟩:=F;have N:U0 l own (x.dels.take (i+1)):=by rw[U0,T];rfl
  cases hf:(S i).2 with
  | false=>
   have u:S (i+1)=((S i).1,false):=by rw[U,Hf,e,if_pos rfl,hf];rfl
   simp only[u,Q];refine AH ?_;simp[go_sem,IO];exact⟨o,⟨by omega,A.mono (by omega),N⟩,IO,AJ (λj y e=>by have:=J j y e;omega) AB⟩
  | true =>
   have u:S (i+1)=((S i).1++[⟨d.rev,E4 L (d.rev,d.move) 0⟩],false):=by rw[U,Hf,e,if_pos rfl,hf];rfl
   simp only[u,qc,Q,qu,qS];obtain⟨r,hr1,hr2⟩:=KA (d.rev,d.move) L 0 0;have hmk:hset (AN o E (W mv (AP x.dels) (AL x.layers))) p (some (.cells [AA d.rev,AA d.move])) k=some (.map (Cy L 0)):=by
    rw[AD _ _ (by omega)];exact Be (s _ _ _) A _ _ (hWk _ _ _)
   refine AH ?_;simp[go_sem,AC,CK];refine Iq (q:=k) (a:=d.rev) (b:=d.move) rfl (by simp[go_sem]) hmk (by simp[go_sem]) hr2 hr1 ?_;simp[go_sem,AC,AS];have kp:∀y z,∀j w,AN o E (W mv (AP x.dels) (AL x.layers)) j=some w->hset (hset (AN o E (W mv (AP x.dels) (AL x.layers))) p y) m1 z j=some w:=λy z j w e=>by have:=J j w e;rw[AD _ _ (by omega),AD _ _ (by omega)];exact e
   obtain⟨out,b1,o',b2,b3,b4⟩:=push ⟨d.rev,E4 L (d.rev,d.move) 0⟩ m1 (m1+1) (hset (hset (AN o E (W mv (AP x.dels) (AL x.layers))) p (some (.cells [AA d.rev,AA (E4 L (d.rev,d.move) 0)]))) m1 (some (.cells [AA d.rev,AA (E4 L (d.rev,d.move) 0)]))) (by omega) (by omega) (kp _ _) (by simp[AC,Az.enc,SV.cells]);simp[go_sem,b1,b3];exact⟨o',⟨by split<;>omega,b2,N⟩,rfl,b4⟩
 refine AH ?_;simp[go_sem,w1,IO,-Int.natCast_add];exact⟨i+1,by omega,o,⟨by omega,f.1,f.2.1,f.2.2⟩,⟨rfl,rfl,rfl⟩,AB⟩;have:i=x.dels.length:=by omega
 subst this;rw[qi]at K;rw[hSl]at A ⊢;refine AH ?_;simp[go_sem,IO];exact⟨⟨f,K⟩,AM.fz' (λj hj=>AW (s _ _ _) hj) A AB,Be (s _ _ _) A⟩;obtain⟨f,K⟩:=f;obtain⟨g,hds⟩:∃g,g=Dn l L x.dels:=⟨_,rfl⟩
 rw[<-hds];refine BP 0 [(0,I),(2,AA to),(5,.ptr n 0),(8,.ptr (n+1) 0),(10,.ptr n 1)] (W mv (AP g) (AL x.layers)) (λm=>n+2<=m) ?_ (λm f=>?_);simp[go_sem,B,hWs,IO,f];refine BP 0 [(0,I),(2,AA to),(5,.ptr n 0),(8,.ptr (n+1) 0),(10,.ptr n 1),(16,.imm 0 [] true)] (W mv (AP g) (AL x.layers)) (λm=>n+2<=m) ?_ (λm f=>?_);simp[go_sem,IO,f];have hYn:=IV l x.layers;refine Bo 1 [(0,I),(2,AA to),(5,.ptr n 0),(8,.ptr (n+1) 0),(10,.ptr n 1),(16,AL (dN l x.layers x.layers.length))] (W mv (AP g) (AL x.layers)) (λm=>n+2<=m) ?_ (λm f=>?_);refine BP 0 [(0,I),(2,AA to),(5,.ptr n 0),(8,.ptr (n+1) 0),(10,.ptr n 1),(16,.imm 0 [] true),(84,AL x.layers),(85,AA x.layers.length),(86,AA 0)] (W mv (AP g) (AL x.layers)) (λm=>n+2<=m) ?_ (λm f=>?_);simp[go_sem,B,IO,f];refine AR (BG 0 (α:=Nat×Option Nat) (λq=>[(0,I),(2,AA to),(5,.ptr n 0),(8,.ptr (n+1) 0),(10,.ptr n 1),(16,AM 4 q.2 ((dN l x.layers q.1).map Am.enc)),(84,AL x.layers),(85,AA x.layers.length),(86,AA q.1)])
  (λq=>AN q.2 ((dN l x.layers q.1).map Am.enc) (W mv (AP g) (AL x.layers))) (λq m=>q.1<=x.layers.length/\n+2<=m/\Ar (n+2) m 4 q.2 ((dN l x.layers q.1).map Am.enc)) (λq=>x.layers.length-q.1) (0,none) ⟨by omega,f,jK _ _ _⟩ ?_ ?_ ?_)
 simp[Ai,AM,dN,IO];exact AB;clear f m;rintro⟨i,o⟩ m ⟨hi,f,A⟩;dsimp only at hi A ⊢;have hEn:((dN l x.layers i).map Am.enc).length<=i:=by rw[qd];exact hYn i
 have hly:=hs.layers;by_cases C:i<x.layers.length;have w1:=wS i (by omega);have w2:0<i->IntKind.i64.wrap ((i:Int)-1)=((i-1:Nat):Int):=λ_=>by rw[Cl]<;>omega
 obtain⟨y,hy⟩:∃y,x.layers[i]=y:=⟨_,rfl⟩
 obtain⟨c,hc⟩:∃c:Bool,c=decide (0<i/\BV l y.rev=true/\(∀z,x.layers[i-1]? = some z->BV l z.rev=true/\z.key=y.key)):=⟨_,rfl⟩
 have U:dN l x.layers (i+1)=if c then dN l x.layers i else dN l x.layers i++[y]:=by
  rw[dN,qf C,hy,hc];simp only[decide_eq_true_eq]
 generalize Q:(dN l x.layers i).map Am.enc=E at A hEn ⊢;have J:∀j y,AN o E (W mv (AP g) (AL x.layers)) j=some y->j<m:=Dm (s _ _ _) f A;have hXn:AN o E (W mv (AP g) (AL x.layers)) n=some (.cells [Af x.props,AA x.ins,AA mv,AP g,AL x.layers]):=Be (s _ _ _) A _ _ (B _ _ _);generalize hX:AN o E (W mv (AP g) (AL x.layers))=X at J hXn ⊢;refine Bp 0 [(0,I),(2,AA to),(5,.ptr n 0),(8,.ptr (n+1) 0),(10,.ptr n 1),(16,AM 4 o E),(84,AL x.layers),(85,AA x.layers.length),(86,AA i),(87,.bool true)] X m ?_ (λm' D=>?_);simp[go_sem,IO,C];subst D;refine Bp 0 [(0,I),(2,AA to),(5,.ptr n 0),(8,.ptr (n+1) 0),(10,.ptr n 1),(16,AM 4 o E),(84,AL x.layers),(85,AA x.layers.length),(86,AA i)] X m ?_ (λm' D=>?_);simp[go_sem,IO];subst D;refine AT 0 (α:=Option Nat) (λo=>[(0,I),(2,AA to),(5,.ptr n 0),(8,.ptr (n+1) 0),(10,.ptr n 1),(16,AM 4 o ((dN l x.layers (i+1)).map Am.enc)),(84,AL x.layers),(85,AA x.layers.length),(86,AA i)]) (λo=>AN o ((dN l x.layers (i+1)).map Am.enc) (W mv (AP g) (AL x.layers)))
  (λo m=>n+2<=m/\Ar (n+2) m 4 o ((dN l x.layers (i+1)).map Am.enc)) ?_ (λo m f=>?_)
 refine AR ?_;refine AY 1 [(0,I),(2,AA to),(5,.ptr n 0),(8,.ptr (n+1) 0),(10,.ptr n 1),(16,AM 4 o E),(84,AL x.layers),(85,AA x.layers.length),(86,AA i),(17,AA i),(18,.iptr [AA y.rev,AA y.key,AA y.before,.bool y.had])] X m ?_ (λm1 F=>?_);simp[go_sem,IO,C,hy,Am.enc,AC,AS];exact⟨AV (AW J (qa _)) (AC _ _ _),AJ J AB⟩;refine GI ?_;refine Bc 0 [(0,I),(2,AA to),(5,.ptr n 0),(8,.ptr (n+1) 0),(10,.ptr n 1),(16,AM 4 o E),(84,AL x.layers),(85,AA x.layers.length),(86,AA i),(18,.iptr [AA y.rev,AA y.key,AA y.before,.bool y.had]),(125,.bool c)] X m ?_ (λm2 hm2=>?_);by_cases i0:i=0;refine BX VI rfl (by kernel_rfl) (by kernel_rfl) ?_;have M:c=false:=by rw[hc,i0];simp
 rw[M];simp[go_sem,VI,i0,IO,F];have i1:0<i:=by omega
 have i2:=w2 (by omega);obtain⟨z,hz⟩:∃z,x.layers[i-1]=z:=⟨_,rfl⟩
 have hz':x.layers[i-1]? = some z:=by rw[qf (by omega),hz]
 have hzl:i-1<x.layers.length:=by omega
 cases Y:BV l y.rev with
 | false=>
  refine BX VI rfl (by kernel_rfl) (by kernel_rfl) ?_;have M:c=false:=by rw[hc,Y];simp
  rw[M];simp[go_sem,VI,i1];refine qw (Z y.rev) ?_;rw[Y];simp[go_sem,IO,F]
 | true =>
  cases hz1:BV l z.rev with
  | false=>
   refine BX Y5 rfl (by kernel_rfl) (by kernel_rfl) ?_;have M:c=false:=by rw[hc,hz'];simp[hz1]
   rw[M];simp[go_sem,Y5,i1];refine qw (Z y.rev) ?_;rw[Y];simp[go_sem,hXn,i2,hzl,hz,Am.enc];refine qw (Z z.rev) ?_;rw[hz1];simp[go_sem,IO,F]
  | true=>
   refine BX Y6 rfl (by kernel_rfl) (by kernel_rfl) ?_;have M:c=decide (z.key=y.key):=by rw[hc,hz',Y];simp[hz1];omega
   rw[M];simp[go_sem,Y6,i1];refine qw (Z y.rev) ?_;rw[Y];simp[go_sem,hXn,i2,hzl,hz,Am.enc];refine qw (Z z.rev) ?_;rw[hz1];simp[go_sem,hXn,i2,hzl,hz,Am.enc,IO,F];rw[show(z.key==y.key)=decide (z.key=y.key)from rfl];exact IO
 cases hcb:c with
 | true=>
  have u:dN l x.layers (i+1)=dN l x.layers i:=by rw[U,hcb,if_pos rfl]
  simp only[u,Q];refine Ah (b:=true) (by simp[go_sem]) (AH ?_);simp[go_sem,IO];exact⟨o,⟨by omega,A.mono (by omega)⟩,rfl,by rw[hX];exact AB⟩
 | false=>
  have u:dN l x.layers (i+1)=dN l x.layers i++[y]:=by rw[U,hcb];rfl
  simp only[u,qc,Q,qu,qS];refine Ah (b:=false) (by simp[go_sem]) ?_;simp only[qj,if_false];refine Gv ?_;rw[FB];refine AH ?_;simp[go_sem];have h4:hset X m2 (some (.cells [AA y.rev,AA y.key,AA y.before,.bool y.had])) m2=some (.cells y.enc.cells):=by simp[AC,Am.enc,SV.cells]
  have h3:∀j w,X j=some w->hset X m2 (some (.cells [AA y.rev,AA y.key,AA y.before,.bool y.had])) j=some w:=λj w e=>by have:=J j w e;rw[AD _ _ (by omega)];exact e
  have b1:=Dp (P:=Tryz.prog) (es:=E) (e:=y.enc) (o:=o) (t:=25) (t2:=25) (el:=164) (z:=4) (by simp[go_sem]) (by simp[go_sem]) (by simp[go_sem]) (by simp) (by simp[go_sem]) (by simp[go_sem]) (by simp[go_sem]) (by omega) A rfl h4 (λj e=>h3 j _ (by rw[<-hX];exact Cu j e)) (m2+1);have b4:=CY (p:=m2+1) (v:=.sl (m2+1) 0 4 (E.length+1) false) (e:=y.enc) (s mv (AP g) (AL x.layers)) (by omega) A (H:=hset X m2 (some (.cells [AA y.rev,AA y.key,AA y.before,.bool y.had]))) (λj w e=>h3 j w (by rw[<-hX];exact Be (s _ _ _) A j w e));have b2:=A.push (j:=m2+1) (m':=m2+1+1) (e:=y.enc) (by rfl) (by rfl) (by omega) (by omega);rw[b1];have hvv:AM 4 (some (m2+1)) (E++[y.enc])=.sl (m2+1) 0 4 (E.length+1) false:=by simp[AM]
  refine⟨some (m2+1),⟨by simp;omega,by simpa using b2⟩,by rw[hvv];exact IO,b4⟩
 refine AH ?_;simp[go_sem,w1,IO,-Int.natCast_add];exact⟨i+1,by omega,o,⟨by omega,f.1,f.2⟩,⟨rfl,rfl⟩,AB⟩;have:i=x.layers.length:=by omega
 subst this;refine AH ?_;simp[go_sem,IO];exact⟨f,AM.fz' (λj hj=>AW (s _ _ _) hj) A AB,Be (s _ _ _) A⟩;obtain⟨ys,hys⟩:∃ys,ys=dN l x.layers x.layers.length:=⟨_,rfl⟩
 rw[<-hys];refine BP 0 [(0,I),(2,AA to),(5,.ptr n 0),(8,.ptr (n+1) 0)] (W mv (AP g) (AL ys)) (λm=>n+2<=m) ?_ (λm f=>?_);simp[go_sem,B,hWs,IO,f];obtain⟨G,hG⟩:∃G:AF,G=Hr l L x:=⟨_,rfl⟩
 have hGe:G.enc=.agg [Af x.props,AA x.ins,AA mv,AP g,AL ys]:=by
  rw[hG,R,hds,hys,O];rfl
 have hc:combo l L to x=(Ji (BV l) to G,true):=by
  unfold U0 at K;unfold combo;rw[<-O,K,hG];rfl
 have kG:PC 47 [G.enc,AA to,.fn (.func 92) [I] []] (Ji (BV l) to G).enc:=by
  have h1:=IU l L x.dels ([],true);have h2:=hYn x.layers.length;have h3:(Dn l L x.dels).length<=x.dels.length:=by simpa[Dn]using h1
  refine Xn G ⟨by rw[hG];exact hs.props,by rw[hG];show(Dn l L x.dels).length<=_;omega,by rw[hG];show(dN l x.layers x.layers.length).length<=_;have:=hs.layers;omega⟩ (by rw[hG];show(Dn l L x.dels).length<20;omega) (λy=>by simpa using Z y) to
 rw[hGe]at kG;rw[hc];refine AH ?_;simp[go_sem,B];refine qw kG ?_;simp[go_sem,AF.enc,AF.flat,hWz,OJ,AC];exact B9 ho (by simp[closed,closedL,Er.E.closedL,Az.E.closedL,Am.E.closedL]) (λj y e=>by have:=V j y e;rw[AD _ _ (by omega)];exact hWH _ _ _ j y e)
section
variable {H : Hp} {p q : Nat} {a b : SV}
end
section
variable (l : List Int) (L : List (Int × Int)) (to : Int)
end
def SZ:List SV:=[.imm 0 [] true,AA 0,AA 0,.imm 0 [] true,.imm 0 [] true]
def XA (l:List Int) (L:List (Int×Int)) (to:Int) (s:Unit) (p:BW):AF×Bool×Unit:=((combo l L to p.head).1,(combo l L to p.head).2,s)
def N8 (q:Nat) (L:List (Int×Int)) (_:Unit) (o:Nat):Option BT:=if o=q then some (.map (Cy L 0))else none
theorem PG (n:Nat):∀(L:List (Int×Int)) (k:Int),BQ n (.map (Cy L k))=true
 | [],k=>rfl
 | x::L,k=>by
  have:=PG n L (k+1);simp only[BQ]at this ⊢;rw[Cy,List.all_cons,this];rfl
theorem dF {q n0:Nat} (hq:q<n0) (l:List Int) (hl:l.length<=1073741824) (full:Bool) (L:List (Int×Int)) (r:Ax):ML (N8 q L) n0 102 [] [.iptr [.imm 1 (l.map AA) full],.iptr [AA r.id,.str r.author,AA r.time],.iptr [.map q]] (XA l L r.id) (λh=>h.sized/\h.dels.length<20) where
 lt s o h:=by simp only[N8];rw[if_neg (by omega)]
 dom s s' o h:=h
 cl s o y h:=by
  simp only[N8]at h;split at h;cases h;exact PG _ _ _;cases h
 call s p H n hp _ hn hs:=by
  have a:H q=some (.map (Cy L 0)):=hs q _ (by simp[N8]);have d:Aj (N8 q L) (XA l L r.id s p).2.2 H=H:=by
   funext j;simp only[Aj,N8];by_cases c:j=q;rw[if_pos c,c,a];rw[if_neg c]
  rw[d];refine Db Tryz.func102 rfl λf=>?_;have b:=f.lt;have g:n+1≠n:=by omega
  refine AH ?_;simp[go_sem,BW.enc,AF.flat,AC,AD _ _ g.symm];refine qC (by simpa[AF.enc,AF.flat,OJ]using bP l hl full L p.head hp.1 hp.2 r.id (H:=hset (hset H n (some (.cells [Af p.head.props,AA p.head.ins,AA p.head.move,AP p.head.dels,AL p.head.layers,.bool p.mid,AA p.units]))) (n+1) (some (.cells OJ))) (n:=n+1+1) (k:=q) (by rw[AD _ _ (by omega),AD _ _ (by omega)];exact a)) ?_;rintro v H' n' ⟨rfl,rfl,rfl⟩;simp[go_sem,AC,AF.enc,AF.flat,AS];exact B9 f (by simp[closed,closedL,Er.E.closedL,Az.E.closedL,Am.E.closedL]) (λj y e=>by have:=b j y e;rw[AD _ _ (by omega),AD _ _ (by omega)];exact e)
def Qf (q:Nat) (s:Bool) (o:Nat):Option BT:=if o=q then some (.cells [.bool s])else none
def lC:Tr:=.one 0<|.pure 1<|.pure 2<|.pure 3<|.pure 7<|.pure 8<|.pure 4<|.pure 9<|.pure 5<|.pure 10<|.pure 11<|.two 6 12 (.one 12<|.pure 13<|.pure 14<|.pure 15<|.pure 16<|.pure 20<|.pure 21<|.pure 17<|.pure 22<|.pure 18<|.pure 23<|.pure 24<|.two 19 25 (.one 25<|.pure 26<|.pure 27<|.pure 28<|.one 29 .nil) (.one 19<|.pure 26<|.pure 27<|.pure 28<|.one 29 .nil)) (.one 6<|.pure 13<|.pure 14<|.pure 15<|.pure 16<|.pure 20<|.pure 21<|.pure 17<|.pure 22<|.pure 18<|.pure 23<|.pure 24<|.two 19 25 (.one 25<|.pure 26<|.pure 27<|.pure 28<|.one 29 .nil) (.one 19<|.pure 26<|.pure 27<|.pure 28<|.one 29 .nil))
def PY (Y:List Am) (i:Nat):Bool:=match Y[i]?,Y[i-1]? with
 | some y,some z=>y.key==z.key&&y.rev==z.rev
 | _,_=>false
def eJ (Y:List Am):Nat->Bool
 | 0=>false
 | i+1=>eJ Y i||(decide (0<i)&&PY Y i)
def lY (s:Bool) (p:BW):AF×Bool×Bool:=(Fo,true,s||eJ p.head.layers p.head.layers.length)
theorem fh {q n0:Nat} (hq:q<n0):(∀s o,n0<=o->Qf q s o=none)/\(∀s s' o,Qf q s o=none->Qf q s' o=none)/\∀s o y,Qf q s o=some y->BQ n0 y=true:=by
 refine⟨λs o h=>by simp only[Qf];rw[if_neg (by omega)],λs s' o h=>by simp only[Qf]at h ⊢;split at h<;>simp_all,λs o y h=>?_⟩;simp only[Qf]at h;split at h;cases h;rfl;cases h
theorem gP {q n:Nat} (hq:q<n) {H:Hp} (a:Es H n) (b:Bool):Es (Aj (Qf q) b H) n:=λo y e=>by
 simp only[Aj,Qf]at e;by_cases c:o=q;rw[if_pos c]at e;cases e;exact⟨by omega,rfl⟩;rw[if_neg c]at e;exact a o y e
theorem gQ (q:Nat) (b:Bool) (H:Hp):Aj (Qf q) b H=hset H q (some (.cells [.bool b])):=by
 funext j;simp only[Aj,Qf,hset];by_cases c:j=q<;>simp[c]
set_option maxHeartbeats 4000000 in
theorem mH {q n0:Nat} (F:q<n0):MN (Qf q) n0 107 [] [.ptr q 0] lY (λh=>h.sized) where
 lt:=(fh F).1
 dom:=(fh F).2.1
 cl:=(fh F).2.2
 call s p H n hp _ hn hs:=by
  have v:H q=some (.cells [.bool s]):=hs q _ (by simp[Qf]);refine Db Tryz.func107 rfl λA=>?_;have f:=A.lt;have w:=f q _ v;obtain⟨Y,E⟩:∃Y,Y=p.head.layers:=⟨_,rfl⟩
  have hYl:Y.length<=1048576:=by rw[E];exact hp.layers
  obtain⟨G,g⟩:∃G:Bool->Hp,∀b,G b=hset (hset H q (some (.cells [.bool b]))) (n+1) (some (.cells SZ)):=⟨_,λ_=>rfl⟩
  have k:∀b,G b q=some (.cells [.bool b]):=λb=>by rw[g,AD _ _ (by omega),AC]
  have D:∀b,G b (n+1)=some (.cells SZ):=λb=>by rw[g,AC]
  have l:∀b B,hset (G b) q (some (.cells [.bool B]))=G B:=λb B=>by rw[g,g];funext j;simp only[hset];grind
  have C:∀b j y,Aj (Qf q) b H j=some y->G b j=some y:=λb j y e=>by
   rw[gQ]at e;have:j<n:=by
    by_cases c:j=q;omega;rw[AD _ _ c]at e;exact f j y e
   rw[g,AD _ _ (by omega)];exact e
  obtain⟨X,M⟩:∃X:SV,X=.iptr p.head.flat:=⟨_,rfl⟩
  have hGb:∀b j y,G b j=some y->j<n+2:=λb j y e=>by
   rw[g]at e;by_cases c1:j=n+1;omega;rw[AD _ _ c1]at e;by_cases N:j=q;omega;rw[AD _ _ N]at e;have:=f j y e;omega
  have u:G s=hset H (n+1) (some (.cells SZ)):=by
   rw[g];congr 1;funext j;simp only[hset];by_cases c:j=q;rw[if_pos c,c,v];rw[if_neg c]
  refine BP 1 [(3,.ptr q 0),(4,X),(7,.ptr (n+1) 0),(8,.bool false)] (G s) (λm=>n+2<=m) ?_ (λm d=>?_);rw[M,u];simp[go_sem,AF.enc,AF.flat,SZ,IO];refine⟨AV (by rw[AD _ _ (by omega)];exact A.none (qa n)) (by simp[hset]),λj y=>?_⟩;have:=f j y;simp only[hset];grind;refine BP 0 [(3,.ptr q 0),(7,.ptr (n+1) 0),(8,.bool false),(9,AL Y)] (G s) (λm=>n+2<=m) ?_ (λm d=>?_);rw[M,E];simp[go_sem,AF.flat,IO,d];refine Bo 0 [(7,.ptr (n+1) 0),(8,.bool false)] (G (s||eJ Y Y.length)) (λm=>n+2<=m) ?_ (λm d=>?_);refine BP 0 [(3,.ptr q 0),(7,.ptr (n+1) 0),(8,.bool false),(9,AL Y),(10,AA 1)] (G s) (λm=>n+2<=m) ?_ (λm d=>?_);simp[go_sem,IO,d];refine AR (BG 0 (α:=Nat) (λi=>[(3,.ptr q 0),(7,.ptr (n+1) 0),(8,.bool false),(9,AL Y),(10,AA i)]) (λi=>G (s||eJ Y i)) (λi m=>1<=i/\(i<=Y.length\/(i=1/\Y.length=0))/\n+2<=m) (λi=>Y.length-i) 1 ⟨by omega,by omega,d⟩ ?_ (by simp[eJ]) ?_);simp[go_sem,Ai,IO];rintro i m ⟨h1,h2,d⟩;by_cases a:i<Y.length;have w1:=wS i (by omega);have w2:IntKind.i64.wrap ((i:Int)-1)=((i-1:Nat):Int):=by rw[Cl]<;>omega
  have t:i-1<Y.length:=by omega
  obtain⟨y,J⟩:∃y,Y[i]=y:=⟨_,rfl⟩
  obtain⟨z,K⟩:∃z,Y[i-1]=z:=⟨_,rfl⟩
  have I:eJ Y (i+1)=(eJ Y i||(y.key==z.key&&y.rev==z.rev)):=by
   rw[eJ,PY,qf a,qf t,J,K];have:decide (0<i)=true:=by simp;omega
   rw[this,Bool.true_and]
  obtain⟨b,hb⟩:∃b,b=(s||eJ Y i):=⟨_,rfl⟩
  rw[<-hb];have x:(s||eJ Y (i+1))=(b||(y.key==z.key&&y.rev==z.rev)):=by rw[I,hb,Bool.or_assoc]
  refine Ea 0 [(3,.ptr q 0),(7,.ptr (n+1) 0),(8,.bool false),(9,AL Y),(10,AA i)] (G b) m (AH ?_) (λm2 o=>?_);simp[go_sem,IO,a];subst o;refine AT 0 (α:=Unit) (λ_=>[(3,.ptr q 0),(7,.ptr (n+1) 0),(8,.bool false),(9,AL Y),(10,AA i)]) (λ_=>G (s||eJ Y (i+1))) (λ_ m2=>n+2<=m2) (AR ?_) (λ_ m2 o=>?_);refine BX lC rfl (by kernel_rfl) (by kernel_rfl) ?_;rw[x];cases b with
  | true=>simp[go_sem,lC,k,l,IO,d]
  | false =>
   cases L:(y.key==z.key)with
   | false=>
    simp[go_sem,lC,k,l,a,J,K,t,w2,Am.enc,L,IO,d]
   | true=>
    simp[go_sem,lC,k,l,a,J,K,t,w2,Am.enc,L,IO,d]
  refine AH ?_;simp[go_sem,w1,IO,-Int.natCast_add];exact⟨i+1,by omega,⟨by omega,by omega,o⟩,IO,AB⟩;have e:eJ Y i=eJ Y Y.length:=by
   rcases h2 with h2|⟨h2,P⟩
   rw[show i=Y.length by omega];rw[h2,P];simp[eJ]
  refine AH ?_;rw[e];simp[go_sem,a,IO];exact d;refine AH ?_;simp[go_sem,D,SZ,AC];have Q:(lY s p).2.2=(s||eJ Y Y.length):=by rw[E];rfl
  rw[Q];refine RQ (h:=Aj (Qf q) (s||eJ Y Y.length) H) (r:=.tup [Fo.enc,.bool true]) 3 (gP w A _) (.inr ⟨.inr ⟨BC (by simp),IO,IO,BC (by simp),BC (by simp),trivial⟩,IO,trivial⟩) (by simp[closed,closedL,AF.enc,AF.flat,Fo]) (λj y e=>?_);have O:=C _ j y e;have:j≠n+1:=by
   have:=(gP w A (s||eJ Y Y.length) j y e).1;omega
  rw[AD _ _ this];exact O
def lE:Tr:=.one 0<|.pure 1<|.pure 2<|.pure 3<|.two 4 5 (.one 5<|.pure 6<|.pure 7<|.pure 8<|.pure 9<|.pure 11<|.two 10 15 (.pure 12<|.pure 13<|.two 14 15 (.one 15<|.pure 16<|.pure 17<|.pure 18<|.one 19 .nil) (.one 14<|.pure 16<|.pure 17<|.pure 18<|.one 19 .nil)) (.one 10<|.pure 12<|.pure 13<|.one 14<|.pure 16<|.pure 17<|.pure 18<|.one 19 .nil)) (.one 4<|.pure 6<|.pure 7<|.pure 8<|.pure 9<|.pure 11<|.two 10 15 (.pure 12<|.pure 13<|.two 14 15 (.one 15<|.pure 16<|.pure 17<|.pure 18<|.one 19 .nil) (.one 14<|.pure 16<|.pure 17<|.pure 18<|.one 19 .nil)) (.one 10<|.pure 12<|.pure 13<|.one 14<|.pure 16<|.pure 17<|.pure 18<|.one 19 .nil))
def eo (rev:Int) (h:AF) (i:Nat):Bool:=(h.ins==rev)&&(h.dels.take i).any λd=>d.rev==rev
def lb (rev:Int) (s:Bool) (p:BW):AF×Bool×Bool:=(Fo,true,s||eo rev p.head p.head.dels.length)
set_option maxHeartbeats 4000000 in
theorem mI {q n0:Nat} (F:q<n0) (rev:Int):MN (Qf q) n0 108 [] [.ptr q 0,.iptr [AA rev]] (lb rev) (λh=>h.sized) where
 lt:=(fh F).1
 dom:=(fh F).2.1
 cl:=(fh F).2.2
 call s p H n hp _ hn hs:=by
  have u:H q=some (.cells [.bool s]):=hs q _ (by simp[Qf]);refine Db Tryz.func108 rfl λA=>?_;have k:=A.lt;have w:=k q _ u;obtain⟨D,z⟩:∃D,D=p.head.dels:=⟨_,rfl⟩
  have hDl:D.length<=1048576:=by rw[z];exact hp.dels
  obtain⟨G,o⟩:∃G:Bool->Hp,∀b,G b=hset (hset H q (some (.cells [.bool b]))) (n+1) (some (.cells SZ)):=⟨_,λ_=>rfl⟩
  have f:∀b,G b q=some (.cells [.bool b]):=λb=>by rw[o,AD _ _ (by omega),AC]
  have E:∀b,G b (n+1)=some (.cells SZ):=λb=>by rw[o,AC]
  have g:∀b B,hset (G b) q (some (.cells [.bool B]))=G B:=λb B=>by rw[o,o];funext j;simp only[hset];grind
  have C:∀b j y,Aj (Qf q) b H j=some y->G b j=some y:=λb j y e=>by
   rw[gQ]at e;have:j<n:=by
    by_cases c:j=q;omega;rw[AD _ _ c]at e;exact k j y e
   rw[o,AD _ _ (by omega)];exact e
  have t:G s=hset H (n+1) (some (.cells SZ)):=by
   rw[o];congr 1;funext j;simp only[hset];by_cases c:j=q;rw[if_pos c,c,u];rw[if_neg c]
  obtain⟨X,v⟩:∃X:SV,X=.iptr [Af p.head.props,AA p.head.ins,AA p.head.move,AP D,AL p.head.layers]:=⟨_,rfl⟩
  refine BP 1 [(3,.ptr q 0),(4,.iptr [AA rev]),(5,X),(8,.ptr (n+1) 0),(9,.bool false)] (G s) (λm=>n+2<=m) ?_ (λm d=>?_);rw[v,t,z];simp[go_sem,AF.enc,AF.flat,SZ,IO];refine⟨AV (by rw[AD _ _ (by omega)];exact A.none (qa n)) (by simp[hset]),λj y=>?_⟩;have:=k j y;simp only[hset];grind;refine Bo 0 [(8,.ptr (n+1) 0),(9,.bool false)] (G (s||eo rev p.head D.length)) (λm=>n+2<=m) ?_ (λm d=>?_);refine BP 0 [(3,.ptr q 0),(4,.iptr [AA rev]),(5,X),(8,.ptr (n+1) 0),(9,.bool false),(10,AA 0)] (G s) (λm=>n+2<=m) ?_ (λm d=>?_);simp[go_sem,IO,d];refine AR (BG 0 (α:=Nat) (λi=>[(3,.ptr q 0),(4,.iptr [AA rev]),(5,X),(8,.ptr (n+1) 0),(9,.bool false),(10,AA i)]) (λi=>G (s||eo rev p.head i)) (λi m=>i<=D.length/\n+2<=m) (λi=>D.length-i) 0 ⟨by omega,d⟩ ?_ (by simp[eo]) ?_);simp[go_sem,Ai,IO];rintro i m ⟨hi,d⟩;by_cases a:i<D.length;have w1:=wS i (by omega);obtain⟨y,J⟩:∃y,D[i]=y:=⟨_,rfl⟩
  have I:eo rev p.head (i+1)=(eo rev p.head i||(p.head.ins==rev&&y.rev==rev)):=by
   unfold eo;rw[<-z,qb a,J,List.any_append];cases(p.head.ins==rev)<;>simp
  obtain⟨b,hb⟩:∃b,b=(s||eo rev p.head i):=⟨_,rfl⟩
  rw[<-hb];have x:(s||eo rev p.head (i+1))=(b||(p.head.ins==rev&&y.rev==rev)):=by rw[I,hb,Bool.or_assoc]
  refine Ea 0 [(3,.ptr q 0),(4,.iptr [AA rev]),(5,X),(8,.ptr (n+1) 0),(9,.bool false),(10,AA i)] (G b) m (AH ?_) (λm2 l=>?_);rw[v];simp[go_sem,IO,a];subst l;refine AT 0 (α:=Unit) (λ_=>[(3,.ptr q 0),(4,.iptr [AA rev]),(5,X),(8,.ptr (n+1) 0),(9,.bool false),(10,AA i)]) (λ_=>G (s||eo rev p.head (i+1))) (λ_ m2=>n+2<=m2) (AR ?_) (λ_ m2 l=>?_);refine BX lE rfl (by kernel_rfl) (by kernel_rfl) ?_;rw[x];cases b with
  | true=>simp[go_sem,lE,f,g,IO,d]
  | false =>
   cases K:(p.head.ins==rev)with
   | false=>
    rw[v];simp[go_sem,lE,f,g,K,IO,d]
   | true=>
    rw[v];simp[go_sem,lE,f,g,a,J,Az.enc,K,IO,d]
  refine AH ?_;simp[go_sem,w1,IO,-Int.natCast_add];exact⟨i+1,by omega,⟨by omega,l⟩,IO,AB⟩;have e:i=D.length:=by omega
  refine AH ?_;rw[e,v];simp[go_sem,IO];exact d;refine AH ?_;simp[go_sem,E,SZ,AC];have M:(lb rev s p).2.2=(s||eo rev p.head D.length):=by rw[z];rfl
  rw[M];refine RQ (h:=Aj (Qf q) (s||eo rev p.head D.length) H) (r:=.tup [Fo.enc,.bool true]) 3 (gP w A _) (.inr ⟨.inr ⟨BC (by simp),IO,IO,BC (by simp),BC (by simp),trivial⟩,IO,trivial⟩) (by simp[closed,closedL,AF.enc,AF.flat,Fo]) (λj y e=>?_);have L:=C _ j y e;have:j≠n+1:=by
   have:=(gP w A (s||eo rev p.head D.length) j y e).1;omega
  rw[AD _ _ this];exact L
section
variable {E : B6} {P : Program} {N : Nat} {code : Code} {Q : dO} {sa : SA} {G : Hp} {n m p z : Nat} {es : List SV}
theorem Kt (p:Nat) (b:∀e∈es,e.storable=true/\e.cells.length=z) (hp:G p=some (.list z es)) (H:∀o m,n<=m->Ar n m z o es->(es=[]->o=none)->Fs E P N code Q sa (AN o es (hset G p (some (.cells [AM z o es])))) m):Fs E P N code Q sa G n:=by
 by_cases a:es=[];subst a;refine OS p z hp ?_;exact H none n (qa _) (jK _ _ _) λ_=>rfl;refine P0 p z es hp a ?_;exact H (some n) (n+1) (je _) ⟨by simp,λj e=>by cases e;omega,b⟩ λg=>absurd g a
theorem UT (p:Nat) {o:Option Nat} {k m':Nat} (e:Ar k m' z o es) (f:∀j y,G j=some y->j<k) (hpk:p<k) (i:es=[]->o=none) (H:Fs E P N code Q sa (hset G p (some (.list z es))) n):Fs E P N code Q sa (AN o es (hset G p (some (.cells [AM z o es])))) n:=by
 cases o with
 | none=>
  have h:=e.none rfl;subst h;refine Jt p z none (AC _ _ _) ?_;simpa[AN,AS]using H
 | some j =>
  have hj:=(e.lt j rfl).1;have d:es≠[]:=λg=>by cases i g
  have a:p≠j:=by omega
  refine So p j z es false none none (by simp only[AN];rw[AD _ _ a,AC];rfl) (AC _ _ _) d a ?_;have:hset (hset (AN (some j) es (hset G p (some (.cells [AM z (some j) es])))) p (some (.list z es))) j none=hset G p (some (.list z es)):=by
   funext q;have l:=f q;simp only[AN,hset];by_cases b:q=j;have hp:q≠p:=by omega
   rw[if_pos b,if_neg hp];cases c:G q with
   | none=>rfl
   | some y=>have:=l y c;omega
   rw[if_neg b,if_neg b];by_cases h2:q=p;rw[if_pos h2,if_pos h2];rw[if_neg h2,if_neg h2,if_neg h2]
  rw[this];exact H
end
theorem St {X:Hp} {n m:Nat} {o:Option Nat} {es:List SV} (H:Ar n m 1 o es) (k:∀j,o=some j->X j=some (.cells (es.flatMap SV.cells))) (xs:List Int) (hroom:es.length+xs.length<=1073741824) (p:Nat):
 (xs=[]/\AU Tryz.prog X p .append [61,61] [AM 1 o es,.imm 1 (xs.map AA) false]=some { val:=AM 1 o es })\/
 (xs≠[]/\AU Tryz.prog X p .append [61,61] [AM 1 o es,.imm 1 (xs.map AA) false]=some { val:=.sl p 0 1 (es.length+xs.length) false,upd:=o.map λj=>(j,none),new:=some (.cells (es.flatMap SV.cells++(xs.map AA).flatMap SV.cells)) }):=by
 have d:A9 Tryz.prog 61=some 3:=by simp[go_sem]
 have e:Bh Tryz.prog 3=1:=by simp[go_sem]
 have f:(BH Tryz.prog 3).storable=true:=by simp[go_sem]
 have g:(BH Tryz.prog 3).cells.length=1:=by simp[go_sem]
 have i:BY Tryz.prog 3<=65536:=by simp[go_sem]
 have h:Gq 3=none:=by rfl
 by_cases c:xs=[];subst c;refine .inl ⟨rfl,?_⟩;simp only[AU,d,jE,if_true,Cm,e,f,g];cases o<;>simp[AM,Hd,Dw,flat,EH];refine .inr ⟨c,?_⟩;have a:xs.length≠0:=by cases xs<;>simp at c ⊢
 have b:dY (es.length+xs.length) (BY Tryz.prog 3)=true:=by simp only[dY,qq,decide_eq_true_eq];exact⟨by omega,i⟩
 simp only[AU,d,jE,if_true,Cm,e,f,g];cases o with
 | none=>
  have l:=H.none rfl;subst l;simp only[jI,jc]at b;simp[AM,Hd,Dw,flat,a,b,h]
 | some j=>
  have q:=k j rfl;have hl:=A7 H.size;simp[AM,Hd,Dw,flat,q,a,b,GX h,Bg,hl];rw[qB (by omega)]
def UG:Tr:=.pure 1<|.pure 2<|.two 0 3 (.one 3<|.one 4<|.one 5 .nil) (.one 0<|.one 4<|.one 5 .nil)
def UP (rev:Int) (s:List Int) (x:BW):AF×Bool×List Int:=(Fo,true,s++Fx rev x.head.moves)
def UD (q:Nat) (s:List Int) (o:Nat):Option BT:=if o=q then some (.list 1 (s.map AA))else none
theorem RU {q n0:Nat} (hq:q<n0) (s:List Int) {H:Hp} {n:Nat} (hn:n0<=n) (d:Es H n):Es (Aj (UD q) s H) n:=λo y e=>by
 have hc:BQ n (.list 1 (s.map AA))=true:=by
  rw[BQ,BU];intro e c;obtain⟨x,f,a⟩:=jo.1 c;obtain⟨i,_,rfl⟩:=qy.1 f;rw[qv.1 a];rfl
 simp only[Aj,UD]at e;by_cases b:o=q;rw[if_pos b]at e;cases e;exact⟨by omega,hc⟩;rw[if_neg b]at e;exact d o y e
def Ps:Tr:=.pure 1<|.pure 2<|.pure 3<|.pure 4<|.pure 5<|.two 0 6 (.one 6<|.one 7<|.one 8 .nil) (.one 0<|.one 7<|.one 8 .nil)
set_option maxHeartbeats 4000000 in
theorem dH {q n0:Nat} (L:q<n0) (revs:List Int) (full:Bool) (i:Nat) (hi:i<revs.length):MN (UD q) n0 171 [] [.ptr q 0,.iptr [.imm 1 (revs.map AA) full],.iptr [AA i]] (UP revs[i]) (λh=>h.sized) (λs=>s.length) 1073741824 where
 up s x:=by simp only[UP,qt];omega
 lt s o h:=by simp only[UD];rw[if_neg (by omega)]
 dom s s' o h:=by
  simp only[UD]at h ⊢;by_cases I:o=q;rw[if_pos I]at h;cases h;rw[if_neg I]
 cl s o y h:=by
  have:=RU L s (H:=λ_=>none) (qa n0) (λ_ _ e=>by cases e) o y (by simp only[Aj,h]);exact this.2
 call s x H n hx ht hn hs:=by
  refine Db Tryz.func171 rfl λD=>?_;have u:=D.lt;obtain⟨X,K⟩:∃X:SV,X=.iptr x.head.flat:=⟨_,rfl⟩
  obtain⟨R,J⟩:∃R:SV,R=.iptr [.imm 1 (revs.map AA) full]:=⟨_,rfl⟩
  obtain⟨rev,b⟩:∃rev,rev=revs[i]:=⟨_,rfl⟩
  rw[<-J];rw[<-b]at ht ⊢;obtain⟨B,C⟩:∃B:Hp,B=hset H (n+1) (some (.cells [.imm 0 [] true,AA 0,AA 0,.imm 0 [] true,.imm 0 [] true])):=⟨_,rfl⟩
  have l:∀j y,B j=some y->j<n+2:=λj y e=>by
   rw[C]at e;by_cases h:j=n+1;omega;rw[AD _ _ h]at e;have:=u j y e;omega
  refine BP 1 [(3,.ptr q 0),(4,R),(5,.iptr [AA i]),(6,X),(9,.ptr (n+1) 0)] B (λm=>n+2=m) ?_ (λm p=>?_);rw[K,C];simp[go_sem,AF.enc,AF.flat,IO];refine⟨AV (by rw[AD _ _ (by omega)];exact D.none (qa n)) (by simp[hset]),λj y=>?_⟩;have:=D j y;simp only[hset];grind;subst p;obtain⟨A,k⟩:∃A:List SV,A=s.map AA:=⟨_,rfl⟩
  obtain⟨M,G⟩:∃M:List Int,M=Fx rev x.head.moves:=⟨_,rfl⟩
  have F:H q=some (.list 1 (s.map AA)):=hs q _ (by simp[UD]);have E:B q=some (.list 1 A):=by rw[C,AD _ _ (by omega),k];exact F
  have w:A.length+M.length<=1073741824:=by
   simp only[UP,qt]at ht;rw[k,G,qd];omega
  refine AT 0 (α:=Option Nat) (λ_=>[(9,.ptr (n+1) 0)]) (λo=>AN o (A++M.map AA) (hset B q (some (.cells [AM 1 o (A++M.map AA)])))) (λo m=>n+2<=m/\Ar (n+2) m 1 o (A++M.map AA)/\(A++M.map AA=[]->o=none)) ?_ (λo m p=>?_);refine Kt q (by rw[k];exact Hz.size _) E λo m p g t=>?_;have hc:=c51 x.head hx rev;rw[<-G]at hc;have c:∀j,o=some j->q≠j:=λj e=>by have:=(g.lt j e).1;omega
  have hri:(revs.map AA)[i]? = some (AA rev):=by simp[hi,b]
  refine BX Ps rfl (by kernel_rfl) (by kernel_rfl) ?_;rw[K,J];rcases St g (X:=AN o A (hset B q (some (.cells [AM 1 o A])))) (λj e=>Cu j e) M w m with⟨d,b1⟩|⟨d,b1⟩
  cases o with
  | none=>
   simp only[AN,AM]at b1;simp[go_sem,Ps,AF.flat,AN,AM,AC,hi,<-b];refine⟨?_,?_⟩ <;>
   . refine qw (by simpa[AF.enc,AF.flat]using hc) ?_;simp[go_sem,b1,AC,AS];exact⟨none,⟨p,by simpa[d]using g,λ_ _=>rfl⟩,AB⟩
  | some j=>
   have c:=c j rfl;have P:=(g.lt j rfl).1;simp only[AN,AM]at b1;simp[go_sem,Ps,AF.flat,AN,AM,AC,AD _ _ c,hi,<-b];refine⟨?_,?_⟩ <;>
   . refine qw (by simpa[AF.enc,AF.flat]using hc) ?_;simp[go_sem,b1,AC,AD _ _ c];exact⟨some j,⟨p,by simpa[d]using g,λa _=>t a⟩,λq y e=>by simp only[d,jI,jJ,qS,jY,jq,hset]at e ⊢;grind⟩
  have z:q≠m:=by omega
  have f:Ar (n+2) (m+1) 1 (some m) (A++M.map AA):=⟨by simp,λj e=>by cases e;omega,λe O=>(qe.1 O).elim (g.size e) (Hz.size M e)⟩
  cases o with
  | none=>
   simp only[AN,AM]at b1;simp[go_sem,Ps,AF.flat,AN,AM,AC,hi,<-b];refine⟨?_,?_⟩ <;>
   . refine qw (by simpa[AF.enc,AF.flat]using hc) ?_;simp[go_sem,b1,AC,AD _ _ z];exact⟨some m,⟨by omega,f,by simp[d]⟩,λq y e=>by have:=l q y;simp only[hset]at e ⊢;grind⟩
  | some j=>
   have c:=c j rfl;have P:=(g.lt j rfl).1;simp only[AN,AM]at b1;simp[go_sem,Ps,AF.flat,AN,AM,AC,AD _ _ c,hi,<-b];refine⟨?_,?_⟩ <;>
   . refine qw (by simpa[AF.enc,AF.flat]using hc) ?_;simp[go_sem,b1,AC,AS,AD _ _ z,AD _ _ c];exact⟨some m,⟨by omega,f,by simp[d]⟩,λq y e=>by have:=l q y;simp only[hset]at e ⊢;grind⟩
  obtain⟨p,g,t⟩:=p;refine UT q g l (by omega) t ?_;have Q:n+1≠q:=by omega
  rw[C];refine AH ?_;simp[go_sem,AC,AD _ _ Q];have N:UP rev s x=(Fo,true,s++M):=by rw[G];rfl
  rw[N];refine RQ (v:=.tup [.agg [.imm 0 [] true,AA 0,AA 0,.imm 0 [] true,.imm 0 [] true],.bool true]) (r:=.tup [Fo.enc,.bool true]) 3 (RU L (s++M) hn D)
   (.inr ⟨.inr ⟨BC (by simp),IO,IO,BC (by simp),BC (by simp),trivial⟩,IO,trivial⟩) (by simp[closed,closedL,AF.enc,AF.flat,Fo]) (λj y e=>?_)
  simp only[Aj,UD]at e;by_cases c1:j=q;subst c1;rw[if_pos rfl,qc,<-k]at e;rw[AD _ _ (by omega),AC];exact e;rw[if_neg c1]at e;have:=u j y e;rw[AD _ _ (by omega),AD _ _ c1,AD _ _ (by omega)];exact e
def DO (last:Int) (q:Int×Bool) (x:Int):Int×Bool:=if last<x/\(q.1=0\/x<q.1)then(x,true)else q
def Oa (A:List Int) (last:Int):Int×Bool:=A.foldl (DO last) (0,false)
theorem Sy (last:Int):∀(A:List Int) (q:Int×Bool),(A.foldl (DO last) q).2=true->(q.2=true/\(A.foldl (DO last) q).1=q.1)\/((A.foldl (DO last) q).1∈A/\last<(A.foldl (DO last) q).1)
 | [],q,h=>.inl ⟨h,rfl⟩
 | x::A,q,h=>by
  simp only[qM]at h ⊢;rcases Sy last A _ h with⟨a,h2⟩|⟨a,h2⟩
  rw[h2];unfold DO at a ⊢;split at a;rename_i hc;rw[if_pos hc];exact .inr ⟨jP ..,hc.1⟩;rename_i hc;rw[if_neg hc];exact .inl ⟨a,rfl⟩;exact .inr ⟨qL _ a,h2⟩
theorem Qq {A:List Int} {last:Int} (h:(Oa A last).2=true):(Oa A last).1∈A/\last<(Oa A last).1:=by
 rcases Sy last A (0,false) h with⟨a,_⟩|a;cases a;exact a
theorem H5 {A:List Int} {last:Int} (h:(Oa A last).2=true):(A.filter λx=>decide ((Oa A last).1<x)).length<(A.filter λx=>decide (last<x)).length:=by
 obtain⟨c,h2⟩:=Qq h;generalize(Oa A last).1=b at c h2 ⊢;clear h
 induction A with
 | nil=>cases c
 | cons x A ih =>
  have le:∀B:List Int,(B.filter λx=>decide (b<x)).length<=(B.filter λx=>decide (last<x)).length:=λB=>by
   induction B with
   | nil=>simp
   | cons y B ih=>
    simp only[jZ];by_cases c1:b<y;have a:last<y:=by omega
    simp[c1,a];omega;by_cases a:last<y;simp[c1,a];omega;simp[c1,a];omega
  rcases qk.1 c with c|c;subst c;have:=le A;simp[h2];omega;have:=ih c;simp only[jZ];by_cases c1:b<x;have a:last<x:=by omega
  simp[c1,a];omega;by_cases a:last<x;simp[c1,a];omega;simp[c1,a];omega
def Fg (A:List Int) (last:Int):List Int:=if _h:(Oa A last).2=true then(Oa A last).1::Fg A (Oa A last).1 else[]
termination_by (A.filter λx=>decide (last<x)).length
decreasing_by exact H5 _h
theorem Lp (A:List Int) (last:Int):(Fg A last).length<=(A.filter λx=>decide (last<x)).length:=by
 rw[Fg];split;rename_i h;have:=Lp A (Oa A last).1;have:=H5 h;simp only[qF];omega;simp
termination_by (A.filter λx=>decide (last<x)).length
decreasing_by exact H5 (by assumption)
inductive gS (s:ByteArray):Nat->Nat->Prop where
 | nil (a:Nat):gS s a a
 | cons {a b:Nat} (h1:a<s.size) (h2:(CV s a).2=true) (h3:gS s (a+(CV s a).1) b):gS s a b
theorem gu (s:ByteArray) (a n:Nat):∀(f:Nat) (lo hi:Int) (k:Nat),(GM s a n f lo hi k).2=true->(GM s a n f lo hi k).1=k+f/\
 ∀j,k<=j->j<k+f->a+j<s.size/\(if j=k then lo else 128)<=BO s (a+j)/\BO s (a+j)<=if j=k then hi else 191
 | 0,_,_,k,_=>by rw[GM];exact⟨rfl,λj b h2=>by omega⟩
 | f+1,lo,hi,k,h=>by
  rw[GM]at h ⊢;split at h;cases h;rename_i hc;rw[if_neg hc];obtain⟨b,h2⟩:=gu s a n f 128 191 (k+1) h;refine⟨by omega,λj j1 j2=>?_⟩;by_cases e:j=k;subst e;rw[if_pos rfl,if_pos rfl];omega;have:=h2 j (by omega) (by omega);rw[if_neg e,if_neg e];split at this<;>omega
theorem fu {s t:ByteArray} {a a':Nat} (n n':Nat):∀(f:Nat) (lo hi:Int) (k:Nat),(∀j,k<=j->j<k+f->BO t (a'+j)=BO s (a+j)/\a'+j<t.size)->(GM s a n f lo hi k).2=true->GM t a' n' f lo hi k=GM s a n f lo hi k
 | 0,_,_,k,_,_=>by rw[GM,GM]
 | f+1,lo,hi,k,h,hs=>by
  rw[GM]at hs ⊢;rw[GM.eq_2 s];split at hs;cases hs;rename_i hc;obtain⟨b,h2⟩:=h k (qa _) (by omega);rw[if_neg hc,if_neg (by rw[b];omega)];exact fu n n' f 128 191 (k+1) (λj j1 j2=>h j (by omega) (by omega)) hs
theorem eq {s:ByteArray} {a:Nat} (ha:a<s.size) (h:(CV s a).2=true):Ew (BO s a)=(CV s a).1/\1<=(CV s a).1/\a+(CV s a).1<=s.size/\∀j,1<=j->j<(CV s a).1->128<=BO s (a+j)/\BO s (a+j)<=191:=by
 obtain⟨z0,z1⟩:=Mf (BO s a);simp only[CV]at h ⊢;split at h;cases h
 . rename_i c0;rw[if_neg c0];split at h;rename_i c1;rw[if_pos c1];exact⟨c1,Nat.le_refl _,by show a+1<=_;omega,λj c b=>by dsimp only at b;omega⟩
   . rename_i c1;rw[if_neg c1];obtain⟨d,h2⟩:=gu s a _ _ _ _ 1 h;rw[d];refine⟨by omega,by omega,?_,λj c b=>?_⟩;have:=h2 ((Ew (BO s a)).toNat-1) (by omega) (by omega);omega
     . have:=h2 j c b;have l1:128<=LK (BO s a)/\Iy (BO s a)<=191:=by unfold LK Iy;constructor<;>(repeat' split)<;>omega
       split at this<;>omega
theorem QK {s t:ByteArray} {a a':Nat} (c:a<s.size) (b:(CV s a).2=true) (h:∀j,j<(CV s a).1->BO t (a'+j)=BO s (a+j)/\a'+j<t.size):CV t a'=CV s a:=by
 obtain⟨e,f,_,_⟩:=eq c b;have h0:=(h 0 (by omega)).1;simp only[jJ]at h0;have d:∀j,j<(Ew (BO s a)).toNat->BO t (a'+j)=BO s (a+j)/\a'+j<t.size:=λj hj=>h j (by omega);clear h e f;simp only[CV]at b ⊢;rw[h0];split;rfl;rename_i c0;rw[if_neg c0]at b;split;rfl;rename_i c1;rw[if_neg c1]at b;exact fu _ _ _ _ _ 1 (λj j1 j2=>d j (by omega)) b
theorem gS.le {s:ByteArray} {a b:Nat} (H:gS s a b):a<=b:=by
 induction H with
 | nil=>exact qa _
 | cons h1 h2 _ ih=>omega
theorem gS.trans {s:ByteArray} {a b c:Nat} (H:gS s a b) (d:gS s b c):gS s a c:=by
 induction H with
 | nil=>exact d
 | cons h1 h2 _ ih=>exact .cons h1 h2 (ih d)
theorem gS.map {s t:ByteArray} {a b:Nat} (H:gS s a b):∀{a':Nat},(∀p,a<=p->p<b->BO t (a'+(p-a))=BO s p)->a'+(b-a)<=t.size->gS t a' (a'+(b-a)):=by
 induction H with
 | nil a=>intro a' _ _;rw[Nat.sub_self,jJ];exact .nil _
 | @cons a b h1 h2 h3 ih=>
  intro a' hb hs;have hle:=h3.le;obtain⟨i1,i2,i3,i4⟩:=eq h1 h2;have e:=QK (t:=t) (a':=a') h1 h2 λj hj=>⟨by have:=hb (a+j) (by omega) (by omega);rwa [Nat.add_sub_cancel_left]at this,by omega⟩
  refine .cons (by omega) (by rw[e];exact h2) ?_;rw[e];have:=ih (a':=a'+(CV s a).1) (λp p1 c=>by have:=hb p (by omega) c;rw[<-this];congr 1;omega) (by omega);rw[show a'+(CV s a).1+(b-(a+(CV s a).1))=a'+(b-a)by omega]at this;exact this
theorem gS.first {s:ByteArray} {a b:Nat} (H:gS s a b) (hb:b=s.size):HR s a<0:=by
 induction H with
 | nil a=>rw[HR,dif_neg (by omega)];decide
 | cons h1 h2 _ ih=>rw[HR,dif_pos h1,dif_pos h2];exact ih hb
theorem gS.of {s:ByteArray}:∀(n a:Nat),s.size-a<=n->a<=s.size->HR s a<0->gS s a s.size
 | n,a,hn,ha,h=>by
  rw[HR]at h;split at h;rename_i b;split at h;rename_i h2;obtain⟨i1,i2,c,i4⟩:=eq b h2;cases n with
  | zero=>omega
  | succ n=>exact .cons b h2 (gS.of n _ (by omega) c h)
  omega;have:a=s.size:=by omega
  rw[this];exact .nil _
theorem eB {s:ByteArray}:CZ s=true↔gS s 0 s.size:=by
 simp only[CZ,decide_eq_true_eq];exact⟨λh=>gS.of _ 0 (qa _) (qg _) h,λh=>h.first rfl⟩
theorem Sk:(List.range 256).all (λb=>if 128<=b/\b<=191 then !Gn b else(Ew b==0||Gn b))=true:=by kernel_rfl
theorem fQ (s:ByteArray) (i:Nat):0<=BO s i/\BO s i<256:=by
 unfold BO;split;rename_i b _;have:=b.toNat_lt;omega;omega
theorem Zs (b:Int) (h0:0<=b) (h1:b<256):if 128<=b/\b<=191 then Gn b=false else(Ew b≠0->Gn b=true):=by
 have:=jj.1 Sk b.toNat (by rw[List.mem_range];omega);have e:((b.toNat:Nat):Int)=b:=by omega
 rw[e]at this;by_cases c:128<=b/\b<=191;rw[if_pos c];rw[if_pos (by omega)]at this;simpa using this;rw[if_neg c];rw[if_neg (by omega)]at this;simp only[kH,beq_iff_eq]at this;exact λa=>this.resolve_left a
def ez (s:ByteArray) (o:Nat):Prop:=o=s.size\/Gn (BO s o)=true
theorem gS.cut {s:ByteArray} {a b:Nat} (H:gS s a b) (hb:b=s.size):∀o,a<=o->o<=b->ez s o->gS s a o/\gS s o b:=by
 induction H with
 | nil a => intro o h1 h2 _; have : o = a := by omega
            rw[this];exact⟨.nil _,.nil _⟩
 | @cons a b h1 h2 h3 ih =>
  intro o o1 o2 ho;by_cases e:o=a;rw[e];exact⟨.nil _,.cons h1 h2 h3⟩;obtain⟨i1,i2,i3,i4⟩:=eq h1 h2;have:a+(CV s a).1<=o:=by
   rcases ji o (a+(CV s a).1)with hlt|hge;exfalso;have hc:=i4 (o-a) (by omega) (by omega);rw[show a+(o-a)=o by omega]at hc;obtain⟨r1,r2⟩:=fQ s o;have hh:=Zs _ r1 r2;rw[if_pos hc]at hh;rcases ho with ho|ho;omega;rw[hh]at ho;cases ho;exact hge
  obtain⟨k1,k2⟩:=ih hb o this o2 ho;exact⟨.cons h1 h2 k1,k2⟩
theorem dj (s:ByteArray) (i:Nat):BO s i=match s.data[i]? with|some b=>(b.toNat:Int)|none=>0:=by
 rcases ji i s.size with h|h;obtain⟨e1,a⟩:=Ei h;rw[a,jd (show i<s.data.size from h)];rfl;have c:s.data[i]? = none:=jg h;rw[c];unfold BO;split;rename_i b e;exfalso;simp only[getElem?_def]at e;split at e;rename_i h2;exact absurd h2 (by show ¬i<s.size;omega);cases e;rfl
theorem dd (s:ByteArray) (i j p:Nat) (h1:p<j-i) (h2:j<=s.size):BO (s.extract i j) p=BO s (i+p):=by
 rw[dj,dj,ByteArray.data_extract,Array.getElem?_extract_of_lt (by show p<min j s.data.size-i;have:s.data.size=s.size:=rfl;omega),jd (show i+p<s.data.size by have:s.data.size=s.size:=rfl;omega)]
theorem size_extract (s:ByteArray) (i j:Nat) (h2:j<=s.size):(s.extract i j).size=j-i:=by
 rw[ByteArray.size_extract];omega
theorem fm (s t:ByteArray) (p:Nat) (h:p<s.size):BO (s++t) p=BO s p:=by
 rw[dj,dj,ByteArray.data_append,jp h]
theorem fp (s t:ByteArray) (p:Nat):BO (s++t) (s.size+p)=BO t p:=by
 rw[dj,dj,ByteArray.data_append,Array.getElem?_append_right (by show s.size<=s.size+p;omega)];rw[show s.size+p-s.data.size=p by have:s.data.size=s.size:=rfl;omega]
theorem df (s t:ByteArray) (i:Nat):∀k,(∀p,p<k->BO t p=BO s (i+p))->DK s (i+k)=DK s i+DK t k
 | 0,_=>by simp[DK]
 | k+1,h=>by
  rw[<-qD,DK,DK,df s t i k λp hp=>h p (by omega),h k (by omega)];omega
theorem fq (s t:ByteArray):DK (s++t) (s++t).size=DK s s.size+DK t t.size:=by
 rw[JN,df (s++t) t s.size t.size λp _=>(fp s t p).symm];have:=df (s++t) s 0 s.size λp hp=>by rw[jc];exact(fm s t p hp).symm
 rw[jc]at this;rw[this];simp[DK]
theorem eu {s t:ByteArray} (b:CZ s=true) (ht:CZ t=true):CZ (s++t)=true:=by
 rw[eB]at b ht ⊢;have a:=b.map (t:=s++t) (a':=0) (λp _ hp=>by rw[jc,kF];exact fm s t p hp) (by rw[JN];omega);have h2:=ht.map (t:=s++t) (a':=s.size) (λp _ hp=>by rw[kF];exact fp s t p) (by rw[JN];omega);rw[kF,jc]at a;rw[kF,<-JN]at h2;exact a.trans h2
theorem eY (s:ByteArray):∀k u,u<DK s k->∃o:Nat,(Bm s k)[u]? = some (o:Int)/\o<k/\Gn (BO s o)=true/\DK s o=u
 | 0,u,h=>by simp[DK]at h
 | k+1,u,h=>by
  have hl:=Ev s k;simp only[DK,Bm]at h ⊢;split;rename_i a;rw[if_pos a]at h;rcases ji u (DK s k)with d|d;obtain⟨o,h2,e,b,c⟩:=eY s k u d;exact⟨o,by rw[jD (by omega)];exact h2,by omega,b,c⟩;have:u=DK s k:=by omega
  exact⟨k,by rw[qV (by omega),this,hl];simp,by omega,a,this.symm⟩;rename_i a;rw[if_neg a]at h;obtain⟨o,h2,e,b,c⟩:=eY s k u (by omega);exact⟨o,h2,by omega,b,c⟩
theorem eH {s:ByteArray} (b:CZ s=true) {u:Int} (h0:0<=u) (h1:u<=DK s s.size):∃o:Nat,(Cv s u).1.toNat=o/\o<=s.size/\ez s o/\(DK s o:Int)=u:=by
 have hl:=Ev s s.size;have e:(Cv s u).1=(Bm s s.size++[(s.size:Int)]).getD u.toNat 0:=by
  unfold Cv;rw[if_neg (by rw[b];decide),if_neg (by omega)]
 rw[e,KW];rcases ji u.toNat (DK s s.size)with h2|h2;obtain⟨o,c,k2,d,k4⟩:=eY s s.size u.toNat h2;refine⟨o,by rw[jD (by omega),c];rfl,by omega,.inr d,by omega⟩;have a:u.toNat=DK s s.size:=by omega
 refine⟨s.size,by rw[qV (by omega),a,hl];simp,qa _,.inl rfl,by omega⟩
theorem dt {s:ByteArray} (b:CZ s=true) {u:Int} (h0:0<=u) (f:u<=DK s s.size):∃o:Nat,(Cv s u).1.toNat=o/\o<=s.size/\CZ (s.extract 0 o)=true/\CZ (s.extract o s.size)=true/\
 (DK (s.extract 0 o) (s.extract 0 o).size:Int)=u/\(DK (s.extract o s.size) (s.extract o s.size).size:Int)=DK s s.size-u:=by
 obtain⟨o,g,a,h,k4⟩:=eH b h0 f;obtain⟨c1,e⟩:=(eB.1 b).cut rfl o (qg _) a h;have c:=size_extract s 0 o a;have d:=size_extract s o s.size (qa _);refine⟨o,g,a,?_,?_,?_,?_⟩;rw[eB,c];have:=c1.map (t:=s.extract 0 o) (a':=0) (λp _ hp=>by rw[jc,kF,dd s 0 o p (by omega) a,jc]) (by omega);rw[jc]at this;exact this;rw[eB,d];have:=e.map (t:=s.extract o s.size) (a':=0) (λp hp1 hp=>by rw[jc,dd s o s.size (p-o) (by omega) (qa _)];congr 1;omega) (by omega);rw[jc]at this;exact this;rw[c];have:=df s (s.extract 0 o) 0 o λp hp=>dd s 0 o p (by omega) a;rw[jc]at this;have e0:DK s 0=0:=rfl;rw[kF];omega;rw[d];have:=df s (s.extract o s.size) o (s.size-o) λp hp=>dd s o s.size p (by omega) (qa _);rw[show o+(s.size-o)=s.size by omega]at this;omega
abbrev U1 (b:Bool):Nat:=if b then 1 else 0
mutual
def AE.wt (u:AF->Bool):AE->List Nat
 | .mk k _ _ t h f r=>if k=1 then List.replicate (if CZ t then DK t t.size else 0) (U1 (u h))else[U1 (u h)+(if k=6 then AE.wts u f else 0)+(if k=7 then Aa.wts u r else 0)]
def AE.wts (u:AF->Bool):List AE->Nat
 | []=>0
 | x::l=>(AE.wt u x).sum+AE.wts u l
def Aa.wt (u:AF->Bool):Aa->Nat
 | .mk h c=>U1 (u h)+Wl.wts u c
def Aa.wts (u:AF->Bool):List Aa->Nat
 | []=>0
 | x::l=>Aa.wt u x+Aa.wts u l
def Wl.wt (u:AF->Bool):Wl->Nat
 | .mk _ h f=>U1 (u h)+AE.wts u f
def Wl.wts (u:AF->Bool):List Wl->Nat
 | []=>0
 | x::l=>Wl.wt u x+Wl.wts u l
end
section
variable (u : AF → Bool)
def dh (l:List AE):List Nat:=l.flatMap (AE.wt u)
theorem db (a b:List AE):dh u (a++b)=dh u a++dh u b:=by simp[dh]
theorem dw (x:AE) (l:List AE):dh u (x::l)=AE.wt u x++dh u l:=by simp[dh]
theorem eO (x:AE):AE.wt u x=if x.kind=1 then List.replicate (if CZ x.text then DK x.text x.text.size else 0) (U1 (u x.head))else[U1 (u x.head)+(if x.kind=6 then AE.wts u x.flow else 0)+(if x.kind=7 then Aa.wts u x.rows else 0)]:=by
 cases x;rw[AE.wt];rfl
theorem PA (x:AE):((AE.wt u x).length:Int)=x.units:=by
 rw[eO,AE.units];split;rw[List.length_replicate];split<;>rfl;rfl
theorem d9:∀l:List AE,((dh u l).length:Int)=CI l
 | []=>rfl
 | x::l=>by rw[dw,qt,CI,<-d9 l,<-PA u x];omega
def val (x:AE):Prop:=CZ x.text=true/\(x.kind=7->x.rows≠[])
theorem iU {out:List AE} {x:AE} (c:∀y∈out,val y) (b:val x):dh u (BK out x)=dh u out++AE.wt u x/\∀y∈BK out x,val y:=by
 unfold BK;split;rename_i m;refine⟨?_,c⟩;rcases m with⟨l,h0⟩|⟨k,h0⟩
 exact absurd h0 (b.2 l);rw[eO,if_pos k,h0,b.1];simp[DK]
 . split
   . rename_i y i;have d:out=out.dropLast++[y]:=by obtain⟨ys,f⟩:=List.getLast?_eq_some_iff.1 i;rw[f];simp
     split
     . rename_i hc;obtain⟨n,j,o⟩:=hc;have g:=c y (List.mem_of_getLast? i);have e:AE.wt u (y.addText x.text)=AE.wt u y++AE.wt u x:=by
        rw[eO,eO u y,eO u x];have a1:(y.addText x.text).kind=y.kind/\(y.addText x.text).text=y.text++x.text/\(y.addText x.text).head=y.head:=⟨rfl,rfl,rfl⟩
        rw[a1.1,a1.2.1,a1.2.2,if_pos j,if_pos j,if_pos n,eu g.1 b.1,g.1,b.1,o];simp only[if_true];rw[fq,List.replicate_append_replicate]
       refine⟨?_,λz a=>?_⟩
       . rw[db,dw,e]
         conv=>rhs;rw[d]
         rw[db,dw];simp[dh]
       rcases qe.1 a with a|a;exact c z (List.dropLast_subset _ a);rw[qv.1 a];exact⟨eu g.1 b.1,λh=>absurd (show y.kind=7 from h) (by omega)⟩
     refine⟨by rw[db];simp[dh],λz a=>?_⟩;rcases qe.1 a with a|a;exact c z a;rw[qv.1 a];exact b
   refine⟨by rw[db];simp[dh],λz a=>?_⟩;rcases qe.1 a with a|a;exact c z a;rw[qv.1 a];exact b
def dX:Nat->List AE->Prop
 | 0,_=>False
 | N+1,l=>∀x∈l,val x/\(x.kind=6->dX N x.flow)/\(x.kind=7->∀r∈x.rows,r.cells≠[]/\∀c∈r.cells,dX N c.flow)
def gv (N:Nat) (x:AE):Prop:=val x/\(x.kind=6->dX N x.flow)/\(x.kind=7->∀r∈x.rows,r.cells≠[]/\∀c∈r.cells,dX N c.flow)
theorem eE {l:List Aa} (h:∀r∈l,r.cells≠[]):(l.map Aa.nrm).filter (λr=>!decide (r.cells.length=0))=l.map Aa.nrm:=by
 rw[jy];intro r b;obtain⟨r0,h0,rfl⟩:=qy.1 b;have a:(Aa.nrm r0).cells=r0.cells.map Wl.nrm:=by cases r0;rw[Aa.nrm,Uo];rfl
 rw[a,qd];have:=qA.2 (h r0 h0);simp;intro e;rw[e]at this;simp at this
end
section
variable (u : AF → Bool) (w : Bool) (it : Int → List AE → Bool → Nat) (mid : Bool)
end
section
variable (u : AF → Bool) (w : Bool) (sc : Av)
end
abbrev wr (x:Int):Int:=IntKind.i64.wrap x
theorem gi (x:AE):(A8 [x]).1=x.units/\0<=x.units:=by
 have h0:0<=x.units:=by unfold AE.units;split<;>(try split)<;>omega
 refine⟨?_,h0⟩;unfold A8 NY;simp only[List.any_cons,List.any_nil,Bool.or_false,CI,decide_eq_true_eq];split;rename_i h;unfold AE.uerr at h;unfold AE.units;split at h;rename_i k;rw[if_pos k];split at h;exact absurd rfl h;rename_i c;rw[if_neg c];exact absurd rfl h;simp
section
variable (rev : Int) (sc : Av)
end
section
variable (g : Bool → AF → AF) (sc : Av)
def gF (s:Unit) (p:BW):AF×Bool×Unit:=(g p.mid p.head,true,s)
def gr (it:Int->List AE->Bool->Unit->List AE×Unit) (mid:Bool) (c:Wl):Wl:=.mk c.id (g mid c.head) (it c.id c.flow mid ()).1
def fO (it:Int->List AE->Bool->Unit->List AE×Unit) (mid:Bool) (r:Aa):Aa:=.mk (g mid r.head) (r.cells.map (gr g it mid))
def eF (it:Int->List AE->Bool->Unit->List AE×Unit) (mid:Bool) (x:AE):AE:=x.put (g mid x.head) (if x.kind=6 then(it x.id x.flow mid ()).1 else x.flow) (if x.kind=7 then x.rows.map (fO g it mid)else x.rows)
theorem eK {α β:Type} (f:α->β) (st:List β×Unit->α->List β×Unit):∀(l:List α) (q:List β×Unit),(∀x∈l,∀q,(st q x).1=q.1++[f x])->(l.foldl st q).1=q.1++l.map f
 | [],q,_=>by simp
 | x::l,q,h=>by rw[qM,eK f st l _ λy a=>h y (by simp[a]),h x (by simp)];simp
theorem dU (it:Int->List AE->Bool->Unit->List AE×Unit) (mid:Bool) (l:List AE):(BL (gF g) it mid l ()).1=l.map (eF g it mid):=by
 unfold BL;rw[eK (eF g it mid) _ l _ λx hx q=>?_];simp;simp only[Bt,gF,if_true,eF,By];by_cases k6:x.kind=6;simp[k6];by_cases k7:x.kind=7;simp only[k7,show ¬(7:Int)=6 by decide,if_true,if_false];congr 3;unfold GT;rw[eK (fO g it mid) _ _ _ λr hr q=>?_];simp;simp only[DM,gF,if_true,fO];congr 3;unfold DQ;rw[eK (gr g it mid) _ _ _ λc hc q=>?_];simp;simp only[Cg,gF,if_true,gr];simp[k6,k7]
end
def gU (N:Nat) (x:AE):Prop:=(x.kind=7->x.rows≠[])/\(x.kind=6->dX N x.flow)/\(x.kind=7->∀r∈x.rows,r.cells≠[]/\∀c∈r.cells,dX N c.flow)
theorem fA {N:Nat} {x:AE}:gv N x↔CZ x.text=true/\gU N x:=by unfold gv gU val;exact⟨λh=>⟨h.1.1,h.1.2,h.2⟩,λh=>⟨⟨h.1,h.2.1⟩,h.2.2⟩⟩
theorem gV {N:Nat} (x:AE) (t:ByteArray) (H:gU N x):gU N (.mk x.kind x.code x.id t x.head x.flow x.rows):=by cases x;exact H
theorem iZ (l:List AE) (cu:Int) (h0:0<=cu) (g:∀x∈l,CZ x.text=true):∀k,k<=l.length->(∀y∈(DJ l cu k).1,CZ y.text=true)/\∀y∈(DJ l cu k).2,CZ y.text=true
 | 0,_=>by simp[DJ]
 | k + 1, hk => by
  obtain⟨d,e⟩:=iZ l cu h0 g k (by omega);have b:=Ge 0 l k (by omega);have c:DJ l cu (k+1)=Cb cu (DJ l cu k) (0+CI (l.take k),l[k]):=by
   unfold DJ;obtain⟨i,h2⟩:=qo.1 b;rw[qb i,kg,h2];rfl
  have a:=g l[k] (ql _);rw[c];generalize CI (l.take k)=p;generalize l[k]=x at *;unfold Cb;dsimp only;by_cases c1:0+p+x.units<=cu;rw[if_pos c1];exact⟨Eu d a,e⟩;rw[if_neg c1];by_cases f:cu<=0+p;rw[if_pos f];exact⟨d,Eu e a⟩;rw[if_neg f];have j:x.kind=1:=by
   by_cases k:x.kind=1;exact k;have:x.units=1:=by rw[AE.units,if_neg k]
   omega
  have hu:x.units=DK x.text x.text.size:=by rw[AE.units,if_pos j,a];rfl
  obtain⟨o,h,e2,m,n,n1,n2⟩:=dt a (u:=cu-(0+p)) (by omega) (by omega);rw[h];exact⟨Eu d m,Eu e n⟩
theorem eC {N:Nat} {l:List AE} (cu:Int) (h0:0<=cu) (H:dX (N+1) l):dX (N+1) (Bj l cu).1/\dX (N+1) (Bj l cu).2:=by
 have b:=iZ l cu h0 (λx a=>(H x a).1.1) l.length (qa _);have h2:=LN (p:=gU N) gV l cu (λx a=>(fA.1 (H x a)).2) l.length (qa _);exact⟨λx a=>fA.2 ⟨b.1 x a,h2.1 x a⟩,λx a=>fA.2 ⟨b.2 x a,h2.2 x a⟩⟩
theorem i9:∀(l out:List AE),(∀y∈out,val y)->(∀y∈l,val y)->∀y∈l.foldl BK out,val y
 | [],_,ho,_=>ho
 | x::l,out,ho,hl=>by
  rw[qM];exact i9 l _ (iU (λ_=>true) ho (hl x (by simp))).2 λy a=>hl y (by simp[a])
theorem eL {x:AE} (h:∀r∈x.rows,r.cells≠[]):(AE.nrm x).rows=x.rows.map Aa.nrm:=by
 rw[(QP x).2.2.2.2.2.2,eE h]
theorem Aa.nrm_cells (r:Aa):(Aa.nrm r).cells=r.cells.map Wl.nrm/\(Aa.nrm r).head=r.head:=by cases r;rw[Aa.nrm,Uo];exact⟨rfl,rfl⟩
theorem Wl.nrm_all (c:Wl):(Wl.nrm c).flow=Ac c.flow/\(Wl.nrm c).id=c.id/\(Wl.nrm c).head=c.head:=by cases c;rw[Wl.nrm];exact⟨rfl,rfl,rfl⟩
theorem dm:∀{N:Nat} {l:List AE},dX N l->dX N (Ac l)
 | 0,_,h=>h.elim
 | N + 1, l, H => by
  have n:∀y∈AE.nrmL l,val y/\gU N y:=λy a=>by
   rw[kM]at a;obtain⟨x,g,rfl⟩:=qy.1 a;obtain⟨⟨i,h2⟩,s,j⟩:=H x g;obtain⟨f,_,_,q,_,o,e3⟩:=QP x;have b:x.kind=7->(AE.nrm x).rows=x.rows.map Aa.nrm:=λk=>eL λr b=>(j k r b).1;refine⟨⟨by rw[q];exact i,λk=>?_⟩,λk=>?_,λk=>?_,λk r d=>?_⟩;rw[f]at k;rw[b k];simpa using h2 k;rw[f]at k;rw[b k];simpa using h2 k;rw[f]at k;rw[o];exact dm (s k);rw[f]at k;rw[b k]at d;obtain⟨r0,e,rfl⟩:=qy.1 d;rw[(Aa.nrm_cells r0).1];refine⟨by simpa using(j k r0 e).1,λc hc=>?_⟩;obtain⟨c0,m,rfl⟩:=qy.1 hc;rw[(Wl.nrm_all c0).1];exact dm ((j k r0 e).2 c0 m)
  unfold Ac EM;have i:=i9 (AE.nrmL l) [] (by simp) λy a=>(n y a).1;have h2:=Mq (p:=gU N) gV (AE.nrmL l) [] (by simp) λy a=>(n y a).2;exact λx g=>fA.2 ⟨(i x g).1,h2 x g⟩
theorem dM {N:Nat} {l:List AE} (a b:Int) (c:0<=a) (hb:0<=b) (H:dX (N+1) l):dX (N+1) (Ad l a b).1:=by
 unfold Ad;split;exact dm (eC a c (eC b hb H).1).2;intro x d;cases d
theorem dP {N:Nat} {l:List AE} (H:dX (N+1) l):A8 l=(CI l,0):=by
 unfold A8;have:NY l=false:=by
  unfold NY;rw[List.any_eq_false];intro x a;have:=(H x a).1.1;simp[AE.uerr,this]
 rw[this];rfl
theorem eM {m2:List Int} {hp:AF->Prop} {K:Nat}:∀{N:Nat} {l:List AE},RJ m2 N l->Da hp K N l->dX N l
 | 0,_,_,h=>h.elim
 | N+1,l,h,hl=>λx e=>by
  obtain⟨⟨f6,f7,f⟩,_,g,b,d⟩:=h x e;obtain⟨_,i,_,j⟩:=hl.2.2 x e;exact⟨⟨f,b⟩,λk=>eM g i,λk r a=>⟨(d r a).1.2,λc hc=>eM ((d r a).2 c hc).2 ((j r a).2.2 c hc).2⟩⟩
section
variable (g : Bool → AF → AF) (sc : Av) (u : AF → Bool)
end
section
variable (g : Bool → AF → AF) (sc : Av)
theorem dn {id:Int} {l:List AE} {N:Nat} (c:dX (N+1) l):EX sc id l false=true↔id=sc.id/\0<=sc.a/\sc.a<=sc.b/\sc.b<=CI l:=by
 unfold EX;rw[dP c];simp[and_assoc]
variable (u v : AF → Bool) (w : Bool)
end
end Go.Proofs.YtgakninlhfkkmaaGreat.Sh
