/- A part of the proof (part 14 of 17). -/
import Derived.Test.YtgakninlhfkkmaaGreatM13
namespace Go.Proofs.YtgakninlhfkkmaaGreat.Sh
abbrev wu:=@AB.rlL_eq
open Proofs
set_option maxRecDepth 10000
section
variable {K : Ck} {n0 : Nat}
def Jr (K:Ck) (el:Int) (ls:List AM) (i:Nat):Int:=match ls[i]? with
 | none=>0
 | some x=>
  if decide (x.rev∈K.m2)=false then 22 else if Oh el x.key=false then 4
  else if(decide (0<i)&&decide (x.key<(ls.getD (i-1) x).key))=true then 6
  else if x.had=false then(if x.before=0 then 0 else 21)else Bc [EZ x.key x.before,Gg K x.key x.before]
set_option maxHeartbeats 2000000 in
theorem fJ (q:K.ok n0) (s:GR) (el:Int) (d:List AM) (hls:d.length<=1048576) (i:Nat) (hi:i<d.length) {H:Hp} {n:Nat} (hn:n0<=n) (B:∀o y,K.st s o=some y->H o=some y):
 BL Tryz.prog 159 [.ptr K.p 0,AA el,Ai d,AA i] H n (Is (AA (Jr K el d i)) H n):=by
 obtain⟨V,a⟩:∃V,V=Jr K el d i:=⟨_,rfl⟩
 rw[<-a];refine DO Tryz.func159 rfl λA=>?_;obtain⟨x,C⟩:∃x,d[i]=x:=⟨_,rfl⟩
 rw[Jr,qe hi,C]at a;dsimp only at a;obtain⟨h,KL⟩:∃h,h=(decide (0<i)&&decide (x.key<(d.getD (i-1) x).key)):=⟨_,rfl⟩
 rw[<-KL]at a;obtain⟨hp,_,_,h2,_,_⟩:=q.has B;simp only[Ck.cells]at hp;have hKp:K.p<n:=by have:=q.lt K.p (by simp);omega
 have hKs:K.s2<n:=by have:=q.lt K.s2 (by simp);omega
 have g:=A.lt;have out:∀(e:Int) (m:Nat),V=e->CO n H m (AA e) (Is (AA V) H n):=λe m F=>As A rfl (by rw[F]);refine B5 0 [(0,.ptr K.p 0),(1,AA el),(2,Ai d),(3,AA i)] H n ?_ (λm c=>?_);simp[go_sem,IO];subst c;refine Aa 1 [(0,.ptr K.p 0),(1,AA el),(2,Ai d),(3,AA i),(9,.iptr [AA x.rev,AA x.key,AA x.before,.bool x.had])] H n ?_ (λm c=>?_);simp[go_sem,IO,hi,C,AM.enc,AD];exact⟨AZ (AS g (qa _)) (AD _ _ _),AL g (AL g AC)⟩;refine Bg 0 [(0,.ptr K.p 0),(9,.iptr [AA x.rev,AA x.key,AA x.before,.bool x.had])] H (λm=>n<=m/\V=Bc [EZ x.key x.before,Gg K x.key x.before]) ?_ (λm c=>?_)
 . refine AY ?_;refine Aa 0 [(0,.ptr K.p 0),(1,AA el),(2,Ai d),(3,AA i),(9,.iptr [AA x.rev,AA x.key,AA x.before,.bool x.had]),(14,.bool (!decide (x.rev∈K.m2)))] H n ?_ (λm c=>?_)
   . by_cases r:x.rev∈K.m2
     . obtain⟨j,f,_⟩:=Da 0 r;simp[go_sem,IO,hp,h2,f,Cc,c,r]
       repeat first|refine nq ?_|refine sq ?_|refine aq ?_
       first|exact(nd (by kernel_rfl) trivial).1|exact(sd (by kernel_rfl) trivial).1
     . have f:=ET 0 r;simp[go_sem,IO,hp,h2,f,Cc,c,r]
       repeat first|refine nq ?_|refine sq ?_|refine aq ?_
       first|exact(nd (by kernel_rfl) trivial).1|exact(sd (by kernel_rfl) trivial).1
   cases hb:decide (x.rev∈K.m2)with
   | false=>exact AJ (by simp[go_sem];exact out 22 _ (by rw[a,hb];rfl))
   | true=>
   refine Au (b:=false) (by simp[go_sem]) ?_;rw[hb]at a;simp only[qn,Bool.true_eq_false,if_false]at a ⊢;obtain⟨l,F8⟩:∃l,l=Oh el x.key:=⟨_,rfl⟩
   rw[<-F8]at a;refine Aa 0 [(0,.ptr K.p 0),(1,AA el),(2,Ai d),(3,AA i),(9,.iptr [AA x.rev,AA x.key,AA x.before,.bool x.had]),(23,.bool (!l))] H n ?_ (λm c=>?_);simp[go_sem];refine(bh _ _).use ?_;simp[go_sem,IO,c,F8];cases l with
   | false=>exact AJ (by simp[go_sem];exact out 4 _ (by rw[a];rfl))
   | true=>
   refine Au (b:=false) (by simp[go_sem]) ?_;simp only[qn,Bool.true_eq_false,if_false]at a ⊢;refine Aa 0 [(0,.ptr K.p 0),(9,.iptr [AA x.rev,AA x.key,AA x.before,.bool x.had]),(29,.bool h)] H n ?_ (λm c=>?_)
   . by_cases t:0<i
     . have k:i-1<d.length:=by omega
       obtain⟨y,D⟩:∃y,d[i-1]=y:=⟨_,rfl⟩
       have e:h=decide (x.key<y.key):=by rw[KL];simp[t,List.getD,k,D]
       have w:IntKind.i64.wrap ((i:Int)-1)=((i-1:Nat):Int):=by rw[DA]<;>omega
       simp[go_sem,IO,t,w,k,D,AM.enc,c,e]
       repeat first|refine nq ?_|refine sq ?_|refine aq ?_
       first|exact(nd (by kernel_rfl) trivial).1|exact(sd (by kernel_rfl) trivial).1
     . have e:h=false:=by rw[KL];simp[t]
       simp[go_sem,IO,t,c,e]
       repeat first|refine nq ?_|refine sq ?_|refine aq ?_
       first|exact(nd (by kernel_rfl) trivial).1|exact(sd (by kernel_rfl) trivial).1
   cases h with
   | true=>exact AJ (by simp[go_sem];exact out 6 _ (by rw[a];rfl))
   | false=>
   refine Au (b:=false) (by simp[go_sem]) ?_;simp only[qn,if_false]at a ⊢;refine AJ ?_;cases u:x.had with
   | false=>
    rw[u]at a;simp[go_sem];refine(Ki _ _).use ?_;simp[go_sem];refine out _ _ ?_;rw[a];simp
   | true=>
    rw[u]at a;simp[go_sem,IO];exact⟨c,a⟩
 refine AX 0 (α:=Unit) (λ_=>[(8,AA V)]) (λ_=>H) (λ_ m=>n<=m) (CK trL rfl (by kernel_rfl) (by kernel_rfl) ?_) (λ_ m c=>?_);obtain⟨c,a⟩:=c;simp[go_sem,trL];refine(Zu _ _).use ?_;simp[go_sem];refine qP (bY q s x.key x.before B) ?_;generalize Gg K x.key x.before=e at a;generalize EZ x.key x.before=e1 at a;rintro v E n' ⟨rfl,rfl,rfl⟩;simp[go_sem];refine wn (bs:=[.imm 1 ([e1,e].map AA) false]) (h2:=E) 1 (AL (λj z e=>by have:=g j z e;omega) AC) ⟨?_,trivial⟩ ?_;exact Cz (es:=[AA e1,AA e]) (AS g c) (by simp) (by rw[AD];simp[SV.cells]) (by simp[SV.storable,SV.cells]);refine(Sa _ (by simp)).use ?_;simp[go_sem,IO,a];omega;refine AJ ?_;simp[go_sem];exact out _ _ rfl
theorem fI (d:K.ok n0) (s:GR) (el ins mv:Int) (c:SV) (a:List AM) (b:a.length<=1048576) (i:Nat) (hi:i<a.length) {H:Hp} {n:Nat} (hn:n0<=n) (g:∀o y,K.st s o=some y->H o=some y):
 BL Tryz.prog 158 [AA i,.iptr [.ptr K.p 0],.iptr [AA el],.iptr [AA ins,AA mv,c,Ai a]] H n (Is (AA (Jr K el a i)) H n):=by
 refine gq Tryz.func158 rfl λf=>?_;simp[go_sem];refine qP (fJ d s el a b i hi hn g) ?_;generalize Jr K el a i=e;rintro v H' n' ⟨rfl,rfl,rfl⟩;simp[go_sem];exact As f rfl rfl
theorem cE (_hK:K.ok n0) (s:GR) (N:Nat) (hN:N<=1048576) (g:FuncId) (a b:List SV) (F:Nat->Int)
 (step:∀i H n,i<N->n0<=n->(∀o y,K.st s o=some y->H o=some y)->BL Tryz.prog g (a++[AA i]++b) H n (Is (AA (F i)) H n))
 {H:Hp} {n:Nat} (hn:n0<=n) (l:∀o y,K.st s o=some y->H o=some y):
 BL Tryz.prog 150 [AA N,.fn (.func g) a b] H n (Is (AA (CD F N)) H n):=by
 obtain⟨V,h⟩:∃V,V=CD F N:=⟨_,rfl⟩
 rw[<-h];refine gq Tryz.func150 rfl λk=>?_;simp[go_sem];refine Av 0 (α:=Nat) (λq=>[(1,.fn (.func g) a b),(7,AA N),(8,AA q)]) (λ_=>H) (λq m=>q<=N/\n<=m/\CD F q=0) (λq=>N-q) 0 ?_ ?_ ?_ ?_;exact⟨qg _,qa _,rfl⟩;simp[Ao,Fz];exact AC;rintro i m ⟨hi,j,hI⟩;by_cases c:i<N;have w1:=wS i (by omega);have hc:=step i H m c (by omega) l;simp only[qj,qx,qE]at hc;simp[go_sem,c];refine qP hc ?_;obtain⟨e,d⟩:∃e,F i=e:=⟨_,rfl⟩
 rw[d];rintro v H' n' ⟨rfl,rfl,rfl⟩;by_cases f:e=0;subst f;simp[go_sem,w1,-Int.natCast_add];exact⟨i+1,by omega,⟨by omega,j,by rw[CD,if_pos hI];exact d⟩,rfl⟩;simp[go_sem,f];exact As k rfl (by rw[h,EM F c hI (by rw[d];exact f),d]);have:i=N:=by omega
 subst this;simp[go_sem];exact As k rfl (by rw[h,hI])
end
section
variable {K : Ck} {n0 : Nat}
def Fc (K:Ck) (h:AF):Bool:=decide (h.ins≠0) && !decide (h.ins∈K.m2)
def It (h:AF):Bool:=!decide (0<=h.move/\h.move<=1073741824)||(decide (h.move≠0)&&decide (h.ins=0))
def Jq (K:Ck) (l:List Bs) (j:Nat):Int:=match l[j]? with
 | none=>0
 | some x=>if decide (x.rev∈K.m2)=false then 22 else if(decide (0<j)&&decide (x.rev<=(l.getD (j-1) x).rev))=true then 6 else if 0<=x.move/\x.move<=1073741824 then 0 else 21
def Ia (K:Ck) (l:List Bi) (j:Nat):Int:=match l[j]? with
 | none=>0
 | some p=>Gg K p.key p.value
def EV (K:Ck) (el:Int) (h:AF):Int:=
 if CY el h.props≠0 then CY el h.props else if CD (Ia K h.props) h.props.length≠0 then CD (Ia K h.props) h.props.length
 else if Fc K h=true then 22 else if It h=true then 21 else if 16<h.dels.length then 9
 else if CD (Jq K h.dels) h.dels.length≠0 then CD (Jq K h.dels) h.dels.length
 else if 64<h.layers.length then 9 else CD (Jr K el h.layers) h.layers.length
set_option maxHeartbeats 4000000 in
theorem YG (B:K.ok n0) (s:GR) (el:Int) (a:AF) (J:a.sized) {H:Hp} {n:Nat} (hn:n0<=n) (R:∀o y,K.st s o=some y->H o=some y):
 BL Tryz.prog 86 [.ptr K.p 0,AA el,a.enc] H n (Is (AA (EV K el a)) H n):=by
 obtain⟨V,h⟩:∃V,V=EV K el a:=⟨_,rfl⟩
 rw[<-h];rw[EV]at h;refine DO Tryz.func86 rfl λU=>?_;obtain⟨hp,_,_,h2,_,_⟩:=B.has R;simp only[Ck.cells]at hp;have hKp:K.p<n:=by have:=B.lt K.p (by simp);omega
 have hKs:K.s2<n:=by have:=B.lt K.s2 (by simp);omega
 have g:=U.lt;have C:∀(e:Int) (M:Hp) (m:Nat),V=e->(∀j y,H j=some y->M j=some y)->CO n M m (AA e) (Is (AA V) H n):=λe M m t Y=>On (T:=λv=>v=AA V) U Y (by simp[closed]) (by rw[t]);have out:∀(e:Int) (m:Nat),V=e->CO n H m (AA e) (Is (AA V) H n):=λe m t=>C e H m t AC;refine Aa 1 [(3,.iptr [.ptr K.p 0]),(4,.iptr [AA el]),(5,.iptr a.flat)] H n ?_ (λm d=>?_);simp[go_sem,AF.enc,AF.flat,qu];refine⟨⟨AZ (AS g (by omega)) (by simp[hset]),AZ (AS g (by omega)) (by simp[hset]),AZ (AS g (by omega)) (by simp[hset])⟩,λj y=>?_⟩;have:=g j y;simp only[hset];grind;refine Bg 0 [(3,.iptr [.ptr K.p 0]),(4,.iptr [AA el]),(5,.iptr a.flat)] H (λm=>n<=m/\CY el a.props=0) (AJ ?_) (λm d=>?_);simp[go_sem,AF.flat];refine(bX el a.props J.props).use ?_;by_cases r:CY el a.props=0;simp[go_sem,r,IO,d];simp[go_sem,r];exact out _ _ (by rw[h,if_pos r]);obtain⟨d,r⟩:=d;rw[if_neg (by rw[r];simp)]at h;refine Bg 0 [(3,.iptr [.ptr K.p 0]),(4,.iptr [AA el]),(5,.iptr a.flat)] H (λm=>n<=m/\CD (Ia K a.props) a.props.length=0) ?_ (λm d=>?_);refine Aa 0 [(3,.iptr [.ptr K.p 0]),(4,.iptr [AA el]),(5,.iptr a.flat),(22,AU a.props),(23,AA a.props.length),(24,AA 0)] H n ?_ (λm d=>?_);simp[go_sem,IO,AF.flat,d];refine AY (BT 0 (α:=Nat) (λi=>[(3,.iptr [.ptr K.p 0]),(4,.iptr [AA el]),(5,.iptr a.flat),(22,AU a.props),(23,AA a.props.length),(24,AA i)]) (λ_=>H) (λi m=>i<=a.props.length/\n<=m/\CD (Ia K a.props) i=0) (λi=>a.props.length-i) 0 ⟨qg _,d,rfl⟩ ?_ AC ?_);simp[go_sem,Ao,IO];rintro i m ⟨hi,d,hI⟩;refine AJ ?_;by_cases k:i<a.props.length;obtain⟨x,L⟩:∃x,a.props[i]=x:=⟨_,rfl⟩
 obtain⟨e,t⟩:∃e,Gg K x.key x.value=e:=⟨_,rfl⟩
 have N:Ia K a.props i=e:=by rw[Ia,qe k,L];exact t
 have w1:IntKind.i64.wrap ((i:Int)+1)=((i+1:Nat):Int):=by have:=J.props;rw[DA]<;>omega
 simp[go_sem,k,L,Bi.enc,AD];refine qP (bY B s x.key x.value (K2 B.clo.lt (by omega) _ (K2 B.clo.lt (by omega) _ R))) ?_;rw[t];rintro v X n' ⟨rfl,rfl,rfl⟩;by_cases r:e=0;subst r;simp[go_sem,w1,-Int.natCast_add];refine⟨i+1,by omega,⟨by omega,by omega,by rw[CD,if_pos hI];exact N⟩,by simp[IO],AL (λj z e=>by have:=g j z e;omega) (AL (λj z e=>by have:=g j z e;omega) AC)⟩;have O:CD (Ia K a.props) a.props.length=e:=by rw[EM _ k hI (by rw[N];exact r),N]
 simp[go_sem,r];exact C e _ _ (by rw[h,O,if_pos r]) (AL (λj z e=>by have:=g j z e;omega) (AL (λj z e=>by have:=g j z e;omega) AC));have e:i=a.props.length:=by omega
 subst e;simp[go_sem,IO,d,hI];obtain⟨d,a2⟩:=d;rw[if_neg (by rw[a2];simp)]at h;refine Aa 1 [(3,.iptr [.ptr K.p 0]),(4,.iptr [AA el]),(11,.iptr [AA a.ins,AA a.move,Ax a.dels,Ai a.layers])] H n ?_ (λm d=>?_);simp[go_sem,IO,AF.flat,AD];have q:∀j y,H j=some y->j<m:=λj y e=>by have:=g j y e;omega
 exact⟨by omega,AZ (AS q (qa _)) (AD _ _ _),AL q (AL q AC)⟩;refine Bg 0 [(3,.iptr [.ptr K.p 0]),(4,.iptr [AA el]),(11,.iptr [AA a.ins,AA a.move,Ax a.dels,Ai a.layers])] H (λm=>n<=m/\Fc K a=false/\It a=false/\¬16<a.dels.length) ?_ (λm d=>?_)
 . refine AY ?_;obtain⟨b1,Me⟩:∃b,b=Fc K a:=⟨_,rfl⟩
   obtain⟨E,F8⟩:∃b,b=It a:=⟨_,rfl⟩
   rw[<-Me,<-F8]at h;rw[<-Me,<-F8];refine Aa 0 [(3,.iptr [.ptr K.p 0]),(4,.iptr [AA el]),(11,.iptr [AA a.ins,AA a.move,Ax a.dels,Ai a.layers]),(40,.bool b1)] H n ?_ (λm d=>?_)
   . by_cases l:a.ins=0
     . have e:b1=false:=by rw[Me,Fc];simp[l]
       simp[go_sem,IO,l,d,e]
       repeat first|refine nq ?_|refine sq ?_|refine aq ?_
       first|exact(nd (by kernel_rfl) trivial).1|exact(sd (by kernel_rfl) trivial).1
     . by_cases u:a.ins∈K.m2
       . have e:b1=false:=by rw[Me,Fc];simp[u]
         obtain⟨j,f,_⟩:=Da 0 u;simp[go_sem,IO,l,hp,h2,f,Cc,d,e]
         repeat first|refine nq ?_|refine sq ?_|refine aq ?_
         first|exact(nd (by kernel_rfl) trivial).1|exact(sd (by kernel_rfl) trivial).1
       . have e:b1=true:=by rw[Me,Fc];simp[u,l]
         have f:=ET 0 u;simp[go_sem,IO,l,hp,h2,f,Cc,d,e]
         repeat first|refine nq ?_|refine sq ?_|refine aq ?_
         first|exact(nd (by kernel_rfl) trivial).1|exact(sd (by kernel_rfl) trivial).1
   cases b1 with
   | true=>exact AJ (by simp[go_sem];exact out 22 _ (by rw[h];rfl))
   | false=>
   refine Au (b:=false) (by simp[go_sem]) ?_;simp only[qn,if_false]at h ⊢;refine Aa 0 [(3,.iptr [.ptr K.p 0]),(4,.iptr [AA el]),(11,.iptr [AA a.ins,AA a.move,Ax a.dels,Ai a.layers]),(54,.bool E)] H n ?_ (λm d=>?_);simp[go_sem];refine(LW _ _ _).use ?_;by_cases c:0<=a.move/\a.move<=1073741824;by_cases m0:a.move=0;have e:E=false:=by rw[F8,It];simp[m0]
   simp[go_sem,IO,m0,d,e];by_cases l:a.ins=0;have e:E=true:=by rw[F8,It];simp[m0,l]
   simp[go_sem,IO,c,m0,l,d,e];have e:E=false:=by rw[F8,It];simp[c,l]
   simp[go_sem,IO,c,m0,beq_eq_false_iff_ne.2 l,d,e];have e:E=true:=by rw[F8,It,decide_eq_false c];rfl
   simp[go_sem,IO,c,d,e];cases E with
   | true=>exact AJ (by simp[go_sem];exact out 21 _ (by rw[h];rfl))
   | false=>
   refine Au (b:=false) (by simp[go_sem]) ?_;simp only[qn,if_false]at h ⊢;refine AJ ?_;by_cases c:(16:Int)<a.dels.length;simp[go_sem,c];exact out 9 _ (by rw[h,if_pos (by omega)]);simp[go_sem,c,IO,d];omega
 obtain⟨d,Me,F8,P⟩:=d;rw[Me,F8,if_neg P]at h;simp only[qn,if_false]at h;refine Bg 0 [(3,.iptr [.ptr K.p 0]),(4,.iptr [AA el]),(11,.iptr [AA a.ins,AA a.move,Ax a.dels,Ai a.layers])] H (λm=>n<=m/\CD (Jq K a.dels) a.dels.length=0) ?_ (λm d=>?_)
 . refine Aa 0 [(3,.iptr [.ptr K.p 0]),(4,.iptr [AA el]),(11,.iptr [AA a.ins,AA a.move,Ax a.dels,Ai a.layers]),(75,Ax a.dels),(76,AA a.dels.length),(77,AA 0)] H n ?_ (λm d=>?_);simp[go_sem,IO,d];refine AY (BT 0 (α:=Nat) (λi=>[(3,.iptr [.ptr K.p 0]),(4,.iptr [AA el]),(11,.iptr [AA a.ins,AA a.move,Ax a.dels,Ai a.layers]),(75,Ax a.dels),(76,AA a.dels.length),(77,AA i)]) (λ_=>H) (λi m=>i<=a.dels.length/\n<=m/\CD (Jq K a.dels) i=0) (λi=>a.dels.length-i) 0 ⟨qg _,d,rfl⟩ ?_ AC ?_);simp[go_sem,Ao,IO];rintro i m ⟨hi2,d,hI⟩;by_cases k:i<a.dels.length
   . obtain⟨x,L⟩:∃x,a.dels[i]=x:=⟨_,rfl⟩
     obtain⟨F,KL⟩:∃b,b=decide (x.rev∈K.m2):=⟨_,rfl⟩
     obtain⟨G,TD⟩:∃b,b=(decide (0<i)&&decide (x.rev<=(a.dels.getD (i-1) x).rev)):=⟨_,rfl⟩
     have A:Jq K a.dels i=if F=false then 22 else if G=true then 6 else if 0<=x.move/\x.move<=1073741824 then 0 else 21:=by
      rw[Jq,qe k,L,KL,TD]
     have D:∀(e:Int) (m:Nat),e≠0->Jq K a.dels i=e->CO n H m (AA e) (Is (AA V) H n):=λe m r t=>by
      have O:CD (Jq K a.dels) a.dels.length=e:=by rw[EM _ k hI (by rw[t];exact r),t]
      exact out e m (by rw[h,O,if_pos r])
     have w1:=wS i (by omega);refine Aa 0 [(3,.iptr [.ptr K.p 0]),(4,.iptr [AA el]),(11,.iptr [AA a.ins,AA a.move,Ax a.dels,Ai a.layers]),(75,Ax a.dels),(76,AA a.dels.length),(77,AA i),(78,.bool true)] H n ?_ (λm d=>?_);simp[go_sem,IO,d,k];refine Aa 0 [(3,.iptr [.ptr K.p 0]),(4,.iptr [AA el]),(11,.iptr [AA a.ins,AA a.move,Ax a.dels,Ai a.layers]),(75,Ax a.dels),(76,AA a.dels.length),(77,AA i)] H n ?_ (λm d=>?_);simp[go_sem,IO,d];refine Bg 0 [(3,.iptr [.ptr K.p 0]),(4,.iptr [AA el]),(11,.iptr [AA a.ins,AA a.move,Ax a.dels,Ai a.layers]),(75,Ax a.dels),(76,AA a.dels.length),(77,AA i)] H (λm=>n<=m/\Jq K a.dels i=0) ?_ (λm d=>?_)
     . refine AY ?_;refine Aa 1 [(3,.iptr [.ptr K.p 0]),(4,.iptr [AA el]),(11,.iptr [AA a.ins,AA a.move,Ax a.dels,Ai a.layers]),(75,Ax a.dels),(76,AA a.dels.length),(77,AA i),(12,AA i),(13,.iptr [AA x.rev,AA x.move])] H n ?_ (λm d=>?_);simp[go_sem,IO,k,L,Bs.enc,AD];have q:∀j y,H j=some y->j<m:=λj y e=>by have:=g j y e;omega
       exact⟨by omega,AZ (AS q (qa _)) (AD _ _ _),AL q (AL q AC)⟩;refine AY ?_;refine Aa 0 [(3,.iptr [.ptr K.p 0]),(4,.iptr [AA el]),(11,.iptr [AA a.ins,AA a.move,Ax a.dels,Ai a.layers]),(75,Ax a.dels),(76,AA a.dels.length),(77,AA i),(12,AA i),(13,.iptr [AA x.rev,AA x.move]),(82,.bool (!F))] H n ?_ (λm d=>?_)
       . by_cases u:x.rev∈K.m2
         . have e:F=true:=by rw[KL];simp[u]
           obtain⟨j,f,_⟩:=Da 0 u;simp[go_sem,IO,hp,h2,f,Cc,d,e]
           repeat first|refine nq ?_|refine sq ?_|refine aq ?_
           first|exact(nd (by kernel_rfl) trivial).1|exact(sd (by kernel_rfl) trivial).1
         . have e:F=false:=by rw[KL];simp[u]
           have f:=ET 0 u;simp[go_sem,IO,hp,h2,f,Cc,d,e]
           repeat first|refine nq ?_|refine sq ?_|refine aq ?_
           first|exact(nd (by kernel_rfl) trivial).1|exact(sd (by kernel_rfl) trivial).1
       cases F with
       | false=>exact AJ (by simp[go_sem];exact D 22 _ (by decide) (by rw[A];rfl))
       | true=>
       refine Au (b:=false) (by simp[go_sem]) ?_;simp only[qn,Bool.true_eq_false,if_false]at A ⊢;refine Aa 0 [(3,.iptr [.ptr K.p 0]),(4,.iptr [AA el]),(11,.iptr [AA a.ins,AA a.move,Ax a.dels,Ai a.layers]),(75,Ax a.dels),(76,AA a.dels.length),(77,AA i),(13,.iptr [AA x.rev,AA x.move]),(91,.bool G)] H n ?_ (λm d=>?_)
       . by_cases l:0<i
         . have I:i-1<a.dels.length:=by omega
           obtain⟨y,W⟩:∃y,a.dels[i-1]=y:=⟨_,rfl⟩
           have e:G=decide (x.rev<=y.rev):=by rw[TD];simp[l,List.getD,I,W]
           have w:IntKind.i64.wrap ((i:Int)-1)=((i-1:Nat):Int):=by rw[DA]<;>omega
           simp[go_sem,IO,l,w,I,W,Bs.enc,d,e]
           repeat first|refine nq ?_|refine sq ?_|refine aq ?_
           first|exact(nd (by kernel_rfl) trivial).1|exact(sd (by kernel_rfl) trivial).1
         . have e:G=false:=by rw[TD];simp[l]
           simp[go_sem,IO,l,d,e]
           repeat first|refine nq ?_|refine sq ?_|refine aq ?_
           first|exact(nd (by kernel_rfl) trivial).1|exact(sd (by kernel_rfl) trivial).1
       cases G with
       | true=>exact AJ (by simp[go_sem];exact D 6 _ (by decide) (by rw[A];rfl))
       | false=>
       refine Au (b:=false) (by simp[go_sem]) ?_;simp only[qn,if_false]at A ⊢;refine AJ ?_;simp[go_sem];refine(LW _ _ _).use ?_;by_cases c:0<=x.move/\x.move<=1073741824;rw[if_pos c]at A;simp[go_sem,IO,c,d,A];rw[if_neg c]at A;simp[go_sem,c];exact D 21 _ (by decide) A
     refine AJ ?_;simp[go_sem,w1,IO,-Int.natCast_add];exact⟨i+1,by omega,⟨by omega,d.1,by rw[CD,if_pos hI];exact d.2⟩,rfl⟩
   have:i=a.dels.length:=by omega
   subst this;refine AJ ?_;simp[go_sem,IO,d,hI]
 obtain⟨d,a3⟩:=d;rw[if_neg (by rw[a3];simp)]at h;refine Bg 0 [(3,.iptr [.ptr K.p 0]),(4,.iptr [AA el]),(11,.iptr [AA a.ins,AA a.move,Ax a.dels,Ai a.layers])] H (λm=>n<=m/\a.layers.length<=64) (AJ ?_) (λm d=>?_);by_cases c:(64:Int)<a.layers.length;simp[go_sem,c];exact out 9 _ (by rw[h,if_pos (by omega)]);simp[go_sem,c,IO,d];omega;obtain⟨d,hll⟩:=d;rw[if_neg (by omega)]at h;refine AJ ?_;simp[go_sem];refine qP (cE B s a.layers.length (by omega) 158 [] [.iptr [.ptr K.p 0],.iptr [AA el],.iptr [AA a.ins,AA a.move,Ax a.dels,Ai a.layers]] (Jr K el a.layers) (λi M n2 hi Q S=>fI B s el a.ins a.move (Ax a.dels) a.layers (by omega) i hi Q S) (H:=H) (n:=m) (by omega) R) ?_;rw[<-h];rintro v X n' ⟨rfl,rfl,rfl⟩;simp[go_sem];exact out _ _ rfl
end
def Ml (x:AB):Int:=if x.kind=1 then(if A5 x.text then Ar x.text x.text.size else 0)else 1
def Oz:Nat->List AB->Int
 | 0,_=>0
 | N+1,l=>(l.map λx=>Ml x+if x.kind=6 then Oz N x.flow else if x.kind=7 then(x.rows.map λr=>(r.cells.map λc=>Oz N c.flow).sum).sum else 0).sum
def Vm (N:Nat) (r:AP):Int:=(r.cells.map λc=>Oz N c.flow).sum
def Ql (N:Nat) (x:AB):Int:=Ml x+if x.kind=6 then Oz N x.flow else if x.kind=7 then(x.rows.map (Vm N)).sum else 0
theorem SR (N:Nat) (l:List AB):Oz (N+1) l=(l.map (Ql N)).sum:=rfl
def gN (K:Ck):Nat->BN->List AB->Prop
 | 0,_,_=>True
 | N+1,pl,l=>∀x∈l,G7 x=0/\(x.kind=3->pl.body=true)/\(x.kind=6->pl.note=false)/\(x.kind=7->pl.tables<4)/\(x.kind=8->1<=x.id/\x.id<=1073741824)/\EV K x.kind x.head=0/\
  (x.kind=6->gN K N ⟨false,true,pl.tables⟩ x.flow)/\
  (x.kind=7->x.rows≠[]/\x.rows.length<=256/\∀r∈x.rows,EV K 9 r.head=0/\r.cells≠[]/\r.cells.length<=32/\∀c∈r.cells,EV K 10 c.head=0/\gN K N ⟨false,pl.note,IntKind.i64.wrap (pl.tables+1)⟩ c.flow)
def gC (K:Ck) (N:Nat) (pl:BN) (c:AH):Prop:=EV K 10 c.head=0/\gN K N pl c.flow
def aA (K:Ck) (N:Nat) (pl:BN) (r:AP):Prop:=EV K 9 r.head=0/\r.cells≠[]/\r.cells.length<=32/\∀c∈r.cells,gC K N pl c
def d8 (K:Ck) (N:Nat) (pl:BN) (l:List AP):Prop:=l≠[]/\l.length<=256/\∀r∈l,aA K N pl r
def gI (K:Ck) (N:Nat) (pl:BN) (x:AB):Prop:=G7 x=0/\(x.kind=3->pl.body=true)/\(x.kind=6->pl.note=false)/\(x.kind=7->pl.tables<4)/\(x.kind=8->1<=x.id/\x.id<=1073741824)/\EV K x.kind x.head=0/\
 (x.kind=6->gN K N ⟨false,true,pl.tables⟩ x.flow)/\(x.kind=7->d8 K N ⟨false,pl.note,IntKind.i64.wrap (pl.tables+1)⟩ x.rows)
theorem YQ (K:Ck) (N:Nat) (a:BN) (l:List AB):gN K (N+1) a l↔∀x∈l,gI K N a x:=Iff.rfl
def CX (a ids:List Int):Prop:=(∀i∈ids,1<=i/\i<=1073741824/\i∉a)/\ids.Nodup
theorem E9 (a:List Int):CX a []:=⟨by simp,List.nodup_nil⟩
theorem CH {a x y:List Int}:CX a (x++y)↔CX a x/\CX (a++x) y:=by
 unfold CX;rw[List.nodup_append];constructor;rintro⟨h1,h2,b,f⟩;refine⟨⟨λi hi=>h1 i (qD _ hi),h2⟩,λi hi=>?_,b⟩;obtain⟨b1,c,d⟩:=h1 i (qB _ hi);refine⟨b1,c,λg=>?_⟩;rcases qd.1 g with g|g;exact d g;exact f i g i hi rfl;rintro⟨⟨h1,h2⟩,b,f⟩;refine⟨λi hi=>?_,h2,f,λi hi j h e=>?_⟩;rcases qd.1 hi with g|g;exact h1 i g;obtain⟨b1,c,d⟩:=b i g;exact⟨b1,c,λq=>d (qD _ q)⟩;subst e;exact(b i h).2.2 (qB _ hi)
theorem IG {a:List Int} {i:Int}:CX a [i]↔1<=i/\i<=1073741824/\i∉a:=by simp[CX]
structure Dh (s:GR) (ids:List Int) (u:Int) (s':GR):Prop where
 ids:s'.1=s.1++ids
 rg:IntKind.i64.wrap s.2=s.2->IntKind.i64.wrap s'.2=s'.2
 un:IntKind.i64.wrap s'.2=IntKind.i64.wrap (s.2+u)
theorem Dh.nil (s:GR):Dh s [] 0 s:=⟨by simp,id,by rw[Int.add_zero]⟩
theorem Dh.trans {s s1 s2:GR} {a b:List Int} {u v:Int} (h:Dh s a u s1) (g:Dh s1 b v s2):Dh s (a++b) (u+v) s2:=
 ⟨by rw[g.ids,h.ids,qj],λr=>g.rg (h.rg r),by have h1:=h.un;have h2:=g.un;rw[IntKind.wrap_i64,IntKind.wrap_i64]at h1 h2 ⊢;omega⟩
theorem Dh.to {s c:GR} {a b:List Int} {u v:Int} (h:Dh s a u c) (e:a=b) (f:u=v):Dh s b v c:=by subst e;subst f;exact h
theorem Qe (x:Int):IntKind.i64.wrap (IntKind.i64.wrap x)=IntKind.i64.wrap x:=by simp only[IntKind.wrap_i64];omega
def WV (s:GR) (ids:List Int) (u:Int) (G:Prop) (e:Int) (s':GR):Prop:=(e=0->G/\CX s.1 ids/\Dh s ids u s')/\(e≠0->¬(G/\CX s.1 ids))
def exU (X:GR->Prop) (B:Prop) (e:Int) (s':GR):Prop:=(e=0->X s')/\(e≠0->B)
section
variable {K : Ck} {n0 : Nat}
set_option maxHeartbeats 1000000 in
theorem WI (a:K.ok n0) (s:GR) (id:Int) {H:Hp} {n:Nat} (hn:n0<=n) (c:∀o y,K.st s o=some y->H o=some y):
 BL Tryz.prog 223 [.ptr K.p 0,AA id] H n (CQ K (WV s [id] 0 True) H n):=by
 refine gq Tryz.func223 rfl λi=>?_;obtain⟨hp,h0,h1,h2,d,h⟩:=a.has c;have no:∀(e:Int) (m:Nat),e≠0->¬CX s.1 [id]->CO n H m (AA e) (CQ K (WV s [id] 0 True) H n):=λe m k l=>a.no hn i s c e ⟨λg=>absurd g k,λ_ g=>l g.2⟩ AC;simp only[Ck.cells]at hp;by_cases r:1<=id/\id<=1073741824;have f4:DT (AA id) [] 0=some none:=rfl;by_cases b:id∈s.1;obtain⟨j,f,_⟩:=Da 0 b;simp[go_sem];refine(LW _ _ _).use ?_;simp[go_sem,r,hp,h,d,f,Cc];exact no 7 _ (by decide) (λg=>(IG.1 g).2.2 b);have f:=ET 0 b;simp[go_sem];refine(LW _ _ _).use ?_;simp[go_sem,r,hp,h,d,f,Cc];refine a.ret hn i 0 (s.1++[id],s.2) ⟨λ_=>⟨trivial,IG.2 ⟨r.1,r.2,b⟩,⟨rfl,λq=>q,by rw[Int.add_zero]⟩⟩,λg=>absurd rfl g⟩ ?_;rw[a.up_ids s _ c,Nv];exact AC;simp[go_sem];refine(LW _ _ _).use ?_;simp[go_sem,r];exact no 18 _ (by decide) (λg=>r ⟨(IG.1 g).1,(IG.1 g).2.1⟩)
theorem cF (h:K.ok n0) (N:Nat) (hN:N<=1048576) (g:FuncId) (a b:List SV) (I:Nat->GR->Prop) (B:Prop)
 (step:∀i c H n,i<N->I i c->n0<=n->(∀o y,K.st c o=some y->H o=some y)->BL Tryz.prog g (a++[AA i]++b) H n (CQ K (exU (I (i+1)) B) H n))
 (s:GR) (h0:I 0 s) {H:Hp} {n:Nat} (hn:n0<=n) (p:∀o y,K.st s o=some y->H o=some y):
 BL Tryz.prog 150 [AA N,.fn (.func g) a b] H n (CQ K (exU (I N) B) H n):=by
 have D:=h.clo;refine gq Tryz.func150 rfl λl=>?_;simp[go_sem];refine Av 0 (α:=Nat×GR) (λq=>[(1,.fn (.func g) a b),(7,AA N),(8,AA q.1)]) (λq=>BD K.st q.2 H) (λq m=>q.1<=N/\n<=m/\I q.1 q.2) (λq=>N-q.1) (0,s) ?_ ?_ ?_ ?_;exact⟨qg _,qa _,h0⟩;simp[Ao,Fz];rw[Fq s H p];exact AC;rintro⟨i,c⟩ m ⟨hi,j,hI⟩;dsimp only at hi hI ⊢;by_cases d:i<N;have w1:=wS i (by omega);have hc:=step i c (BD K.st c H) m d hI (by omega) Cl;simp only[qj,qx,qE]at hc;simp[go_sem,d];refine qP hc ?_;rintro v H' n' ⟨e,s2,rfl,k,rfl,rfl⟩;rw[D.up2];by_cases f:e=0;subst f;simp[go_sem,w1,-Int.natCast_add];exact⟨i+1,by omega,s2.1,s2.2,⟨by omega,j,k.1 rfl⟩,rfl,AC⟩;simp[go_sem,f];exact h.ret hn l e s2 ⟨λg=>absurd g f,λg=>k.2 g⟩ AC;have:i=N:=by omega
 subst this;simp[go_sem];exact h.ret hn l 0 c ⟨λ_=>hI,λg=>absurd rfl g⟩ AC
def Vq (K:Ck) (n0:Nat) (N:Nat) (x:AB):Prop:=∀(s:GR) (pl:BN) (H:Hp) (n:Nat),n0<=n->(∀o y,K.st s o=some y->H o=some y)->
 BL Tryz.prog 161 [.ptr K.p 0,x.enc,pl.enc] H n (CQ K (WV s (GT N x) (Ql N x) (gI K N pl x)) H n)
def Pp (K:Ck) (n0:Nat) (N:Nat) (l:List AB):Prop:=∀(s:GR) (pl:BN) (H:Hp) (n:Nat),n0<=n->(∀o y,K.st s o=some y->H o=some y)->
 BL Tryz.prog 88 [.ptr K.p 0,AK l,pl.enc] H n (CQ K (WV s (GU N l) (Oz N l) (gN K N pl l)) H n)
theorem cG (c:K.ok n0) (N:Nat) (l:List AB) (i:Nat) (hi:i<l.length) (h:Vq K n0 N l[i]) (s:GR) (a:BN) {H:Hp} {n:Nat} (hn:n0<=n) (j:∀o y,K.st s o=some y->H o=some y):
 BL Tryz.prog 160 [AA i,.iptr [.ptr K.p 0],.iptr [AK l],.iptr [.bool a.body,.bool a.note,AA a.tables]] H n (CQ K (WV s (GT N l[i]) (Ql N l[i]) (gI K N a l[i])) H n):=by
 refine DO Tryz.func160 rfl λg=>?_;obtain⟨x,b⟩:∃x,l[i]=x:=⟨_,rfl⟩
 rw[b]at h ⊢;have hgx:(l.map AB.enc)[i]? = some x.enc:=by simp[hi,b]
 have D:=c.clo;refine Aa 0 [(0,AA i),(1,.iptr [.ptr K.p 0]),(2,.iptr [AK l]),(3,.iptr [.bool a.body,.bool a.note,AA a.tables])] H n ?_ (λm d=>?_);simp[go_sem,IO];refine AX 0 (α:=Int×GR) (λq=>[(5,AA q.1)]) (λq=>BD K.st q.2 H) (λq m=>n<=m/\WV s (GT N x) (Ql N x) (gI K N a x) q.1 q.2) (CK trP rfl (by kernel_rfl) (by kernel_rfl) ?_) (λq m d=>?_);have hc:=h s a H m (by omega) j;simp only[qw,BN.enc]at hc;simp[go_sem,trP,hi,b,qw];refine qP hc ?_;rintro v H' n' ⟨e,s2,rfl,f,rfl,rfl⟩;simp[go_sem];exact⟨e,s2.1,s2.2,⟨by omega,f⟩,IO,AC⟩;refine AJ ?_;simp[go_sem];exact c.ret hn g q.1 q.2 d.2 AC
theorem ir (f:K.ok n0) (N:Nat) (l:List AB) (hl:l.length<=1048576) (h:∀x∈l,Vq K n0 N x):Pp K n0 (N+1) l:=λs b H n hn B=>by
 refine DO Tryz.func88 rfl λt=>?_;have a:=t.lt;refine Aa 1 [(3,.iptr [.ptr K.p 0]),(4,.iptr [AK l]),(5,.iptr [.bool b.body,.bool b.note,AA b.tables])] H n ?_ (λm hm=>?_);simp[go_sem,BN.enc,qu];refine⟨⟨AZ (AS a (by omega)) (by simp[hset]),AZ (AS a (by omega)) (by simp[hset]),AZ (AS a (by omega)) (by simp[hset])⟩,λj y=>?_⟩;have:=a j y;simp only[hset];grind;have A:=cF f l.length hl 160 [] [.iptr [.ptr K.p 0],.iptr [AK l],.iptr [.bool b.body,.bool b.note,AA b.tables]]
  (λi q=>Dh s ((l.take i).flatMap (GT N)) ((l.take i).map (Ql N)).sum q/\CX s.1 ((l.take i).flatMap (GT N))/\∀x∈l.take i,gI K N b x) (¬(gN K (N+1) b l/\CX s.1 (GU (N+1) l))) (λi q H2 n2 hi hI g k=>by
  refine(cG f N l i hi (h _ (qi hi)) q b g k).mono ?_;rintro v h' n' ⟨e,s2,rfl,d,rfl,rfl⟩;obtain⟨o,C,D⟩:=hI;have w:l.take (i+1)=l.take i++[l[i]]:=qb hi;refine⟨e,s2,rfl,⟨λc=>?_,λc hg=>d.2 c ⟨(YQ ..).1 hg.1 _ (qi hi),?_⟩⟩,rfl,rfl⟩;obtain⟨h1,h2,z⟩:=d.1 c;rw[o.ids]at h2;refine⟨(o.trans z).to (Eo _ _ _ hi).symm (by rw[w,qc,List.sum_append];simp),by rw[Eo _ _ _ hi];exact CH.2 ⟨C,h2⟩,λx u=>?_⟩;rw[w]at u;exact Eu D h1 x u;have r:=hg.2;rw[JW,<-qM (i+1) l,ko,Eo _ _ _ hi,qj]at r;rw[o.ids];exact(CH.1 (CH.1 r).2).1) s ⟨Dh.nil s,E9 _,by simp⟩ (H:=H) (n:=m) (by omega) B
 refine AJ ?_;simp[go_sem];refine qP A ?_;rintro v H' n' ⟨e,s2,rfl,d,rfl,rfl⟩;simp[go_sem];refine f.ret hn t e s2 ⟨λc=>?_,d.2⟩ AC;have:=d.1 c;rw[qm]at this;exact⟨this.2.2,this.2.1,this.1⟩
end
structure aM (pl:BN) (x:AB):Prop where
 g3:x.kind=3->pl.body=true
 g6:x.kind=6->pl.note=false
 g7:x.kind=7->pl.tables<4
 g8:x.kind=8->1<=x.id/\x.id<=1073741824
theorem Dh.one {s:GR} {c u:Int} (hc:IntKind.i64.wrap c=IntKind.i64.wrap (s.2+u)) (a:IntKind.i64.wrap c=c):Dh s [] u (s.1,c):=⟨by simp,λ_=>a,hc⟩
section
variable {K : Ck} {n0 : Nat}
def Y5 (K:Ck) (n0:Nat) (N:Nat) (l:List AP):Prop:=∀(s:GR) (pl:BN) (H:Hp) (n:Nat),n0<=n->(∀o y,K.st s o=some y->H o=some y)->
 BL Tryz.prog 224 [.ptr K.p 0,Aw l,pl.enc] H n (CQ K (WV s (l.flatMap (Io N)) (l.map (Vm N)).sum (d8 K N pl l)) H n)
set_option maxHeartbeats 4000000 in
theorem cH (t:K.ok n0) (N:Nat) (x:AB) (hx:x.sized) (hfl:Pp K n0 N x.flow) (hrw:Y5 K n0 N x.rows):Vq K n0 N x:=λs l H n hn hs=>by
 refine DO Tryz.func161 rfl λQ=>?_;have D:=t.clo;have hKp:K.p<n:=by have:=t.lt K.p (by simp);omega
 have hU:∀f,Gm (BD K.st f H) n:=λf=>D.old f hn Q;have S:∀f j y,BD K.st f H j=some y->j<n:=λf j y e=>(hU f j y e).1;have V:∀f,BD K.st f H K.p=some (.cells [.map K.s0,.map K.s1,.map K.s2,.map K.s3,.map K.s4,AA f.2]):=λf=>(t.has (s:=f) Cl).p;have U:∀(q:GR) b,hset (BD K.st q H) K.p (some (.cells [.map K.s0,.map K.s1,.map K.s2,.map K.s3,.map K.s4,AA b]))=BD K.st (q.1,b) H:=λq b=>by rw[<-D.up2 q (q.1,b) H,t.up_cnt q b Cl];rfl
 obtain⟨c,hc⟩:∃c,c=IntKind.i64.wrap (s.2+1):=⟨_,rfl⟩
 have A:Dh s [] 1 (s.1,c):=Dh.one (by rw[hc,Qe]) (by rw[hc,Qe]);have no:∀(e:Int) (f:GR) (m:Nat),e≠0->¬(gI K N l x/\CX s.1 (GT N x))->CO n (BD K.st f H) m (AA e) (CQ K (WV s (GT N x) (Ql N x) (gI K N l x)) H n):=λe f m w hb=>t.ret hn Q e f ⟨λg=>absurd g w,λ_=>hb⟩ AC;have F:∀(e:Int) (f:GR) (m:Nat),e≠0->¬aM l x->CO n (BD K.st f H) m (AA e) (CQ K (WV s (GT N x) (Ql N x) (gI K N l x)) H n):=λe f m w hb=>no e f m w λg=>hb ⟨g.1.2.1,g.1.2.2.1,g.1.2.2.2.1,g.1.2.2.2.2.1⟩;have W:∀(e:Int) (f:GR) (m:Nat),e≠0->(x.kind=6\/x.kind=7)->¬CX s.1 [x.id]->CO n (BD K.st f H) m (AA e) (CQ K (WV s (GT N x) (Ql N x) (gI K N l x)) H n):=λe f m w I hb=>no e f m w λg=>hb (by
  have h2:=g.2;unfold GT at h2;rcases I with k|k;rw[if_pos k]at h2;exact(CH (x:=[x.id])).1 h2 |>.1;rw[if_neg (by omega),if_pos k]at h2;exact(CH (x:=[x.id])).1 h2 |>.1)
 obtain⟨X,C⟩:∃X:SV,X=.iptr [AA x.kind,AA x.code,AA x.id,.str x.text,AU x.head.props,AA x.head.ins,AA x.head.move,Ax x.head.dels,Ai x.head.layers,AK x.flow,Aw x.rows]:=⟨_,rfl⟩
 obtain⟨Y,P⟩:∃Y:SV,Y=.iptr [.bool l.body,.bool l.note,AA l.tables]:=⟨_,rfl⟩
 refine Aa 1 [(0,.ptr K.p 0),(4,X),(5,Y)] (BD K.st s H) n ?_ (λm i=>?_);rw[Fq s H hs,C,P];have M:=Q.lt;simp[go_sem,IO,BN.enc,qw];refine⟨by omega,⟨AZ (AS M (by omega)) (by simp[hset]),AZ (AS M (by omega)) (by simp[hset])⟩,λj y=>?_⟩;have:=M j y;simp only[hset];grind;refine Bg 0 [(0,.ptr K.p 0),(4,X),(5,Y)] (BD K.st s H) (λm=>n<=m/\G7 x=0) (AJ ?_) (λm i=>?_);rw[C];simp[go_sem];refine qz (by simpa[qw]using fj x hx) ?_;obtain⟨e,w⟩:∃e,G7 x=e:=⟨_,rfl⟩
 rw[w];by_cases a:e=0;simp[go_sem,a,IO,i];simp[go_sem,a];exact no e s _ a λg=>a (by rw[<-w];exact g.1.1);obtain⟨i,o⟩:=i;refine Aa 0 [(0,.ptr K.p 0),(4,X),(5,Y)] (BD K.st (s.1,c) H) n ?_ (λm i=>?_);simp[go_sem,V,IO,i];rw[<-hc,Fq s H hs,t.up_cnt s _ hs];exact AC;refine AX 0 (α:=GR) (λ_=>[(0,.ptr K.p 0),(4,X),(5,Y)]) (λq=>BD K.st q H) (λq m=>n<=m/\Dh s (EB x) (Ml x) q/\CX s.1 (EB x)/\aM l x) ?_ (λq m i=>?_)
 . refine Aa 0 [(0,.ptr K.p 0),(4,X),(5,Y),(27,AA x.kind)] (BD K.st (s.1,c) H) n ?_ (λm i=>?_);rw[C];simp[go_sem,IO,i];refine AY (AJ ?_);by_cases k1:x.kind=1;have G:EB x=[]:=by simp[EB,k1]
   have og:aM l x:=⟨λg=>by omega,λg=>by omega,λg=>by omega,λg=>by omega⟩
   obtain⟨J,T⟩:∃J:Int,J=if A5 x.text=true then((Ar x.text x.text.size:Nat):Int)else 0:=⟨_,rfl⟩
   have E:Ml x=J:=by rw[Ml,if_pos k1,T]
   rw[G,C,E];simp[go_sem,k1];refine(ba x.text (by have:=(EY hx).2.1;omega)).use ?_;simp[go_sem,V,IO];rw[U];refine⟨s.1,_,⟨i,?_,E9 _,og⟩,AC⟩;exact Dh.one (by rw[hc,<-T];simp only[IntKind.wrap_i64];omega) (Qe _)
   . by_cases k3:x.kind=3;have G:EB x=[]:=by simp[EB,k3]
     have E:Ml x=1:=by rw[Ml,if_neg (by omega)]
     rw[G,C,P,E];cases hb:l.body with
     | true=>
      simp[go_sem,k3,IO];exact⟨s.1,_,⟨i,A,E9 _,⟨λ_=>hb,λg=>by omega,λg=>by omega,λg=>by omega⟩⟩,AC⟩
     | false=>
      simp[go_sem,k3];exact F 19 _ _ (by decide) (λg=>by have:=g.g3 k3;rw[hb]at this;cases this)
     . by_cases k6:x.kind=6
       . have G:EB x=[x.id]:=by simp[EB,k6]
         have E:Ml x=1:=by rw[Ml,if_neg (by omega)]
         rw[G,C,P,E];simp[go_sem,k6];refine(Ki _ _).use ?_;simp[go_sem];refine wn (bs:=[.imm 1 ([if l.note then(19:Int)else 0].map AA) false]) (h2:=BD K.st (s.1,c) H) 1 (AL (λj z e=>by have:=S _ j z e;omega) AC) ⟨?_,trivial⟩ ?_;exact Cz (es:=[AA (if l.note then(19:Int)else 0)]) (AS (S _) i) (by simp) (by rw[AD];simp[SV.cells]) (by simp[SV.storable,SV.cells]);refine(Sa _ (by simp)).use ?_;cases hb:l.note with
         | true=>simp[go_sem,Bc];exact F 19 _ _ (by decide) (λg=>by have:=g.g6 k6;rw[hb]at this;cases this)
         | false=>
         simp[go_sem,Bc];refine qP (WI t (s.1,c) x.id (by omega) Cl) ?_;rintro v Z n' ⟨e,s2,rfl,u,rfl,rfl⟩;rw[D.up2];by_cases a:e=0;obtain⟨_,h2,L⟩:=u.1 a;simp[go_sem,a,IO];exact⟨s2.1,s2.2,⟨by omega,(A.trans L).to rfl rfl,h2,⟨λg=>by omega,λ_=>hb,λg=>by omega,λg=>by omega⟩⟩,AC⟩;simp[go_sem,a];exact W e _ _ a (.inl k6) (λg=>u.2 a ⟨trivial,g⟩)
       by_cases k7:x.kind=7;have G:EB x=[x.id]:=by simp[EB,k7]
       have E:Ml x=1:=by rw[Ml,if_neg (by omega)]
       rw[G,C,P,E];by_cases tb:4<=l.tables;simp[go_sem,k7,tb];exact F 17 _ _ (by decide) (λg=>by have:=g.g7 k7;omega);simp[go_sem,k7,tb];refine qP (WI t (s.1,c) x.id (by omega) Cl) ?_;rintro v Z n' ⟨e,s2,rfl,u,rfl,rfl⟩;rw[D.up2];by_cases a:e=0;obtain⟨_,h2,L⟩:=u.1 a;simp[go_sem,a,IO];exact⟨s2.1,s2.2,⟨by omega,(A.trans L).to rfl rfl,h2,⟨λg=>by omega,λg=>by omega,λ_=>by omega,λg=>by omega⟩⟩,AC⟩;simp[go_sem,a];exact W e _ _ a (.inr k7) (λg=>u.2 a ⟨trivial,g⟩);have G:EB x=[]:=by simp[EB,k6,k7]
       have E:Ml x=1:=by rw[Ml,if_neg (by omega)]
       rw[G,C,P,E];by_cases k8:x.kind=8;simp[go_sem,k8];refine(LW _ _ _).use ?_;by_cases c8:1<=x.id/\x.id<=1073741824;simp[go_sem,c8,IO];exact⟨s.1,_,⟨i,A,E9 _,⟨λg=>by omega,λg=>by omega,λg=>by omega,λ_=>c8⟩⟩,AC⟩;simp[go_sem,c8];exact F 18 _ _ (by decide) (λg=>c8 (g.g8 k8));simp[go_sem,k1,k3,k6,k7,k8,IO];exact⟨s.1,_,⟨i,A,E9 _,⟨λg=>by omega,λg=>by omega,λg=>by omega,λg=>by omega⟩⟩,AC⟩
 obtain⟨i,r,O,d⟩:=i;refine Bg 0 [(0,.ptr K.p 0),(4,X),(5,Y)] (BD K.st q H) (λm=>n<=m/\EV K x.kind x.head=0) (AJ ?_) (λm i=>?_);rw[C];simp[go_sem];refine qP (by simpa[AF.enc,AF.flat]using YG t q x.kind x.head (EY hx).1 (n:=m) (by omega) Cl) ?_;obtain⟨e,w⟩:∃e,EV K x.kind x.head=e:=⟨_,rfl⟩
 rw[w];rintro v Z n' ⟨rfl,rfl,rfl⟩;by_cases a:e=0;simp[go_sem,a,IO,i];simp[go_sem,a];exact no e _ _ a λg=>a (by rw[<-w];exact g.1.2.2.2.2.2.1);obtain⟨i,hh⟩:=i;refine Bg 0 [] (BD K.st q H) (λm=>x.kind≠6/\x.kind≠7) (AJ ?_) (λm I=>?_);rw[C,P];by_cases k6:x.kind=6;simp[go_sem,k6];refine qP (by simpa[BN.enc]using hfl q ⟨false,true,l.tables⟩ (BD K.st q H) m (by omega) Cl) ?_;rintro v Z n' ⟨e,s2,rfl,u,rfl,rfl⟩;rw[D.up2];simp[go_sem];have B:GT N x=EB x++GU N x.flow:=by simp[EB,GT,k6]
 have R:Ql N x=Ml x+Oz N x.flow:=by simp[Ql,k6]
 refine t.ret hn Q e s2 ⟨λa=>?_,λa g=>u.2 a ⟨g.1.2.2.2.2.2.2.1 k6,?_⟩⟩ AC;obtain⟨h1,h2,L⟩:=u.1 a;rw[r.ids]at h2;exact⟨⟨o,d.g3,d.g6,d.g7,d.g8,hh,λ_=>h1,λh=>absurd h (by omega)⟩,by rw[B];exact CH.2 ⟨O,h2⟩,(r.trans L).to B.symm R.symm⟩;have h2:=g.2;rw[B]at h2;rw[r.ids];exact(CH.1 h2).2;by_cases k7:x.kind=7;simp[go_sem,k7];refine qP (by simpa[BN.enc]using hrw q ⟨false,l.note,IntKind.i64.wrap (l.tables+1)⟩ (BD K.st q H) m (by omega) Cl) ?_;rintro v Z n' ⟨e,s2,rfl,u,rfl,rfl⟩;rw[D.up2];simp[go_sem];have B:GT N x=EB x++x.rows.flatMap (Io N):=by simp[EB,GT,k7]
 have R:Ql N x=Ml x+(x.rows.map (Vm N)).sum:=by simp[Ql,k7]
 refine t.ret hn Q e s2 ⟨λa=>?_,λa g=>u.2 a ⟨g.1.2.2.2.2.2.2.2 k7,?_⟩⟩ AC;obtain⟨h1,h2,L⟩:=u.1 a;rw[r.ids]at h2;exact⟨⟨o,d.g3,d.g6,d.g7,d.g8,hh,λh=>absurd h (by omega),λ_=>h1⟩,by rw[B];exact CH.2 ⟨O,h2⟩,(r.trans L).to B.symm R.symm⟩;have h2:=g.2;rw[B]at h2;rw[r.ids];exact(CH.1 h2).2;simp[go_sem,k6,k7];refine AJ ?_;simp[go_sem];have B:GT N x=EB x:=by simp[EB,GT,I.1,I.2]
 have R:Ql N x=Ml x:=by simp[Ql,I.1,I.2]
 exact t.ret hn Q 0 q ⟨λ_=>⟨⟨o,d.g3,d.g6,d.g7,d.g8,hh,λh=>absurd h I.1,λh=>absurd h I.2⟩,by rw[B];exact O,r.to B.symm R.symm⟩,λg=>absurd rfl g⟩ AC
end
section
variable {K : Ck} {n0 : Nat}
def eE (N:Nat) (c:AH):Int:=Oz N c.flow
theorem P5 {a b c:Int}:Bc [a,b,c]=0↔a=0/\b=0/\c=0:=by
 simp only[Bc];by_cases d:a=0<;>by_cases hb:b=0<;>by_cases hc:c=0<;>simp[d,hb,hc]
theorem ML {α:Type} {f:α->List Int} {l:List α} {a:List Int} {i:Nat} (hi:i<l.length) (h:CX a (l.flatMap f)):CX (a++(l.take i).flatMap f) (f l[i]):=by
 rw[<-qM (i+1) l,ko,Eo _ _ _ hi,qj]at h;exact(CH.1 (CH.1 h).2).1
theorem SJ {α:Type} (f:α->Int) (l:List α) {i:Nat} (hi:i<l.length):((l.take (i+1)).map f).sum=((l.take i).map f).sum+f l[i]:=by
 rw[qb hi,qc,List.sum_append];simp
set_option maxHeartbeats 4000000 in
theorem cJ (hK:K.ok n0) (N:Nat) (l:List AP) (hl:l.length<=1048576) (hr:∀r∈l,r.head.sized/\r.cells.length<=1048576/\∀c∈r.cells,c.head.sized/\Pp K n0 N c.flow):Y5 K n0 N l:=λs pl H n hn hs=>by
 refine DO Tryz.func224 rfl λho=>?_;have D:=hK.clo;have hU:∀s',Gm (BD K.st s' H) n:=λs'=>D.old s' hn ho;have hUb:∀s' j y,BD K.st s' H j=some y->j<n:=λs' j y e=>(hU s' j y e).1;obtain⟨T,hT⟩:∃T,T=WV s (l.flatMap (Io N)) (l.map (Vm N)).sum (d8 K N pl l):=⟨_,rfl⟩
 rw[<-hT];have no:∀(e:Int) (s':GR) (m:Nat),e≠0->¬(d8 K N pl l/\CX s.1 (l.flatMap (Io N)))->CO n (BD K.st s' H) m (AA e) (CQ K T H n):=λe s' m he hb=>hK.ret hn ho e s' (by rw[hT];exact⟨λg=>absurd g he,λ_=>hb⟩) AC;refine Aa 1 [(0,.ptr K.p 0),(1,Aw l),(5,.iptr [.bool pl.body,.bool pl.note,AA pl.tables])] (BD K.st s H) n ?_ (λm hm=>?_);rw[Fq s H hs];have hHb:=ho.lt;simp[go_sem,IO,BN.enc];exact⟨AZ (AS hHb (by omega)) (by simp[hset]),AL hHb AC⟩;refine Bg 0 [(0,.ptr K.p 0),(1,Aw l),(5,.iptr [.bool pl.body,.bool pl.note,AA pl.tables])] (BD K.st s H) (λm=>n<=m/\l≠[]) (AJ ?_) (λm hm=>?_);by_cases c:l=[];simp[go_sem,c];exact no 11 _ _ (by decide) (λg=>g.1.1 c);simp[go_sem,c,IO,hm];obtain⟨hm,hne⟩:=hm;refine Bg 0 [(0,.ptr K.p 0),(1,Aw l),(5,.iptr [.bool pl.body,.bool pl.note,AA pl.tables])] (BD K.st s H) (λm=>n<=m/\l.length<=256) (AJ ?_) (λm hm=>?_);by_cases c:(256:Int)<l.length;simp[go_sem,c];exact no 9 _ _ (by decide) (λg=>by have:=g.1.2.1;omega);simp[go_sem,c,IO,hm];omega;obtain⟨hm,hle⟩:=hm;refine AX 0 (α:=GR) (λ_=>[]) (λq=>BD K.st q H) (λq m=>n<=m/\Dh s (l.flatMap (Io N)) (l.map (Vm N)).sum q/\CX s.1 (l.flatMap (Io N))/\∀r∈l,aA K N pl r) ?_ (λq m hm=>?_)
 . refine Aa 0 [(0,.ptr K.p 0),(5,.iptr [.bool pl.body,.bool pl.note,AA pl.tables]),(21,Aw l),(22,AA l.length),(23,AA 0)] (BD K.st s H) n ?_ (λm hm=>?_);simp[go_sem,IO,hm];refine AY (BT 0 (α:=Nat×GR) (λq=>[(0,.ptr K.p 0),(5,.iptr [.bool pl.body,.bool pl.note,AA pl.tables]),(21,Aw l),(22,AA l.length),(23,AA q.1)]) (λq=>BD K.st q.2 H) (λq m=>q.1<=l.length/\n<=m/\Dh s ((l.take q.1).flatMap (Io N)) ((l.take q.1).map (Vm N)).sum q.2/\CX s.1 ((l.take q.1).flatMap (Io N))/\∀r∈l.take q.1,aA K N pl r) (λq=>l.length-q.1) (0,s) ⟨qg _,hm,Dh.nil s,E9 _,by simp⟩ ?_ AC ?_);simp[go_sem,Ao,IO];rintro⟨i,s1⟩ m ⟨hi,hm,hmo,hfr,hok⟩;dsimp only at hi hmo hfr hok ⊢;by_cases hlt:i<l.length
   . obtain⟨x,hx⟩:∃x,l[i]=x:=⟨_,rfl⟩
     have hxm:x∈l:=by rw[<-hx];exact qi hlt
     obtain⟨x1,x2,x3⟩:=hr x hxm;have hgx:(l.map AP.enc)[i]? = some x.enc:=by simp[hlt,hx]
     have w1:=wS i (by omega);have tk:=Eo (Io N) l i hlt;have sk:=SJ (Vm N) l hlt;rw[hx]at tk sk;have noR:∀(e:Int) (s':GR) (m:Nat),e≠0->¬(aA K N pl x/\CX s1.1 (Io N x))->CO n (BD K.st s' H) m (AA e) (CQ K T H n):=λe s' m he hb=>no e s' m he λg=>hb ⟨g.1.2.2 x hxm,by
      have:=ML hlt g.2;rw[hx]at this;rw[hmo.ids];exact this⟩
     have tl:l.take (i+1)=l.take i++[x]:=by rw[qb hlt,hx]
     refine Aa 0 [(0,.ptr K.p 0),(5,.iptr [.bool pl.body,.bool pl.note,AA pl.tables]),(21,Aw l),(22,AA l.length),(23,AA i),(24,.bool true)] (BD K.st s1 H) n ?_ (λm hm=>?_);simp[go_sem,IO,hm,hlt];refine Aa 0 [(0,.ptr K.p 0),(5,.iptr [.bool pl.body,.bool pl.note,AA pl.tables]),(21,Aw l),(22,AA l.length),(23,AA i)] (BD K.st s1 H) n ?_ (λm hm=>?_);simp[go_sem,IO,hm];refine AX 0 (α:=GR) (λ_=>[(0,.ptr K.p 0),(5,.iptr [.bool pl.body,.bool pl.note,AA pl.tables]),(21,Aw l),(22,AA l.length),(23,AA i)]) (λq=>BD K.st q H) (λq m=>n<=m/\Dh s1 (Io N x) (Vm N x) q/\CX s1.1 (Io N x)/\aA K N pl x) ?_ (λq m hm=>?_)
     . refine AY ?_;refine Aa 1 [(0,.ptr K.p 0),(5,.iptr [.bool pl.body,.bool pl.note,AA pl.tables]),(21,Aw l),(22,AA l.length),(23,AA i),(8,.iptr (x.head.flat++[BZ x.cells]))] (BD K.st s1 H) n ?_ (λm hm=>?_);simp[go_sem,IO,hlt,hx,kl,AF.flat,AD];have hHm:∀j y,BD K.st s1 H j=some y->j<m:=λj y e=>by have:=hUb _ j y e;omega
       exact⟨by omega,AZ (AS hHm (qa _)) (AD _ _ _),AL hHm (AL hHm AC)⟩;have hd:=YG hK s1 9 x.head x1 (H:=BD K.st s1 H) (n:=m) (by omega) Cl;obtain⟨e9,he9⟩:∃e9,EV K 9 x.head=e9:=⟨_,rfl⟩
       rw[he9]at hd;obtain⟨ef,hef⟩:∃ef,ef=Bc [e9,if x.cells=[]then(11:Int)else 0,if 32<(x.cells.length:Int)then(9:Int)else 0]:=⟨_,rfl⟩
       refine Bg 0 [(0,.ptr K.p 0),(5,.iptr [.bool pl.body,.bool pl.note,AA pl.tables]),(21,Aw l),(22,AA l.length),(23,AA i),(8,.iptr (x.head.flat++[BZ x.cells]))] (BD K.st s1 H) (λm=>n<=m/\e9=0/\x.cells≠[]/\x.cells.length<=32) ?_ (λm hm=>?_)
       . refine AX 0 (α:=Unit) (λ_=>[(0,.ptr K.p 0),(5,.iptr [.bool pl.body,.bool pl.note,AA pl.tables]),(21,Aw l),(22,AA l.length),(23,AA i),(8,.iptr (x.head.flat++[BZ x.cells])),(9,AA ef)]) (λ_=>BD K.st s1 H) (λ_ m=>n<=m) (CK da rfl (by kernel_rfl) (by kernel_rfl) ?_) (λ_ m hm=>?_);simp[go_sem,da,AF.flat];refine qP (by simpa[AF.enc,AF.flat]using hd) ?_;rintro v H' n' ⟨rfl,rfl,rfl⟩;simp[go_sem];refine(Ki _ _).use ?_;simp[go_sem];refine(Ki _ _).use ?_;simp[go_sem];generalize(if x.cells=[]then(11:Int)else 0)=ea at hef ⊢;generalize(if 32<(x.cells.length:Int)then(9:Int)else 0)=eb at hef ⊢;refine wn (bs:=[.imm 1 ([e9,ea,eb].map AA) false]) (h2:=BD K.st s1 H) 1 (AL (λj z e=>by have:=hUb s1 j z e;omega) AC) ⟨?_,trivial⟩ ?_;exact Cz (es:=[AA e9,AA ea,AA eb]) (AS (hUb s1) hm) (by simp) (by rw[AD];simp[SV.cells]) (by simp[SV.storable,SV.cells]);refine(Sa _ (by simp)).use ?_;rw[<-hef];simp[go_sem,IO];omega;have hz:=hef▸(P5 (a:=e9) (b:=if x.cells=[]then(11:Int)else 0) (c:=if 32<(x.cells.length:Int)then(9:Int)else 0));by_cases e80:ef=0
         case neg=>
          refine AJ ?_;simp[go_sem,e80];refine noR ef _ _ e80 λg=>e80 (hz.2 ⟨by rw[<-he9];exact g.1.1,if_neg g.1.2.1,if_neg (by have:=g.1.2.2.1;omega)⟩)
         obtain⟨z1,z2,z3⟩:=hz.1 e80;have z2':x.cells≠[]:=λg=>by rw[if_pos g]at z2;cases z2
         have z3':x.cells.length<=32:=by
          by_cases g:32<(x.cells.length:Int);rw[if_pos g]at z3;cases z3;omega
         rw[e80];exact AJ (by simp[go_sem,IO,hm,z1,z2',z3'])
       obtain⟨hm,hhd⟩:=hm;refine Aa 0 [(0,.ptr K.p 0),(5,.iptr [.bool pl.body,.bool pl.note,AA pl.tables]),(21,Aw l),(22,AA l.length),(23,AA i),(47,BZ x.cells),(48,AA x.cells.length),(49,AA 0)] (BD K.st s1 H) n ?_ (λm hm=>?_);simp[go_sem,IO,AF.flat,hm];refine AY (BT 0 (α:=Nat×GR) (λq=>[(0,.ptr K.p 0),(5,.iptr [.bool pl.body,.bool pl.note,AA pl.tables]),(21,Aw l),(22,AA l.length),(23,AA i),(47,BZ x.cells),(48,AA x.cells.length),(49,AA q.1)]) (λq=>BD K.st q.2 H) (λq m=>q.1<=x.cells.length/\n<=m/\Dh s1 ((x.cells.take q.1).flatMap (TE N)) ((x.cells.take q.1).map (eE N)).sum q.2/\CX s1.1 ((x.cells.take q.1).flatMap (TE N))/\∀c∈x.cells.take q.1,gC K N pl c) (λq=>x.cells.length-q.1) (0,s1) ⟨qg _,hm,Dh.nil s1,E9 _,by simp⟩ ?_ AC ?_);simp[go_sem,Ao,IO];rintro⟨j,s2⟩ m ⟨hj,hm,hmo2,hfr2,hok2⟩;dsimp only at hj hmo2 hfr2 hok2 ⊢;by_cases hjt:j<x.cells.length;obtain⟨y,hy⟩:∃y,x.cells[j]=y:=⟨_,rfl⟩
       have hym:y∈x.cells:=by rw[<-hy];exact qi hjt
       obtain⟨y1,y2⟩:=x3 y hym;have w2:=wS j (by omega);have tk2:=Eo (TE N) x.cells j hjt;have sk2:=SJ (eE N) x.cells hjt;rw[hy]at tk2 sk2;have noC:∀(e:Int) (s':GR) (m:Nat),e≠0->¬(gC K N pl y/\CX s2.1 (TE N y))->CO n (BD K.st s' H) m (AA e) (CQ K T H n):=λe s' m he hb=>noR e s' m he λg=>hb ⟨g.1.2.2.2 y hym,by
        have:=ML hjt (YS N x▸g.2);rw[hy]at this;rw[hmo2.ids];exact this⟩
       have tl2:x.cells.take (j+1)=x.cells.take j++[y]:=by rw[qb hjt,hy]
       refine Aa 0 [(0,.ptr K.p 0),(5,.iptr [.bool pl.body,.bool pl.note,AA pl.tables]),(21,Aw l),(22,AA l.length),(23,AA i),(47,BZ x.cells),(48,AA x.cells.length),(49,AA j),(50,.bool true)] (BD K.st s2 H) n ?_ (λm hm=>?_);simp[go_sem,IO,hm,hjt];refine Aa 0 [(0,.ptr K.p 0),(5,.iptr [.bool pl.body,.bool pl.note,AA pl.tables]),(21,Aw l),(22,AA l.length),(23,AA i),(47,BZ x.cells),(48,AA x.cells.length),(49,AA j)] (BD K.st s2 H) n ?_ (λm hm=>?_);simp[go_sem,IO,hm];refine AX 0 (α:=GR) (λ_=>[(0,.ptr K.p 0),(5,.iptr [.bool pl.body,.bool pl.note,AA pl.tables]),(21,Aw l),(22,AA l.length),(23,AA i),(47,BZ x.cells),(48,AA x.cells.length),(49,AA j)]) (λq=>BD K.st q H) (λq m=>n<=m/\Dh s2 (TE N y) (eE N y) q/\CX s2.1 (TE N y)/\gC K N pl y) ?_ (λq m hm=>?_);refine AY ?_;refine Aa 1 [(0,.ptr K.p 0),(5,.iptr [.bool pl.body,.bool pl.note,AA pl.tables]),(21,Aw l),(22,AA l.length),(23,AA i),(47,BZ x.cells),(48,AA x.cells.length),(49,AA j),(11,.iptr ([AA y.id]++y.head.flat++[AK y.flow]))] (BD K.st s2 H) n ?_ (λm hm=>?_);simp[go_sem,IO,hjt,hy,kO,AF.flat,AD];have hHm:∀j y,BD K.st s2 H j=some y->j<m:=λj y e=>by have:=hUb _ j y e;omega
       exact⟨by omega,AZ (AS hHm (qa _)) (AD _ _ _),AL hHm (AL hHm AC)⟩;refine AX 0 (α:=GR) (λ_=>[(0,.ptr K.p 0),(5,.iptr [.bool pl.body,.bool pl.note,AA pl.tables]),(21,Aw l),(22,AA l.length),(23,AA i),(47,BZ x.cells),(48,AA x.cells.length),(49,AA j),(11,.iptr ([AA y.id]++y.head.flat++[AK y.flow]))]) (λq=>BD K.st q H) (λq m=>n<=m/\Dh s2 [y.id] 0 q/\CX s2.1 [y.id]) (AJ ?_) (λq m hm=>?_);simp[go_sem];refine qP (WI hK s2 y.id (by omega) Cl) ?_;rintro v H' n' ⟨e,s3,rfl,hT2,rfl,rfl⟩;rw[D.up2];by_cases e0:e=0;obtain⟨_,h2,h3⟩:=hT2.1 e0;simp[go_sem,e0,IO,AF.flat];exact⟨s3.1,s3.2,⟨by omega,h3,h2⟩,AC⟩;simp[go_sem,e0];exact noC e _ _ e0 λg=>hT2.2 e0 ⟨trivial,((CH (x:=[y.id])).1 g.2).1⟩;obtain⟨hm,hq1,hq2⟩:=hm;refine Bg 0 [(0,.ptr K.p 0),(5,.iptr [.bool pl.body,.bool pl.note,AA pl.tables]),(21,Aw l),(22,AA l.length),(23,AA i),(47,BZ x.cells),(48,AA x.cells.length),(49,AA j),(11,.iptr ([AA y.id]++y.head.flat++[AK y.flow]))] (BD K.st q H) (λm=>n<=m/\EV K 10 y.head=0) (AJ ?_) (λm hm=>?_);simp[go_sem,AF.flat];refine qP (by simpa[AF.enc,AF.flat]using YG hK q 10 y.head y1 (H:=BD K.st q H) (n:=m) (by omega) Cl) ?_;obtain⟨e,he⟩:∃e,EV K 10 y.head=e:=⟨_,rfl⟩
       rw[he];rintro v H' n' ⟨rfl,rfl,rfl⟩;by_cases e0:e=0;simp[go_sem,e0,IO];omega;simp[go_sem,e0];exact noC e _ _ e0 λg=>e0 (by rw[<-he];exact g.1.1);obtain⟨hm,hh2⟩:=hm;refine AJ ?_;simp[go_sem,AF.flat];refine qP (by simpa[BN.enc]using y2 q pl (BD K.st q H) m (by omega) Cl) ?_;rintro v H' n' ⟨e,s3,rfl,hT2,rfl,rfl⟩;rw[D.up2];by_cases e0:e=0;obtain⟨h1,h2,h3⟩:=hT2.1 e0;simp[go_sem,e0,IO];rw[hq1.ids]at h2;exact⟨s3.1,s3.2,⟨by omega,(hq1.trans h3).to rfl (by rw[eE];omega),CH (x:=[y.id]) |>.2 ⟨hq2,h2⟩,hh2,h1⟩,AC⟩;simp[go_sem,e0];exact noC e _ _ e0 λg=>hT2.2 e0 ⟨g.1.2,by rw[hq1.ids];exact((CH (x:=[y.id])).1 g.2).2⟩;refine AJ ?_;simp[go_sem,w2,IO,-Int.natCast_add];have h2:=hm.2.2.1;rw[hmo2.ids]at h2;refine⟨j+1,by omega,q.1,q.2,⟨by omega,hm.1,(hmo2.trans hm.2.1).to tk2.symm (by rw[<-vp];exact sk2.symm),by rw[tk2];exact CH.2 ⟨hfr2,h2⟩,λc hc=>?_⟩,rfl,AC⟩;rw[tl2]at hc;exact Eu hok2 hm.2.2.2 c hc;have:j=x.cells.length:=by omega
       subst this;rw[qm]at hmo2 hok2 hfr2;refine AJ ?_;simp[go_sem,IO];exact⟨s2.1,s2.2,⟨hm,hmo2,hfr2,by rw[he9];exact hhd.1,hhd.2.1,hhd.2.2,hok2⟩,AC⟩
     refine AJ ?_;simp[go_sem,w1,IO,-Int.natCast_add];have h2:=hm.2.2.1;rw[hmo.ids]at h2;refine⟨i+1,by omega,q.1,q.2,⟨by omega,hm.1,(hmo.trans hm.2.1).to tk.symm (by rw[<-vp];exact sk.symm),by rw[tk];exact CH.2 ⟨hfr,h2⟩,λr hr=>?_⟩,rfl,AC⟩;rw[tl]at hr;exact Eu hok hm.2.2.2 r hr
   have:i=l.length:=by omega
   subst this;rw[qm]at hmo hok hfr;refine AJ ?_;simp[go_sem];exact⟨s1.1,s1.2,⟨hm,hmo,hfr,hok⟩,AC⟩
 refine AJ ?_;simp[go_sem];exact hK.ret hn ho 0 q (by rw[hT];exact⟨λ_=>⟨⟨hne,hle,hm.2.2.2⟩,hm.2.2.1,hm.2.1⟩,λg=>absurd rfl g⟩) AC
theorem Pu (a:K.ok n0) {B:Nat} (b:B<=1048576):∀(N:Nat) (l:List AB),Dq AF.sized B N l->Pp K n0 N l
 | 0,_,h=>h.elim
 | N+1,l,h=>by
  have f:=h.sized (λ_ e=>e) b;obtain⟨_,_,i⟩:=Ci.1 h;refine ir a N l f.1 λx g=>?_;obtain⟨a1,a2,a3,a4⟩:=i x g;refine cH a N x (vq f.2 x g) (Pu a b N x.flow a2) (cJ a N x.rows (by omega) λr j=>?_);obtain⟨b1,b2,d⟩:=a4 r j;exact⟨b1,by omega,λc hc=>⟨(d c hc).1,Pu a b N c.flow (d c hc).2⟩⟩
end
def HV (l:List A7):Nat->List (Int×Int)
 | 0=>[]
 | i+1=>match l[i]? with
  | some s=>LM (HV l i) s.id s.kind
  | none=>HV l i
def jW (d:AG) (h:Hp) (n:Nat):SV->Hp->Nat->Prop:=λv h' n'=>∃K:Ck,K.ok n'/\n<=n'/\v=.ptr K.p 0/\(∀o y,K.st ([],0) o=some y->h' o=some y)/\K.m2=BU [] (d.revs.map (·.id))/\K.m0=HV d.settings.styles d.settings.styles.length/\K.m1=BU [] (d.settings.lists.map (·.id))/\(∀j y,h j=some y->h' j=some y)/\∀o y,K.st ([],0) o=some y->n<=o
set_option maxHeartbeats 2000000 in
theorem iq (d:AG) (h1:d.settings.styles.length<=1048576) (h2:d.settings.lists.length<=1048576) (h3:d.revs.length<=1048576) {h:Hp} {n:Nat}:BL Tryz.prog 85 [d.enc] h n (jW d h n):=by
 refine DO Tryz.func85 rfl λN=>?_;have s:=N.lt;obtain⟨X,E⟩:∃X:SV,X=.iptr ([AK d.flow]++d.«end».flat++[BE d.revs]++d.settings.flat):=⟨_,rfl⟩
 refine By 1 [(1,X)] h (λm=>n+1=m) ?_ (λm p=>?_);rw[E];simp[go_sem,AG.enc,AF.flat,AI.flat];exact⟨AZ (AS s (qa _)) (AD _ _ _),AL s AC⟩;subst p;refine By 0 [(1,X),(3,.ptr (n+6) 0)] (hb h n [] [] []) (λm=>n+7=m) ?_ (λm p=>?_);simp[go_sem,IO,qu,hb,H4,FC];subst p;refine AX 0 (α:=List (Int×Int)) (λ_=>[(1,X),(3,.ptr (n+6) 0)]) (λa=>hb h n a [] []) (λa m=>n+7<=m/\a=HV d.settings.styles d.settings.styles.length) ?_ (λa0 m p=>?_)
 . refine By 0 [(1,X),(3,.ptr (n+6) 0),(19,Aj d.settings.styles),(20,AA d.settings.styles.length),(21,AA 0)] (hb h n [] [] []) (λm=>n+7<=m) ?_ (λm p=>?_);rw[E];simp[go_sem,IO,AF.flat,AI.flat];refine AY (BT 0 (α:=Nat×List (Int×Int)) (λq=>[(1,X),(3,.ptr (n+6) 0),(19,Aj d.settings.styles),(20,AA d.settings.styles.length),(21,AA q.1)]) (λq=>hb h n q.2 [] []) (λq m=>q.1<=d.settings.styles.length/\n+7<=m/\q.2=HV d.settings.styles q.1) (λq=>d.settings.styles.length-q.1) (0,[]) ⟨qg _,p,rfl⟩ ?_ AC ?_);simp[go_sem,Ao,IO];rintro⟨i,a⟩ m ⟨hi,p,t⟩;dsimp only at hi t ⊢;refine AJ ?_;by_cases k:i<d.settings.styles.length
   . obtain⟨x,A⟩:∃x,d.settings.styles[i]=x:=⟨_,rfl⟩
     have w1:=wS i (by omega);have C:n+6≠m:=by omega
     have B:n+1≠m:=by omega
     have g:HV d.settings.styles (i+1)=LM a x.id x.kind:=by rw[HV,qe k,A,t]
     have fin:∀b z y,∀j w,hb h n b [] [] j=some w->hset (hset (hset (hb h n a [] []) m y) m z) (n+1) (some (.map (H4 b))) j=some w:=λb z y j w e=>by
      have:=Wl (h:=h) (n:=n) (λj y e=>s j y e) j w e;rw[<-jG (a0:=a)]at e;simp only[hset]at e ⊢;split at e;rename_i c;rw[if_pos c];exact e;rename_i c;rw[if_neg c,if_neg (by omega),if_neg (by omega)];exact e
     rcases L8 x.id x.kind a 0 with⟨f,l⟩|⟨j,v,f,D⟩
     . simp[go_sem,k,A,A7.enc,AD,AE,C,B,Qh,Me,f,Cc,l,w1,-Int.natCast_add]
       repeat first|refine nq ?_|refine sq ?_|refine aq ?_
       exact⟨i+1,by omega,_,⟨by omega,by omega,g.symm⟩,rfl,fin _ _ _⟩
     . rw[qU]at f;simp[go_sem,k,A,A7.enc,AD,AE,C,B,Qh,Me,f,Cc,D,w1,-Int.natCast_add]
       repeat first|refine nq ?_|refine sq ?_|refine aq ?_
       exact⟨i+1,by omega,_,⟨by omega,by omega,g.symm⟩,rfl,fin _ _ _⟩
   have:i=d.settings.styles.length:=by omega
   subst this;simp[go_sem,IO];exact⟨a,⟨by omega,t⟩,AC⟩
 obtain⟨p,F⟩:=p;refine AX 0 (α:=List Int) (λ_=>[(1,X),(3,.ptr (n+6) 0)]) (λa=>hb h n a0 a []) (λa m=>n+7<=m/\a=BU [] (d.settings.lists.map (·.id))) ?_ (λa1 m p=>?_)
 . refine By 0 [(1,X),(3,.ptr (n+6) 0),(36,Dg d.settings.lists),(37,AA d.settings.lists.length),(38,AA 0)] (hb h n a0 [] []) (λm=>n+7<=m) ?_ (λm p=>?_);rw[E];simp[go_sem,IO,AF.flat,AI.flat,p];refine AY (BT 0 (α:=Nat×List Int) (λq=>[(1,X),(3,.ptr (n+6) 0),(36,Dg d.settings.lists),(37,AA d.settings.lists.length),(38,AA q.1)]) (λq=>hb h n a0 q.2 []) (λq m=>q.1<=d.settings.lists.length/\n+7<=m/\q.2=BU [] ((d.settings.lists.take q.1).map (·.id))) (λq=>d.settings.lists.length-q.1) (0,[]) ⟨qg _,p,by simp[BU]⟩ ?_ AC ?_);simp[go_sem,Ao,IO];rintro⟨i,a⟩ m ⟨hi,p,t⟩;dsimp only at hi t ⊢;refine AJ ?_;by_cases k:i<d.settings.lists.length
   . obtain⟨x,A⟩:∃x,d.settings.lists[i]=x:=⟨_,rfl⟩
     have w1:=wS i (by omega);have C:n+6≠m:=by omega
     have B:n+2≠m:=by omega
     have g:BU [] ((d.settings.lists.take (i+1)).map (·.id))=Fd a x.id:=by rw[qb k,A,qc,CR,<-t];rfl
     have fin:∀b z y,∀j w,hb h n a0 b [] j=some w->hset (hset (hset (hb h n a0 a []) m y) m z) (n+2) (some (.map (FC b))) j=some w:=λb z y j w e=>by
      have:=Wl (h:=h) (n:=n) (λj y e=>s j y e) j w e;rw[<-jH (a1:=a)]at e;simp only[hset]at e ⊢;split at e;rename_i c;rw[if_pos c];exact e;rename_i c;rw[if_neg c,if_neg (by omega),if_neg (by omega)];exact e
     by_cases r:x.id∈a
     . obtain⟨j,f,H⟩:=Da 0 r;have u:=KX H;simp only[JA]at u;rw[qU]at f;simp[go_sem,k,A,GQ.enc,AD,AE,C,B,Qh,F8,f,Cc,u,w1,-Int.natCast_add]
       repeat first|refine nq ?_|refine sq ?_|refine aq ?_
       refine⟨i+1,by omega,a,⟨by omega,by omega,?_⟩,rfl,fin a _ _⟩;rw[vp]at g;rw[g,Fd,if_pos r]
     . have f:=ET 0 r;have l:=Nv a x.id;simp[go_sem,k,A,GQ.enc,AD,AE,C,B,Qh,F8,f,Cc,l,w1,-Int.natCast_add]
       repeat first|refine nq ?_|refine sq ?_|refine aq ?_
       refine⟨i+1,by omega,a++[x.id],⟨by omega,by omega,?_⟩,rfl,fin _ _ _⟩;rw[vp]at g;rw[g,Fd,if_neg r]
   have:i=d.settings.lists.length:=by omega
   subst this;rw[qm]at t;simp[go_sem,IO];exact⟨a,⟨by omega,t⟩,AC⟩
 obtain⟨p,G⟩:=p;refine AX 0 (α:=List Int) (λ_=>[(1,X),(3,.ptr (n+6) 0)]) (λa=>hb h n a0 a1 a) (λa m=>n+7<=m/\a=BU [] (d.revs.map (·.id))) ?_ (λa2 m p=>?_)
 . refine By 0 [(1,X),(3,.ptr (n+6) 0),(50,BE d.revs),(51,AA d.revs.length),(52,AA 0)] (hb h n a0 a1 []) (λm=>n+7<=m) ?_ (λm p=>?_);rw[E];simp[go_sem,IO,AF.flat,AI.flat,p];refine AY (BT 0 (α:=Nat×List Int) (λq=>[(1,X),(3,.ptr (n+6) 0),(50,BE d.revs),(51,AA d.revs.length),(52,AA q.1)]) (λq=>hb h n a0 a1 q.2) (λq m=>q.1<=d.revs.length/\n+7<=m/\q.2=BU [] ((d.revs.take q.1).map (·.id))) (λq=>d.revs.length-q.1) (0,[]) ⟨qg _,p,by simp[BU]⟩ ?_ AC ?_);simp[go_sem,Ao,IO];rintro⟨i,a⟩ m ⟨hi,p,t⟩;dsimp only at hi t ⊢;refine AJ ?_;by_cases k:i<d.revs.length
   . obtain⟨x,A⟩:∃x,d.revs[i]=x:=⟨_,rfl⟩
     have w1:=wS i (by omega);have C:n+6≠m:=by omega
     have B:n+3≠m:=by omega
     have g:BU [] ((d.revs.take (i+1)).map (·.id))=Fd a x.id:=by rw[qb k,A,qc,CR,<-t];rfl
     have fin:∀b z y,∀j w,hb h n a0 a1 b j=some w->hset (hset (hset (hb h n a0 a1 a) m y) m z) (n+3) (some (.map (FC b))) j=some w:=λb z y j w e=>by
      have:=Wl (h:=h) (n:=n) (λj y e=>s j y e) j w e;rw[<-jI (a2:=a)]at e;simp only[hset]at e ⊢;split at e;rename_i c;rw[if_pos c];exact e;rename_i c;rw[if_neg c,if_neg (by omega),if_neg (by omega)];exact e
     by_cases r:x.id∈a
     . obtain⟨j,f,H⟩:=Da 0 r;have u:=KX H;simp only[JA]at u;rw[qU]at f;simp[go_sem,k,A,BC.enc,AD,AE,C,B,Qh,KL,f,Cc,u,w1,-Int.natCast_add]
       repeat first|refine nq ?_|refine sq ?_|refine aq ?_
       refine⟨i+1,by omega,a,⟨by omega,by omega,?_⟩,rfl,fin a _ _⟩;rw[vp]at g;rw[g,Fd,if_pos r]
     . have f:=ET 0 r;have l:=Nv a x.id;simp[go_sem,k,A,BC.enc,AD,AE,C,B,Qh,KL,f,Cc,l,w1,-Int.natCast_add]
       repeat first|refine nq ?_|refine sq ?_|refine aq ?_
       refine⟨i+1,by omega,a++[x.id],⟨by omega,by omega,?_⟩,rfl,fin _ _ _⟩;rw[vp]at g;rw[g,Fd,if_neg r]
   have:i=d.revs.length:=by omega
   subst this;rw[qm]at t;simp[go_sem,IO];exact⟨a,⟨by omega,t⟩,AC⟩
 refine AJ ?_;simp[go_sem];refine .inl ⟨⟨n+6,n+1,n+2,n+3,n+4,n+5,a0,a1,a2⟩,⟨by simp,by simp;omega⟩,by omega,rfl,λo y e=>?_,p.2,F,G,aB s,λo y e=>?_⟩;simp only[Ck.st,Ck.cells,FC]at e;by_cases M:o=n+6;subst M;simp at e;rw[Qh];exact congrArg some e;by_cases K:o=n+4;subst K;simp at e;rw[TD];exact congrArg some e;by_cases c1:o=n+1;subst c1;simp at e;rw[Me];exact congrArg some e;by_cases I:o=n+2;subst I;simp at e;rw[F8];exact congrArg some e;by_cases J:o=n+3;subst J;simp at e;rw[KL];exact congrArg some e;by_cases L:o=n+5;subst L;simp at e;rw[Xn];exact congrArg some e;rw[if_neg M,if_neg K,if_neg c1,if_neg I,if_neg J,if_neg L]at e;cases e;simp only[Ck.st]at e;by_cases c:n<=o;exact c;rw[if_neg (by omega),if_neg (by omega),if_neg (by omega),if_neg (by omega),if_neg (by omega),if_neg (by omega)]at e;cases e
def N2 (F:Nat->Int) (l:List Ce) (i:Nat):Int:=match l[i]? with
 | none=>0
 | some x=>if x.format<1\/7<x.format then 3 else if x.start<0\/32767<x.start then 2 else if F i≠0 then F i else if x.restart<0\/(i:Int)<x.restart then 5 else 0
def Ir (F:Nat->Int) (l:List Ce):Int:=if l=[]then 11 else if(9:Int)<l.length then 9 else CD (N2 F l) l.length
theorem i6 (l:List Ce) (hl:l.length<=1048576) (hc:∀x∈l,∀k:Int,EC 271 [.str x.template,AA k]):EC 212 [DV l]:=by
 obtain⟨F,G⟩:=EC.fam (f:=271) (A:=λi=>[.str (l.getD i ⟨0,0,⟨#[]⟩,0⟩).template,AA ((i+1:Nat):Int)]) (N:=l.length) λi hi=>by
  have:l.getD i ⟨0,0,⟨#[]⟩,0⟩=l[i]:=by simp[List.getD,hi]
  rw[this];exact hc _ (qi hi) _
 refine⟨Ir F l,?_⟩;intro h n;refine DO Tryz.func212 rfl λE=>?_;have w:=E.lt;have out:∀(e:Int) (m:Nat),e=Ir F l->CO n h m (AA e) (Is (AA (Ir F l)) h n):=λe m u=>As E rfl (by rw[u]);refine Aa 0 [(0,DV l)] h n ?_ (λm a=>?_);simp[go_sem,IO];refine Bg 0 [(0,DV l)] h (λm=>n<=m/\Ir F l=CD (N2 F l) l.length) (AJ ?_) (λm a=>?_);by_cases c:l=[];subst c;simp[go_sem];exact out 11 _ rfl;by_cases s:(9:Int)<l.length;simp[go_sem,c,s];exact out _ _ (by unfold Ir;rw[if_neg c,if_pos s]);simp[go_sem,c,s,IO,a];unfold Ir;rw[if_neg c,if_neg s];obtain⟨a,D⟩:=a;refine Bg 0 [] h (λm=>n<=m/\Ir F l=0) ?_ (λm a=>?_);refine Aa 0 [(14,DV l),(15,AA l.length),(16,AA 0)] h n ?_ (λm a=>?_);simp[go_sem,IO,a];refine AY (BT 0 (α:=Nat) (λi=>[(14,DV l),(15,AA l.length),(16,AA i)]) (λ_=>h) (λi m=>i<=l.length/\n<=m/\CD (N2 F l) i=0) (λi=>l.length-i) 0 ⟨qg _,a,rfl⟩ ?_ AC ?_);simp[go_sem,Ao,IO];rintro i m ⟨hi,a,h0⟩;by_cases d:i<l.length;obtain⟨x,C⟩:∃x,l[i]=x:=⟨_,rfl⟩
 have r:=G i d;have z:l.getD i ⟨0,0,⟨#[]⟩,0⟩=x:=by simp[List.getD,d,C]
 rw[z]at r;have o:N2 F l i=if x.format<1\/7<x.format then 3 else if x.start<0\/32767<x.start then 2 else if F i≠0 then F i else if x.restart<0\/(i:Int)<x.restart then 5 else 0:=by unfold N2;rw[qe d,C]
 have b:∀(e:Int) (m:Nat),e≠0->N2 F l i=e->CO n h m (AA e) (Is (AA (Ir F l)) h n):=λe m B u=>out e m (by rw[D,EM _ d h0 (by rw[u];exact B),u]);have w1:=wS i (by omega);refine Aa 0 [(14,DV l),(15,AA l.length),(16,AA i),(17,.bool true)] h n ?_ (λm a=>?_);simp[go_sem,IO,a,d];refine Aa 0 [(14,DV l),(15,AA l.length),(16,AA i)] h n ?_ (λm a=>?_);simp[go_sem,IO,a];refine Bg 0 [(14,DV l),(15,AA l.length),(16,AA i)] h (λm=>n<=m/\N2 F l i=0) ?_ (λm a=>?_);refine AY ?_;refine Aa 1 [(14,DV l),(15,AA l.length),(16,AA i),(3,AA i),(4,.iptr [AA x.format,AA x.start,.str x.template,AA x.restart])] h n ?_ (λm a=>?_);have p:∀j y,h j=some y->j<m:=λj y e=>by have:=w j y e;omega
 simp[go_sem,IO,d,C,Ce.enc,AD];exact⟨by omega,AZ (AS p (qa _)) (AD _ _ _),AL p (AL p AC)⟩;refine AX 0 (α:=Unit) (λ_=>[(14,DV l),(15,AA l.length),(16,AA i),(3,AA i),(4,.iptr [AA x.format,AA x.start,.str x.template,AA x.restart])]) (λ_=>h) (λ_ m=>n<=m/\¬(x.format<1\/7<x.format)/\¬(x.start<0\/32767<x.start)) (AY (AJ ?_)) (λ_ m a=>?_);by_cases a1:x.format<1;simp[go_sem,a1];exact b _ _ (by decide) (by rw[o,if_pos (.inl a1)]);by_cases a2:7<x.format;simp[go_sem,a1,a2];exact b _ _ (by decide) (by rw[o,if_pos (.inr a2)]);have q:¬(x.format<1\/7<x.format):=λg=>g.elim a1 a2;by_cases a3:x.start<0;simp[go_sem,a1,a2,a3];exact b _ _ (by decide) (by rw[o,if_neg q,if_pos (.inl a3)]);by_cases a4:32767<x.start;simp[go_sem,a1,a2,a3,a4];exact b _ _ (by decide) (by rw[o,if_neg q,if_pos (.inr a4)]);simp[go_sem,a1,a2,a3,a4,IO,a];obtain⟨a,q,v⟩:=a;refine Bg 0 [(14,DV l),(15,AA l.length),(16,AA i),(3,AA i),(4,.iptr [AA x.format,AA x.start,.str x.template,AA x.restart])] h (λm=>n<=m/\F i=0) (AJ ?_) (λm a=>?_);simp[go_sem,w1,-Int.natCast_add];refine r.use ?_;by_cases t:F i=0;simp[go_sem,t,IO,a];simp[go_sem,t];exact b _ _ t (by rw[o,if_neg q,if_neg v,if_pos t]);obtain⟨a,f0⟩:=a;have n3:¬F i≠0:=λg=>g f0;refine AJ ?_;by_cases a1:x.restart<0;simp[go_sem,a1];exact b _ _ (by decide) (by rw[o,if_neg q,if_neg v,if_neg n3,if_pos (.inl a1)]);by_cases a2:(i:Int)<x.restart;simp[go_sem,a1,a2];exact b _ _ (by decide) (by rw[o,if_neg q,if_neg v,if_neg n3,if_pos (.inr a2)]);simp[go_sem,a1,a2,IO,a];rw[o,if_neg q,if_neg v,if_neg n3,if_neg λg=>g.elim a1 a2];refine AJ ?_;simp[go_sem,w1,IO,-Int.natCast_add];exact⟨i+1,by omega,⟨by omega,a.1,by rw[CD,if_pos h0];exact a.2⟩,rfl⟩;refine AJ ?_;have:i=l.length:=by omega
 simp[go_sem,d,a];rw[D,<-this];exact h0;refine AJ ?_;simp[go_sem];exact out _ _ a.2.symm
theorem JL {E:CC} {ops:Array Oper} {K:SA->Hp->Nat->Prop} {sa:SA} {h:Hp} {n:Nat} {b:Bool} {e:Int} {a:List Oper} {c:List Cf} {dst:Option Tmp}
 (d:∀r:Int,r=(if b then e else 0)->MN E Tryz.prog ops K a c sa { dst:=dst,val:=AA r } h n):BX E Tryz.prog ops K sa h n 87 [.bool b,AA e] a c dst:=
 kc _ _ _ _ _ _ (Ki b e) (d _ rfl)
set_option maxHeartbeats 2000000 in
theorem i8 (l:List GY) (hl:l.length<=1048576) (t:∀x∈l,x.name.size<=1048576/\x.value.size<=1048576) (i:Nat) (hi:i<l.length):EC 218 [AA i,.iptr [Fs l]]:=by
 obtain⟨x,b⟩:∃x,l[i]=x:=⟨_,rfl⟩
 have hxs:=t x (by rw[<-b];exact qi hi);by_cases h0:i=0
 . subst h0;apply Exists.intro;intro h n;refine gq Tryz.func218 rfl λm=>?_;simp[go_sem,hi,b,GY.enc]
   repeat first|refine nq ?_|refine sq ?_
   refine kc _ _ _ _ _ _ (Zt x.name) ?_;simp[go_sem]
   repeat first|refine nq ?_|refine sq ?_
   refine JL λo d=>?_;simp[go_sem]
   repeat first|refine nq ?_|refine sq ?_
   refine JL λp e=>?_;simp[go_sem]
   repeat first|refine nq ?_|refine sq ?_
   refine JL λq f=>?_;simp[go_sem,hi,b,GY.enc]
   repeat first|refine nq ?_|refine sq ?_
   refine kc _ _ _ _ _ _ (Zs x.value (by omega)) ?_;obtain⟨c,a⟩:∃c,c=Jg x.value:=⟨_,rfl⟩
   rw[<-a];simp[go_sem]
   repeat first|refine nq ?_|refine sq ?_
   refine BX.lend _ _ _ _ _ _ 2 [n] (Sa [o,p,q,c] (by simp)) rfl (by simp) (λh' r=>?_) ?_;have:=r n (by simp);simp[hset]at this;simp[Ag,Fz,this,Bz,SV.storable,SV.cells];simp[go_sem]
   repeat first|refine nq ?_|refine sq ?_
   subst d e f a;exact A3 m (AR m (qa _) AC) rfl rfl
 . have j:0<i:=by omega
   have k:(if(1:Int)>i then(1:Int)else i)=i:=by split<;>omega
   have hmx2:(if(1:Int)<i then(i:Int)else 1)=i:=by split<;>omega
   have w1:IntKind.i64.wrap ((i:Int)-1)=((i-1:Nat):Int):=by rw[DA]<;>omega
   have g:i-1<l.length:=by omega
   obtain⟨y,s⟩:∃y,l[i-1]=y:=⟨_,rfl⟩
   apply Exists.intro;intro h n;refine gq Tryz.func218 rfl λm=>?_;simp[go_sem,hi,b,GY.enc]
   repeat first|refine nq ?_|refine sq ?_
   refine kc _ _ _ _ _ _ (Zt x.name) ?_;simp[go_sem]
   repeat first|refine nq ?_|refine sq ?_
   refine JL λo d=>?_;simp[go_sem,hi,b,GY.enc,j,w1,g,s,k]
   repeat first|refine nq ?_|refine sq ?_
   refine JL λp e=>?_;simp[go_sem,hi,b,GY.enc,j,w1,g,s,k]
   repeat first|refine nq ?_|refine sq ?_
   refine JL λq f=>?_;simp[go_sem,hi,b,GY.enc]
   repeat first|refine nq ?_|refine sq ?_
   refine kc _ _ _ _ _ _ (Zs x.value (by omega)) ?_;obtain⟨c,a⟩:∃c,c=Jg x.value:=⟨_,rfl⟩
   rw[<-a];simp[go_sem]
   repeat first|refine nq ?_|refine sq ?_
   refine BX.lend _ _ _ _ _ _ 2 [n] (Sa [o,p,q,c] (by simp)) rfl (by simp) (λh' r=>?_) ?_;have:=r n (by simp);simp[hset]at this;simp[Ag,Fz,this,Bz,SV.storable,SV.cells];simp[go_sem]
   repeat first|refine nq ?_|refine sq ?_
   subst d e f a;exact A3 m (AR m (qa _) AC) rfl rfl
def Ke (ps:List CJ):List Int:=ps.map (·.level)
def flL (bs:List UInt8):List Int:=if bs=[]then[]else[0]
def WQ (s:ByteArray) (k:Int):Bool:=if k<s.size then(match s[k.toNat]? with|some x=>decide ((49:Int)<=x.toNat)&&decide ((x.toNat:Int)<=57)|none=>false)else false
theorem WR {s:ByteArray} {k:Int} (h:WQ s k=true):k<s.size:=by
 unfold WQ at h;split at h
 assumption
 cases h
def RW (s:ByteArray) (k:Int):Int:=match s[k.toNat]? with|some x=>IntKind.i64.wrap (IntKind.u8.wrap ((x.toNat:Int)-48))|none=>0
def G9 (a b:ByteArray):Bool:=decide (b.size<=a.size)&&((a.extract 0 b.size).toList==b.toList)
theorem U5 {a b:ByteArray} (h:G9 a b=true):b.size<=a.size:=by unfold G9 at h;simp at h;exact h.1
theorem iH (a b:ByteArray):PC 340 [.str a,.str b] (.bool (G9 a b)):=by
 intro h n;refine DO Tryz.func340 rfl λe=>?_;refine AJ ?_;by_cases c:(b.size:Int)<=a.size;have d:b.size<=a.size:=by omega
 simp[go_sem,c];exact As e rfl (by simp[G9,d]);have d:¬b.size<=a.size:=by omega
 simp[go_sem,c];exact As e rfl (by simp[G9,d])
theorem b8 (a b:ByteArray):PC 332 [.str a,.str b] (.bool (G9 a b)):=by
 intro h n;refine DO Tryz.func332 rfl λc=>?_;refine AJ ?_;simp[go_sem];refine qz (iH a b) ?_;simp[go_sem];exact As c rfl rfl
def ZT (s:ByteArray) (at_ pl e:Int) (bs:List UInt8) (lv:List Int):Int×List UInt8×List Int×Int×Int:=
 if G9 (s.extract at_.toNat s.size) ⟨#[37,37]⟩then(at_+2,bs++[37],lv,pl,e)
 else if WQ s (at_+1)then(at_+2,[],lv++(flL bs++[RW s (at_+1)]),IntKind.i64.wrap (pl+1),e)
 else if G9 (s.extract at_.toNat s.size) ⟨#[37,100]⟩&&WQ s (at_+2)then(at_+3,[],lv++(flL bs++[RW s (at_+2)]),IntKind.i64.wrap (pl+1),e)
 else(at_,bs,lv,pl,14)
def eO (s:ByteArray) (at_ pl e:Int) (bs:List UInt8) (ps:List CJ):Int->List UInt8->List CJ->Int->Int->Prop:=λat' bs' ps' pl' e'=>
 (at',bs',Ke ps',pl',e')=ZT s at_ pl e bs (Ke ps)/\((at_<at'/\at'<=s.size/\e'=e)\/(at'=at_/\e'=14))/\bs'.length<=bs.length+1/\ps'.length<=ps.length+2
def du (G:Hp) (B q n:Nat) (s:ByteArray) (at_ pl e:Int) (L:List Int) (N:Nat) (z:Hp×List CJ) (m:Nat):Prop:=n<=m/\Vg z.1 q B s at_ [] z.2 pl e/\z.2.length<=N/\(∀o y,o<B->G o=some y->z.1 o=some y)/\Ke z.2=L
set_option maxHeartbeats 1000000 in
theorem ZF {G:Hp} {n q B:Nat} {s:ByteArray} {at_ l e:Int} {bs:List UInt8} {ps:List CJ} (S:Vg G q B s at_ bs ps l e) (hb:bs.length<=1048576) (hps:ps.length<=1048576):
 BL Tryz.prog 330 [.ptr q 0] G n (Y6 q B s G n λL M I R e'=>L=at_/\M=[]/\(Ke I=Ke ps++flL bs/\I.length<=ps.length+1)/\R=l/\e'=e):=by
 refine DO Tryz.func330 rfl λF=>?_;obtain⟨p,Y,Q,S⟩:=S;have hqn:q<n:=(F q _ S.cells).1;by_cases c:bs=[];refine B5 0 [(0,.ptr q 0),(6,.bool false)] G n ?_ (λm D=>?_);simp[go_sem];refine qP (cQ S.cells S.b0) ?_;rintro v w n' ⟨rfl,rfl,rfl⟩;simp[go_sem,IO,c];subst D;refine AJ ?_;simp[go_sem];exact .inl ⟨at_,[],ps,l,e,⟨rfl,rfl,⟨by rw[c];simp[flL],by omega⟩,rfl,rfl⟩,⟨p,Y,Q,by rw[<-c];exact S⟩,λo y _ h=>h,qa _⟩
 . refine B5 0 [(0,.ptr q 0),(6,.bool true)] G n ?_ (λm D=>?_);simp[go_sem];refine qP (cQ S.cells S.b0) ?_;rintro v w n' ⟨rfl,rfl,rfl⟩;have:0<bs.length:=by cases bs<;>simp at c ⊢
   simp[go_sem,IO,this];subst D;refine Au (b:=true) (by simp[go_sem]) ?_;simp only[if_true];cases Y with
   | none=>exact absurd (S.b0 rfl) c
   | some j=>
   obtain⟨j1,U,j3,V⟩:=S.b1 j rfl;have hjn:j<n:=(F j _ V).1;have d:=S.cells;have J:q≠j:=Ne.symm U;have K:q≠n:=by omega
   have A:q≠n+1:=by omega
   obtain⟨x,T⟩:∃x:CJ,x=⟨⟨bs.toArray⟩,0,false⟩:=⟨_,rfl⟩
   obtain⟨E,N⟩:∃E,E=(ps++[x]).map CJ.enc:=⟨_,rfl⟩
   have hle:=S.le;refine AX 0 (α:=Hp×Nat) (λ_=>[(0,.ptr q 0)]) (λz=>z.1) (dq G B q n (λk=>[.str s,AA at_,p,FS (some j) bs,AW 3 (some k) E,AA l,AA e]) E)
    (CK ai rfl (by kernel_rfl) (by kernel_rfl) ?_) (λz m D=>?_)
   have r:∀(X:Hp) (k p:Nat),X k=some (.cells [.str ⟨bs.toArray⟩,AA 0,.bool false])->(∀j,Q=some j->X j=some (.cells ((ps.map CJ.enc).flatMap SV.cells)))->_:=λX k p u g=>bN (x:=x) (p:=p) S.o0 (by rw[T];exact u) g (by omega);have t:∀(X:Hp),X q=some (.cells [.str s,AA at_,p,FS (some j) bs,.sl (n+1) 0 3 (ps.length+1) false,AA l,AA e] (some 388))->X (n+1)=some (.cells ((ps.map CJ.enc).flatMap SV.cells++x.enc.cells))->(∀o y,o<B->G o=some y->X o=some y)->
    dq G B q n (λk=>[.str s,AA at_,p,FS (some j) bs,AW 3 (some k) E,AA l,AA e]) E (X,n+1) (n+2):=λX u g g3=>⟨by omega,by show X q=_;rw[u,N];simp[AW],by show X (n+1)=_;rw[g,N];simp,by show n<=n+1;omega,by show n+1<n+2;omega,g3⟩
   have step:Ap (CC.plain.call false 0) Tryz.prog 337 [.ptr q 2] G n (λv h' n'=>v=.str ⟨bs.toArray⟩/\h'=hset G j none/\n=n'):=qP (il d V U j3 (by omega)) λv h' n' ⟨a,b,c⟩=>⟨a,b,c.symm⟩
   cases Q with
   | none =>
    have f:∃a,(∃x_1,dq G B q n (λk=>[.str s,AA at_,p,FS (some j) bs,AW 3 (some k) E,AA l,AA e]) E (a,x_1) (n+1+1))/\∀(o:Nat) (y:Bb),a o=some y->hset (hset (hset (hset G j none) n (some (Bb.cells [.str ⟨bs.toArray⟩,AA 0,.bool false]))) (n+1) (some (.cells (List.flatMap SV.cells (List.map CJ.enc ps)++x.enc.cells)))) q (some (.cells [.str s,AA at_,p,FS (some j) bs,.sl (n+1) 0 3 (ps.length+1) false,AA l,AA e] (some 388))) o=some y:=
     ⟨_,⟨_,t _ (AD _ _ _) ((AE _ _ (Ne.symm A)).trans (AD _ _ _)) λo y u g=>by have:=(F o y g).1;rw[AE _ _ (by omega),AE _ _ (by omega),AE _ _ (by omega),AE _ _ (by omega)];exact g⟩,AC⟩
    simp[go_sem,ai,d];refine⟨?_,?_⟩;refine we step ?_;rintro v w n' ⟨rfl,rfl,rfl⟩;simp[go_sem,r,AD,AE,d,J,K,A];exact f;refine we step ?_;rintro v w n' ⟨rfl,rfl,rfl⟩;simp[go_sem,r,AD,AE,d,J,K,A];exact f
   | some i =>
    obtain⟨i1,i2,i3,O⟩:=S.o1 i rfl;have hin:i<n:=(F i _ O).1;have C:i≠j:=by rintro rfl;exact i3 rfl
    have Z:i≠n:=by omega
    have y2:q≠i:=Ne.symm i2;have f:∃a,(∃x_1,dq G B q n (λk=>[.str s,AA at_,p,FS (some j) bs,AW 3 (some k) E,AA l,AA e]) E (a,x_1) (n+1+1))/\∀(o:Nat) (y:Bb),a o=some y->hset (hset (hset (hset (hset G j none) n (some (Bb.cells [.str ⟨bs.toArray⟩,AA 0,.bool false]))) i none) (n+1) (some (.cells (List.flatMap SV.cells (List.map CJ.enc ps)++x.enc.cells)))) q (some (.cells [.str s,AA at_,p,FS (some j) bs,.sl (n+1) 0 3 (ps.length+1) false,AA l,AA e] (some 388))) o=some y:=
     ⟨_,⟨_,t _ (AD _ _ _) ((AE _ _ (Ne.symm A)).trans (AD _ _ _)) λo y u g=>by have:=(F o y g).1;rw[AE _ _ (by omega),AE _ _ (by omega),AE _ _ (by omega),AE _ _ (by omega),AE _ _ (by omega)];exact g⟩,AC⟩
    simp[go_sem,ai,d];refine⟨?_,?_⟩;refine we step ?_;rintro v w n' ⟨rfl,rfl,rfl⟩;simp[go_sem,r,AD,AE,d,J,K,A,Z,y2,C,O];exact f;refine we step ?_;rintro v w n' ⟨rfl,rfl,rfl⟩;simp[go_sem,r,AD,AE,d,J,K,A,Z,y2,C,O];exact f
   obtain⟨H,k⟩:=z;obtain⟨m1,m2,P,m4,m5,W⟩:=D;dsimp only at m2 P m4 W ⊢;rw[N]at m2 P;refine AJ ?_;simp[go_sem];refine qP (im m2) ?_;rintro v w n' ⟨rfl,rfl,rfl⟩;simp[go_sem];have:=S.le;refine .inl ⟨at_,[],ps++[x],l,e,⟨rfl,rfl,?_,rfl,rfl⟩,⟨.nilp,none,some k,⟨S.le,by rw[AD];simp[FS,AW],.inl rfl,λ_=>rfl,by simp,by simp,?_⟩⟩,λo y u g=>?_,by omega⟩;exact⟨by rw[T];simp[Ke,flL,c],by simp⟩;rintro i hi;cases hi;exact⟨by omega,by omega,by simp,by rw[AE _ _ (by omega)];exact P⟩;rw[AE _ _ (by omega)];exact W o y u g
theorem ZG {G:Hp} {n q B:Nat} {s:ByteArray} {at_ f e:Int} {bs:List UInt8} {ps:List CJ} (S:Vg G q B s at_ bs ps f e) (k:Int) (d:0<=k):
 BL Tryz.prog 333 [.ptr q 0,AA k] G n (λv h' n'=>v=.bool (WQ s k)/\h'=G/\n'=n):=by
 refine DO Tryz.func333 rfl λho=>?_;obtain⟨p,ob,op,S⟩:=S;have hc:=S.cells;refine AJ ?_;by_cases c:k<s.size;have hkl:k.toNat<s.size:=by omega
 obtain⟨x,a⟩:∃x,s[k.toNat]'hkl=x:=⟨_,rfl⟩
 have hb:s[k.toNat]? = some x:=by rw[V1 hkl,a]
 have b:WQ s k=(decide ((49:Int)<=x.toNat)&&decide ((x.toNat:Int)<=57)):=by unfold WQ;rw[if_pos c,hb]
 by_cases c1:(49:Int)<=x.toNat;simp[go_sem,hc,c,d,a,c1];exact .inl ⟨by rw[b];simp[c1],rfl,rfl⟩;simp[go_sem,hc,c,d,a,c1];exact .inl ⟨by rw[b];simp[c1],rfl,rfl⟩;simp[go_sem,hc,c];exact .inl ⟨by unfold WQ;rw[if_neg c],rfl,rfl⟩
set_option maxHeartbeats 1000000 in
theorem ZH {G:Hp} {n q B:Nat} {s:ByteArray} {at_ t e d:Int} {b:Bool} {bs:List UInt8} {ps:List CJ} (S:Vg G q B s at_ bs ps t e) (hb:bs.length<=1048576) (W:ps.length<=1048576):
 BL Tryz.prog 334 [.ptr q 0,.int .u8 d,.bool b] G n (Y6 q B s G n λQ R K pl' e'=>Q=at_/\R=[]/\(Ke K=Ke ps++(flL bs++[IntKind.i64.wrap (IntKind.u8.wrap (d-48))])/\K.length<=ps.length+2)/\pl'=IntKind.i64.wrap (t+1)/\e'=e):=by
 refine DO Tryz.func334 rfl λho=>?_;refine B8 0 (α:=Hp×List CJ) (λ_=>[(0,.ptr q 0),(1,.int .u8 d),(2,.bool b)]) (λz=>z.1) (du G B q n s at_ t e (Ke ps++flL bs) (ps.length+1)) ?_ (λz m L=>?_);simp[go_sem];refine qP (ZF S hb W) ?_;rintro v H' n' ⟨a1,a2,a3,a4,a5,⟨rfl,rfl,⟨rl,r3⟩,rfl,rfl⟩,r6,r7,r8⟩;simp[go_sem,IO];exact⟨H',⟨a3,r8,r6,r3,r7,rl⟩,AC⟩;obtain⟨X,c⟩:=z;obtain⟨L,u,U,A,C⟩:=L;dsimp only at u U A C ⊢;refine Pq λhX=>?_;have H:∀o y,X o=some y->o<m:=λo y e=>(hX o y e).1;refine B8 0 (α:=Hp×List CJ) (λ_=>[(0,.ptr q 0)]) (λz=>z.1) (du G B q n s at_ t e (Ke ps++(flL bs++[IntKind.i64.wrap (IntKind.u8.wrap (d-48))])) (ps.length+2)) ?_ (λz m L=>?_)
 . have hle0:=u.choose_spec.choose_spec.choose_spec.le;obtain⟨p,ob,O,u⟩:=u;cases ob with
   | some j=>exact absurd rfl (u.b1 j rfl).2.2.1
   | none=>
   have f:=u.cells;obtain⟨x,Z⟩:∃x:CJ,x=⟨.empty,IntKind.i64.wrap (IntKind.u8.wrap (d-48)),b⟩:=⟨_,rfl⟩
   have D:∀(X:Hp) (k p:Nat),X k=some (.cells [.str .empty,AA (IntKind.i64.wrap (IntKind.u8.wrap (d-48))),.bool b])->(∀j,O=some j->X j=some (.cells ((c.map CJ.enc).flatMap SV.cells)))->_:=λX k p w l=>bN (x:=x) (p:=p) u.o0 (by rw[Z];exact w) l (by omega);have hqm:q<m:=H q _ f;have x2:q≠m:=by omega
   have P:q≠m+1:=by omega
   have I:∀(Y:Hp),Y q=some (.cells [.str s,AA at_,p,FS none [],.sl (m+1) 0 3 (c.length+1) false,AA t,AA e] (some 388))->Y (m+1)=some (.cells ((c.map CJ.enc).flatMap SV.cells++x.enc.cells))->Vg Y q B s at_ [] (c++[x]) t e:=λY w l=>
    ⟨p,none,some (m+1),u.le,by rw[w];simp[AW],u.p,λ_=>rfl,by simp,by simp,by rintro i hi;cases hi;exact⟨by omega,by omega,by simp,by rw[l];simp⟩⟩
   cases O with
   | none =>
    have r:∃a,(∃x_1,du G B q n s at_ t e (Ke ps++(flL bs++[IntKind.i64.wrap (IntKind.u8.wrap (d-48))])) (ps.length+2) (a,x_1) (m+1+1))/\∀(o:Nat) (y:Bb),a o=some y->hset (hset (hset X m (some (Bb.cells [.str .empty,AA (IntKind.i64.wrap (IntKind.u8.wrap (d-48))),.bool b]))) (m+1) (some (.cells (List.flatMap SV.cells (List.map CJ.enc c)++x.enc.cells)))) q (some (.cells [.str s,AA at_,p,FS none [],.sl (m+1) 0 3 (c.length+1) false,AA t,AA e] (some 388))) o=some y:=
     ⟨_,⟨c++[x],by omega,I _ (AD _ _ _) ((AE _ _ (Ne.symm P)).trans (AD _ _ _)),by simp;omega,λo y w l=>by have:=(ho o y l).1;dsimp only;rw[AE _ _ (by omega),AE _ _ (by omega),AE _ _ (by omega)];exact A o y w l,by rw[<-List.append_assoc,<-C,Z];simp[Ke]⟩,AC⟩
    simp[go_sem,f,AD,AE,x2,P,D];exact r
   | some i =>
    obtain⟨i1,M,i3,N⟩:=u.o1 i rfl;have hin:i<m:=H i _ N;have y1:i≠m:=by omega
    have y2:q≠i:=Ne.symm M;have r:∃a,(∃x_1,du G B q n s at_ t e (Ke ps++(flL bs++[IntKind.i64.wrap (IntKind.u8.wrap (d-48))])) (ps.length+2) (a,x_1) (m+1+1))/\∀(o:Nat) (y:Bb),a o=some y->hset (hset (hset (hset X m (some (Bb.cells [.str .empty,AA (IntKind.i64.wrap (IntKind.u8.wrap (d-48))),.bool b]))) i none) (m+1) (some (.cells (List.flatMap SV.cells (List.map CJ.enc c)++x.enc.cells)))) q (some (.cells [.str s,AA at_,p,FS none [],.sl (m+1) 0 3 (c.length+1) false,AA t,AA e] (some 388))) o=some y:=
     ⟨_,⟨c++[x],by omega,I _ (AD _ _ _) ((AE _ _ (Ne.symm P)).trans (AD _ _ _)),by simp;omega,λo y w l=>by have:=(ho o y l).1;dsimp only;rw[AE _ _ (by omega),AE _ _ (by omega),AE _ _ (by omega),AE _ _ (by omega)];exact A o y w l,by rw[<-List.append_assoc,<-C,Z];simp[Ke]⟩,AC⟩
    simp[go_sem,f,AD,AE,x2,P,D,y1,y2,N];exact r
 obtain⟨X2,ps2⟩:=z;obtain⟨V,h,F,E,J⟩:=L;dsimp only at h F E J ⊢;refine AJ ?_;obtain⟨p,ob,O,h⟩:=h;have T:=h.cells;simp[go_sem,T];have hle:=h.le;refine .inl ⟨at_,[],ps2,IntKind.i64.wrap (t+1),e,⟨rfl,rfl,⟨J,F⟩,rfl,rfl⟩,⟨p,ob,O,h.le,AD _ _ _,h.p,h.b0,λj g=>absurd rfl (h.b1 j g).2.2.1,h.o0,λj g=>?_⟩,λo y w l=>?_,V⟩;obtain⟨i1,M,i3,N⟩:=h.o1 j g;exact⟨i1,M,i3,by rw[AE _ _ M];exact N⟩;rw[AE _ _ (by omega)];exact E o y w l
set_option maxHeartbeats 2000000 in
theorem cP {G:Hp} {n q B:Nat} {s:ByteArray} {at_ H e:Int} {bs:List UInt8} {ps:List CJ} (S:Vg G q B s at_ bs ps H e) (h0:0<=at_) (h1:at_<s.size) (hs:s.size<=1048576) (hb:bs.length<=1048576) (M:ps.length<=1048576):
 BL Tryz.prog 328 [.ptr q 0] G n (Y6 q B s G n (eO s at_ H e bs ps)):=by
 refine DO Tryz.func328 rfl λho=>?_;obtain⟨p0,ob0,op0,W⟩:=id S;have hc:=W.cells;have w1:IntKind.i64.wrap (at_+1)=at_+1:=by rw[DA]<;>omega
 have w2:IntKind.i64.wrap (at_+2)=at_+2:=by rw[DA]<;>omega
 have w3:IntKind.i64.wrap (at_+3)=at_+3:=by rw[DA]<;>omega
 obtain⟨P,k⟩:∃b,b=G9 (s.extract at_.toNat s.size) ⟨#[37,37]⟩:=⟨_,rfl⟩
 obtain⟨Q,l⟩:∃b,b=WQ s (at_+1):=⟨_,rfl⟩
 obtain⟨K,r⟩:∃b,b=(G9 (s.extract at_.toNat s.size) ⟨#[37,100]⟩&&WQ s (at_+2)):=⟨_,rfl⟩
 have fin:∀(z:Hp) (m:Nat) (a1 X c O i e':Int) (d:List UInt8) (a:List CJ) (p:SV) (I J:Option Nat),dv z q B s a1 d a O X p I J->(∀o y,o<B->G o=some y->z o=some y)->n<=m->eO s at_ H e bs ps c d a i e'->
  CO n (hset z q (some (.cells [.str s,AA c,p,FS I d,AW 3 J (a.map CJ.enc),AA i,AA e'] (some 388)))) m (.tup []) (Y6 q B s G n (eO s at_ H e bs ps)):=λz m a1 X c O i e' d a p I J T E f hR=>
  .inl ⟨c,d,a,i,e',hR,T.upd c i e',λo y g1 g2=>by have:=T.le;rw[AE _ _ (by omega)];exact E o y g1 g2,f⟩
 refine AY ?_;refine AX 0 (α:=Unit) (λ_=>[(0,.ptr q 0),(5,.bool P)]) (λ_=>G) (λ_ m=>n<=m) (CK dT rfl (by kernel_rfl) (by kernel_rfl) ?_) (λ_ m f=>?_);have w:=b8 (s.extract at_.toNat s.size) ⟨#[37,37]⟩;rw[<-k]at w;simp[go_sem,dT,hc,h0];have:=Int.le_of_lt h1;simp[this];refine⟨?_,?_⟩ <;>
 . refine qz w ?_;simp[go_sem,IO]
 have j:P=true->at_+2<=s.size:=λg=>by
  rw[k]at g;have:=U5 g;simp at this;have h9:(⟨#[37,37]⟩:ByteArray).size=2:=rfl;omega
 cases P with
 | true=>
  have D:=j rfl;refine Au (b:=true) (by simp[go_sem]) ?_;simp only[if_true];refine Pq λU=>?_;refine B8 0 (α:=Hp) (λ_=>[(0,.ptr q 0)]) (λz=>z) (Xl G q B n s λc d a i e'=>c=at_/\d=bs++[37]/\a=ps/\i=H/\e'=e) ?_ (λz m f=>?_);simp[go_sem];refine qP (show BL Tryz.prog 329 [.ptr q 2,.int .u8 37] G _ _ from ZE S U hb 37) ?_;rintro v A n' F;simp[go_sem,IO];exact⟨A,F.st f,AC⟩;obtain⟨f,a1,a2,a3,a4,a5,⟨rfl,rfl,rfl,rfl,rfl⟩,⟨p,I,J,T⟩,E⟩:=f;refine AJ ?_;have L:=T.cells;simp[go_sem,L,w2];exact fin _ _ _ _ _ _ _ _ _ _ _ _ _ T E f ⟨by unfold ZT;rw[<-k];rfl,.inl ⟨by omega,D,rfl⟩,by simp,by omega⟩
 | false =>
  refine Au (b:=false) (by simp[go_sem]) ?_;simp only[qn,if_false];refine Aa 0 [(0,.ptr q 0),(27,.bool Q)] G n ?_ (λm f=>?_);simp[go_sem,hc,w1];refine qP (ZG S (at_+1) (by omega)) ?_;rintro v A n' ⟨rfl,rfl,rfl⟩;rw[<-l];simp[go_sem,IO,f];have j:Q=true->at_+1<s.size:=λg=>by rw[l]at g;exact WR g
  cases Q with
  | true=>
   have D:=j rfl;refine Au (b:=true) (by simp[go_sem]) ?_;simp only[if_true];refine AX 0 (α:=Hp) (λ_=>[(0,.ptr q 0)]) (λz=>z) (Xl G q B n s λc d a i e'=>c=at_/\d=[]/\(Ke a=Ke ps++(flL bs++[RW s (at_+1)])/\a.length<=ps.length+2)/\i=IntKind.i64.wrap (H+1)/\e'=e) (CK Y0 rfl (by kernel_rfl) (by kernel_rfl) ?_) (λz m f=>?_);have hkl:(at_+1).toNat<s.size:=by omega
   obtain⟨x,N⟩:∃x,s[(at_+1).toNat]'hkl=x:=⟨_,rfl⟩
   have t:s[(at_+1).toNat]? = some x:=by rw[V1 hkl,N]
   have C:0<=at_+1:=by omega
   have u:IntKind.i64.wrap (IntKind.u8.wrap ((x.toNat:Int)-48))=RW s (at_+1):=by unfold RW;rw[t]
   simp[go_sem,Y0,hc,w1,C,t];refine⟨?_,?_⟩ <;>
   . refine qP (ZH S hb M) ?_;rintro v A n' F;rw[u]at F;simp[go_sem,IO];exact⟨A,F.st f,AC⟩
   obtain⟨f,a1,a2,a3,a4,a5,⟨rfl,rfl,⟨V,hl⟩,rfl,rfl⟩,⟨p,I,J,T⟩,E⟩:=f;refine AJ ?_;have L:=T.cells;simp[go_sem,L,w2];exact fin _ _ _ _ _ _ _ _ _ _ _ _ _ T E f ⟨by unfold ZT;rw[<-k,<-l,V];rfl,.inl ⟨by omega,by omega,rfl⟩,by simp,hl⟩
  | false =>
   refine Au (b:=false) (by simp[go_sem]) ?_;simp only[qn,if_false];refine AX 0 (α:=Unit) (λ_=>[(0,.ptr q 0),(54,.bool K)]) (λ_=>G) (λ_ m=>n<=m) (CK dU rfl (by kernel_rfl) (by kernel_rfl) ?_) (λ_ m f=>?_);have R:=Int.le_of_lt h1;simp[go_sem,dU,hc,h0,R];refine⟨?_,?_⟩ <;>
   . refine qz (b8 _ _) ?_;cases Y:G9 (s.extract at_.toNat s.size) ⟨#[37,100]⟩with
     | false=>
      have:K=false:=by rw[r,Y];rfl
      simp[go_sem,IO,f,this]
     | true=>
      have Z:K=WQ s (at_+2):=by rw[r,Y];rfl
      simp[go_sem,hc,w2];refine qP (ZG S (at_+2) (by omega)) ?_;rintro v A n' ⟨rfl,rfl,rfl⟩;rw[<-Z];simp[go_sem,IO,f]
   have j:K=true->at_+2<s.size:=λg=>by
    rw[r,qo]at g;exact WR g.2
   cases K with
   | true=>
    have D:=j rfl;refine Au (b:=true) (by simp[go_sem]) ?_;simp only[if_true];refine AX 0 (α:=Hp) (λ_=>[(0,.ptr q 0)]) (λz=>z) (Xl G q B n s λc d a i e'=>c=at_/\d=[]/\(Ke a=Ke ps++(flL bs++[RW s (at_+2)])/\a.length<=ps.length+2)/\i=IntKind.i64.wrap (H+1)/\e'=e) (CK Y0 rfl (by kernel_rfl) (by kernel_rfl) ?_) (λz m f=>?_);have hkl:(at_+2).toNat<s.size:=by omega
    obtain⟨x,N⟩:∃x,s[(at_+2).toNat]'hkl=x:=⟨_,rfl⟩
    have t:s[(at_+2).toNat]? = some x:=by rw[V1 hkl,N]
    have C:0<=at_+2:=by omega
    have u:IntKind.i64.wrap (IntKind.u8.wrap ((x.toNat:Int)-48))=RW s (at_+2):=by unfold RW;rw[t]
    simp[go_sem,Y0,hc,w2,C,t];refine⟨?_,?_⟩ <;>
    . refine qP (ZH S hb M) ?_;rintro v A n' F;rw[u]at F;simp[go_sem,IO];exact⟨A,F.st f,AC⟩
    obtain⟨f,a1,a2,a3,a4,a5,⟨rfl,rfl,⟨V,hl⟩,rfl,rfl⟩,⟨p,I,J,T⟩,E⟩:=f;refine AJ ?_;have L:=T.cells;simp[go_sem,L,w3];exact fin _ _ _ _ _ _ _ _ _ _ _ _ _ T E f ⟨by unfold ZT;rw[<-k,<-l,<-r,V];rfl,.inl ⟨by omega,by omega,rfl⟩,by simp,hl⟩
   | false=>
    refine Au (b:=false) (by simp[go_sem]) ?_;simp only[qn,if_false];refine AJ ?_;simp[go_sem,hc];exact fin _ _ _ _ _ _ _ _ _ _ _ _ _ W (λ_ _ _ h=>h) f ⟨by unfold ZT;rw[<-k,<-l,<-r];rfl,.inr ⟨rfl,rfl⟩,by omega,by omega⟩
abbrev Y7:=Int×List UInt8×List Int×Int×Int
def QM (s:ByteArray) (z:Y7):Y7:=match s[z.1.toNat]? with
 | some x=>if((x.toNat:Int)==37)then ZT s z.1 z.2.2.2.1 z.2.2.2.2 z.2.1 z.2.2.1 else(z.1+1,z.2.1++[x],z.2.2.1,z.2.2.2.1,z.2.2.2.2)
 | none=>(z.1+1,z.2)
def bB (s:ByteArray) (z:Y7):Nat:=2*(s.size-z.1).toNat+(if z.2.2.2.2=0 then 1 else 0)
theorem ae {s:ByteArray} {z:Y7} (h:z.1<s.size/\z.2.2.2.2=0):bB s (QM s z)<bB s z:=by
 have one:∀y:Y7,(z.1<y.1/\y.2.2.2.2=z.2.2.2.2)\/(y.1=z.1/\y.2.2.2.2≠0)->bB s y<bB s z:=λy g=>by
  unfold bB;rcases g with⟨b,a⟩|⟨b,a⟩
  rw[a];omega;rw[b,if_neg a,if_pos h.2];omega
 refine one _ ?_;unfold QM ZT;split;split;split;exact .inl ⟨by dsimp only;omega,rfl⟩;split;exact .inl ⟨by dsimp only;omega,rfl⟩;split;exact .inl ⟨by dsimp only;omega,rfl⟩;exact .inr ⟨rfl,by dsimp only;omega⟩;exact .inl ⟨by dsimp only;omega,rfl⟩;exact .inl ⟨by dsimp only;omega,rfl⟩
def bC (s:ByteArray) (z:Y7):Y7:=if _h:z.1<s.size/\z.2.2.2.2=0 then bC s (QM s z)else z
termination_by bB s z
decreasing_by exact ae _h
def XO (s:ByteArray):Y7:=bC s (0,[],[],0,0)
def ZX (s:ByteArray):List Int:=(XO s).2.2.1++flL (XO s).2.1
def ZW (s:ByteArray):Int:=if(XO s).2.2.2.2=0/\9<(XO s).2.2.2.1 then 9 else(XO s).2.2.2.2
def SnX (G:Hp) (q B n:Nat) (s:ByteArray) (z:Hp×Int×Int) (m:Nat):Prop:=Xl G q B n s (λat_ bs ps pl e=>SnR s z.2 at_ bs ps pl e/\bC s (at_,bs,Ke ps,pl,e)=XO s) z.1 m
def SnY (G:Hp) (q B n:Nat) (s:ByteArray) (z:Hp×Int×Int) (m:Nat):Prop:=Xl G q B n s (λat_ bs ps pl e=>SnR s z.2 at_ bs ps pl e/\(at_,bs,Ke ps,pl,e)=XO s) z.1 m
set_option maxHeartbeats 2000000 in
theorem cO {G:Hp} {n q B:Nat} {s:ByteArray} (S:Vg G q B s 0 [] [] 0 0) (hs:s.size<=1024):
 BL Tryz.prog 320 [.ptr q 0] G n (Y6 q B s G n λ_ _ f _ e'=>f.length<=1048576/\Ke f=ZX s/\e'=ZW s):=by
 refine DO Tryz.func320 rfl λho=>?_;refine AX 0 (α:=Hp×Int×Int) (λ_=>[(0,.ptr q 0)]) (λz=>z.1) (SnY G q B n s) ?_ (λz m Y=>?_);refine AY (BT 0 (α:=Hp×Int×Int) (λ_=>[(0,.ptr q 0)]) (λz=>z.1) (SnX G q B n s) (dx s) (G,0,0) ⟨qa _,0,[],[],0,0,⟨⟨rfl,rfl,by omega,by simp,by simp,by simp,by simp⟩,rfl⟩,S,λ_ _ _ h=>h⟩ ?_ AC ?_);simp[go_sem,Ao,IO];rintro⟨z,a0,e0⟩ m ⟨Y,at_,bs,ps,d,e,⟨⟨h1,h2,M,h4,R,h6,h7⟩,hw⟩,T,r⟩;dsimp only at h1 h2 T r ⊢;subst h1;subst h2;obtain⟨p,ob,op,T0⟩:=id T;have hc:=T0.cells;by_cases c:at_<s.size/\e=0;obtain⟨c1,rfl⟩:=c;have hl:=R rfl;have hbl:bs.length<=1024/\ps.length<=2048:=by omega
 refine CW 0 [(0,.ptr q 0)] z m ?_ (λm3 hm3=>?_);refine AX 0 (α:=Unit) (λ_=>[(0,.ptr q 0),(18,.bool true)]) (λ_=>z) (λ_ m2=>m<=m2) (CK Xb rfl (by kernel_rfl) (by kernel_rfl) ?_) (λ_ m2 j=>?_);simp[go_sem,Xb,hc,c1,IO];refine AJ ?_;simp[go_sem,IO,j];refine AY ?_;have hkl:at_.toNat<s.size:=by omega
 obtain⟨x,hx⟩:∃x,s[at_.toNat]'hkl=x:=⟨_,rfl⟩
 have D:s[at_.toNat]? = some x:=by rw[V1 hkl,hx]
 obtain⟨b,hb⟩:∃b:Bool,b=((x.toNat:Int)==37):=⟨_,rfl⟩
 have O:bC s (if b then ZT s at_ d 0 bs (Ke ps)else(at_+1,bs++[x],Ke ps,d,0))=XO s:=by
  rw[<-hw,bC.eq_def s (at_,bs,Ke ps,d,0),dif_pos ⟨c1,rfl⟩];unfold QM;dsimp only;rw[D,hb]
 refine Bg 0 [(0,.ptr q 0)] z (λm2=>m<=m2/\b=false) ?_ (λm4 t=>?_);refine AX 0 (α:=Unit) (λ_=>[(0,.ptr q 0),(28,.bool b)]) (λ_=>z) (λ_ m4=>m3<=m4) (CK dX rfl (by kernel_rfl) (by kernel_rfl) ?_) (λ_ m4 t=>?_);simp[go_sem,dX,hc,M,D,IO];exact by rw[hb];exact IO
 refine AJ ?_;cases b with
 | false=>simp[go_sem,IO];omega
 | true=>
  simp[go_sem];refine qP (cP T M c1 (by omega) (by omega) (by omega)) ?_;rintro v J n' ⟨a1,a2,a3,a4,a5,⟨hpc,hor,r2,r3⟩,r6,r7,r8⟩;simp[go_sem,IO];have X:∀o y,o<B->G o=some y->J o=some y:=λo y a k=>r7 o y a (r o y a k);refine⟨J,a1,a5,?_,⟨by omega,a1,a2,a3,a4,a5,⟨⟨rfl,rfl,by omega,by omega,λg=>by omega,by omega,by omega⟩,by rw[hpc];exact O⟩,r6,X⟩,AC⟩;rcases hor with⟨a,k,rfl⟩|⟨rfl,rfl⟩
  simp[dx];omega;simp[dx]
 obtain⟨t,rfl⟩:=t;refine Pq λZ=>?_;refine AX 0 (α:=Hp) (λ_=>[(0,.ptr q 0)]) (λy=>y) (Xl z q B m s λP Q f I e'=>P=at_/\Q=bs++[x]/\f=ps/\I=d/\e'=0) (CK dY rfl (by kernel_rfl) (by kernel_rfl) ?_) (λy m5 N=>?_);simp[go_sem,dY,hc,M,D];refine⟨?_,?_⟩ <;>
 . refine qP (ZE T Z (by omega) x) ?_;rintro v J n' hq;simp[go_sem,IO];exact⟨J,hq.st t,AC⟩
 obtain⟨N,a1,a2,a3,a4,a5,⟨rfl,rfl,rfl,rfl,rfl⟩,⟨p1,F,H,l⟩,i⟩:=N;have hT:=l.cells;have w1:IntKind.i64.wrap (a1+1)=a1+1:=by rw[DA]<;>omega
 refine AJ ?_;simp[go_sem,hT,w1,IO];refine⟨_,a1+1,0,by simp[dx];omega,⟨by omega,a1+1,bs++[x],a3,a4,0,⟨⟨rfl,rfl,by omega,by omega,λ_=>by simp;omega,by simp;omega,by omega⟩,O⟩,l.upd (a1+1) a4 0,λo w a k=>?_⟩,AC⟩;have:=l.le;exact(AE _ _ (show o≠q by omega)).trans (i o w a (r o w a k));refine Bg 0 [] z (λ_=>False) ?_ (λ_ U=>U.elim);refine AX 0 (α:=Unit) (λ_=>[(0,.ptr q 0),(18,.bool false)]) (λ_=>z) (λ_ m2=>m<=m2) (CK Xb rfl (by kernel_rfl) (by kernel_rfl) ?_) (λ_ m2 j=>?_);by_cases c1:at_<s.size;have C:¬e=0:=λg=>c ⟨c1,g⟩;have c3:(e==0)=false:=by simpa using C
 simp[go_sem,Xb,hc,c1,c3,IO];simp[go_sem,Xb,hc,c1,IO];refine AJ ?_;simp[go_sem,IO];have U:(at_,bs,Ke ps,d,e)=XO s:=by rw[<-hw,bC.eq_def,dif_neg c]
 exact⟨z,⟨at_,e,by omega,at_,bs,ps,d,e,⟨⟨rfl,rfl,M,h4,R,h6,h7⟩,U⟩,T,r⟩,AC⟩;obtain⟨z,a0,e0⟩:=z;obtain⟨Y,at_,bs,ps,d,e,⟨⟨h1,h2,M,h4,R,h6,h7⟩,hw⟩,T,r⟩:=Y;dsimp only at h1 h2 T r ⊢;refine B8 0 (α:=Hp) (λ_=>[(0,.ptr q 0)]) (λy=>y) (Xl z q B m s λ_ _ f I e'=>f.length<=1048576/\Ke f=ZX s/\I=(XO s).2.2.2.1/\e'=(XO s).2.2.2.2) ?_ (λy m2 j=>?_);simp[go_sem];refine qP (ZF T (by omega) (by omega)) ?_;rintro v J n' ⟨b1,K,L,u,A,⟨r1,r2,⟨rl,r3⟩,r4,r5⟩,r6,r7,r8⟩;simp[go_sem,IO];exact⟨J,⟨r8,b1,K,L,u,A,⟨by omega,by rw[rl,ZX,<-hw],by rw[r4,<-hw],by rw[r5,<-hw]⟩,r6,r7⟩,AC⟩;obtain⟨j,b1,K,L,u,A,⟨E,V,hP,hE⟩,⟨p1,F,H,l⟩,i⟩:=j;have W:ZW s=if A=0/\9<u then 9 else A:=by rw[ZW,<-hP,<-hE]
 have hc:=l.cells;refine AJ ?_;by_cases c1:A=0;by_cases C:9<u;simp[go_sem,hc,c1,C];refine .inl ⟨b1,K,L,u,9,⟨E,V,by rw[W,if_pos ⟨c1,C⟩]⟩,l.upd b1 u 9,λo y a k=>?_,by omega⟩;have:=l.le;rw[AE _ _ (by omega)];exact i o y a (r o y a k);simp[go_sem,hc,c1,C];exact .inl ⟨b1,K,L,u,A,⟨E,V,by rw[W,if_neg λg=>C g.2]⟩,⟨p1,F,H,l⟩,λo y a k=>i o y a (r o y a k),by omega⟩;simp[go_sem,hc,c1];exact .inl ⟨b1,K,L,u,A,⟨E,V,by rw[W,if_neg λg=>c1 g.1]⟩,⟨p1,F,H,l⟩,λo y a k=>i o y a (r o y a k),by omega⟩
def cA (s:ByteArray):Bool:=Jo (λi=>match(s.data.toList.map λx=>(x.toNat:Int))[i]? with|some b=>decide (b<32)||decide (b=127)|none=>false) (s.data.toList.map λx=>(x.toNat:Int)).length
def Vj (s:ByteArray):Int:=if(64:Int)<s.size then 10 else if A5 s=false then 12 else if cA s=true then 5 else ZW s
def PaX (s:ByteArray) (v:SV):Prop:=∃ps:List CJ,v=.tup [.imm 3 (ps.map CJ.enc) false,AA (Vj s)]/\ps.length<=1048576/\(Vj s=0->Ke ps=ZX s)
theorem dM (s:ByteArray) (P:s.size<=1048576):TC 302 [.str s] (PaX s):=by
 intro h n;refine DO Tryz.func302 rfl λI=>?_;have out:∀(H:Hp) (m:Nat) (e:Int),e=Vj s->e≠0->(∀j y,h j=some y->H j=some y)->CO n H m (.tup [.imm 0 [] true,AA e]) (λv h' n'=>PaX s v/\h'=h/\n'=n):=λH m e N G E=>
  ZV 2 I E (v:=.tup [.imm 3 [] false,AA e]) (.inr ⟨Bj (by simp),IO,trivial⟩) (by simp[closed,closedL]) ⟨[],by rw[N];rfl,by simp,λg=>absurd (N.trans g) G⟩
 refine Aa 0 [(0,.str s)] h n ?_ (λm B=>?_);simp[go_sem,IO];refine AX 0 (α:=Unit) (λ_=>[(0,.str s)]) (λ_=>h) (λ_ m=>n<=m/\s.size<=64/\Vj s=ZW s) (AY ?_) (λ_ m B=>?_)
 . by_cases a1:(64:Int)<s.size;refine AJ ?_;simp[go_sem,a1];exact out _ _ 10 (by unfold Vj;rw[if_pos a1]) (by decide) AC;have hl:s.size<=64:=by omega
   refine AJ ?_;simp[go_sem,a1];refine(Sn s (by omega)).use ?_;cases J:A5 s with
   | false=>
    simp[go_sem];exact out _ _ 12 (by unfold Vj;rw[if_neg a1,if_pos J]) (by decide) AC
   | true=>
   simp[go_sem];have C:∀b:List UInt8,b.map Ev=(b.map λx=>(x.toNat:Int)).map Jy:=λb=>by rw[ke];rfl
   refine VM (s:=s) (e:=5) rfl (by simp[go_sem]) (by simp[go_sem]) (by simp[go_sem]) rfl ?_;rw[C];have r:s.data.toList.length=s.size:=by rw[vl];rfl
   have d:=iB (s.data.toList.map λx=>(x.toNat:Int)) (by simp[r];omega) 319 [] [] (λi=>match(s.data.toList.map λx=>(x.toNat:Int))[i]? with|some b=>decide (b<32)||decide (b=127)|none=>false) (λi hi=>by rw[qe hi];exact iC _);obtain⟨b,hb⟩:∃b,b=cA s:=⟨_,rfl⟩
   have F8:Jo (λi=>match(s.data.toList.map λx=>(x.toNat:Int))[i]? with|some b=>decide (b<32)||decide (b=127)|none=>false) (s.data.toList.map λx=>(x.toNat:Int)).length=b:=by rw[hb];rfl
   rw[F8]at d;generalize(s.data.toList.map λx=>(x.toNat:Int)).map Jy=L at d ⊢;simp[go_sem];refine qz d ?_;cases b with
   | true=>
    simp[go_sem];exact out _ _ 5 (by unfold Vj;rw[if_neg a1,if_neg (by rw[J];decide),if_pos hb.symm]) (by decide) AC
   | false=>
    simp[go_sem,IO,B,hl];unfold Vj;rw[if_neg a1,if_neg (by rw[J];decide),if_neg (by rw[<-hb];decide)]
 obtain⟨B,hl,u⟩:=B;refine Pq λq=>?_;refine B8 0 (α:=Hp) (λ_=>[(4,.ptr m 0)]) (λz=>z) (λz m2=>m<m2/\Vg z m m s 0 [] [] 0 0/\∀o y,h o=some y->z o=some y) ?_ (λz m2 t=>?_);simp[go_sem,IO];exact⟨_,⟨⟨.nilp,none,none,qa _,AD _ _ _,.inl rfl,λ_=>rfl,by simp,λ_=>rfl,by simp⟩,AL (λj y e=>(q j y e).1) AC⟩,AC⟩;obtain⟨t,S,O⟩:=t;refine AX 0 (α:=Hp) (λ_=>[(4,.ptr m 0)]) (λy=>y) (Xl z m m m2 s λ_ _ l _ e'=>(l.length<=1048576/\Ke l=ZX s/\e'=ZW s)/\e'=0) ?_ (λy Q k=>?_);refine B8 0 (α:=Hp) (λ_=>[(4,.ptr m 0)]) (λy=>y) (Xl z m m m2 s λ_ _ l _ e'=>l.length<=1048576/\Ke l=ZX s/\e'=ZW s) ?_ (λy Q k=>?_);simp[go_sem];refine qP (cO S (by omega)) ?_;rintro v U n' Y;simp[go_sem,IO];exact⟨U,Y.st (qa _),AC⟩;obtain⟨k,b1,K,ps,M,e,a,⟨R,A,c,T⟩,p⟩:=k;have hc:=T.cells;have f:∀o w,h o=some w->y o=some w:=λo w g=>p o w (q o w g).1 (O o w g);by_cases c1:e=0;refine AJ ?_;simp[go_sem,hc,c1,IO];exact⟨y,⟨by omega,b1,K,ps,M,e,⟨a,c1⟩,⟨R,A,c,T⟩,p⟩,AC⟩;have V:(e !=0)=true:=by simpa using c1
 refine By 0 [(4,.ptr m 0),(26,.bool true)] y (λ_=>True) ?_ (λm4 _=>?_);simp[go_sem,hc,V,IO];refine Au (b:=true) (by simp[go_sem]) ?_;simp only[if_true];refine AX 0 (α:=Unit) (λ_=>[(2,.imm 0 [] true),(3,AA e)]) (λ_=>y) (λ_ _=>True) (CK dV rfl (by kernel_rfl) (by kernel_rfl) ?_) (λ_ m5 _=>?_);simp[go_sem,dV,hc,IO];refine AJ ?_;simp[go_sem];exact out _ _ e (by rw[u];exact a.2.2) c1 f;obtain⟨k,b1,K,ps,M,e,⟨a,W⟩,⟨R,A,c,T⟩,p⟩:=k;have D:(0:Int)=ZW s:=by rw[<-a.2.2,W]
 have hc:=T.cells;have f:∀o w,h o=some w->y o=some w:=λo w g=>p o w (q o w g).1 (O o w g);refine AJ ?_;simp[go_sem,hc];have X:BR n (Q+(c.getD 0)+1) 3 c (ps.map CJ.enc):=⟨λe=>by rw[T.o0 e];rfl,λj e=>⟨by have:=(T.o1 j e).1;omega,by rw[e];simp;omega⟩,CJ.size ps⟩
 have E:∀j w,AV c (ps.map CJ.enc) h j=some w->y j=some w:=λj w g=>by
  cases c with
  | none=>exact f j w g
  | some i=>
   simp only[AV,hset]at g;split at g;rename_i F;subst F;rw[(T.o1 j rfl).2.2.2];exact g;exact f j w g
 exact ZV 2 I f (v:=.tup [.imm 3 (ps.map CJ.enc) false,AA 0]) (.inr ⟨AW.fz I X E,IO,trivial⟩) (by simp[closed,closedL];exact EO.2 λs P=>by obtain⟨x,_,rfl⟩:=ql.1 P;rfl) ⟨ps,by rw[u,<-D],a.1,λ_=>a.2.1⟩
def Zl (L:List Int) (k:Int):Bool:=Jo (λi=>match L[i]? with|some x=>decide (k<x)|none=>false) L.length
def ZP (s:ByteArray) (k:Int):Int:=if k<1\/9<k then 2 else if Vj s=0 then(if Zl (ZX s) k then 6 else 0)else Vj s
theorem gU (s:ByteArray) (u:s.size<=1048576) (k:Int):PC 271 [.str s,AA k] (AA (ZP s k)):=by
 intro h n;refine DO Tryz.func271 rfl λq=>?_;have d:=q.lt;have out:∀(e:Int) (m:Nat),e=ZP s k->CO n h m (AA e) (Is (AA (ZP s k)) h n):=λe m t=>As q rfl (by rw[t]);refine Aa 1 [(0,.str s),(3,.iptr [AA k])] h n ?_ (λm f=>?_);simp[go_sem,IO];exact⟨AZ (AS d (qa _)) (AD _ _ _),AL d AC⟩;refine Bg 0 [(0,.str s),(3,.iptr [AA k])] h (λm=>n<=m/\¬(k<1\/9<k)) (AJ ?_) (λm f=>?_);by_cases a1:k<1;simp[go_sem,a1];exact out 2 _ (by unfold ZP;rw[if_pos (.inl a1)]);by_cases a2:9<k;simp[go_sem,a1,a2];exact out 2 _ (by unfold ZP;rw[if_pos (.inr a2)]);simp[go_sem,a1,a2,IO,f];obtain⟨f,o⟩:=f;refine AJ ?_;simp[go_sem];refine TC.use (dM s u) ?_;rintro v ⟨ps,rfl,j,g⟩;by_cases c:Vj s=0;have a:=gr ps j 304 [] [.iptr [AA k]] (λi=>match ps[i]? with|some p=>decide (k<p.level)|none=>false) (λi hi=>by rw[qe hi];exact gu _ k);obtain⟨b,hb⟩:∃b,b=Zl (ZX s) k:=⟨_,rfl⟩
 have F8:Jo (λi=>match ps[i]? with|some p=>decide (k<p.level)|none=>false) ps.length=b:=by
  rw[hb,<-g c];unfold Zl Ke;rw[qf];congr 1;funext i;rw[qX];cases ps[i]? <;> rfl
 rw[F8]at a;have l:ZP s k=if b then 6 else 0:=by unfold ZP;rw[if_neg o,if_pos c,hb]
 simp[go_sem,c];refine qz a ?_;cases b;simp[go_sem];exact out 0 _ (by rw[l];rfl);simp[go_sem];exact out 6 _ (by rw[l];rfl);have r:(Vj s==0)=false:=by simpa using c
 simp[go_sem,r];exact out _ _ (by unfold ZP;rw[if_neg o,if_neg c])
end Go.Proofs.YtgakninlhfkkmaaGreat.Sh
