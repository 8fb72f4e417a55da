/- A part of the proof (part 14 of 18). -/
import Derived.Test.YtgakninlhfkkmaaGreatN13
namespace Go.Proofs.YtgakninlhfkkmaaGreat.Sh
open Go.Proofs.Tryz
abbrev S5:=@AB.rl_eq
abbrev TN:=@cr.rl_eq
abbrev wu:=@AB.rlL_eq
open Proofs
set_option maxRecDepth 10000
set_option maxHeartbeats 4000000
def Ky:List (Int×Int)->Int->Option Int
 | [],_=>none
 | a::l,x=>if a.1=x then some a.2 else Ky l x
def LM:List (Int×Int)->Int->Int->List (Int×Int)
 | [],x,v=>[(x,v)]
 | a::l,x,v=>if a.1=x then(x,v)::l else a::LM l x v
theorem JU(x:Int):∀(l:List (Int×Int))(i:Nat),(DT (AA x) (H4 l) i=some none/\Ky l x=none)\/∃j v,DT (AA x) (H4 l) i=some (some (j,AA v))/\Ky l x=some v
 | [],i=>.inl ⟨rfl,rfl⟩
 | a::l,i=>by
  by_cases e:x=a.1;exact .inr ⟨i,a.2,by simp[H4,DT,Ht,e],by rw[Ky,if_pos e.symm]⟩;have h:(x==a.1)=false:=by simpa using e
  rw[Ky,if_neg λg=>e g.symm];rcases JU x l (i+1)with⟨g,k⟩|⟨j,v,g,k⟩
  left;refine⟨?_,k⟩;simp only[H4,qr,DT,Ht,if_true,h];exact g;right;refine⟨j,v,?_,k⟩;simp only[H4,qr,DT,Ht,if_true,h];exact g
theorem L8(x v:Int):∀(l:List (Int×Int))(i:Nat),(DT (AA x) (H4 l) i=some none/\H4 l++[(AA x,AA v)]=H4 (LM l x v))\/∃j w,DT (AA x) (H4 l) i=some (some (i+j,AA w))/\(H4 l).modify j (λ_=>(AA x,AA v))=H4 (LM l x v)
 | [],i=>.inl ⟨rfl,rfl⟩
 | a::l,i=>by
  by_cases e:x=a.1;exact .inr ⟨0,a.2,by simp[H4,DT,Ht,e],by rw[LM,if_pos e.symm];simp[H4]⟩;have h:(x==a.1)=false:=by simpa using e
  rw[LM,if_neg λg=>e g.symm];rcases L8 x v l (i+1)with⟨g,k⟩|⟨j,w,g,k⟩
  left;refine⟨?_,?_⟩;simp only[H4,qr,DT,Ht,if_true,h];exact g;simp only[H4,qr,qx]at k ⊢;rw[k];right;refine⟨j+1,w,?_,?_⟩;simp only[H4,qr,DT,Ht,if_true,h];rw[show i+(j+1)=i+1+j by omega];exact g;simp only[H4,qr,List.modify_succ_cons]at k ⊢;rw[k]
def KO(l:List A7):Nat->List (Int×Int)
 | 0=>[]
 | i+1=>match l[i]? with
  | some s=>LM (KO l i) s.id i
  | none=>KO l i
theorem SS{x v:Int}:∀{l:List (Int×Int)} {p:Int×Int},p∈LM l x v->p∈l\/p.2=v
 | [],p,h=>by rw[LM,qy]at h;rw[h];exact .inr rfl
 | a::l,p,h=>by
  rw[LM]at h;split at h;rcases qt.1 h with e|e;rw[e];exact .inr rfl;exact .inl (Q9 _ e);rcases qt.1 h with e|e;rw[e];exact .inl (qV ..);exact(SS e).imp_left (Q9 _)
theorem P9(l:List A7):∀i,i<=l.length->dt l (KO l i)
 | 0,_=>λp hp=>by cases hp
 | i+1,h=>λp hp=>by
  rw[KO,qe (by omega:i<l.length)]at hp;rcases SS hp with g|g;exact P9 l i (by omega) p g;omega
theorem UL{l:List A7}{x v:Int}:∀{a:List (Int×Int)},dt l a->Ky a x=some v->0<=v/\v<l.length
 | [],_,h=>by cases h
 | p::a,H,h=>by
  rw[Ky]at h;split at h;cases h;exact H p (qV ..);exact UL (λq b=>H q (Q9 _ b)) h
def Qg(l:List A7):Nat->Int->Bool
 | 0,id=>if id=0 then false else(Ky (KO l l.length) id).isSome
 | f + 1, id => if id = 0 then false else match Ky (KO l l.length) id with
  | none=>false
  | some v=>match l[v.toNat]? with
   | some x=>Qg l f x.base
   | none=>false
theorem WC(l:List A7)(f:Nat):Qg l f 0=false:=by cases f<;>simp[Qg]
theorem WB{l:List A7}{f:Nat}{id:Int}(h:¬id=0)(g:Ky (KO l l.length) id=none):Qg l f id=false:=by cases f<;>simp[Qg,h,g]
theorem V9{l:List A7}{id v:Int}(h:¬id=0)(g:Ky (KO l l.length) id=some v):Qg l 0 id=true:=by simp[Qg,h,g]
theorem WA{l:List A7}{f:Nat}{id v:Int}{x:A7}(h:¬id=0)(g:Ky (KO l l.length) id=some v)(a:v.toNat<l.length)(b:l[v.toNat]=x):Qg l (f+1) id=Qg l f x.base:=by simp[Qg,h,g,a,b]
structure YX(E:CC)(yl:Nat)(N:Nat)(J:Nat->Hp->Nat->Prop)(Jx:Hp->Nat->Prop)(D:Nat->Prop):Prop where
 step:∀c (x:A7) h m,J c h m->FV E prog yl [x.e] h m (λv h' m'=>m<=m'/\(∀o,¬D o->o<m->h' o=h o)/\((v=.bool true/\c+1<=N/\J (c+1) h' m')\/(v=.bool false/\¬(c+1<=N)/\Jx h' m')))
 keep:∀c h m h' m',J c h m->m<=m'->(∀o,D o->h' o=h o)->J c h' m'
 lt:∀c h m,J c h m->∀o,D o->o<m
section
variable{E:CC}{yl N:Nat}{J:Nat->Hp->Nat->Prop}{Jx:Hp->Nat->Prop}{D:Nat->Prop}
theorem cK(Y:YX E yl N J Jx D)(l:List A7)(hl:l.length<=1048576){H:Hp}{n k:Nat}{id:Int}(hk:H k=some (.cells [AA id]))(hkD:¬D k)(hJ:J 0 H n):
 Ap E prog 270 [.fn (.yield yl) [] [],.q [Aj l],.ptr k 0] H n (λ_ h' m'=>n<=m'/\(∀o,¬D o->o≠k->o<n->h' o=H o)/\((Qg l N id=false/\∃c,J c h' m')\/(Qg l N id=true/\Jx h' m'))):=by
 refine DO func270 rfl λho=>?_;have hHb:=ho.lt;have hkn:k<n:=hHb k _ hk;have hDn:=Y.lt _ _ _ hJ;have nk:k≠n:=by omega
 refine By 0 [(0,.fn (.yield yl) [] []),(1,.q [Aj l]),(2,.ptr k 0),(4,.map n)] (h_ H n (some (.map (H4 [])))) (λm=>n<m) ?_ (λm hm=>?_);simp[go_sem,IO,H4];refine Bg 0 [(0,.fn (.yield yl) [] []),(1,.q [Aj l]),(2,.ptr k 0),(4,.map n)] (h_ H n (some (.map (H4 (KO l l.length))))) (λm=>n<m) ?_ (λm hm=>?_)
 . refine By 0 [(0,.fn (.yield yl) [] []),(1,.q [Aj l]),(2,.ptr k 0),(4,.map n),(10,Aj l),(11,AA l.length),(12,AA 0)] (h_ H n (some (.map (H4 [])))) (λm=>n<m) ?_ (λm hm=>?_);simp[go_sem,IO,hm];refine AY (BT 0 (α:=Nat) (λi=>[(0,.fn (.yield yl) [] []),(1,.q [Aj l]),(2,.ptr k 0),(4,.map n),(10,Aj l),(11,AA l.length),(12,AA i)]) (λi=>h_ H n (some (.map (H4 (KO l i))))) (λi m=>i<=l.length/\n<m) (λi=>l.length-i) 0 ⟨qg _,hm⟩ ?_ AC ?_);simp[go_sem,Ao,IO];rintro i m ⟨hi,hm⟩;obtain⟨a,haa⟩:∃a,a=KO l i:=⟨_,rfl⟩
   have ha:dt l a:=by rw[haa];exact P9 l i hi
   rw[<-haa];by_cases hlt:i<l.length
   . have w1:=wS i (by omega);obtain⟨x,hx⟩:∃x,l[i]=x:=⟨_,rfl⟩
     refine By 0 [(0,.fn (.yield yl) [] []),(1,.q [Aj l]),(2,.ptr k 0),(4,.map n),(10,Aj l),(11,AA l.length),(12,AA i),(13,.bool true)] (h_ H n (some (.map (H4 a)))) (λm=>n<m) ?_ (λm hm=>?_);simp[go_sem,IO,hm,hlt];refine By 0 [(0,.fn (.yield yl) [] []),(1,.q [Aj l]),(2,.ptr k 0),(4,.map n),(10,Aj l),(11,AA l.length),(12,AA i)] (h_ H n (some (.map (H4 a)))) (λm=>n<m) ?_ (λm hm=>?_);simp[go_sem,IO,hm];refine AX 0 (α:=Unit) (λ_=>[(0,.fn (.yield yl) [] []),(1,.q [Aj l]),(2,.ptr k 0),(4,.map n),(10,Aj l),(11,AA l.length),(12,AA i)]) (λ_=>h_ H n (some (.map (H4 (LM a x.id i))))) (λ_ m=>n<m) (AY ?_) (λ_ m hm=>?_)
     . refine By 1 [(0,.fn (.yield yl) [] []),(1,.q [Aj l]),(2,.ptr k 0),(4,.map n),(10,Aj l),(11,AA l.length),(12,AA i),(5,AA i),(6,.q [AA x.id,AA x.k,.str x.name,AA x.base,AA x.next,AU x.Q])] (h_ H n (some (.map (H4 a)))) (λm=>n<m) ?_ (λm hm=>?_);have hHm:∀j y,h_ H n (some (.map (H4 a))) j=some y->j<m:=λj y e=>by
        simp only[h_]at e;split at e;omega;have:=hHb j y e;omega
       simp[go_sem,IO,hlt,hx,A7.e,AD];exact⟨by omega,AZ (AS hHm (qa _)) (AD _ _ _),AL hHm (AL hHm AC)⟩;refine AJ ?_;rcases L8 x.id i a 0 with⟨hf,hpush⟩|⟨j,v,hf,hset'⟩
       simp[go_sem,AD,hf,Cc,hpush,IO,Ah];exact hm;have hset':(H4 a).modify j (λ_=>(AA x.id,AA i))=H4 (LM a x.id i):=hset';simp[go_sem,AD,hf,Cc,hset',IO,Ah];exact hm
     refine AJ ?_;have hst:KO l (i+1)=LM a x.id i:=by rw[KO,qe hlt,hx,haa]
     simp[go_sem,w1,IO,-Int.natCast_add];exact⟨i+1,by omega,⟨by omega,hm⟩,rfl,by rw[hst];exact AC⟩
   refine AJ ?_;have e:i=l.length:=by omega
   simp[go_sem,IO,hm,haa,e]
 obtain⟨a,haa⟩:∃a,a=KO l l.length:=⟨_,rfl⟩
 have ha:dt l a:=by rw[haa];exact P9 l _ (qa _)
 rw[<-haa];have hnD:¬D n:=λg=>by have:=hDn n g;omega
 refine AJ ?_;simp[go_sem];refine Av 0 (α:=Nat×Int×Hp) (λ_=>[(0,.fn (.yield yl) [] []),(1,.q [Aj l]),(2,.ptr k 0),(4,.map n)]) (λq=>q.2.2) (λq m=>n<m/\J q.1 q.2.2 m/\q.2.2 k=some (.cells [AA q.2.1])/\q.2.2 n=some (.map (H4 a))/\(∀o,¬D o->o≠k->o<n->q.2.2 o=H o)/\q.1<=N/\Qg l (N-q.1) q.2.1=Qg l N id) (λq=>N-q.1)
  (0,id,h_ H n (some (.map (H4 a)))) ⟨hm,Y.keep _ _ _ _ _ hJ (by omega) λo g=>AE _ _ (by have:=hDn o g;omega),(AE _ _ nk).trans hk,AD _ _ _,λo _ _ g=>AE _ _ (by omega),qg _,rfl⟩ ?_ AC ?_
 simp[Ao,IO];obtain⟨id0,hid0⟩:∃id0,id0=id:=⟨_,rfl⟩
 rw[<-hid0];rintro⟨c,id,G⟩ m ⟨hm,hJ,hGk,hGn,BV,hcN0,hch⟩;dsimp only at hJ hGk hGn BV hcN0 hch ⊢;by_cases h0:id=0;simp[go_sem,hGk,h0];exact .inl ⟨by omega,BV,.inl ⟨by rw[<-hch,h0];exact WC _ _,c,hJ⟩⟩;have h0':(id !=0)=true:=by simpa using h0
 rcases JU id a 0 with⟨hf,hg⟩|⟨j,v,hf,hg⟩
 simp[go_sem,hGk,hGn,h0',hf,Cc];exact .inl ⟨by omega,BV,.inl ⟨by rw[<-hch,WB h0 (by rw[<-haa];exact hg)],c,hJ⟩⟩;obtain⟨hv1,hv2⟩:0<=v/\v<l.length:=UL ha hg;have hvl:v.toNat<l.length:=by omega
 obtain⟨x,hx⟩:∃x,l[v.toNat]'hvl=x:=⟨_,rfl⟩
 simp[go_sem,hGk,hGn,h0',hf,Cc,hv1,hvl,hx,A7.e];have hy:=Y.step c x G m hJ;simp only[A7.e]at hy;refine FV.mono hy ?_;rintro w G3 m3 ⟨hm3,hfr,⟨rfl,hcN,hj⟩|⟨rfl,hcN,hj⟩⟩;have g3k:G3 k=some (.cells [AA id]):=by rw[hfr k hkD (by omega)];exact hGk
 have g3n:G3 n=some (.map (H4 a)):=by rw[hfr n hnD (by omega)];exact hGn
 simp[go_sem,hv1,hvl,hx,A7.e,g3k];refine⟨c+1,by omega,x.base,h_ G3 k (some (.cells [AA x.base])),⟨by omega,Y.keep _ _ _ _ _ hj (qa _) λo g=>AE _ _ (by rintro rfl;exact hkD g),AD _ _ _,by rw[AE _ _ (Ne.symm nk)];exact g3n,λo g1 g2 g3=>?_,hcN,by rw[<-hch,show N-c=(N-(c+1))+1 by omega];exact(WA h0 (by rw[<-haa];exact hg) hvl hx).symm⟩,AC⟩;rw[AE _ _ g2,hfr o g1 (by omega)];exact BV o g1 g2 g3;simp[go_sem];exact .inl ⟨by omega,λo g1 g2 g3=>by rw[hfr o g1 (by omega)];exact BV o g1 g2 g3,.inr ⟨by rw[<-hch,show N-c=0 by omega];exact V9 h0 (by rw[<-haa];exact hg),hj⟩⟩
end
def Gg(K:Ck)(key id:Int):Int:=
 if key=20 then(if id=0\/Ky K.m0 id=some 1 then 0 else 25)
 else if key=1 then(if id=0\/Ky K.m0 id=some 2 then 0 else 25)
 else if key=33 then(if id=0\/id∈K.m1 then 0 else 26)else 0
section
variable{K:Ck}{n0:Nat}
theorem bY(i:K.ok n0)(s:GR)(kind id:Int){H:Hp}{n:Nat}(r:∀o y,K.st s o=some y->H o=some y):
 BL prog 157 [.ptr K.p 0,AA kind,AA id] H n (Is (AA (Gg K kind id)) H n):=by
 obtain⟨V,b⟩:∃V,V=Gg K kind id:=⟨_,rfl⟩
 rw[<-b];refine gq func157 rfl λq=>?_;obtain⟨hp,h0,h1,h2,h3,h4⟩:=i.has r;have fin:∀(e:Int)(m:Nat),e=V->CO n H m (AA e) (Is (AA V) H n):=λe m l=>As q rfl (by rw[l]);simp only[Ck.cells]at hp;have d:kind=20\/kind=1\/(kind≠20/\kind≠1):=by omega
 rcases d with e|e|⟨e,e'⟩
 by_cases a:id=0;simp[go_sem,e,a];refine(Ki _ _).use ?_;simp[go_sem];refine fin _ _ ?_;rw[b];simp[Gg,e,a];rcases JU id K.m0 0 with⟨f,g⟩|⟨j,k,f,g⟩
 simp[go_sem,e,a,hp,h0,f,Cc];refine(Ki _ _).use ?_;simp[go_sem];refine fin _ _ ?_;rw[b];simp[Gg,e,a,g];simp[go_sem,e,a,hp,h0,f,Cc];refine(Ki _ _).use ?_;simp[go_sem];refine fin _ _ ?_;rw[b];simp[Gg,e,a,g];by_cases a:id=0;simp[go_sem,e,a];refine(Ki _ _).use ?_;simp[go_sem];refine fin _ _ ?_;rw[b];simp[Gg,e,a];rcases JU id K.m0 0 with⟨f,g⟩|⟨j,k,f,g⟩
 simp[go_sem,e,a,hp,h0,f,Cc];refine(Ki _ _).use ?_;simp[go_sem];refine fin _ _ ?_;rw[b];simp[Gg,e,a,g];simp[go_sem,e,a,hp,h0,f,Cc];refine(Ki _ _).use ?_;simp[go_sem];refine fin _ _ ?_;rw[b];simp[Gg,e,a,g];by_cases c:kind=33;by_cases a:id=0;simp[go_sem,c,a];refine(Ki _ _).use ?_;simp[go_sem];refine fin _ _ ?_;rw[b];simp[Gg,c,a];by_cases h:id∈K.m1;obtain⟨j,f,_⟩:=Da 0 h;simp[go_sem,c,a,hp,h1,f,Cc];refine(Ki _ _).use ?_;simp[go_sem];refine fin _ _ ?_;rw[b];simp[Gg,c,a,h];have f:=ET 0 h;simp[go_sem,c,a,hp,h1,f,Cc];refine(Ki _ _).use ?_;simp[go_sem];refine fin _ _ ?_;rw[b];simp[Gg,c,a,h];simp[go_sem,e,e',c];refine fin _ _ ?_;rw[b];simp[Gg,e,e',c]
end
section
variable{K:Ck}{n0:Nat}
def Jr(K:Ck)(el:Int)(ls:List AM)(i:Nat):Int:=match ls[i]? with
 | none=>0
 | some x=>
  if decide (x.rev∈K.m2)=false then 22 else if Oh el x.key=false then 4
  else if(decide (0<i)&&decide (x.key<(ls.getD (i-1) x).key))=true then 6
  else if x.had=false then(if x.before=0 then 0 else 21)else Bc [EZ x.key x.before,Gg K x.key x.before]
theorem fJ(q:K.ok n0)(s:GR)(el:Int)(d:List AM)(hls:d.length<=1048576)(i:Nat)(hi:i<d.length){H:Hp}{n:Nat}(hn:n0<=n)(B:∀o y,K.st s o=some y->H o=some y):
 BL prog 159 [.ptr K.p 0,AA el,Ai d,AA i] H n (Is (AA (Jr K el d i)) H n):=by
 obtain⟨V,a⟩:∃V,V=Jr K el d i:=⟨_,rfl⟩
 rw[<-a];refine DO func159 rfl λA=>?_;obtain⟨x,C⟩:∃x,d[i]=x:=⟨_,rfl⟩
 rw[Jr,qe hi,C]at a;dsimp only at a;obtain⟨h,KL⟩:∃h,h=(decide (0<i)&&decide (x.key<(d.getD (i-1) x).key)):=⟨_,rfl⟩
 rw[<-KL]at a;obtain⟨hp,_,_,h2,_,_⟩:=q.has B;simp only[Ck.cells]at hp;have hKp:K.p<n:=by have:=q.lt K.p (by simp);omega
 have hKs:K.s2<n:=by have:=q.lt K.s2 (by simp);omega
 have g:=A.lt;have out:∀(e:Int)(m:Nat),V=e->CO n H m (AA e) (Is (AA V) H n):=λe m F=>As A rfl (by rw[F]);refine B5 0 [(0,.ptr K.p 0),(1,AA el),(2,Ai d),(3,AA i)] H n ?_ (λm c=>?_);simp[go_sem,IO];subst c;refine Aa 1 [(0,.ptr K.p 0),(1,AA el),(2,Ai d),(3,AA i),(9,.q [AA x.rev,AA x.key,AA x.before,.bool x.had])] H n ?_ (λm c=>?_);simp[go_sem,IO,hi,C,AM.e,AD];exact⟨AZ (AS g (qa _)) (AD _ _ _),AL g (AL g AC)⟩;refine Bg 0 [(0,.ptr K.p 0),(9,.q [AA x.rev,AA x.key,AA x.before,.bool x.had])] H (λm=>n<=m/\V=Bc [EZ x.key x.before,Gg K x.key x.before]) ?_ (λm c=>?_)
 . refine AY ?_;refine Aa 0 [(0,.ptr K.p 0),(1,AA el),(2,Ai d),(3,AA i),(9,.q [AA x.rev,AA x.key,AA x.before,.bool x.had]),(14,.bool (!decide (x.rev∈K.m2)))] H n ?_ (λm c=>?_)
   . by_cases r:x.rev∈K.m2
     . obtain⟨j,f,_⟩:=Da 0 r;simp[go_sem,IO,hp,h2,f,Cc,c,r]
       repeat first|refine nq ?_|refine sq ?_|refine aq ?_
       first|exact(nd (by kernel_rfl) trivial).1|exact(sd (by kernel_rfl) trivial).1
     . have f:=ET 0 r;simp[go_sem,IO,hp,h2,f,Cc,c,r]
       repeat first|refine nq ?_|refine sq ?_|refine aq ?_
       first|exact(nd (by kernel_rfl) trivial).1|exact(sd (by kernel_rfl) trivial).1
   cases hb:decide (x.rev∈K.m2)with
   | false=>exact AJ (by simp[go_sem];exact out 22 _ (by rw[a,hb];rfl))
   | true=>
   refine Au (b:=false) (by simp[go_sem]) ?_;rw[hb]at a;simp only[qn,Bool.true_eq_false,if_false]at a ⊢;obtain⟨l,F8⟩:∃l,l=Oh el x.key:=⟨_,rfl⟩
   rw[<-F8]at a;refine Aa 0 [(0,.ptr K.p 0),(1,AA el),(2,Ai d),(3,AA i),(9,.q [AA x.rev,AA x.key,AA x.before,.bool x.had]),(23,.bool (!l))] H n ?_ (λm c=>?_);simp[go_sem];refine(bh _ _).use ?_;simp[go_sem,IO,c,F8];cases l with
   | false=>exact AJ (by simp[go_sem];exact out 4 _ (by rw[a];rfl))
   | true=>
   refine Au (b:=false) (by simp[go_sem]) ?_;simp only[qn,Bool.true_eq_false,if_false]at a ⊢;refine Aa 0 [(0,.ptr K.p 0),(9,.q [AA x.rev,AA x.key,AA x.before,.bool x.had]),(29,.bool h)] H n ?_ (λm c=>?_)
   . by_cases t:0<i
     . have k:i-1<d.length:=by omega
       obtain⟨y,D⟩:∃y,d[i-1]=y:=⟨_,rfl⟩
       have e:h=decide (x.key<y.key):=by rw[KL];simp[t,List.getD,k,D]
       have w:IntKind.i64.wrap ((i:Int)-1)=((i-1:Nat):Int):=by rw[DA]<;>omega
       simp[go_sem,IO,t,w,k,D,AM.e,c,e]
       repeat first|refine nq ?_|refine sq ?_|refine aq ?_
       first|exact(nd (by kernel_rfl) trivial).1|exact(sd (by kernel_rfl) trivial).1
     . have e:h=false:=by rw[KL];simp[t]
       simp[go_sem,IO,t,c,e]
       repeat first|refine nq ?_|refine sq ?_|refine aq ?_
       first|exact(nd (by kernel_rfl) trivial).1|exact(sd (by kernel_rfl) trivial).1
   cases h with
   | true=>exact AJ (by simp[go_sem];exact out 6 _ (by rw[a];rfl))
   | false=>
   refine Au (b:=false) (by simp[go_sem]) ?_;simp only[qn,if_false]at a ⊢;refine AJ ?_;cases u:x.had with
   | false=>
    rw[u]at a;simp[go_sem];refine(Ki _ _).use ?_;simp[go_sem];refine out _ _ ?_;rw[a];simp
   | true=>
    rw[u]at a;simp[go_sem,IO];exact⟨c,a⟩
 refine AX 0 (α:=Unit) (λ_=>[(8,AA V)]) (λ_=>H) (λ_ m=>n<=m) (CK trL rfl (by kernel_rfl) (by kernel_rfl) ?_) (λ_ m c=>?_);obtain⟨c,a⟩:=c;simp[go_sem,trL];refine(Zu _ _).use ?_;simp[go_sem];refine qP (bY q s x.key x.before B) ?_;generalize Gg K x.key x.before=e at a;generalize EZ x.key x.before=e1 at a;rintro v E n' ⟨rfl,rfl,rfl⟩;simp[go_sem];refine wn (bs:=[.i 1 ([e1,e].map AA) false]) (h2:=E) 1 (AL (λj z e=>by have:=g j z e;omega) AC) ⟨?_,trivial⟩ ?_;exact Cz (es:=[AA e1,AA e]) (AS g c) (by simp) (by rw[AD];simp[SV.cells]) (by simp[SV.B,SV.cells]);refine(Sa _ (by simp)).use ?_;simp[go_sem,IO,a];omega;refine AJ ?_;simp[go_sem];exact out _ _ rfl
theorem fI(d:K.ok n0)(s:GR)(el ins mv:Int)(c:SV)(a:List AM)(b:a.length<=1048576)(i:Nat)(hi:i<a.length){H:Hp}{n:Nat}(hn:n0<=n)(g:∀o y,K.st s o=some y->H o=some y):
 BL prog 158 [AA i,.q [.ptr K.p 0],.q [AA el],.q [AA ins,AA mv,c,Ai a]] H n (Is (AA (Jr K el a i)) H n):=by
 refine gq func158 rfl λf=>?_;simp[go_sem];refine qP (fJ d s el a b i hi hn g) ?_;generalize Jr K el a i=e;rintro v H' n' ⟨rfl,rfl,rfl⟩;simp[go_sem];exact As f rfl rfl
theorem cE(_hK:K.ok n0)(s:GR)(N:Nat)(hN:N<=1048576)(g:FuncId)(a b:List SV)(F:Nat->Int)
 (step:∀i H n,i<N->n0<=n->(∀o y,K.st s o=some y->H o=some y)->BL prog g (a++[AA i]++b) H n (Is (AA (F i)) H n))
 {H:Hp} {n:Nat} (hn:n0<=n) (l:∀o y,K.st s o=some y->H o=some y):
 BL prog 150 [AA N,.fn (.func g) a b] H n (Is (AA (CD F N)) H n):=by
 obtain⟨V,h⟩:∃V,V=CD F N:=⟨_,rfl⟩
 rw[<-h];refine gq func150 rfl λk=>?_;simp[go_sem];refine Av 0 (α:=Nat) (λq=>[(1,.fn (.func g) a b),(7,AA N),(8,AA q)]) (λ_=>H) (λq m=>q<=N/\n<=m/\CD F q=0) (λq=>N-q) 0 ?_ ?_ ?_ ?_;exact⟨qg _,qa _,rfl⟩;simp[Ao,Fz];exact AC;rintro i m ⟨hi,j,hI⟩;by_cases c:i<N;have w1:=wS i (by omega);have hc:=step i H m c (by omega) l;simp only[qj,qx,qE]at hc;simp[go_sem,c];refine qP hc ?_;obtain⟨e,d⟩:∃e,F i=e:=⟨_,rfl⟩
 rw[d];rintro v H' n' ⟨rfl,rfl,rfl⟩;by_cases f:e=0;subst f;simp[go_sem,w1,-Int.natCast_add];exact⟨i+1,by omega,⟨by omega,j,by rw[CD,if_pos hI];exact d⟩,rfl⟩;simp[go_sem,f];exact As k rfl (by rw[h,EM F c hI (by rw[d];exact f),d]);have:i=N:=by omega
 subst this;simp[go_sem];exact As k rfl (by rw[h,hI])
end
section
variable{K:Ck}{n0:Nat}
def Fc(K:Ck)(h:AF):Bool:=decide (h.I≠0) && !decide (h.I∈K.m2)
def It(h:AF):Bool:=!decide (0<=h.move/\h.move<=1073741824)||(decide (h.move≠0)&&decide (h.I=0))
def Jq(K:Ck)(l:List Bs)(j:Nat):Int:=match l[j]? with
 | none=>0
 | some x=>if decide (x.rev∈K.m2)=false then 22 else if(decide (0<j)&&decide (x.rev<=(l.getD (j-1) x).rev))=true then 6 else if 0<=x.move/\x.move<=1073741824 then 0 else 21
def Ia(K:Ck)(l:List Bi)(j:Nat):Int:=match l[j]? with
 | none=>0
 | some p=>Gg K p.key p.value
def EV(K:Ck)(el:Int)(h:AF):Int:=
 if CY el h.Q≠0 then CY el h.Q else if CD (Ia K h.Q) h.Q.length≠0 then CD (Ia K h.Q) h.Q.length
 else if Fc K h=true then 22 else if It h=true then 21 else if 16<h.Y.length then 9
 else if CD (Jq K h.Y) h.Y.length≠0 then CD (Jq K h.Y) h.Y.length
 else if 64<h.Z.length then 9 else CD (Jr K el h.Z) h.Z.length
theorem YG(B:K.ok n0)(s:GR)(el:Int)(a:AF)(J:a.D){H:Hp}{n:Nat}(hn:n0<=n)(R:∀o y,K.st s o=some y->H o=some y):
 BL prog 86 [.ptr K.p 0,AA el,a.e] H n (Is (AA (EV K el a)) H n):=by
 obtain⟨V,h⟩:∃V,V=EV K el a:=⟨_,rfl⟩
 rw[<-h];rw[EV]at h;refine DO func86 rfl λU=>?_;obtain⟨hp,_,_,h2,_,_⟩:=B.has R;simp only[Ck.cells]at hp;have hKp:K.p<n:=by have:=B.lt K.p (by simp);omega
 have hKs:K.s2<n:=by have:=B.lt K.s2 (by simp);omega
 have g:=U.lt;have C:∀(e:Int)(M:Hp)(m:Nat),V=e->(∀j y,H j=some y->M j=some y)->CO n M m (AA e) (Is (AA V) H n):=λe M m t Y=>On (T:=λv=>v=AA V) U Y (by simp[cc]) (by rw[t]);have out:∀(e:Int)(m:Nat),V=e->CO n H m (AA e) (Is (AA V) H n):=λe m t=>C e H m t AC;refine Aa 1 [(3,.q [.ptr K.p 0]),(4,.q [AA el]),(5,.q a.g)] H n ?_ (λm d=>?_);simp[go_sem,AF.e,AF.g,qu];refine⟨⟨AZ (AS g (by omega)) (by simp[h_]),AZ (AS g (by omega)) (by simp[h_]),AZ (AS g (by omega)) (by simp[h_])⟩,λj y=>?_⟩;have:=g j y;simp only[h_];grind;refine Bg 0 [(3,.q [.ptr K.p 0]),(4,.q [AA el]),(5,.q a.g)] H (λm=>n<=m/\CY el a.Q=0) (AJ ?_) (λm d=>?_);simp[go_sem,AF.g];refine(bX el a.Q J.Q).use ?_;by_cases r:CY el a.Q=0;simp[go_sem,r,IO,d];simp[go_sem,r];exact out _ _ (by rw[h,if_pos r]);obtain⟨d,r⟩:=d;rw[if_neg (by rw[r];simp)]at h;refine Bg 0 [(3,.q [.ptr K.p 0]),(4,.q [AA el]),(5,.q a.g)] H (λm=>n<=m/\CD (Ia K a.Q) a.Q.length=0) ?_ (λm d=>?_);refine Aa 0 [(3,.q [.ptr K.p 0]),(4,.q [AA el]),(5,.q a.g),(22,AU a.Q),(23,AA a.Q.length),(24,AA 0)] H n ?_ (λm d=>?_);simp[go_sem,IO,AF.g,d];refine AY (BT 0 (α:=Nat) (λi=>[(3,.q [.ptr K.p 0]),(4,.q [AA el]),(5,.q a.g),(22,AU a.Q),(23,AA a.Q.length),(24,AA i)]) (λ_=>H) (λi m=>i<=a.Q.length/\n<=m/\CD (Ia K a.Q) i=0) (λi=>a.Q.length-i) 0 ⟨qg _,d,rfl⟩ ?_ AC ?_);simp[go_sem,Ao,IO];rintro i m ⟨hi,d,hI⟩;refine AJ ?_;by_cases k:i<a.Q.length;obtain⟨x,L⟩:∃x,a.Q[i]=x:=⟨_,rfl⟩
 obtain⟨e,t⟩:∃e,Gg K x.key x.value=e:=⟨_,rfl⟩
 have N:Ia K a.Q i=e:=by rw[Ia,qe k,L];exact t
 have w1:IntKind.i64.wrap ((i:Int)+1)=((i+1:Nat):Int):=by have:=J.Q;rw[DA]<;>omega
 simp[go_sem,k,L,Bi.e,AD];refine qP (bY B s x.key x.value (K2 B.clo.lt (by omega) _ (K2 B.clo.lt (by omega) _ R))) ?_;rw[t];rintro v X n' ⟨rfl,rfl,rfl⟩;by_cases r:e=0;subst r;simp[go_sem,w1,-Int.natCast_add];refine⟨i+1,by omega,⟨by omega,by omega,by rw[CD,if_pos hI];exact N⟩,by simp[IO],AL (λj z e=>by have:=g j z e;omega) (AL (λj z e=>by have:=g j z e;omega) AC)⟩;have O:CD (Ia K a.Q) a.Q.length=e:=by rw[EM _ k hI (by rw[N];exact r),N]
 simp[go_sem,r];exact C e _ _ (by rw[h,O,if_pos r]) (AL (λj z e=>by have:=g j z e;omega) (AL (λj z e=>by have:=g j z e;omega) AC));have e:i=a.Q.length:=by omega
 subst e;simp[go_sem,IO,d,hI];obtain⟨d,a2⟩:=d;rw[if_neg (by rw[a2];simp)]at h;refine Aa 1 [(3,.q [.ptr K.p 0]),(4,.q [AA el]),(11,.q [AA a.I,AA a.move,Ax a.Y,Ai a.Z])] H n ?_ (λm d=>?_);simp[go_sem,IO,AF.g,AD];have q:∀j y,H j=some y->j<m:=λj y e=>by have:=g j y e;omega
 exact⟨by omega,AZ (AS q (qa _)) (AD _ _ _),AL q (AL q AC)⟩;refine Bg 0 [(3,.q [.ptr K.p 0]),(4,.q [AA el]),(11,.q [AA a.I,AA a.move,Ax a.Y,Ai a.Z])] H (λm=>n<=m/\Fc K a=false/\It a=false/\¬16<a.Y.length) ?_ (λm d=>?_)
 . refine AY ?_;obtain⟨b1,Me⟩:∃b,b=Fc K a:=⟨_,rfl⟩
   obtain⟨E,F8⟩:∃b,b=It a:=⟨_,rfl⟩
   rw[<-Me,<-F8]at h;rw[<-Me,<-F8];refine Aa 0 [(3,.q [.ptr K.p 0]),(4,.q [AA el]),(11,.q [AA a.I,AA a.move,Ax a.Y,Ai a.Z]),(40,.bool b1)] H n ?_ (λm d=>?_)
   . by_cases l:a.I=0
     . have e:b1=false:=by rw[Me,Fc];simp[l]
       simp[go_sem,IO,l,d,e]
       repeat first|refine nq ?_|refine sq ?_|refine aq ?_
       first|exact(nd (by kernel_rfl) trivial).1|exact(sd (by kernel_rfl) trivial).1
     . by_cases u:a.I∈K.m2
       . have e:b1=false:=by rw[Me,Fc];simp[u]
         obtain⟨j,f,_⟩:=Da 0 u;simp[go_sem,IO,l,hp,h2,f,Cc,d,e]
         repeat first|refine nq ?_|refine sq ?_|refine aq ?_
         first|exact(nd (by kernel_rfl) trivial).1|exact(sd (by kernel_rfl) trivial).1
       . have e:b1=true:=by rw[Me,Fc];simp[u,l]
         have f:=ET 0 u;simp[go_sem,IO,l,hp,h2,f,Cc,d,e]
         repeat first|refine nq ?_|refine sq ?_|refine aq ?_
         first|exact(nd (by kernel_rfl) trivial).1|exact(sd (by kernel_rfl) trivial).1
   cases b1 with
   | true=>exact AJ (by simp[go_sem];exact out 22 _ (by rw[h];rfl))
   | false=>
   refine Au (b:=false) (by simp[go_sem]) ?_;simp only[qn,if_false]at h ⊢;refine Aa 0 [(3,.q [.ptr K.p 0]),(4,.q [AA el]),(11,.q [AA a.I,AA a.move,Ax a.Y,Ai a.Z]),(54,.bool E)] H n ?_ (λm d=>?_);simp[go_sem];refine(LW _ _ _).use ?_;by_cases c:0<=a.move/\a.move<=1073741824;by_cases m0:a.move=0;have e:E=false:=by rw[F8,It];simp[m0]
   simp[go_sem,IO,m0,d,e];by_cases l:a.I=0;have e:E=true:=by rw[F8,It];simp[m0,l]
   simp[go_sem,IO,c,m0,l,d,e];have e:E=false:=by rw[F8,It];simp[c,l]
   simp[go_sem,IO,c,m0,beq_eq_false_iff_ne.2 l,d,e];have e:E=true:=by rw[F8,It,decide_eq_false c];rfl
   simp[go_sem,IO,c,d,e];cases E with
   | true=>exact AJ (by simp[go_sem];exact out 21 _ (by rw[h];rfl))
   | false=>
   refine Au (b:=false) (by simp[go_sem]) ?_;simp only[qn,if_false]at h ⊢;refine AJ ?_;by_cases c:(16:Int)<a.Y.length;simp[go_sem,c];exact out 9 _ (by rw[h,if_pos (by omega)]);simp[go_sem,c,IO,d];omega
 obtain⟨d,Me,F8,P⟩:=d;rw[Me,F8,if_neg P]at h;simp only[qn,if_false]at h;refine Bg 0 [(3,.q [.ptr K.p 0]),(4,.q [AA el]),(11,.q [AA a.I,AA a.move,Ax a.Y,Ai a.Z])] H (λm=>n<=m/\CD (Jq K a.Y) a.Y.length=0) ?_ (λm d=>?_)
 . refine Aa 0 [(3,.q [.ptr K.p 0]),(4,.q [AA el]),(11,.q [AA a.I,AA a.move,Ax a.Y,Ai a.Z]),(75,Ax a.Y),(76,AA a.Y.length),(77,AA 0)] H n ?_ (λm d=>?_);simp[go_sem,IO,d];refine AY (BT 0 (α:=Nat) (λi=>[(3,.q [.ptr K.p 0]),(4,.q [AA el]),(11,.q [AA a.I,AA a.move,Ax a.Y,Ai a.Z]),(75,Ax a.Y),(76,AA a.Y.length),(77,AA i)]) (λ_=>H) (λi m=>i<=a.Y.length/\n<=m/\CD (Jq K a.Y) i=0) (λi=>a.Y.length-i) 0 ⟨qg _,d,rfl⟩ ?_ AC ?_);simp[go_sem,Ao,IO];rintro i m ⟨hi2,d,hI⟩;by_cases k:i<a.Y.length
   . obtain⟨x,L⟩:∃x,a.Y[i]=x:=⟨_,rfl⟩
     obtain⟨F,KL⟩:∃b,b=decide (x.rev∈K.m2):=⟨_,rfl⟩
     obtain⟨G,TD⟩:∃b,b=(decide (0<i)&&decide (x.rev<=(a.Y.getD (i-1) x).rev)):=⟨_,rfl⟩
     have A:Jq K a.Y i=if F=false then 22 else if G=true then 6 else if 0<=x.move/\x.move<=1073741824 then 0 else 21:=by
      rw[Jq,qe k,L,KL,TD]
     have D:∀(e:Int)(m:Nat),e≠0->Jq K a.Y i=e->CO n H m (AA e) (Is (AA V) H n):=λe m r t=>by
      have O:CD (Jq K a.Y) a.Y.length=e:=by rw[EM _ k hI (by rw[t];exact r),t]
      exact out e m (by rw[h,O,if_pos r])
     have w1:=wS i (by omega);refine Aa 0 [(3,.q [.ptr K.p 0]),(4,.q [AA el]),(11,.q [AA a.I,AA a.move,Ax a.Y,Ai a.Z]),(75,Ax a.Y),(76,AA a.Y.length),(77,AA i),(78,.bool true)] H n ?_ (λm d=>?_);simp[go_sem,IO,d,k];refine Aa 0 [(3,.q [.ptr K.p 0]),(4,.q [AA el]),(11,.q [AA a.I,AA a.move,Ax a.Y,Ai a.Z]),(75,Ax a.Y),(76,AA a.Y.length),(77,AA i)] H n ?_ (λm d=>?_);simp[go_sem,IO,d];refine Bg 0 [(3,.q [.ptr K.p 0]),(4,.q [AA el]),(11,.q [AA a.I,AA a.move,Ax a.Y,Ai a.Z]),(75,Ax a.Y),(76,AA a.Y.length),(77,AA i)] H (λm=>n<=m/\Jq K a.Y i=0) ?_ (λm d=>?_)
     . refine AY ?_;refine Aa 1 [(3,.q [.ptr K.p 0]),(4,.q [AA el]),(11,.q [AA a.I,AA a.move,Ax a.Y,Ai a.Z]),(75,Ax a.Y),(76,AA a.Y.length),(77,AA i),(12,AA i),(13,.q [AA x.rev,AA x.move])] H n ?_ (λm d=>?_);simp[go_sem,IO,k,L,Bs.e,AD];have q:∀j y,H j=some y->j<m:=λj y e=>by have:=g j y e;omega
       exact⟨by omega,AZ (AS q (qa _)) (AD _ _ _),AL q (AL q AC)⟩;refine AY ?_;refine Aa 0 [(3,.q [.ptr K.p 0]),(4,.q [AA el]),(11,.q [AA a.I,AA a.move,Ax a.Y,Ai a.Z]),(75,Ax a.Y),(76,AA a.Y.length),(77,AA i),(12,AA i),(13,.q [AA x.rev,AA x.move]),(82,.bool (!F))] H n ?_ (λm d=>?_)
       . by_cases u:x.rev∈K.m2
         . have e:F=true:=by rw[KL];simp[u]
           obtain⟨j,f,_⟩:=Da 0 u;simp[go_sem,IO,hp,h2,f,Cc,d,e]
           repeat first|refine nq ?_|refine sq ?_|refine aq ?_
           first|exact(nd (by kernel_rfl) trivial).1|exact(sd (by kernel_rfl) trivial).1
         . have e:F=false:=by rw[KL];simp[u]
           have f:=ET 0 u;simp[go_sem,IO,hp,h2,f,Cc,d,e]
           repeat first|refine nq ?_|refine sq ?_|refine aq ?_
           first|exact(nd (by kernel_rfl) trivial).1|exact(sd (by kernel_rfl) trivial).1
       cases F with
       | false=>exact AJ (by simp[go_sem];exact D 22 _ (by decide) (by rw[A];rfl))
       | true=>
       refine Au (b:=false) (by simp[go_sem]) ?_;simp only[qn,Bool.true_eq_false,if_false]at A ⊢;refine Aa 0 [(3,.q [.ptr K.p 0]),(4,.q [AA el]),(11,.q [AA a.I,AA a.move,Ax a.Y,Ai a.Z]),(75,Ax a.Y),(76,AA a.Y.length),(77,AA i),(13,.q [AA x.rev,AA x.move]),(91,.bool G)] H n ?_ (λm d=>?_)
       . by_cases l:0<i
         . have I:i-1<a.Y.length:=by omega
           obtain⟨y,W⟩:∃y,a.Y[i-1]=y:=⟨_,rfl⟩
           have e:G=decide (x.rev<=y.rev):=by rw[TD];simp[l,List.getD,I,W]
           have w:IntKind.i64.wrap ((i:Int)-1)=((i-1:Nat):Int):=by rw[DA]<;>omega
           simp[go_sem,IO,l,w,I,W,Bs.e,d,e]
           repeat first|refine nq ?_|refine sq ?_|refine aq ?_
           first|exact(nd (by kernel_rfl) trivial).1|exact(sd (by kernel_rfl) trivial).1
         . have e:G=false:=by rw[TD];simp[l]
           simp[go_sem,IO,l,d,e]
           repeat first|refine nq ?_|refine sq ?_|refine aq ?_
           first|exact(nd (by kernel_rfl) trivial).1|exact(sd (by kernel_rfl) trivial).1
       cases G with
       | true=>exact AJ (by simp[go_sem];exact D 6 _ (by decide) (by rw[A];rfl))
       | false=>
       refine Au (b:=false) (by simp[go_sem]) ?_;simp only[qn,if_false]at A ⊢;refine AJ ?_;simp[go_sem];refine(LW _ _ _).use ?_;by_cases c:0<=x.move/\x.move<=1073741824;rw[if_pos c]at A;simp[go_sem,IO,c,d,A];rw[if_neg c]at A;simp[go_sem,c];exact D 21 _ (by decide) A
     refine AJ ?_;simp[go_sem,w1,IO,-Int.natCast_add];exact⟨i+1,by omega,⟨by omega,d.1,by rw[CD,if_pos hI];exact d.2⟩,rfl⟩
   have:i=a.Y.length:=by omega
   subst this;refine AJ ?_;simp[go_sem,IO,d,hI]
 obtain⟨d,a3⟩:=d;rw[if_neg (by rw[a3];simp)]at h;refine Bg 0 [(3,.q [.ptr K.p 0]),(4,.q [AA el]),(11,.q [AA a.I,AA a.move,Ax a.Y,Ai a.Z])] H (λm=>n<=m/\a.Z.length<=64) (AJ ?_) (λm d=>?_);by_cases c:(64:Int)<a.Z.length;simp[go_sem,c];exact out 9 _ (by rw[h,if_pos (by omega)]);simp[go_sem,c,IO,d];omega;obtain⟨d,hll⟩:=d;rw[if_neg (by omega)]at h;refine AJ ?_;simp[go_sem];refine qP (cE B s a.Z.length (by omega) 158 [] [.q [.ptr K.p 0],.q [AA el],.q [AA a.I,AA a.move,Ax a.Y,Ai a.Z]] (Jr K el a.Z) (λi M n2 hi Q S=>fI B s el a.I a.move (Ax a.Y) a.Z (by omega) i hi Q S) (H:=H) (n:=m) (by omega) R) ?_;rw[<-h];rintro v X n' ⟨rfl,rfl,rfl⟩;simp[go_sem];exact out _ _ rfl
end
def Ml(x:AB):Int:=if x.k=1 then(if A5 x.x then Ar x.x x.x.size else 0)else 1
def Oz:Nat->List AB->Int
 | 0,_=>0
 | N+1,l=>(l.map λx=>Ml x+if x.k=6 then Oz N x.W else if x.k=7 then(x.R.map λr=>(r.cells.map λc=>Oz N c.W).sum).sum else 0).sum
def Vm(N:Nat)(r:AP):Int:=(r.cells.map λc=>Oz N c.W).sum
def Ql(N:Nat)(x:AB):Int:=Ml x+if x.k=6 then Oz N x.W else if x.k=7 then(x.R.map (Vm N)).sum else 0
theorem SR(N:Nat)(l:List AB):Oz (N+1) l=(l.map (Ql N)).sum:=rfl
def gN(K:Ck):Nat->BN->List AB->Prop
 | 0,_,_=>True
 | N+1,pl,l=>∀x∈l,G7 x=0/\(x.k=3->pl.body=true)/\(x.k=6->pl.note=false)/\(x.k=7->pl.tables<4)/\(x.k=8->1<=x.id/\x.id<=1073741824)/\EV K x.k x.H=0/\
  (x.k=6->gN K N ⟨false,true,pl.tables⟩ x.W)/\
  (x.k=7->x.R≠[]/\x.R.length<=256/\∀r∈x.R,EV K 9 r.H=0/\r.cells≠[]/\r.cells.length<=32/\∀c∈r.cells,EV K 10 c.H=0/\gN K N ⟨false,pl.note,IntKind.i64.wrap (pl.tables+1)⟩ c.W)
def gC(K:Ck)(N:Nat)(pl:BN)(c:cr):Prop:=EV K 10 c.H=0/\gN K N pl c.W
def aA(K:Ck)(N:Nat)(pl:BN)(r:AP):Prop:=EV K 9 r.H=0/\r.cells≠[]/\r.cells.length<=32/\∀c∈r.cells,gC K N pl c
def d8(K:Ck)(N:Nat)(pl:BN)(l:List AP):Prop:=l≠[]/\l.length<=256/\∀r∈l,aA K N pl r
def gI(K:Ck)(N:Nat)(pl:BN)(x:AB):Prop:=G7 x=0/\(x.k=3->pl.body=true)/\(x.k=6->pl.note=false)/\(x.k=7->pl.tables<4)/\(x.k=8->1<=x.id/\x.id<=1073741824)/\EV K x.k x.H=0/\
 (x.k=6->gN K N ⟨false,true,pl.tables⟩ x.W)/\(x.k=7->d8 K N ⟨false,pl.note,IntKind.i64.wrap (pl.tables+1)⟩ x.R)
theorem YQ(K:Ck)(N:Nat)(a:BN)(l:List AB):gN K (N+1) a l↔∀x∈l,gI K N a x:=Iff.rfl
def CX(a ids:List Int):Prop:=(∀i∈ids,1<=i/\i<=1073741824/\i∉a)/\ids.Nodup
theorem E9(a:List Int):CX a []:=⟨by simp,List.nodup_nil⟩
theorem CH{a x y:List Int}:CX a (x++y)↔CX a x/\CX (a++x) y:=by
 unfold CX;rw[List.nodup_append];constructor;rintro⟨h1,h2,b,f⟩;refine⟨⟨λi hi=>h1 i (qD _ hi),h2⟩,λi hi=>?_,b⟩;obtain⟨b1,c,d⟩:=h1 i (Qj _ hi);refine⟨b1,c,λg=>?_⟩;rcases qd.1 g with g|g;exact d g;exact f i g i hi rfl;rintro⟨⟨h1,h2⟩,b,f⟩;refine⟨λi hi=>?_,h2,f,λi hi j h e=>?_⟩;rcases qd.1 hi with g|g;exact h1 i g;obtain⟨b1,c,d⟩:=b i g;exact⟨b1,c,λq=>d (qD _ q)⟩;subst e;exact(b i h).2.2 (Qj _ hi)
theorem IG{a:List Int}{i:Int}:CX a [i]↔1<=i/\i<=1073741824/\i∉a:=by simp[CX]
structure Dh(s:GR)(ids:List Int)(u:Int)(s':GR):Prop where
 ids:s'.1=s.1++ids
 rg:IntKind.i64.wrap s.2=s.2->IntKind.i64.wrap s'.2=s'.2
 un:IntKind.i64.wrap s'.2=IntKind.i64.wrap (s.2+u)
theorem Dh.nil(s:GR):Dh s [] 0 s:=⟨by simp,id,by rw[Int.add_zero]⟩
theorem Dh.trans{s s1 s2:GR}{a b:List Int}{u v:Int}(h:Dh s a u s1)(g:Dh s1 b v s2):Dh s (a++b) (u+v) s2:=
 ⟨by rw[g.ids,h.ids,qj],λr=>g.rg (h.rg r),by have h1:=h.un;have h2:=g.un;rw[IntKind.wrap_i64,IntKind.wrap_i64]at h1 h2 ⊢;omega⟩
theorem Dh.to{s c:GR}{a b:List Int}{u v:Int}(h:Dh s a u c)(e:a=b)(f:u=v):Dh s b v c:=by subst e;subst f;exact h
theorem Qe(x:Int):IntKind.i64.wrap (IntKind.i64.wrap x)=IntKind.i64.wrap x:=by simp only[IntKind.wrap_i64];omega
def WV(s:GR)(ids:List Int)(u:Int)(G:Prop)(e:Int)(s':GR):Prop:=(e=0->G/\CX s.1 ids/\Dh s ids u s')/\(e≠0->¬(G/\CX s.1 ids))
def exU(X:GR->Prop)(B:Prop)(e:Int)(s':GR):Prop:=(e=0->X s')/\(e≠0->B)
section
variable{K:Ck}{n0:Nat}
theorem WI(a:K.ok n0)(s:GR)(id:Int){H:Hp}{n:Nat}(hn:n0<=n)(c:∀o y,K.st s o=some y->H o=some y):
 BL prog 223 [.ptr K.p 0,AA id] H n (CQ K (WV s [id] 0 True) H n):=by
 refine gq func223 rfl λi=>?_;obtain⟨hp,h0,h1,h2,d,h⟩:=a.has c;have no:∀(e:Int)(m:Nat),e≠0->¬CX s.1 [id]->CO n H m (AA e) (CQ K (WV s [id] 0 True) H n):=λe m k l=>a.no hn i s c e ⟨λg=>absurd g k,λ_ g=>l g.2⟩ AC;simp only[Ck.cells]at hp;by_cases r:1<=id/\id<=1073741824;have f4:DT (AA id) [] 0=some none:=rfl;by_cases b:id∈s.1;obtain⟨j,f,_⟩:=Da 0 b;simp[go_sem];refine(LW _ _ _).use ?_;simp[go_sem,r,hp,h,d,f,Cc];exact no 7 _ (by decide) (λg=>(IG.1 g).2.2 b);have f:=ET 0 b;simp[go_sem];refine(LW _ _ _).use ?_;simp[go_sem,r,hp,h,d,f,Cc];refine a.ret hn i 0 (s.1++[id],s.2) ⟨λ_=>⟨trivial,IG.2 ⟨r.1,r.2,b⟩,⟨rfl,λq=>q,by rw[Int.add_zero]⟩⟩,λg=>absurd rfl g⟩ ?_;rw[a.up_ids s _ c,Nv];exact AC;simp[go_sem];refine(LW _ _ _).use ?_;simp[go_sem,r];exact no 18 _ (by decide) (λg=>r ⟨(IG.1 g).1,(IG.1 g).2.1⟩)
theorem cF(h:K.ok n0)(N:Nat)(hN:N<=1048576)(g:FuncId)(a b:List SV)(I:Nat->GR->Prop)(B:Prop)
 (step:∀i c H n,i<N->I i c->n0<=n->(∀o y,K.st c o=some y->H o=some y)->BL prog g (a++[AA i]++b) H n (CQ K (exU (I (i+1)) B) H n))
 (s:GR) (h0:I 0 s) {H:Hp} {n:Nat} (hn:n0<=n) (p:∀o y,K.st s o=some y->H o=some y):
 BL prog 150 [AA N,.fn (.func g) a b] H n (CQ K (exU (I N) B) H n):=by
 have D:=h.clo;refine gq func150 rfl λl=>?_;simp[go_sem];refine Av 0 (α:=Nat×GR) (λq=>[(1,.fn (.func g) a b),(7,AA N),(8,AA q.1)]) (λq=>BD K.st q.2 H) (λq m=>q.1<=N/\n<=m/\I q.1 q.2) (λq=>N-q.1) (0,s) ?_ ?_ ?_ ?_;exact⟨qg _,qa _,h0⟩;simp[Ao,Fz];rw[Fq s H p];exact AC;rintro⟨i,c⟩ m ⟨hi,j,hI⟩;dsimp only at hi hI ⊢;by_cases d:i<N;have w1:=wS i (by omega);have hc:=step i c (BD K.st c H) m d hI (by omega) Cl;simp only[qj,qx,qE]at hc;simp[go_sem,d];refine qP hc ?_;rintro v H' n' ⟨e,s2,rfl,k,rfl,rfl⟩;rw[D.up2];by_cases f:e=0;subst f;simp[go_sem,w1,-Int.natCast_add];exact⟨i+1,by omega,s2.1,s2.2,⟨by omega,j,k.1 rfl⟩,rfl,AC⟩;simp[go_sem,f];exact h.ret hn l e s2 ⟨λg=>absurd g f,λg=>k.2 g⟩ AC;have:i=N:=by omega
 subst this;simp[go_sem];exact h.ret hn l 0 c ⟨λ_=>hI,λg=>absurd rfl g⟩ AC
def Vq(K:Ck)(n0:Nat)(N:Nat)(x:AB):Prop:=∀(s:GR)(pl:BN)(H:Hp)(n:Nat),n0<=n->(∀o y,K.st s o=some y->H o=some y)->
 BL prog 161 [.ptr K.p 0,x.e,pl.e] H n (CQ K (WV s (GT N x) (Ql N x) (gI K N pl x)) H n)
def Pp(K:Ck)(n0:Nat)(N:Nat)(l:List AB):Prop:=∀(s:GR)(pl:BN)(H:Hp)(n:Nat),n0<=n->(∀o y,K.st s o=some y->H o=some y)->
 BL prog 88 [.ptr K.p 0,AK l,pl.e] H n (CQ K (WV s (GU N l) (Oz N l) (gN K N pl l)) H n)
theorem cG(c:K.ok n0)(N:Nat)(l:List AB)(i:Nat)(hi:i<l.length)(h:Vq K n0 N l[i])(s:GR)(a:BN){H:Hp}{n:Nat}(hn:n0<=n)(j:∀o y,K.st s o=some y->H o=some y):
 BL prog 160 [AA i,.q [.ptr K.p 0],.q [AK l],.q [.bool a.body,.bool a.note,AA a.tables]] H n (CQ K (WV s (GT N l[i]) (Ql N l[i]) (gI K N a l[i])) H n):=by
 refine DO func160 rfl λg=>?_;obtain⟨x,b⟩:∃x,l[i]=x:=⟨_,rfl⟩
 rw[b]at h ⊢;have hgx:(l.map AB.e)[i]? = some x.e:=by simp[hi,b]
 have D:=c.clo;refine Aa 0 [(0,AA i),(1,.q [.ptr K.p 0]),(2,.q [AK l]),(3,.q [.bool a.body,.bool a.note,AA a.tables])] H n ?_ (λm d=>?_);simp[go_sem,IO];refine AX 0 (α:=Int×GR) (λq=>[(5,AA q.1)]) (λq=>BD K.st q.2 H) (λq m=>n<=m/\WV s (GT N x) (Ql N x) (gI K N a x) q.1 q.2) (CK trP rfl (by kernel_rfl) (by kernel_rfl) ?_) (λq m d=>?_);have hc:=h s a H m (by omega) j;simp only[qw,BN.e]at hc;simp[go_sem,trP,hi,b,qw];refine qP hc ?_;rintro v H' n' ⟨e,s2,rfl,f,rfl,rfl⟩;simp[go_sem];exact⟨e,s2.1,s2.2,⟨by omega,f⟩,IO,AC⟩;refine AJ ?_;simp[go_sem];exact c.ret hn g q.1 q.2 d.2 AC
theorem ir(f:K.ok n0)(N:Nat)(l:List AB)(hl:l.length<=1048576)(h:∀x∈l,Vq K n0 N x):Pp K n0 (N+1) l:=λs b H n hn B=>by
 refine DO func88 rfl λt=>?_;have a:=t.lt;refine Aa 1 [(3,.q [.ptr K.p 0]),(4,.q [AK l]),(5,.q [.bool b.body,.bool b.note,AA b.tables])] H n ?_ (λm hm=>?_);simp[go_sem,BN.e,qu];refine⟨⟨AZ (AS a (by omega)) (by simp[h_]),AZ (AS a (by omega)) (by simp[h_]),AZ (AS a (by omega)) (by simp[h_])⟩,λj y=>?_⟩;have:=a j y;simp only[h_];grind;have A:=cF f l.length hl 160 [] [.q [.ptr K.p 0],.q [AK l],.q [.bool b.body,.bool b.note,AA b.tables]]
  (λi q=>Dh s ((l.take i).flatMap (GT N)) ((l.take i).map (Ql N)).sum q/\CX s.1 ((l.take i).flatMap (GT N))/\∀x∈l.take i,gI K N b x) (¬(gN K (N+1) b l/\CX s.1 (GU (N+1) l))) (λi q H2 n2 hi hI g k=>by
  refine(cG f N l i hi (h _ (qi hi)) q b g k).mono ?_;rintro v h' n' ⟨e,s2,rfl,d,rfl,rfl⟩;obtain⟨o,C,D⟩:=hI;have w:l.take (i+1)=l.take i++[l[i]]:=qb hi;refine⟨e,s2,rfl,⟨λc=>?_,λc hg=>d.2 c ⟨(YQ ..).1 hg.1 _ (qi hi),?_⟩⟩,rfl,rfl⟩;obtain⟨h1,h2,z⟩:=d.1 c;rw[o.ids]at h2;refine⟨(o.trans z).to (Eo _ _ _ hi).symm (by rw[w,qc,List.sum_append];simp),by rw[Eo _ _ _ hi];exact CH.2 ⟨C,h2⟩,λx u=>?_⟩;rw[w]at u;exact Eu D h1 x u;have r:=hg.2;rw[JW,<-qM (i+1) l,Jk,Eo _ _ _ hi,qj]at r;rw[o.ids];exact(CH.1 (CH.1 r).2).1) s ⟨Dh.nil s,E9 _,by simp⟩ (H:=H) (n:=m) (by omega) B
 refine AJ ?_;simp[go_sem];refine qP A ?_;rintro v H' n' ⟨e,s2,rfl,d,rfl,rfl⟩;simp[go_sem];refine f.ret hn t e s2 ⟨λc=>?_,d.2⟩ AC;have:=d.1 c;rw[qm]at this;exact⟨this.2.2,this.2.1,this.1⟩
end
structure Jm(β:Type) where
 add:β->β->β
 z:β
 assoc:∀a b c,add (add a b) c=add a (add b c)
 zl:∀a,add z a=a
 v:Nat->AB->β
 M:Nat->List AB->β
 nil:∀N,M (N+1) []=z
 cons:∀N x l,M (N+1) (x::l)=add (v N x) (M (N+1) l)
 same:∀N (x y:AB),y.k=x.k->y.id=x.id->y.x=x.x->(x.k=6->M N y.W=M N x.W)->(x.k=7->(y.R.map λr=>r.cells.map λc=>(c.id,M N c.W))=x.R.map λr=>r.cells.map λc=>(c.id,M N c.W))->v N y=v N x
 gone:∀N (x:AB),x.k=1->x.x.size=0->v N x=z
 join:∀N (x y:AB),x.k=1->y.k=1->A5 x.x=true->A5 y.x=true->v N (y.cz x.x)=add (v N y) (v N x)
section
variable{β:Type}(m:Jm β)
theorem Jm.app(N:Nat):∀a b:List AB,m.M (N+1) (a++b)=m.add (m.M (N+1) a) (m.M (N+1) b)
 | [],b=>by rw[m.nil,m.zl];rfl
 | x::a,b=>by rw[qx,m.cons,Jm.app N a b,m.cons,m.assoc]
theorem Jm.one(N:Nat)(x:AB)(h:∀a,m.add a m.z=a):m.M (N+1) [x]=m.v N x:=by rw[m.cons,m.nil,h]
theorem Jm.congr{N:Nat}:∀{l:List AB} {f:AB->AB},(∀x∈l,m.v N (f x)=m.v N x)->m.M (N+1) (l.map f)=m.M (N+1) l
 | [],_,_=>rfl
 | x::l,f,h=>by rw[qr,m.cons,m.cons,h x (qV ..),Jm.congr λy a=>h y (Q9 _ a)]
variable(zr:∀ a,m.add a m.z=a)
include zr
theorem Jm.fold{N:Nat}:∀(l o:List AB),(∀y∈o,val y)->(∀y∈l,val y)->m.M (N+1) (l.foldl AQ o)=m.add (m.M (N+1) o) (m.M (N+1) l)
 | [],o,_,_=>by rw[m.nil,zr];rfl
 | x :: l, o, ho, hl => by
  have a:=hl x (qV ..);have d:=(Qf (λ_=>false) ho a).2;have key:m.M (N+1) (AQ o x)=m.add (m.M (N+1) o) (m.v N x):=by
   by_cases c:BS x;have b:AQ o x=o:=by unfold AQ;rw[if_pos c]
   rw[b];rcases c with c|c;exact absurd c.2 (a.2 c.1);rw[m.gone N x c.1 c.2,zr];have push:m.M (N+1) (o++[x])=m.add (m.M (N+1) o) (m.v N x):=by rw[m.app,m.one N x zr]
   rw[Ln c];rcases List.eq_nil_or_concat o with e|⟨ys,y,e⟩
   subst e;exact push;rw[List.concat_eq_append]at e;subst e;rw[vg];dsimp only;by_cases k:x.k=1/\y.k=1/\y.H=x.H;rw[if_pos k,List.dropLast_concat,m.app,m.app,m.one N _ zr,m.one N _ zr,m.join N x y k.1 k.2.1 a.1 (ho y (by simp)).1,m.assoc];rw[if_neg k];exact push
  rw[J5,Jm.fold l _ d λy f=>hl y (Q9 _ f),key,m.cons,m.assoc]
theorem Jm.normal:∀{N:Nat} {l:List AB},Dp N l->m.M N (AO l)=m.M N l
 | 0,_,h=>h.elim
 | N + 1, l, D => by
  have e:∀x∈l,m.v N (AB.N x)=m.v N x:=λx b=>by
   obtain⟨d1,g,f⟩:=D x b;obtain⟨f1,_,f3,f4,_,f6,_⟩:=WY x;refine m.same N x _ f1 f3 f4 (λk=>by rw[f6];exact Jm.normal (g k)) λk=>?_;rw[HE λr a=>(f k r a).1,List.map_map];refine qL λr a=>?_;show(AP.N r).cells.map _=_;rw[(wb r).1,List.map_map];refine qL λc hc=>?_;show((cr.N c).id,m.M N (cr.N c).W)=_;rw[(Tq c).1,(Tq c).2.1,Jm.normal ((f k r a).2 c hc)]
  unfold AO Cy;rw[Ve,m.fold zr _ _ (λy d=>by cases d) λy d=>by
   obtain⟨x,b,rfl⟩:=ql.1 d;exact od (D x b),m.nil,m.zl,m.congr e]
end
theorem Xd{x:AB}(k:x.k=1)(h:x.x.size=0):Ml x=0:=by unfold Ml;rw[if_pos k,h];simp[Ar]
theorem Xe{x y:AB}(d:x.k=1)(a:y.k=1)(b:A5 x.x=true)(c:A5 y.x=true):Ml (y.cz x.x)=Ml y+Ml x:=by
 have k:(y.cz x.x).k=1:=a;have t:(y.cz x.x).x=y.x++x.x:=rfl;unfold Ml;rw[if_pos k,if_pos d,if_pos a,t,b,c,HP c b,MH];simp
theorem VZ{N:Nat}:∀{a b:List AP},(a.map λr=>r.cells.map λc=>(c.id,Oz N c.W))=(b.map λr=>r.cells.map λc=>(c.id,Oz N c.W))->(a.map (Vm N)).sum=(b.map (Vm N)).sum:=fun {a b} h=>by
 have e:∀l:List AP,l.map (Vm N)=(l.map λr=>r.cells.map λc=>(c.id,Oz N c.W)).map λq=>(q.map Prod.snd).sum:=λl=>by
  rw[List.map_map];refine qL λr _=>?_;show Vm N r=((r.cells.map λc=>(c.id,Oz N c.W)).map Prod.snd).sum;rw[List.map_map];rfl
 rw[e a,e b,h]
def ZR:Jm Int where
 add:=(· + ·)
 z:=0
 assoc:=λa b c=>by omega
 zl:=λa=>by omega
 v:=Ql
 M:=Oz
 nil:=λ_=>rfl
 cons:=λN x l=>by rw[SR,SR,qr,XW]
 same:=λN x y k i t f r=>by
  have u:Ml y=Ml x:=by unfold Ml;rw[k,t]
  unfold Ql
  rw[u,k]
  by_cases k6:x.k=6
  . rw[if_pos k6,if_pos k6,f k6]
  . rw[if_neg k6,if_neg k6]
    by_cases k7:x.k=7
    . rw[if_pos k7,if_pos k7,VZ (r k7)]
    . rw[if_neg k7,if_neg k7]
 gone:=λN x k h=>by unfold Ql;rw[Xd k h,if_neg (by rw[k];decide),if_neg (by rw[k];decide)];rfl
 join:=λN x y kx ky vx vy=>by
  have k:(y.cz x.x).k=1:=ky
  unfold Ql
  rw[Xe kx ky vx vy,k,kx,ky]
  simp
theorem S7{N:Nat}:∀{a b:List AP},(a.map λr=>r.cells.map λc=>(c.id,GU N c.W))=(b.map λr=>r.cells.map λc=>(c.id,GU N c.W))->a.flatMap (Io N)=b.flatMap (Io N):=fun {a b} h=>by
 have e:∀l:List AP,l.flatMap (Io N)=(l.map λr=>r.cells.map λc=>(c.id,GU N c.W)).flatMap λq=>q.flatMap λp=>p.1::p.2:=λl=>by
  rw[List.flatMap_map];congr 1;funext r;rw[List.flatMap_map];rfl
 rw[e a,e b,h]
def ZQ:Jm (List Int) where
 add:=(· ++ ·)
 z:=[]
 assoc:=qj
 zl:=λ_=>rfl
 v:=GT
 M:=GU
 nil:=λ_=>rfl
 cons:=λN x l=>by rw[JW,JW,QZ]
 same:=λN x y k i t f r=>by
  unfold GT
  rw[k,i]
  by_cases k6:x.k=6
  . rw[if_pos k6,if_pos k6,f k6]
  . rw[if_neg k6,if_neg k6]
    by_cases k7:x.k=7
    . rw[if_pos k7,if_pos k7,S7 (r k7)]
    . rw[if_neg k7,if_neg k7]
 gone:=λN x k h=>by unfold GT;rw[if_neg (by rw[k];decide),if_neg (by rw[k];decide)]
 join:=λN x y kx ky vx vy=>by
  have k:(y.cz x.x).k=1:=ky
  unfold GT
  rw[k,kx,ky]
  simp
structure aM(pl:BN)(x:AB):Prop where
 g3:x.k=3->pl.body=true
 g6:x.k=6->pl.note=false
 g7:x.k=7->pl.tables<4
 g8:x.k=8->1<=x.id/\x.id<=1073741824
theorem Dh.one{s:GR}{c u:Int}(hc:IntKind.i64.wrap c=IntKind.i64.wrap (s.2+u))(a:IntKind.i64.wrap c=c):Dh s [] u (s.1,c):=⟨by simp,λ_=>a,hc⟩
section
variable{K:Ck}{n0:Nat}
def Y5(K:Ck)(n0:Nat)(N:Nat)(l:List AP):Prop:=∀(s:GR)(pl:BN)(H:Hp)(n:Nat),n0<=n->(∀o y,K.st s o=some y->H o=some y)->
 BL prog 224 [.ptr K.p 0,Aw l,pl.e] H n (CQ K (WV s (l.flatMap (Io N)) (l.map (Vm N)).sum (d8 K N pl l)) H n)
theorem cH(t:K.ok n0)(N:Nat)(x:AB)(hx:x.D)(hfl:Pp K n0 N x.W)(hrw:Y5 K n0 N x.R):Vq K n0 N x:=λs l H n hn hs=>by
 refine DO func161 rfl λQ=>?_;have D:=t.clo;have hKp:K.p<n:=by have:=t.lt K.p (by simp);omega
 have hU:∀f,Gm (BD K.st f H) n:=λf=>D.old f hn Q;have S:∀f j y,BD K.st f H j=some y->j<n:=λf j y e=>(hU f j y e).1;have V:∀f,BD K.st f H K.p=some (.cells [.map K.s0,.map K.s1,.map K.s2,.map K.s3,.map K.s4,AA f.2]):=λf=>(t.has (s:=f) Cl).p;have U:∀(q:GR) b,h_ (BD K.st q H) K.p (some (.cells [.map K.s0,.map K.s1,.map K.s2,.map K.s3,.map K.s4,AA b]))=BD K.st (q.1,b) H:=λq b=>by rw[<-D.up2 q (q.1,b) H,t.up_cnt q b Cl];rfl
 obtain⟨c,hc⟩:∃c,c=IntKind.i64.wrap (s.2+1):=⟨_,rfl⟩
 have A:Dh s [] 1 (s.1,c):=Dh.one (by rw[hc,Qe]) (by rw[hc,Qe]);have no:∀(e:Int)(f:GR)(m:Nat),e≠0->¬(gI K N l x/\CX s.1 (GT N x))->CO n (BD K.st f H) m (AA e) (CQ K (WV s (GT N x) (Ql N x) (gI K N l x)) H n):=λe f m w hb=>t.ret hn Q e f ⟨λg=>absurd g w,λ_=>hb⟩ AC;have F:∀(e:Int)(f:GR)(m:Nat),e≠0->¬aM l x->CO n (BD K.st f H) m (AA e) (CQ K (WV s (GT N x) (Ql N x) (gI K N l x)) H n):=λe f m w hb=>no e f m w λg=>hb ⟨g.1.2.1,g.1.2.2.1,g.1.2.2.2.1,g.1.2.2.2.2.1⟩;have W:∀(e:Int)(f:GR)(m:Nat),e≠0->(x.k=6\/x.k=7)->¬CX s.1 [x.id]->CO n (BD K.st f H) m (AA e) (CQ K (WV s (GT N x) (Ql N x) (gI K N l x)) H n):=λe f m w I hb=>no e f m w λg=>hb (by
  have h2:=g.2;unfold GT at h2;rcases I with k|k;rw[if_pos k]at h2;exact(CH (x:=[x.id])).1 h2 |>.1;rw[if_neg (by omega),if_pos k]at h2;exact(CH (x:=[x.id])).1 h2 |>.1)
 obtain⟨X,C⟩:∃X:SV,X=.q [AA x.k,AA x.code,AA x.id,.str x.x,AU x.H.Q,AA x.H.I,AA x.H.move,Ax x.H.Y,Ai x.H.Z,AK x.W,Aw x.R]:=⟨_,rfl⟩
 obtain⟨Y,P⟩:∃Y:SV,Y=.q [.bool l.body,.bool l.note,AA l.tables]:=⟨_,rfl⟩
 refine Aa 1 [(0,.ptr K.p 0),(4,X),(5,Y)] (BD K.st s H) n ?_ (λm i=>?_);rw[Fq s H hs,C,P];have M:=Q.lt;simp[go_sem,IO,BN.e,qw];refine⟨by omega,⟨AZ (AS M (by omega)) (by simp[h_]),AZ (AS M (by omega)) (by simp[h_])⟩,λj y=>?_⟩;have:=M j y;simp only[h_];grind;refine Bg 0 [(0,.ptr K.p 0),(4,X),(5,Y)] (BD K.st s H) (λm=>n<=m/\G7 x=0) (AJ ?_) (λm i=>?_);rw[C];simp[go_sem];refine qz (by simpa[qw]using fj x hx) ?_;obtain⟨e,w⟩:∃e,G7 x=e:=⟨_,rfl⟩
 rw[w];by_cases a:e=0;simp[go_sem,a,IO,i];simp[go_sem,a];exact no e s _ a λg=>a (by rw[<-w];exact g.1.1);obtain⟨i,o⟩:=i;refine Aa 0 [(0,.ptr K.p 0),(4,X),(5,Y)] (BD K.st (s.1,c) H) n ?_ (λm i=>?_);simp[go_sem,V,IO,i];rw[<-hc,Fq s H hs,t.up_cnt s _ hs];exact AC;refine AX 0 (α:=GR) (λ_=>[(0,.ptr K.p 0),(4,X),(5,Y)]) (λq=>BD K.st q H) (λq m=>n<=m/\Dh s (EB x) (Ml x) q/\CX s.1 (EB x)/\aM l x) ?_ (λq m i=>?_)
 . refine Aa 0 [(0,.ptr K.p 0),(4,X),(5,Y),(27,AA x.k)] (BD K.st (s.1,c) H) n ?_ (λm i=>?_);rw[C];simp[go_sem,IO,i];refine AY (AJ ?_);by_cases k1:x.k=1;have G:EB x=[]:=by simp[EB,k1]
   have og:aM l x:=⟨λg=>by omega,λg=>by omega,λg=>by omega,λg=>by omega⟩
   obtain⟨J,T⟩:∃J:Int,J=if A5 x.x=true then((Ar x.x x.x.size:Nat):Int)else 0:=⟨_,rfl⟩
   have E:Ml x=J:=by rw[Ml,if_pos k1,T]
   rw[G,C,E];simp[go_sem,k1];refine(ba x.x (by have:=(EY hx).2.1;omega)).use ?_;simp[go_sem,V,IO];rw[U];refine⟨s.1,_,⟨i,?_,E9 _,og⟩,AC⟩;exact Dh.one (by rw[hc,<-T];simp only[IntKind.wrap_i64];omega) (Qe _)
   . by_cases k3:x.k=3;have G:EB x=[]:=by simp[EB,k3]
     have E:Ml x=1:=by rw[Ml,if_neg (by omega)]
     rw[G,C,P,E];cases hb:l.body with
     | true=>
      simp[go_sem,k3,IO];exact⟨s.1,_,⟨i,A,E9 _,⟨λ_=>hb,λg=>by omega,λg=>by omega,λg=>by omega⟩⟩,AC⟩
     | false=>
      simp[go_sem,k3];exact F 19 _ _ (by decide) (λg=>by have:=g.g3 k3;rw[hb]at this;cases this)
     . by_cases k6:x.k=6
       . have G:EB x=[x.id]:=by simp[EB,k6]
         have E:Ml x=1:=by rw[Ml,if_neg (by omega)]
         rw[G,C,P,E];simp[go_sem,k6];refine(Ki _ _).use ?_;simp[go_sem];refine wn (bs:=[.i 1 ([if l.note then(19:Int)else 0].map AA) false]) (h2:=BD K.st (s.1,c) H) 1 (AL (λj z e=>by have:=S _ j z e;omega) AC) ⟨?_,trivial⟩ ?_;exact Cz (es:=[AA (if l.note then(19:Int)else 0)]) (AS (S _) i) (by simp) (by rw[AD];simp[SV.cells]) (by simp[SV.B,SV.cells]);refine(Sa _ (by simp)).use ?_;cases hb:l.note with
         | true=>simp[go_sem,Bc];exact F 19 _ _ (by decide) (λg=>by have:=g.g6 k6;rw[hb]at this;cases this)
         | false=>
         simp[go_sem,Bc];refine qP (WI t (s.1,c) x.id (by omega) Cl) ?_;rintro v Z n' ⟨e,s2,rfl,u,rfl,rfl⟩;rw[D.up2];by_cases a:e=0;obtain⟨_,h2,L⟩:=u.1 a;simp[go_sem,a,IO];exact⟨s2.1,s2.2,⟨by omega,(A.trans L).to rfl rfl,h2,⟨λg=>by omega,λ_=>hb,λg=>by omega,λg=>by omega⟩⟩,AC⟩;simp[go_sem,a];exact W e _ _ a (.inl k6) (λg=>u.2 a ⟨trivial,g⟩)
       by_cases k7:x.k=7;have G:EB x=[x.id]:=by simp[EB,k7]
       have E:Ml x=1:=by rw[Ml,if_neg (by omega)]
       rw[G,C,P,E];by_cases tb:4<=l.tables;simp[go_sem,k7,tb];exact F 17 _ _ (by decide) (λg=>by have:=g.g7 k7;omega);simp[go_sem,k7,tb];refine qP (WI t (s.1,c) x.id (by omega) Cl) ?_;rintro v Z n' ⟨e,s2,rfl,u,rfl,rfl⟩;rw[D.up2];by_cases a:e=0;obtain⟨_,h2,L⟩:=u.1 a;simp[go_sem,a,IO];exact⟨s2.1,s2.2,⟨by omega,(A.trans L).to rfl rfl,h2,⟨λg=>by omega,λg=>by omega,λ_=>by omega,λg=>by omega⟩⟩,AC⟩;simp[go_sem,a];exact W e _ _ a (.inr k7) (λg=>u.2 a ⟨trivial,g⟩);have G:EB x=[]:=by simp[EB,k6,k7]
       have E:Ml x=1:=by rw[Ml,if_neg (by omega)]
       rw[G,C,P,E];by_cases k8:x.k=8;simp[go_sem,k8];refine(LW _ _ _).use ?_;by_cases c8:1<=x.id/\x.id<=1073741824;simp[go_sem,c8,IO];exact⟨s.1,_,⟨i,A,E9 _,⟨λg=>by omega,λg=>by omega,λg=>by omega,λ_=>c8⟩⟩,AC⟩;simp[go_sem,c8];exact F 18 _ _ (by decide) (λg=>c8 (g.g8 k8));simp[go_sem,k1,k3,k6,k7,k8,IO];exact⟨s.1,_,⟨i,A,E9 _,⟨λg=>by omega,λg=>by omega,λg=>by omega,λg=>by omega⟩⟩,AC⟩
 obtain⟨i,r,O,d⟩:=i;refine Bg 0 [(0,.ptr K.p 0),(4,X),(5,Y)] (BD K.st q H) (λm=>n<=m/\EV K x.k x.H=0) (AJ ?_) (λm i=>?_);rw[C];simp[go_sem];refine qP (by simpa[AF.e,AF.g]using YG t q x.k x.H (EY hx).1 (n:=m) (by omega) Cl) ?_;obtain⟨e,w⟩:∃e,EV K x.k x.H=e:=⟨_,rfl⟩
 rw[w];rintro v Z n' ⟨rfl,rfl,rfl⟩;by_cases a:e=0;simp[go_sem,a,IO,i];simp[go_sem,a];exact no e _ _ a λg=>a (by rw[<-w];exact g.1.2.2.2.2.2.1);obtain⟨i,hh⟩:=i;refine Bg 0 [] (BD K.st q H) (λm=>x.k≠6/\x.k≠7) (AJ ?_) (λm I=>?_);rw[C,P];by_cases k6:x.k=6;simp[go_sem,k6];refine qP (by simpa[BN.e]using hfl q ⟨false,true,l.tables⟩ (BD K.st q H) m (by omega) Cl) ?_;rintro v Z n' ⟨e,s2,rfl,u,rfl,rfl⟩;rw[D.up2];simp[go_sem];have B:GT N x=EB x++GU N x.W:=by simp[EB,GT,k6]
 have R:Ql N x=Ml x+Oz N x.W:=by simp[Ql,k6]
 refine t.ret hn Q e s2 ⟨λa=>?_,λa g=>u.2 a ⟨g.1.2.2.2.2.2.2.1 k6,?_⟩⟩ AC;obtain⟨h1,h2,L⟩:=u.1 a;rw[r.ids]at h2;exact⟨⟨o,d.g3,d.g6,d.g7,d.g8,hh,λ_=>h1,λh=>absurd h (by omega)⟩,by rw[B];exact CH.2 ⟨O,h2⟩,(r.trans L).to B.symm R.symm⟩;have h2:=g.2;rw[B]at h2;rw[r.ids];exact(CH.1 h2).2;by_cases k7:x.k=7;simp[go_sem,k7];refine qP (by simpa[BN.e]using hrw q ⟨false,l.note,IntKind.i64.wrap (l.tables+1)⟩ (BD K.st q H) m (by omega) Cl) ?_;rintro v Z n' ⟨e,s2,rfl,u,rfl,rfl⟩;rw[D.up2];simp[go_sem];have B:GT N x=EB x++x.R.flatMap (Io N):=by simp[EB,GT,k7]
 have R:Ql N x=Ml x+(x.R.map (Vm N)).sum:=by simp[Ql,k7]
 refine t.ret hn Q e s2 ⟨λa=>?_,λa g=>u.2 a ⟨g.1.2.2.2.2.2.2.2 k7,?_⟩⟩ AC;obtain⟨h1,h2,L⟩:=u.1 a;rw[r.ids]at h2;exact⟨⟨o,d.g3,d.g6,d.g7,d.g8,hh,λh=>absurd h (by omega),λ_=>h1⟩,by rw[B];exact CH.2 ⟨O,h2⟩,(r.trans L).to B.symm R.symm⟩;have h2:=g.2;rw[B]at h2;rw[r.ids];exact(CH.1 h2).2;simp[go_sem,k6,k7];refine AJ ?_;simp[go_sem];have B:GT N x=EB x:=by simp[EB,GT,I.1,I.2]
 have R:Ql N x=Ml x:=by simp[Ql,I.1,I.2]
 exact t.ret hn Q 0 q ⟨λ_=>⟨⟨o,d.g3,d.g6,d.g7,d.g8,hh,λh=>absurd h I.1,λh=>absurd h I.2⟩,by rw[B];exact O,r.to B.symm R.symm⟩,λg=>absurd rfl g⟩ AC
end
section
variable{K:Ck}{n0:Nat}
def eE(N:Nat)(c:cr):Int:=Oz N c.W
theorem P5{a b c:Int}:Bc [a,b,c]=0↔a=0/\b=0/\c=0:=by
 simp only[Bc];by_cases d:a=0<;>by_cases hb:b=0<;>by_cases hc:c=0<;>simp[d,hb,hc]
theorem ML{α:Type}{f:α->List Int}{l:List α}{a:List Int}{i:Nat}(hi:i<l.length)(h:CX a (l.flatMap f)):CX (a++(l.take i).flatMap f) (f l[i]):=by
 rw[<-qM (i+1) l,Jk,Eo _ _ _ hi,qj]at h;exact(CH.1 (CH.1 h).2).1
theorem SJ{α:Type}(f:α->Int)(l:List α){i:Nat}(hi:i<l.length):((l.take (i+1)).map f).sum=((l.take i).map f).sum+f l[i]:=by
 rw[qb hi,qc,List.sum_append];simp
theorem cJ(hK:K.ok n0)(N:Nat)(l:List AP)(hl:l.length<=1048576)(hr:∀r∈l,r.H.D/\r.cells.length<=1048576/\∀c∈r.cells,c.H.D/\Pp K n0 N c.W):Y5 K n0 N l:=λs pl H n hn hs=>by
 refine DO func224 rfl λho=>?_;have D:=hK.clo;have hU:∀s',Gm (BD K.st s' H) n:=λs'=>D.old s' hn ho;have hUb:∀s' j y,BD K.st s' H j=some y->j<n:=λs' j y e=>(hU s' j y e).1;obtain⟨T,hT⟩:∃T,T=WV s (l.flatMap (Io N)) (l.map (Vm N)).sum (d8 K N pl l):=⟨_,rfl⟩
 rw[<-hT];have no:∀(e:Int)(s':GR)(m:Nat),e≠0->¬(d8 K N pl l/\CX s.1 (l.flatMap (Io N)))->CO n (BD K.st s' H) m (AA e) (CQ K T H n):=λe s' m he hb=>hK.ret hn ho e s' (by rw[hT];exact⟨λg=>absurd g he,λ_=>hb⟩) AC;refine Aa 1 [(0,.ptr K.p 0),(1,Aw l),(5,.q [.bool pl.body,.bool pl.note,AA pl.tables])] (BD K.st s H) n ?_ (λm hm=>?_);rw[Fq s H hs];have hHb:=ho.lt;simp[go_sem,IO,BN.e];exact⟨AZ (AS hHb (by omega)) (by simp[h_]),AL hHb AC⟩;refine Bg 0 [(0,.ptr K.p 0),(1,Aw l),(5,.q [.bool pl.body,.bool pl.note,AA pl.tables])] (BD K.st s H) (λm=>n<=m/\l≠[]) (AJ ?_) (λm hm=>?_);by_cases c:l=[];simp[go_sem,c];exact no 11 _ _ (by decide) (λg=>g.1.1 c);simp[go_sem,c,IO,hm];obtain⟨hm,hne⟩:=hm;refine Bg 0 [(0,.ptr K.p 0),(1,Aw l),(5,.q [.bool pl.body,.bool pl.note,AA pl.tables])] (BD K.st s H) (λm=>n<=m/\l.length<=256) (AJ ?_) (λm hm=>?_);by_cases c:(256:Int)<l.length;simp[go_sem,c];exact no 9 _ _ (by decide) (λg=>by have:=g.1.2.1;omega);simp[go_sem,c,IO,hm];omega;obtain⟨hm,hle⟩:=hm;refine AX 0 (α:=GR) (λ_=>[]) (λq=>BD K.st q H) (λq m=>n<=m/\Dh s (l.flatMap (Io N)) (l.map (Vm N)).sum q/\CX s.1 (l.flatMap (Io N))/\∀r∈l,aA K N pl r) ?_ (λq m hm=>?_)
 . refine Aa 0 [(0,.ptr K.p 0),(5,.q [.bool pl.body,.bool pl.note,AA pl.tables]),(21,Aw l),(22,AA l.length),(23,AA 0)] (BD K.st s H) n ?_ (λm hm=>?_);simp[go_sem,IO,hm];refine AY (BT 0 (α:=Nat×GR) (λq=>[(0,.ptr K.p 0),(5,.q [.bool pl.body,.bool pl.note,AA pl.tables]),(21,Aw l),(22,AA l.length),(23,AA q.1)]) (λq=>BD K.st q.2 H) (λq m=>q.1<=l.length/\n<=m/\Dh s ((l.take q.1).flatMap (Io N)) ((l.take q.1).map (Vm N)).sum q.2/\CX s.1 ((l.take q.1).flatMap (Io N))/\∀r∈l.take q.1,aA K N pl r) (λq=>l.length-q.1) (0,s) ⟨qg _,hm,Dh.nil s,E9 _,by simp⟩ ?_ AC ?_);simp[go_sem,Ao,IO];rintro⟨i,s1⟩ m ⟨hi,hm,hmo,hfr,hok⟩;dsimp only at hi hmo hfr hok ⊢;by_cases hlt:i<l.length
   . obtain⟨x,hx⟩:∃x,l[i]=x:=⟨_,rfl⟩
     have hxm:x∈l:=by rw[<-hx];exact qi hlt
     obtain⟨x1,x2,x3⟩:=hr x hxm;have hgx:(l.map AP.e)[i]? = some x.e:=by simp[hlt,hx]
     have w1:=wS i (by omega);have tk:=Eo (Io N) l i hlt;have sk:=SJ (Vm N) l hlt;rw[hx]at tk sk;have noR:∀(e:Int)(s':GR)(m:Nat),e≠0->¬(aA K N pl x/\CX s1.1 (Io N x))->CO n (BD K.st s' H) m (AA e) (CQ K T H n):=λe s' m he hb=>no e s' m he λg=>hb ⟨g.1.2.2 x hxm,by
      have:=ML hlt g.2;rw[hx]at this;rw[hmo.ids];exact this⟩
     have tl:l.take (i+1)=l.take i++[x]:=by rw[qb hlt,hx]
     refine Aa 0 [(0,.ptr K.p 0),(5,.q [.bool pl.body,.bool pl.note,AA pl.tables]),(21,Aw l),(22,AA l.length),(23,AA i),(24,.bool true)] (BD K.st s1 H) n ?_ (λm hm=>?_);simp[go_sem,IO,hm,hlt];refine Aa 0 [(0,.ptr K.p 0),(5,.q [.bool pl.body,.bool pl.note,AA pl.tables]),(21,Aw l),(22,AA l.length),(23,AA i)] (BD K.st s1 H) n ?_ (λm hm=>?_);simp[go_sem,IO,hm];refine AX 0 (α:=GR) (λ_=>[(0,.ptr K.p 0),(5,.q [.bool pl.body,.bool pl.note,AA pl.tables]),(21,Aw l),(22,AA l.length),(23,AA i)]) (λq=>BD K.st q H) (λq m=>n<=m/\Dh s1 (Io N x) (Vm N x) q/\CX s1.1 (Io N x)/\aA K N pl x) ?_ (λq m hm=>?_)
     . refine AY ?_;refine Aa 1 [(0,.ptr K.p 0),(5,.q [.bool pl.body,.bool pl.note,AA pl.tables]),(21,Aw l),(22,AA l.length),(23,AA i),(8,.q (x.H.g++[BZ x.cells]))] (BD K.st s1 H) n ?_ (λm hm=>?_);simp[go_sem,IO,hlt,hx,Yw,AF.g,AD];have hHm:∀j y,BD K.st s1 H j=some y->j<m:=λj y e=>by have:=hUb _ j y e;omega
       exact⟨by omega,AZ (AS hHm (qa _)) (AD _ _ _),AL hHm (AL hHm AC)⟩;have hd:=YG hK s1 9 x.H x1 (H:=BD K.st s1 H) (n:=m) (by omega) Cl;obtain⟨e9,he9⟩:∃e9,EV K 9 x.H=e9:=⟨_,rfl⟩
       rw[he9]at hd;obtain⟨ef,hef⟩:∃ef,ef=Bc [e9,if x.cells=[]then(11:Int)else 0,if 32<(x.cells.length:Int)then(9:Int)else 0]:=⟨_,rfl⟩
       refine Bg 0 [(0,.ptr K.p 0),(5,.q [.bool pl.body,.bool pl.note,AA pl.tables]),(21,Aw l),(22,AA l.length),(23,AA i),(8,.q (x.H.g++[BZ x.cells]))] (BD K.st s1 H) (λm=>n<=m/\e9=0/\x.cells≠[]/\x.cells.length<=32) ?_ (λm hm=>?_)
       . refine AX 0 (α:=Unit) (λ_=>[(0,.ptr K.p 0),(5,.q [.bool pl.body,.bool pl.note,AA pl.tables]),(21,Aw l),(22,AA l.length),(23,AA i),(8,.q (x.H.g++[BZ x.cells])),(9,AA ef)]) (λ_=>BD K.st s1 H) (λ_ m=>n<=m) (CK da rfl (by kernel_rfl) (by kernel_rfl) ?_) (λ_ m hm=>?_);simp[go_sem,da,AF.g];refine qP (by simpa[AF.e,AF.g]using hd) ?_;rintro v H' n' ⟨rfl,rfl,rfl⟩;simp[go_sem];refine(Ki _ _).use ?_;simp[go_sem];refine(Ki _ _).use ?_;simp[go_sem];generalize(if x.cells=[]then(11:Int)else 0)=ea at hef ⊢;generalize(if 32<(x.cells.length:Int)then(9:Int)else 0)=eb at hef ⊢;refine wn (bs:=[.i 1 ([e9,ea,eb].map AA) false]) (h2:=BD K.st s1 H) 1 (AL (λj z e=>by have:=hUb s1 j z e;omega) AC) ⟨?_,trivial⟩ ?_;exact Cz (es:=[AA e9,AA ea,AA eb]) (AS (hUb s1) hm) (by simp) (by rw[AD];simp[SV.cells]) (by simp[SV.B,SV.cells]);refine(Sa _ (by simp)).use ?_;rw[<-hef];simp[go_sem,IO];omega;have hz:=hef▸(P5 (a:=e9) (b:=if x.cells=[]then(11:Int)else 0) (c:=if 32<(x.cells.length:Int)then(9:Int)else 0));by_cases e80:ef=0
         case neg=>
          refine AJ ?_;simp[go_sem,e80];refine noR ef _ _ e80 λg=>e80 (hz.2 ⟨by rw[<-he9];exact g.1.1,if_neg g.1.2.1,if_neg (by have:=g.1.2.2.1;omega)⟩)
         obtain⟨z1,z2,z3⟩:=hz.1 e80;have z2':x.cells≠[]:=λg=>by rw[if_pos g]at z2;cases z2
         have z3':x.cells.length<=32:=by
          by_cases g:32<(x.cells.length:Int);rw[if_pos g]at z3;cases z3;omega
         rw[e80];exact AJ (by simp[go_sem,IO,hm,z1,z2',z3'])
       obtain⟨hm,hhd⟩:=hm;refine Aa 0 [(0,.ptr K.p 0),(5,.q [.bool pl.body,.bool pl.note,AA pl.tables]),(21,Aw l),(22,AA l.length),(23,AA i),(47,BZ x.cells),(48,AA x.cells.length),(49,AA 0)] (BD K.st s1 H) n ?_ (λm hm=>?_);simp[go_sem,IO,AF.g,hm];refine AY (BT 0 (α:=Nat×GR) (λq=>[(0,.ptr K.p 0),(5,.q [.bool pl.body,.bool pl.note,AA pl.tables]),(21,Aw l),(22,AA l.length),(23,AA i),(47,BZ x.cells),(48,AA x.cells.length),(49,AA q.1)]) (λq=>BD K.st q.2 H) (λq m=>q.1<=x.cells.length/\n<=m/\Dh s1 ((x.cells.take q.1).flatMap (TE N)) ((x.cells.take q.1).map (eE N)).sum q.2/\CX s1.1 ((x.cells.take q.1).flatMap (TE N))/\∀c∈x.cells.take q.1,gC K N pl c) (λq=>x.cells.length-q.1) (0,s1) ⟨qg _,hm,Dh.nil s1,E9 _,by simp⟩ ?_ AC ?_);simp[go_sem,Ao,IO];rintro⟨j,s2⟩ m ⟨hj,hm,hmo2,hfr2,hok2⟩;dsimp only at hj hmo2 hfr2 hok2 ⊢;by_cases hjt:j<x.cells.length;obtain⟨y,hy⟩:∃y,x.cells[j]=y:=⟨_,rfl⟩
       have hym:y∈x.cells:=by rw[<-hy];exact qi hjt
       obtain⟨y1,y2⟩:=x3 y hym;have w2:=wS j (by omega);have tk2:=Eo (TE N) x.cells j hjt;have sk2:=SJ (eE N) x.cells hjt;rw[hy]at tk2 sk2;have noC:∀(e:Int)(s':GR)(m:Nat),e≠0->¬(gC K N pl y/\CX s2.1 (TE N y))->CO n (BD K.st s' H) m (AA e) (CQ K T H n):=λe s' m he hb=>noR e s' m he λg=>hb ⟨g.1.2.2.2 y hym,by
        have:=ML hjt (YS N x▸g.2);rw[hy]at this;rw[hmo2.ids];exact this⟩
       have tl2:x.cells.take (j+1)=x.cells.take j++[y]:=by rw[qb hjt,hy]
       refine Aa 0 [(0,.ptr K.p 0),(5,.q [.bool pl.body,.bool pl.note,AA pl.tables]),(21,Aw l),(22,AA l.length),(23,AA i),(47,BZ x.cells),(48,AA x.cells.length),(49,AA j),(50,.bool true)] (BD K.st s2 H) n ?_ (λm hm=>?_);simp[go_sem,IO,hm,hjt];refine Aa 0 [(0,.ptr K.p 0),(5,.q [.bool pl.body,.bool pl.note,AA pl.tables]),(21,Aw l),(22,AA l.length),(23,AA i),(47,BZ x.cells),(48,AA x.cells.length),(49,AA j)] (BD K.st s2 H) n ?_ (λm hm=>?_);simp[go_sem,IO,hm];refine AX 0 (α:=GR) (λ_=>[(0,.ptr K.p 0),(5,.q [.bool pl.body,.bool pl.note,AA pl.tables]),(21,Aw l),(22,AA l.length),(23,AA i),(47,BZ x.cells),(48,AA x.cells.length),(49,AA j)]) (λq=>BD K.st q H) (λq m=>n<=m/\Dh s2 (TE N y) (eE N y) q/\CX s2.1 (TE N y)/\gC K N pl y) ?_ (λq m hm=>?_);refine AY ?_;refine Aa 1 [(0,.ptr K.p 0),(5,.q [.bool pl.body,.bool pl.note,AA pl.tables]),(21,Aw l),(22,AA l.length),(23,AA i),(47,BZ x.cells),(48,AA x.cells.length),(49,AA j),(11,.q ([AA y.id]++y.H.g++[AK y.W]))] (BD K.st s2 H) n ?_ (λm hm=>?_);simp[go_sem,IO,hjt,hy,Us,AF.g,AD];have hHm:∀j y,BD K.st s2 H j=some y->j<m:=λj y e=>by have:=hUb _ j y e;omega
       exact⟨by omega,AZ (AS hHm (qa _)) (AD _ _ _),AL hHm (AL hHm AC)⟩;refine AX 0 (α:=GR) (λ_=>[(0,.ptr K.p 0),(5,.q [.bool pl.body,.bool pl.note,AA pl.tables]),(21,Aw l),(22,AA l.length),(23,AA i),(47,BZ x.cells),(48,AA x.cells.length),(49,AA j),(11,.q ([AA y.id]++y.H.g++[AK y.W]))]) (λq=>BD K.st q H) (λq m=>n<=m/\Dh s2 [y.id] 0 q/\CX s2.1 [y.id]) (AJ ?_) (λq m hm=>?_);simp[go_sem];refine qP (WI hK s2 y.id (by omega) Cl) ?_;rintro v H' n' ⟨e,s3,rfl,hT2,rfl,rfl⟩;rw[D.up2];by_cases e0:e=0;obtain⟨_,h2,h3⟩:=hT2.1 e0;simp[go_sem,e0,IO,AF.g];exact⟨s3.1,s3.2,⟨by omega,h3,h2⟩,AC⟩;simp[go_sem,e0];exact noC e _ _ e0 λg=>hT2.2 e0 ⟨trivial,((CH (x:=[y.id])).1 g.2).1⟩;obtain⟨hm,hq1,hq2⟩:=hm;refine Bg 0 [(0,.ptr K.p 0),(5,.q [.bool pl.body,.bool pl.note,AA pl.tables]),(21,Aw l),(22,AA l.length),(23,AA i),(47,BZ x.cells),(48,AA x.cells.length),(49,AA j),(11,.q ([AA y.id]++y.H.g++[AK y.W]))] (BD K.st q H) (λm=>n<=m/\EV K 10 y.H=0) (AJ ?_) (λm hm=>?_);simp[go_sem,AF.g];refine qP (by simpa[AF.e,AF.g]using YG hK q 10 y.H y1 (H:=BD K.st q H) (n:=m) (by omega) Cl) ?_;obtain⟨e,he⟩:∃e,EV K 10 y.H=e:=⟨_,rfl⟩
       rw[he];rintro v H' n' ⟨rfl,rfl,rfl⟩;by_cases e0:e=0;simp[go_sem,e0,IO];omega;simp[go_sem,e0];exact noC e _ _ e0 λg=>e0 (by rw[<-he];exact g.1.1);obtain⟨hm,hh2⟩:=hm;refine AJ ?_;simp[go_sem,AF.g];refine qP (by simpa[BN.e]using y2 q pl (BD K.st q H) m (by omega) Cl) ?_;rintro v H' n' ⟨e,s3,rfl,hT2,rfl,rfl⟩;rw[D.up2];by_cases e0:e=0;obtain⟨h1,h2,h3⟩:=hT2.1 e0;simp[go_sem,e0,IO];rw[hq1.ids]at h2;exact⟨s3.1,s3.2,⟨by omega,(hq1.trans h3).to rfl (by rw[eE];omega),CH (x:=[y.id]) |>.2 ⟨hq2,h2⟩,hh2,h1⟩,AC⟩;simp[go_sem,e0];exact noC e _ _ e0 λg=>hT2.2 e0 ⟨g.1.2,by rw[hq1.ids];exact((CH (x:=[y.id])).1 g.2).2⟩;refine AJ ?_;simp[go_sem,w2,IO,-Int.natCast_add];have h2:=hm.2.2.1;rw[hmo2.ids]at h2;refine⟨j+1,by omega,q.1,q.2,⟨by omega,hm.1,(hmo2.trans hm.2.1).to tk2.symm (by rw[<-vp];exact sk2.symm),by rw[tk2];exact CH.2 ⟨hfr2,h2⟩,λc hc=>?_⟩,rfl,AC⟩;rw[tl2]at hc;exact Eu hok2 hm.2.2.2 c hc;have:j=x.cells.length:=by omega
       subst this;rw[qm]at hmo2 hok2 hfr2;refine AJ ?_;simp[go_sem,IO];exact⟨s2.1,s2.2,⟨hm,hmo2,hfr2,by rw[he9];exact hhd.1,hhd.2.1,hhd.2.2,hok2⟩,AC⟩
     refine AJ ?_;simp[go_sem,w1,IO,-Int.natCast_add];have h2:=hm.2.2.1;rw[hmo.ids]at h2;refine⟨i+1,by omega,q.1,q.2,⟨by omega,hm.1,(hmo.trans hm.2.1).to tk.symm (by rw[<-vp];exact sk.symm),by rw[tk];exact CH.2 ⟨hfr,h2⟩,λr hr=>?_⟩,rfl,AC⟩;rw[tl]at hr;exact Eu hok hm.2.2.2 r hr
   have:i=l.length:=by omega
   subst this;rw[qm]at hmo hok hfr;refine AJ ?_;simp[go_sem];exact⟨s1.1,s1.2,⟨hm,hmo,hfr,hok⟩,AC⟩
 refine AJ ?_;simp[go_sem];exact hK.ret hn ho 0 q (by rw[hT];exact⟨λ_=>⟨⟨hne,hle,hm.2.2.2⟩,hm.2.2.1,hm.2.1⟩,λg=>absurd rfl g⟩) AC
theorem Pu(a:K.ok n0){B:Nat}(b:B<=1048576):∀(N:Nat)(l:List AB),Dq AF.D B N l->Pp K n0 N l
 | 0,_,h=>h.elim
 | N+1,l,h=>by
  have f:=h.D (λ_ e=>e) b;obtain⟨_,_,i⟩:=Ci.1 h;refine ir a N l f.1 λx g=>?_;obtain⟨a1,a2,a3,a4⟩:=i x g;refine cH a N x (vq f.2 x g) (Pu a b N x.W a2) (cJ a N x.R (by omega) λr j=>?_);obtain⟨b1,b2,d⟩:=a4 r j;exact⟨b1,by omega,λc hc=>⟨(d c hc).1,Pu a b N c.W (d c hc).2⟩⟩
end
def HV(l:List A7):Nat->List (Int×Int)
 | 0=>[]
 | i+1=>match l[i]? with
  | some s=>LM (HV l i) s.id s.k
  | none=>HV l i
def jW(d:AG)(h:Hp)(n:Nat):SV->Hp->Nat->Prop:=λv h' n'=>∃K:Ck,K.ok n'/\n<=n'/\v=.ptr K.p 0/\(∀o y,K.st ([],0) o=some y->h' o=some y)/\K.m2=BU [] (d.V.map (·.id))/\K.m0=HV d.S.A d.S.A.length/\K.m1=BU [] (d.S.L.map (·.id))/\(∀j y,h j=some y->h' j=some y)/\∀o y,K.st ([],0) o=some y->n<=o
theorem iq(d:AG)(h1:d.S.A.length<=1048576)(h2:d.S.L.length<=1048576)(h3:d.V.length<=1048576){h:Hp}{n:Nat}:BL prog 85 [d.e] h n (jW d h n):=by
 refine DO func85 rfl λN=>?_;have s:=N.lt;obtain⟨X,E⟩:∃X:SV,X=.q ([AK d.W]++d.T0.g++[BE d.V]++d.S.g):=⟨_,rfl⟩
 refine By 1 [(1,X)] h (λm=>n+1=m) ?_ (λm p=>?_);rw[E];simp[go_sem,AG.e,AF.g,AI.g];exact⟨AZ (AS s (qa _)) (AD _ _ _),AL s AC⟩;subst p;refine By 0 [(1,X),(3,.ptr (n+6) 0)] (hb h n [] [] []) (λm=>n+7=m) ?_ (λm p=>?_);simp[go_sem,IO,qu,hb,H4,FC];subst p;refine AX 0 (α:=List (Int×Int)) (λ_=>[(1,X),(3,.ptr (n+6) 0)]) (λa=>hb h n a [] []) (λa m=>n+7<=m/\a=HV d.S.A d.S.A.length) ?_ (λa0 m p=>?_)
 . refine By 0 [(1,X),(3,.ptr (n+6) 0),(19,Aj d.S.A),(20,AA d.S.A.length),(21,AA 0)] (hb h n [] [] []) (λm=>n+7<=m) ?_ (λm p=>?_);rw[E];simp[go_sem,IO,AF.g,AI.g];refine AY (BT 0 (α:=Nat×List (Int×Int)) (λq=>[(1,X),(3,.ptr (n+6) 0),(19,Aj d.S.A),(20,AA d.S.A.length),(21,AA q.1)]) (λq=>hb h n q.2 [] []) (λq m=>q.1<=d.S.A.length/\n+7<=m/\q.2=HV d.S.A q.1) (λq=>d.S.A.length-q.1) (0,[]) ⟨qg _,p,rfl⟩ ?_ AC ?_);simp[go_sem,Ao,IO];rintro⟨i,a⟩ m ⟨hi,p,t⟩;dsimp only at hi t ⊢;refine AJ ?_;by_cases k:i<d.S.A.length
   . obtain⟨x,A⟩:∃x,d.S.A[i]=x:=⟨_,rfl⟩
     have w1:=wS i (by omega);have C:n+6≠m:=by omega
     have B:n+1≠m:=by omega
     have g:HV d.S.A (i+1)=LM a x.id x.k:=by rw[HV,qe k,A,t]
     have fin:∀b z y,∀j w,hb h n b [] [] j=some w->h_ (h_ (h_ (hb h n a [] []) m y) m z) (n+1) (some (.map (H4 b))) j=some w:=λb z y j w e=>by
      have:=Wl (h:=h) (n:=n) (λj y e=>s j y e) j w e;rw[<-jG (a0:=a)]at e;simp only[h_]at e ⊢;split at e;rename_i c;rw[if_pos c];exact e;rename_i c;rw[if_neg c,if_neg (by omega),if_neg (by omega)];exact e
     rcases L8 x.id x.k a 0 with⟨f,l⟩|⟨j,v,f,D⟩
     . simp[go_sem,k,A,A7.e,AD,AE,C,B,Qh,Me,f,Cc,l,w1,-Int.natCast_add]
       repeat first|refine nq ?_|refine sq ?_|refine aq ?_
       exact⟨i+1,by omega,_,⟨by omega,by omega,g.symm⟩,rfl,fin _ _ _⟩
     . rw[qU]at f;simp[go_sem,k,A,A7.e,AD,AE,C,B,Qh,Me,f,Cc,D,w1,-Int.natCast_add]
       repeat first|refine nq ?_|refine sq ?_|refine aq ?_
       exact⟨i+1,by omega,_,⟨by omega,by omega,g.symm⟩,rfl,fin _ _ _⟩
   have:i=d.S.A.length:=by omega
   subst this;simp[go_sem,IO];exact⟨a,⟨by omega,t⟩,AC⟩
 obtain⟨p,F⟩:=p;refine AX 0 (α:=List Int) (λ_=>[(1,X),(3,.ptr (n+6) 0)]) (λa=>hb h n a0 a []) (λa m=>n+7<=m/\a=BU [] (d.S.L.map (·.id))) ?_ (λa1 m p=>?_)
 . refine By 0 [(1,X),(3,.ptr (n+6) 0),(36,Dg d.S.L),(37,AA d.S.L.length),(38,AA 0)] (hb h n a0 [] []) (λm=>n+7<=m) ?_ (λm p=>?_);rw[E];simp[go_sem,IO,AF.g,AI.g,p];refine AY (BT 0 (α:=Nat×List Int) (λq=>[(1,X),(3,.ptr (n+6) 0),(36,Dg d.S.L),(37,AA d.S.L.length),(38,AA q.1)]) (λq=>hb h n a0 q.2 []) (λq m=>q.1<=d.S.L.length/\n+7<=m/\q.2=BU [] ((d.S.L.take q.1).map (·.id))) (λq=>d.S.L.length-q.1) (0,[]) ⟨qg _,p,by simp[BU]⟩ ?_ AC ?_);simp[go_sem,Ao,IO];rintro⟨i,a⟩ m ⟨hi,p,t⟩;dsimp only at hi t ⊢;refine AJ ?_;by_cases k:i<d.S.L.length
   . obtain⟨x,A⟩:∃x,d.S.L[i]=x:=⟨_,rfl⟩
     have w1:=wS i (by omega);have C:n+6≠m:=by omega
     have B:n+2≠m:=by omega
     have g:BU [] ((d.S.L.take (i+1)).map (·.id))=Fd a x.id:=by rw[qb k,A,qc,CR,<-t];rfl
     have fin:∀b z y,∀j w,hb h n a0 b [] j=some w->h_ (h_ (h_ (hb h n a0 a []) m y) m z) (n+2) (some (.map (FC b))) j=some w:=λb z y j w e=>by
      have:=Wl (h:=h) (n:=n) (λj y e=>s j y e) j w e;rw[<-jH (a1:=a)]at e;simp only[h_]at e ⊢;split at e;rename_i c;rw[if_pos c];exact e;rename_i c;rw[if_neg c,if_neg (by omega),if_neg (by omega)];exact e
     by_cases r:x.id∈a
     . obtain⟨j,f,H⟩:=Da 0 r;have u:=KX H;simp only[JA]at u;rw[qU]at f;simp[go_sem,k,A,GQ.e,AD,AE,C,B,Qh,F8,f,Cc,u,w1,-Int.natCast_add]
       repeat first|refine nq ?_|refine sq ?_|refine aq ?_
       refine⟨i+1,by omega,a,⟨by omega,by omega,?_⟩,rfl,fin a _ _⟩;rw[vp]at g;rw[g,Fd,if_pos r]
     . have f:=ET 0 r;have l:=Nv a x.id;simp[go_sem,k,A,GQ.e,AD,AE,C,B,Qh,F8,f,Cc,l,w1,-Int.natCast_add]
       repeat first|refine nq ?_|refine sq ?_|refine aq ?_
       refine⟨i+1,by omega,a++[x.id],⟨by omega,by omega,?_⟩,rfl,fin _ _ _⟩;rw[vp]at g;rw[g,Fd,if_neg r]
   have:i=d.S.L.length:=by omega
   subst this;rw[qm]at t;simp[go_sem,IO];exact⟨a,⟨by omega,t⟩,AC⟩
 obtain⟨p,G⟩:=p;refine AX 0 (α:=List Int) (λ_=>[(1,X),(3,.ptr (n+6) 0)]) (λa=>hb h n a0 a1 a) (λa m=>n+7<=m/\a=BU [] (d.V.map (·.id))) ?_ (λa2 m p=>?_)
 . refine By 0 [(1,X),(3,.ptr (n+6) 0),(50,BE d.V),(51,AA d.V.length),(52,AA 0)] (hb h n a0 a1 []) (λm=>n+7<=m) ?_ (λm p=>?_);rw[E];simp[go_sem,IO,AF.g,AI.g,p];refine AY (BT 0 (α:=Nat×List Int) (λq=>[(1,X),(3,.ptr (n+6) 0),(50,BE d.V),(51,AA d.V.length),(52,AA q.1)]) (λq=>hb h n a0 a1 q.2) (λq m=>q.1<=d.V.length/\n+7<=m/\q.2=BU [] ((d.V.take q.1).map (·.id))) (λq=>d.V.length-q.1) (0,[]) ⟨qg _,p,by simp[BU]⟩ ?_ AC ?_);simp[go_sem,Ao,IO];rintro⟨i,a⟩ m ⟨hi,p,t⟩;dsimp only at hi t ⊢;refine AJ ?_;by_cases k:i<d.V.length
   . obtain⟨x,A⟩:∃x,d.V[i]=x:=⟨_,rfl⟩
     have w1:=wS i (by omega);have C:n+6≠m:=by omega
     have B:n+3≠m:=by omega
     have g:BU [] ((d.V.take (i+1)).map (·.id))=Fd a x.id:=by rw[qb k,A,qc,CR,<-t];rfl
     have fin:∀b z y,∀j w,hb h n a0 a1 b j=some w->h_ (h_ (h_ (hb h n a0 a1 a) m y) m z) (n+3) (some (.map (FC b))) j=some w:=λb z y j w e=>by
      have:=Wl (h:=h) (n:=n) (λj y e=>s j y e) j w e;rw[<-jI (a2:=a)]at e;simp only[h_]at e ⊢;split at e;rename_i c;rw[if_pos c];exact e;rename_i c;rw[if_neg c,if_neg (by omega),if_neg (by omega)];exact e
     by_cases r:x.id∈a
     . obtain⟨j,f,H⟩:=Da 0 r;have u:=KX H;simp only[JA]at u;rw[qU]at f;simp[go_sem,k,A,BC.e,AD,AE,C,B,Qh,KL,f,Cc,u,w1,-Int.natCast_add]
       repeat first|refine nq ?_|refine sq ?_|refine aq ?_
       refine⟨i+1,by omega,a,⟨by omega,by omega,?_⟩,rfl,fin a _ _⟩;rw[vp]at g;rw[g,Fd,if_pos r]
     . have f:=ET 0 r;have l:=Nv a x.id;simp[go_sem,k,A,BC.e,AD,AE,C,B,Qh,KL,f,Cc,l,w1,-Int.natCast_add]
       repeat first|refine nq ?_|refine sq ?_|refine aq ?_
       refine⟨i+1,by omega,a++[x.id],⟨by omega,by omega,?_⟩,rfl,fin _ _ _⟩;rw[vp]at g;rw[g,Fd,if_neg r]
   have:i=d.V.length:=by omega
   subst this;rw[qm]at t;simp[go_sem,IO];exact⟨a,⟨by omega,t⟩,AC⟩
 refine AJ ?_;simp[go_sem];refine .inl ⟨⟨n+6,n+1,n+2,n+3,n+4,n+5,a0,a1,a2⟩,⟨by simp,by simp;omega⟩,by omega,rfl,λo y e=>?_,p.2,F,G,aB s,λo y e=>?_⟩;simp only[Ck.st,Ck.cells,FC]at e;by_cases M:o=n+6;subst M;simp at e;rw[Qh];exact congrArg some e;by_cases K:o=n+4;subst K;simp at e;rw[TD];exact congrArg some e;by_cases c1:o=n+1;subst c1;simp at e;rw[Me];exact congrArg some e;by_cases I:o=n+2;subst I;simp at e;rw[F8];exact congrArg some e;by_cases J:o=n+3;subst J;simp at e;rw[KL];exact congrArg some e;by_cases L:o=n+5;subst L;simp at e;rw[Xn];exact congrArg some e;rw[if_neg M,if_neg K,if_neg c1,if_neg I,if_neg J,if_neg L]at e;cases e;simp only[Ck.st]at e;by_cases c:n<=o;exact c;rw[if_neg (by omega),if_neg (by omega),if_neg (by omega),if_neg (by omega),if_neg (by omega),if_neg (by omega)]at e;cases e
def N2(F:Nat->Int)(l:List Ce)(i:Nat):Int:=match l[i]? with
 | none=>0
 | some x=>if x.format<1\/7<x.format then 3 else if x.start<0\/32767<x.start then 2 else if F i≠0 then F i else if x.restart<0\/(i:Int)<x.restart then 5 else 0
def Ir(F:Nat->Int)(l:List Ce):Int:=if l=[]then 11 else if(9:Int)<l.length then 9 else CD (N2 F l) l.length
theorem i6(l:List Ce)(hl:l.length<=1048576)(hc:∀x∈l,∀k:Int,EC 271 [.str x.template,AA k]):EC 212 [DV l]:=by
 obtain⟨F,G⟩:=EC.fam (f:=271) (A:=λi=>[.str (l.getD i ⟨0,0,⟨#[]⟩,0⟩).template,AA ((i+1:Nat):Int)]) (N:=l.length) λi hi=>by
  have:l.getD i ⟨0,0,⟨#[]⟩,0⟩=l[i]:=by simp[List.getD,hi]
  rw[this];exact hc _ (qi hi) _
 refine⟨Ir F l,?_⟩;intro h n;refine DO func212 rfl λE=>?_;have w:=E.lt;have out:∀(e:Int)(m:Nat),e=Ir F l->CO n h m (AA e) (Is (AA (Ir F l)) h n):=λe m u=>As E rfl (by rw[u]);refine Aa 0 [(0,DV l)] h n ?_ (λm a=>?_);simp[go_sem,IO];refine Bg 0 [(0,DV l)] h (λm=>n<=m/\Ir F l=CD (N2 F l) l.length) (AJ ?_) (λm a=>?_);by_cases c:l=[];subst c;simp[go_sem];exact out 11 _ rfl;by_cases s:(9:Int)<l.length;simp[go_sem,c,s];exact out _ _ (by unfold Ir;rw[if_neg c,if_pos s]);simp[go_sem,c,s,IO,a];unfold Ir;rw[if_neg c,if_neg s];obtain⟨a,D⟩:=a;refine Bg 0 [] h (λm=>n<=m/\Ir F l=0) ?_ (λm a=>?_);refine Aa 0 [(14,DV l),(15,AA l.length),(16,AA 0)] h n ?_ (λm a=>?_);simp[go_sem,IO,a];refine AY (BT 0 (α:=Nat) (λi=>[(14,DV l),(15,AA l.length),(16,AA i)]) (λ_=>h) (λi m=>i<=l.length/\n<=m/\CD (N2 F l) i=0) (λi=>l.length-i) 0 ⟨qg _,a,rfl⟩ ?_ AC ?_);simp[go_sem,Ao,IO];rintro i m ⟨hi,a,h0⟩;by_cases d:i<l.length;obtain⟨x,C⟩:∃x,l[i]=x:=⟨_,rfl⟩
 have r:=G i d;have z:l.getD i ⟨0,0,⟨#[]⟩,0⟩=x:=by simp[List.getD,d,C]
 rw[z]at r;have o:N2 F l i=if x.format<1\/7<x.format then 3 else if x.start<0\/32767<x.start then 2 else if F i≠0 then F i else if x.restart<0\/(i:Int)<x.restart then 5 else 0:=by unfold N2;rw[qe d,C]
 have b:∀(e:Int)(m:Nat),e≠0->N2 F l i=e->CO n h m (AA e) (Is (AA (Ir F l)) h n):=λe m B u=>out e m (by rw[D,EM _ d h0 (by rw[u];exact B),u]);have w1:=wS i (by omega);refine Aa 0 [(14,DV l),(15,AA l.length),(16,AA i),(17,.bool true)] h n ?_ (λm a=>?_);simp[go_sem,IO,a,d];refine Aa 0 [(14,DV l),(15,AA l.length),(16,AA i)] h n ?_ (λm a=>?_);simp[go_sem,IO,a];refine Bg 0 [(14,DV l),(15,AA l.length),(16,AA i)] h (λm=>n<=m/\N2 F l i=0) ?_ (λm a=>?_);refine AY ?_;refine Aa 1 [(14,DV l),(15,AA l.length),(16,AA i),(3,AA i),(4,.q [AA x.format,AA x.start,.str x.template,AA x.restart])] h n ?_ (λm a=>?_);have p:∀j y,h j=some y->j<m:=λj y e=>by have:=w j y e;omega
 simp[go_sem,IO,d,C,Ce.e,AD];exact⟨by omega,AZ (AS p (qa _)) (AD _ _ _),AL p (AL p AC)⟩;refine AX 0 (α:=Unit) (λ_=>[(14,DV l),(15,AA l.length),(16,AA i),(3,AA i),(4,.q [AA x.format,AA x.start,.str x.template,AA x.restart])]) (λ_=>h) (λ_ m=>n<=m/\¬(x.format<1\/7<x.format)/\¬(x.start<0\/32767<x.start)) (AY (AJ ?_)) (λ_ m a=>?_);by_cases a1:x.format<1;simp[go_sem,a1];exact b _ _ (by decide) (by rw[o,if_pos (.inl a1)]);by_cases a2:7<x.format;simp[go_sem,a1,a2];exact b _ _ (by decide) (by rw[o,if_pos (.inr a2)]);have q:¬(x.format<1\/7<x.format):=λg=>g.elim a1 a2;by_cases a3:x.start<0;simp[go_sem,a1,a2,a3];exact b _ _ (by decide) (by rw[o,if_neg q,if_pos (.inl a3)]);by_cases a4:32767<x.start;simp[go_sem,a1,a2,a3,a4];exact b _ _ (by decide) (by rw[o,if_neg q,if_pos (.inr a4)]);simp[go_sem,a1,a2,a3,a4,IO,a];obtain⟨a,q,v⟩:=a;refine Bg 0 [(14,DV l),(15,AA l.length),(16,AA i),(3,AA i),(4,.q [AA x.format,AA x.start,.str x.template,AA x.restart])] h (λm=>n<=m/\F i=0) (AJ ?_) (λm a=>?_);simp[go_sem,w1,-Int.natCast_add];refine r.use ?_;by_cases t:F i=0;simp[go_sem,t,IO,a];simp[go_sem,t];exact b _ _ t (by rw[o,if_neg q,if_neg v,if_pos t]);obtain⟨a,f0⟩:=a;have n3:¬F i≠0:=λg=>g f0;refine AJ ?_;by_cases a1:x.restart<0;simp[go_sem,a1];exact b _ _ (by decide) (by rw[o,if_neg q,if_neg v,if_neg n3,if_pos (.inl a1)]);by_cases a2:(i:Int)<x.restart;simp[go_sem,a1,a2];exact b _ _ (by decide) (by rw[o,if_neg q,if_neg v,if_neg n3,if_pos (.inr a2)]);simp[go_sem,a1,a2,IO,a];rw[o,if_neg q,if_neg v,if_neg n3,if_neg λg=>g.elim a1 a2];refine AJ ?_;simp[go_sem,w1,IO,-Int.natCast_add];exact⟨i+1,by omega,⟨by omega,a.1,by rw[CD,if_pos h0];exact a.2⟩,rfl⟩;refine AJ ?_;have:i=l.length:=by omega
 simp[go_sem,d,a];rw[D,<-this];exact h0;refine AJ ?_;simp[go_sem];exact out _ _ a.2.symm
theorem JL{E:CC}{ops:Array Oper}{K:SA->Hp->Nat->Prop}{sa:SA}{h:Hp}{n:Nat}{b:Bool}{e:Int}{a:List Oper}{c:List Cf}{dst:Option Tmp}
 (d:∀r:Int,r=(if b then e else 0)->MN E prog ops K a c sa { dst:=dst,val:=AA r } h n):BX E prog ops K sa h n 87 [.bool b,AA e] a c dst:=
 Yg _ _ _ _ _ _ (Ki b e) (d _ rfl)
theorem i8(l:List GY)(hl:l.length<=1048576)(t:∀x∈l,x.name.size<=1048576/\x.value.size<=1048576)(i:Nat)(hi:i<l.length):EC 218 [AA i,.q [Fs l]]:=by
 obtain⟨x,b⟩:∃x,l[i]=x:=⟨_,rfl⟩
 have hxs:=t x (by rw[<-b];exact qi hi);by_cases h0:i=0
 . subst h0;apply Exists.intro;intro h n;refine gq func218 rfl λm=>?_;simp[go_sem,hi,b,GY.e]
   repeat first|refine nq ?_|refine sq ?_
   refine Yg _ _ _ _ _ _ (Zt x.name) ?_;simp[go_sem]
   repeat first|refine nq ?_|refine sq ?_
   refine JL λo d=>?_;simp[go_sem]
   repeat first|refine nq ?_|refine sq ?_
   refine JL λp e=>?_;simp[go_sem]
   repeat first|refine nq ?_|refine sq ?_
   refine JL λq f=>?_;simp[go_sem,hi,b,GY.e]
   repeat first|refine nq ?_|refine sq ?_
   refine Yg _ _ _ _ _ _ (Zs x.value (by omega)) ?_;obtain⟨c,a⟩:∃c,c=Jg x.value:=⟨_,rfl⟩
   rw[<-a];simp[go_sem]
   repeat first|refine nq ?_|refine sq ?_
   refine BX.lend _ _ _ _ _ _ 2 [n] (Sa [o,p,q,c] (by simp)) rfl (by simp) (λh' r=>?_) ?_;have:=r n (by simp);simp[h_]at this;simp[Ag,Fz,this,Bz,SV.B,SV.cells];simp[go_sem]
   repeat first|refine nq ?_|refine sq ?_
   subst d e f a;exact A3 m (AR m (qa _) AC) rfl rfl
 . have j:0<i:=by omega
   have k:(if(1:Int)>i then(1:Int)else i)=i:=by split<;>omega
   have hmx2:(if(1:Int)<i then(i:Int)else 1)=i:=by split<;>omega
   have w1:IntKind.i64.wrap ((i:Int)-1)=((i-1:Nat):Int):=by rw[DA]<;>omega
   have g:i-1<l.length:=by omega
   obtain⟨y,s⟩:∃y,l[i-1]=y:=⟨_,rfl⟩
   apply Exists.intro;intro h n;refine gq func218 rfl λm=>?_;simp[go_sem,hi,b,GY.e]
   repeat first|refine nq ?_|refine sq ?_
   refine Yg _ _ _ _ _ _ (Zt x.name) ?_;simp[go_sem]
   repeat first|refine nq ?_|refine sq ?_
   refine JL λo d=>?_;simp[go_sem,hi,b,GY.e,j,w1,g,s,k]
   repeat first|refine nq ?_|refine sq ?_
   refine JL λp e=>?_;simp[go_sem,hi,b,GY.e,j,w1,g,s,k]
   repeat first|refine nq ?_|refine sq ?_
   refine JL λq f=>?_;simp[go_sem,hi,b,GY.e]
   repeat first|refine nq ?_|refine sq ?_
   refine Yg _ _ _ _ _ _ (Zs x.value (by omega)) ?_;obtain⟨c,a⟩:∃c,c=Jg x.value:=⟨_,rfl⟩
   rw[<-a];simp[go_sem]
   repeat first|refine nq ?_|refine sq ?_
   refine BX.lend _ _ _ _ _ _ 2 [n] (Sa [o,p,q,c] (by simp)) rfl (by simp) (λh' r=>?_) ?_;have:=r n (by simp);simp[h_]at this;simp[Ag,Fz,this,Bz,SV.B,SV.cells];simp[go_sem]
   repeat first|refine nq ?_|refine sq ?_
   subst d e f a;exact A3 m (AR m (qa _) AC) rfl rfl
end Go.Proofs.YtgakninlhfkkmaaGreat.Sh
