/- A part of the proof (part 12 of 17). -/
import Derived.Test.YtgakninlhfkkmaaGreatN11
import Derived.Lib.Overlaps
import Derived.Lib.AppendZerosOnto
namespace Go.Proofs.YtgakninlhfkkmaaGreat.Sh
open Proofs
set_option maxRecDepth 10000
def SY:Tr:=.pure 0 (.pure 1 (.pure 2 (.pure 3 (.pure 4 (.pure 5 (.pure 6 (.pure 7 (.pure 8 (.pure 9 (.pure 10 (.pure 11 (.pure 12 (.pure 13 .nil)))))))))))))
def Yu:Tr:=.pure 0 (.pure 1 (.pure 3 (.pure 4 (.pure 5 (.pure 6 (.one 2 (.one 7 (.pure 8 (.pure 9 (.pure 10 (.pure 11 (.pure 12 .nil))))))))))))
def Yv:Tr:=.pure 0 (.pure 1 (.pure 3 (.pure 4 (.one 2 (.one 5 (.pure 6 .nil))))))
set_option maxHeartbeats 2000000 in
theorem cq (l:List A6) (hl:l.length<=1048576) (hs:∀x∈l,x.props.length<=1048576) (i:Nat) (hi:i<l.length):TC 207 [Ae l,AA i] FM:=by
 intro h n;refine Db Tryz.func207 rfl λho=>?_;have hHb:=ho.lt;obtain⟨s,hx⟩:∃s,l[i]=s:=⟨_,rfl⟩
 have hps:=hs s (by rw[<-hx];exact ql hi);have out:∀(e:Int) (m:Nat),B8 n h m (AA e) (λv h' n'=>FM v/\h'=h/\n'=n):=λe m=>GQ ho AB (by simp[closed]) ⟨e,rfl⟩;obtain⟨X,hX⟩:∃X:SV,X=.iptr [AA s.id,AA s.kind,.str s.name,AA s.base,AA s.next,Af s.props]:=⟨_,rfl⟩
 refine AY 0 [(0,Ae l),(1,AA i)] h n ?_ (λm hm=>?_);simp[go_sem,IO];refine AY 1 [(0,Ae l),(1,AA i),(5,X)] h n ?_ (λm hm=>?_);have hHm:∀j y,h j=some y->j<m:=λj y e=>by have:=hHb j y e;omega
 rw[hX];simp[go_sem,IO,hi,hx,A6.enc,AC];exact⟨by omega,AV (AW hHm (qa _)) (AC _ _ _),AJ hHm (AJ hHm AB)⟩;have w1:0<i->IntKind.i64.wrap ((i:Int)-1)=((i-1:Nat):Int):=λg=>by rw[Cl]<;>omega
 refine AT 0 (α:=Unit) (λ_=>[(0,Ae l),(1,AA i),(5,X)]) (λ_=>h) (λ_ m=>n<=m) (AR ?_) (λ_ m hm=>?_)
 . refine BM 0 (α:=Bx) (λb=>[(0,Ae l),(1,AA i),(5,X),(14,.bool b.b)]) (λ_=>h) (λ_ m=>n<=m) ?_ (λb m hm=>?_);rw[hX];by_cases a1:s.id<1;simp[go_sem,IO,a1,hm];exact⟨⟨_⟩,rfl⟩;simp[go_sem,IO,a1,hm];exact⟨⟨_⟩,rfl⟩;obtain⟨b⟩:=b;dsimp only;cases b with
   | true=>exact AH (by simp[go_sem];exact out _ _)
   | false=>
   refine Ah (b:=false) (by simp[go_sem]) ?_;simp only[qj,if_false];refine AT 0 (α:=Bx) (λb=>[(0,Ae l),(1,AA i),(5,X),(23,.bool b.b)]) (λ_=>h) (λ_ m=>n<=m) (BX SY rfl (by kernel_rfl) (by kernel_rfl) ?_) (λb m hm=>?_);rw[hX];by_cases a1:0<i;have hi1:i-1<l.length:=by omega
   simp[go_sem,SY,IO,a1,w1,hm,hi1,A6.enc];exact⟨⟨_⟩,rfl⟩;simp[go_sem,SY,IO,a1,hm];exact⟨⟨_⟩,rfl⟩;obtain⟨b⟩:=b;dsimp only;cases b with
   | true=>exact AH (by simp[go_sem];exact out _ _)
   | false=>
   refine Ah (b:=false) (by simp[go_sem]) ?_;simp only[qj,if_false];refine AT 0 (α:=Bx) (λb=>[(0,Ae l),(1,AA i),(5,X),(37,.bool b.b)]) (λ_=>h) (λ_ m=>n<=m) (BX SY rfl (by kernel_rfl) (by kernel_rfl) ?_) (λb m hm=>?_);rw[hX];by_cases a1:0<i;have hi1:i-1<l.length:=by omega
   simp[go_sem,SY,IO,a1,w1,hm,hi1,A6.enc];exact⟨⟨_⟩,rfl⟩;simp[go_sem,SY,IO,a1,hm];exact⟨⟨_⟩,rfl⟩;obtain⟨b⟩:=b;dsimp only;cases b with
   | true=>exact AH (by simp[go_sem];exact out _ _)
   | false=>
   refine Ah (b:=false) (by simp[go_sem]) ?_;simp only[qj,if_false];refine BM 0 (α:=Bx) (λb=>[(0,Ae l),(1,AA i),(5,X),(51,.bool b.b)]) (λ_=>h) (λ_ m=>n<=m) ?_ (λb m hm=>?_);rw[hX];by_cases a1:s.kind=1;simp[go_sem,IO,a1,hm];exact⟨⟨_⟩,rfl⟩;have a2:(s.kind !=1)=true:=by simpa using a1
   simp[go_sem,IO,a2,hm];exact⟨⟨_⟩,rfl⟩;obtain⟨b⟩:=b;dsimp only;cases b with
   | true=>exact AH (by simp[go_sem];exact out _ _)
   | false=>
   refine Ah (b:=false) (by simp[go_sem]) ?_;simp only[qj,if_false];refine BM 0 (α:=Bx) (λb=>[(0,Ae l),(1,AA i),(5,X),(60,.bool b.b)]) (λ_=>h) (λ_ m=>n<=m) ?_ (λb m hm=>?_);rw[hX];simp[go_sem];refine(aa s.name).use ?_;simp[go_sem,IO,hm];exact⟨⟨_⟩,rfl⟩;obtain⟨b⟩:=b;dsimp only;cases b with
   | true=>exact AH (by simp[go_sem];exact out _ _)
   | false=>exact AH (by simp[go_sem,IO,hm])
 refine Bc 0 [(0,Ae l),(1,AA i),(5,X)] h n ?_ (λm hm=>?_);refine AT 0 (α:=Bx) (λb=>[(0,Ae l),(1,AA i),(5,X),(7,.bool b.b)]) (λ_=>h) (λ_ m=>n<=m) (BX Yu rfl (by kernel_rfl) (by kernel_rfl) ?_) (λb m hm=>?_);have hle:i<=l.length:=by omega
 have hc:=ac (l.take i) s.kind s.name (by simp;omega);generalize C0 (l.take i) s.kind s.name=k at hc;generalize(if 0<=k then k else 0)=k1 at hc;generalize decide (0<=k)=k2 at hc;simp only[Ae,kz]at hc;rw[hX];simp[go_sem,Yu,hle,-List.map_take];refine qw hc ?_;simp[go_sem,IO,hm];exact⟨⟨_⟩,rfl⟩;obtain⟨b⟩:=b;dsimp only;cases b with
 | true=>exact AH (by simp[go_sem];exact out _ _)
 | false=>exact AH (by simp[go_sem,IO,hm])
 refine Bc 0 [(5,X)] h n ?_ (λm hm=>?_);refine AY 0 [(5,X),(78,Af s.props),(79,AA s.props.length),(80,AA 0)] h n ?_ (λm hm=>?_);rw[hX];simp[go_sem,IO,hm];refine AR (BG 0 (α:=Nat) (λk=>[(5,X),(78,Af s.props),(79,AA s.props.length),(80,AA k)]) (λ_=>h) (λk m=>k<=s.props.length/\n<=m) (λk=>s.props.length-k) 0 ⟨qg _,hm⟩ ?_ AB ?_);simp[go_sem,Ai,IO];rintro k m ⟨hk,hm⟩;by_cases hlt:k<s.props.length;have w2:=wS k (by omega);obtain⟨p,hp⟩:∃p,s.props[k]=p:=⟨_,rfl⟩
 refine AY 0 [(5,X),(78,Af s.props),(79,AA s.props.length),(80,AA k),(81,.bool true)] h n ?_ (λm hm=>?_);simp[go_sem,IO,hm,hlt];refine AY 0 [(5,X),(78,Af s.props),(79,AA s.props.length),(80,AA k)] h n ?_ (λm hm=>?_);simp[go_sem,IO,hm];refine AT 0 (α:=Unit) (λ_=>[(5,X),(78,Af s.props),(79,AA s.props.length),(80,AA k)]) (λ_=>h) (λ_ m=>n<=m) (AR ?_) (λ_ m hm=>?_);refine AY 1 [(5,X),(78,Af s.props),(79,AA s.props.length),(80,AA k),(9,.iptr [AA p.key,AA p.value])] h n ?_ (λm hm=>?_);have hHm:∀j y,h j=some y->j<m:=λj y e=>by have:=hHb j y e;omega
 simp[go_sem,IO,hlt,hp,Er.enc,AC];exact⟨by omega,AV (AW hHm (qa _)) (AC _ _ _),AJ hHm (AJ hHm AB)⟩;refine AH ?_;by_cases a1:p.key=20;simp[go_sem,a1];exact out _ _;by_cases a2:p.key=1;simp[go_sem,a2];exact out _ _;have a3:(p.key==20)=false:=by simpa using a1
 have a4:(p.key==1)=false:=by simpa using a2
 simp[go_sem,a3,a4,IO,hm];refine AH ?_;simp[go_sem,w2,IO,-Int.natCast_add];exact⟨k+1,by omega,⟨by omega,hm⟩,rfl⟩;refine AH ?_;simp[go_sem,hlt,IO,hm];refine AT 0 (α:=Int) (λe=>[(4,AA e)]) (λ_=>h) (λ_ m=>n<=m) (BX Yv rfl (by kernel_rfl) (by kernel_rfl) ?_) (λe m hm=>?_);rw[hX];simp[go_sem,Yv];refine(ae s.kind).use ?_;generalize(if s.kind=1 then(2:Int)else 1)=el;simp[go_sem];refine(XZ el s.props hps).use ?_;simp[go_sem,hm];exact⟨_,rfl⟩;refine AH ?_;simp[go_sem];exact out _ _
def ChQ (l:List A6) (id:Int) (h:Hp) (n:Nat):SV->Hp->Nat->Prop:=λv h' n'=>∃k,v=.fn (.func 270) [] [.iptr [Ae l],.ptr k 0]/\n<=k/\k<n'/\h' k=some (.cells [AA id])/\∀o y,h o=some y->h' o=some y
theorem be (l:List A6) (id:Int) {h:Hp} {n:Nat}:BA Tryz.prog 209 [Ae l,AA id] h n (ChQ l id h n):=by
 refine Db Tryz.func209 rfl λc=>?_;have a:=c.lt;refine BP 1 [(2,.iptr [Ae l]),(3,.ptr (n+1) 0)] (hset h (n+1) (some (.cells [AA id]))) (λm=>n+1<m) ?_ (λm b=>?_);simp[go_sem,IO];refine⟨AV (by simp[hset];exact AW a (qa _)) (by simp[hset]),λj y=>?_⟩;have:=a j y;simp only[hset];grind;refine AH ?_;simp[go_sem];exact .inl ⟨n+1,rfl,by omega,b,AC _ _ _,AJ (λj z e=>by have:=a j z e;omega) AB⟩
structure YS (E:B6) (yl:Nat) (N:Nat) (J:Nat->Hp->Nat->Prop) (Jx:Hp->Nat->Prop) (D:Nat->Prop):Prop where
 step:∀c (x:A6) h m,J c h m->FJ E Tryz.prog yl [x.enc] h m (λv h' m'=>m<=m'/\(∀o,¬D o->o<m->h' o=h o)/\((v=.bool true/\c+1<=N/\J (c+1) h' m')\/(v=.bool false/\Jx h' m')))
 keep:∀c h m h' m',J c h m->m<=m'->(∀o,D o->h' o=h o)->J c h' m'
 lt:∀c h m,J c h m->∀o,D o->o<m
theorem I2 {P:Int->Prop} (x:Int):∀(l:List (Int×Int)) (i:Nat),(∀p∈l,P p.2)->DH (AA x) (GY l) i=some none\/∃j k,DH (AA x) (GY l) i=some (some (j,AA k))/\P k
 | [],i,_=>.inl rfl
 | a::l,i,hP=>by
  by_cases e:x=a.1;exact .inr ⟨i,a.2,by simp[GY,DH,G5,e],hP a (by simp)⟩;have:(x==a.1)=false:=by simpa using e
  rcases I2 x l (i+1) (λp hp=>hP p (by simp[hp]))with h|⟨j,k,h,b⟩
  left;simp only[GY,qu,DH,G5,if_true,this];exact h;right;refine⟨j,k,?_,b⟩;simp only[GY,qu,DH,G5,if_true,this];exact h
theorem SH {P:Int->Prop} (l:List (Int×Int)) (j:Nat) (x v:Int) (hl:∀p∈l,P p.2) (b:P v):∃l',HF (GY l) j (AA x) (AA v)=GY l'/\∀p∈l',P p.2:=by
 refine⟨l.modify j λ_=>(x,v),?_,λp hp=>?_⟩;unfold HF GY;apply List.ext_getElem?;intro i;simp only[List.getElem?_modify,qO];by_cases e:j=i<;>cases l[i]? <;> simp[e];obtain⟨i,hi⟩:=List.getElem?_of_mem hp;rw[List.getElem?_modify]at hi;cases a:l[i]? with
 | none=>simp[a]at hi
 | some q=>
  by_cases e:j=i;simp[a,e]at hi;rw[<-hi];exact b;simp[a,e]at hi;rw[<-hi];exact hl q (jb a)
section
variable {E : B6} {yl N : Nat} {J : Nat → Hp → Nat → Prop} {Jx : Hp → Nat → Prop} {D : Nat → Prop}
def ZH (l:List A6) (a:List (Int×Int)):Prop:=∀p∈a,0<=p.2/\p.2<l.length
set_option maxHeartbeats 2000000 in
theorem lu (Y:YS E yl N J Jx D) (l:List A6) (hl:l.length<=1048576) {H:Hp} {n k:Nat} {id:Int} (hk:H k=some (.cells [AA id])) (hkD:¬D k) (hJ:J 0 H n):
 Ak E Tryz.prog 270 [.fn (.yield yl) [] [],.iptr [Ae l],.ptr k 0] H n (λ_ h' m'=>n<=m'/\(∀o,¬D o->o≠k->o<n->h' o=H o)/\((∃c,J c h' m')\/Jx h' m')):=by
 refine Db Tryz.func270 rfl λho=>?_;have hHb:=ho.lt;have hkn:k<n:=hHb k _ hk;have hDn:=Y.lt _ _ _ hJ;have nk:k≠n:=by omega
 refine BP 0 [(0,.fn (.yield yl) [] []),(1,.iptr [Ae l]),(2,.ptr k 0),(4,.map n)] (hset H n (some (.map (GY [])))) (λm=>n<m) ?_ (λm hm=>?_);simp[go_sem,IO,GY];refine AT 0 (α:=List (Int×Int)) (λ_=>[(0,.fn (.yield yl) [] []),(1,.iptr [Ae l]),(2,.ptr k 0),(4,.map n)]) (λa=>hset H n (some (.map (GY a)))) (λa m=>n<m/\ZH l a) ?_ (λa m hm=>?_)
 . refine BP 0 [(0,.fn (.yield yl) [] []),(1,.iptr [Ae l]),(2,.ptr k 0),(4,.map n),(10,Ae l),(11,AA l.length),(12,AA 0)] (hset H n (some (.map (GY [])))) (λm=>n<m) ?_ (λm hm=>?_);simp[go_sem,IO,hm];refine AR (BG 0 (α:=Nat×List (Int×Int)) (λq=>[(0,.fn (.yield yl) [] []),(1,.iptr [Ae l]),(2,.ptr k 0),(4,.map n),(10,Ae l),(11,AA l.length),(12,AA q.1)]) (λq=>hset H n (some (.map (GY q.2)))) (λq m=>q.1<=l.length/\n<m/\ZH l q.2) (λq=>l.length-q.1) (0,[]) ⟨qg _,hm,by simp[ZH]⟩ ?_ AB ?_);simp[go_sem,Ai,IO];rintro⟨i,a⟩ m ⟨hi,hm,ha⟩;dsimp only at hi ha ⊢;by_cases hlt:i<l.length
   . have w1:=wS i (by omega);obtain⟨x,hx⟩:∃x,l[i]=x:=⟨_,rfl⟩
     refine BP 0 [(0,.fn (.yield yl) [] []),(1,.iptr [Ae l]),(2,.ptr k 0),(4,.map n),(10,Ae l),(11,AA l.length),(12,AA i),(13,.bool true)] (hset H n (some (.map (GY a)))) (λm=>n<m) ?_ (λm hm=>?_);simp[go_sem,IO,hm,hlt];refine BP 0 [(0,.fn (.yield yl) [] []),(1,.iptr [Ae l]),(2,.ptr k 0),(4,.map n),(10,Ae l),(11,AA l.length),(12,AA i)] (hset H n (some (.map (GY a)))) (λm=>n<m) ?_ (λm hm=>?_);simp[go_sem,IO,hm];refine AT 0 (α:=List (Int×Int)) (λ_=>[(0,.fn (.yield yl) [] []),(1,.iptr [Ae l]),(2,.ptr k 0),(4,.map n),(10,Ae l),(11,AA l.length),(12,AA i)]) (λa=>hset H n (some (.map (GY a)))) (λa m=>n<m/\ZH l a) (AR ?_) (λa m hm=>?_)
     . refine BP 1 [(0,.fn (.yield yl) [] []),(1,.iptr [Ae l]),(2,.ptr k 0),(4,.map n),(10,Ae l),(11,AA l.length),(12,AA i),(5,AA i),(6,.iptr [AA x.id,AA x.kind,.str x.name,AA x.base,AA x.next,Af x.props])] (hset H n (some (.map (GY a)))) (λm=>n<m) ?_ (λm hm=>?_);have hHm:∀j y,hset H n (some (.map (GY a))) j=some y->j<m:=λj y e=>by
        simp only[hset]at e;split at e;omega;have:=hHb j y e;omega
       simp[go_sem,IO,hlt,hx,A6.enc,AC];exact⟨by omega,AV (AW hHm (qa _)) (AC _ _ _),AJ hHm (AJ hHm AB)⟩;refine AH ?_;have hB:∀v:Int,v=(i:Int)->0<=v/\v<l.length:=λv hv=>by omega
       rcases I2 (P:=λv=>0<=v/\v<l.length) x.id a 0 ha with hf|⟨j,v,hf,_⟩
       have hpush:GY a++[(AA x.id,AA (i:Int))]=GY (a++[(x.id,(i:Int))]):=by simp[GY]
       simp[go_sem,AC,hf,CK,hpush,IO,AS];refine⟨a++[(x.id,(i:Int))],⟨hm,λp hp=>?_⟩,AB⟩;rcases qe.1 hp with hp|hp;exact ha p hp;rw[qv.1 hp];exact hB _ rfl;obtain⟨a',h1,h2⟩:=SH (P:=λv=>0<=v/\v<l.length) a j x.id i ha (hB _ rfl);have h1':(GY a).modify j (λ_=>(AA x.id,AA i))=GY a':=h1;simp[go_sem,AC,hf,CK,h1',IO,AS];exact⟨a',⟨hm,h2⟩,AB⟩
     obtain⟨hm,ha⟩:=hm;refine AH ?_;simp[go_sem,w1,IO,-Int.natCast_add];exact⟨i+1,by omega,a,⟨by omega,hm,ha⟩,rfl,AB⟩
   refine AH ?_;simp[go_sem,hlt,IO,hm];exact⟨a,ha,AB⟩
 obtain⟨hm,ha⟩:=hm;have hnD:¬D n:=λg=>by have:=hDn n g;omega
 refine AH ?_;simp[go_sem];refine An 0 (α:=Nat×Int×Hp) (λ_=>[(0,.fn (.yield yl) [] []),(1,.iptr [Ae l]),(2,.ptr k 0),(4,.map n)]) (λq=>q.2.2) (λq m=>n<m/\J q.1 q.2.2 m/\q.2.2 k=some (.cells [AA q.2.1])/\q.2.2 n=some (.map (GY a))/\∀o,¬D o->o≠k->o<n->q.2.2 o=H o) (λq=>N-q.1)
  (0,id,hset H n (some (.map (GY a)))) ⟨hm,Y.keep _ _ _ _ _ hJ (by omega) λo g=>AD _ _ (by have:=hDn o g;omega),(AD _ _ nk).trans hk,AC _ _ _,λo _ _ g=>AD _ _ (by omega)⟩ ?_ AB ?_
 simp[Ai,IO];rintro⟨c,id,G⟩ m ⟨hm,hJ,hGk,hGn,BE⟩;dsimp only at hJ hGk hGn BE ⊢;by_cases h0:id=0;simp[go_sem,hGk,h0];exact .inl ⟨by omega,BE,.inl ⟨c,hJ⟩⟩;have h0':(id !=0)=true:=by simpa using h0
 rcases I2 (P:=λv=>0<=v/\v<l.length) id a 0 ha with hf|⟨j,v,hf,hv1,hv2⟩
 simp[go_sem,hGk,hGn,h0',hf,CK];exact .inl ⟨by omega,BE,.inl ⟨c,hJ⟩⟩;have hvl:v.toNat<l.length:=by omega
 obtain⟨x,hx⟩:∃x,l[v.toNat]'hvl=x:=⟨_,rfl⟩
 simp[go_sem,hGk,hGn,h0',hf,CK,hv1,hvl,hx,A6.enc];have hy:=Y.step c x G m hJ;simp only[A6.enc]at hy;refine FJ.mono hy ?_;rintro w G3 m3 ⟨hm3,hfr,⟨rfl,hcN,hj⟩|⟨rfl,hj⟩⟩;have g3k:G3 k=some (.cells [AA id]):=by rw[hfr k hkD (by omega)];exact hGk
 have g3n:G3 n=some (.map (GY a)):=by rw[hfr n hnD (by omega)];exact hGn
 simp[go_sem,hv1,hvl,hx,A6.enc,g3k];refine⟨c+1,by omega,x.base,hset G3 k (some (.cells [AA x.base])),⟨by omega,Y.keep _ _ _ _ _ hj (qa _) λo g=>AD _ _ (by rintro rfl;exact hkD g),AC _ _ _,by rw[AD _ _ (Ne.symm nk)];exact g3n,λo g1 g2 g3=>?_⟩,AB⟩;rw[AD _ _ g2,hfr o g1 (by omega)];exact BE o g1 g2 g3;simp[go_sem];exact .inl ⟨by omega,λo g1 g2 g3=>by rw[hfr o g1 (by omega)];exact BE o g1 g2 g3,.inr hj⟩
end
theorem cB {E:B6} {f:FuncId} {fn:Func} {code:Code} {args:List SV} {h:Hp} {n:Nat} {K:SV->Hp->Nat->Prop} (b:Tryz.prog.funcs[f]? = some fn) (hb:fn.body=some code)
 (hn:(fn.name != "runtime.NumGoroutine")=true) (a:Code.dok fn.ntmps code=true) (hl:args.length<=fn.ntmps)
 (H:Es h n->∀B,SP (E.call true B) fn.ntmps code (MT Tryz.prog fn n K) (Ec 0 args) h n):Ak E Tryz.prog f args h n K:=
 K7 b hb hn a hl λ_ c B=>H c B
set_option maxHeartbeats 4000000 in
theorem cm (l:List A6) (hl:l.length<=1048576) (hs:∀x∈l,x.props.length<=1048576):TC 146 [Ae l] FM:=by
 intro h n;refine cB Tryz.func146 rfl (by kernel_rfl) (by kernel_rfl) (by simp[go_sem]) λho B=>?_;have hHb:=ho.lt;obtain⟨G,hG⟩:∃G:Int->Hp,∀e,G e=hset h (n+1) (some (.cells [AA e])):=⟨_,λ_=>rfl⟩
 have hGa:∀e,G e (n+1)=some (.cells [AA e]):=λe=>by rw[hG,AC]
 have hGs:∀e e',hset (G e) (n+1) (some (.cells [AA e']))=G e':=λe e'=>by rw[hG,hG,AS]
 have hGk:∀e j y,h j=some y->G e j=some y:=λe j y g=>by rw[hG,AD _ _ (by have:=hHb j y g;omega)];exact g
 have hGb:∀e j y,G e j=some y->j<n+2:=λe j y g=>by
  rw[hG]at g;simp only[hset]at g;split at g;omega;have:=hHb j y g;omega
 have out:∀(e:Int) (m:Nat),B8 n (G e) m (AA e) (λv h' n'=>FM v/\h'=h/\n'=n):=λe m=>GQ ho (hGk e) (by simp[closed]) ⟨e,rfl⟩;refine BP 1 [(1,.iptr [Ae l]),(2,.ptr (n+1) 0)] (G 0) (λm=>n+1<m) ?_ (λm hm=>?_);rw[hG];simp[go_sem,IO];refine⟨AV (by simp[hset];exact AW hHb (qa _)) (by simp[hset]),λj y=>?_⟩;have:=hHb j y;simp only[hset];grind;refine Bo 0 [(1,.iptr [Ae l]),(2,.ptr (n+1) 0)] (G 0) (λm=>n+1<m) (AH ?_) (λm hm=>?_);by_cases a1:(128:Int)<l.length;simp[go_sem,a1,hGa,hGs];exact out _ _;simp[go_sem,a1,IO,hm];refine Bo 0 [(1,.iptr [Ae l]),(2,.ptr (n+1) 0)] (G 0) (λm=>n+1<m) ?_ (λm hm=>?_);refine BP 0 [(1,.iptr [Ae l]),(2,.ptr (n+1) 0),(14,AA l.length),(15,AA 0)] (G 0) (λm=>n+1<m) ?_ (λm hm=>?_);simp[go_sem,IO,hm];refine AR (BG 0 (α:=Nat) (λi=>[(1,.iptr [Ae l]),(2,.ptr (n+1) 0),(14,AA l.length),(15,AA i)]) (λ_=>G 0) (λi m=>i<=l.length/\n+1<m) (λi=>l.length-i) 0 ⟨qg _,hm⟩ ?_ AB ?_);simp[go_sem,Ai,IO];rintro i m ⟨hi,hm⟩;by_cases hlt:i<l.length;have w1:=wS i (by omega);refine AH ?_;simp[go_sem,hlt];refine kW (cq l hl hs i hlt) ?_;rintro v ⟨e,rfl⟩;by_cases e0:e=0;simp[go_sem,e0,w1,IO,-Int.natCast_add];exact⟨i+1,by omega,⟨by omega,hm⟩,rfl⟩;have e1:(e !=0)=true:=by simpa using e0
 simp[go_sem,e1,hGa,hGs];exact out _ _;refine AH ?_;simp[go_sem,hlt,IO,hm];refine Bo 0 [(1,.iptr [Ae l]),(2,.ptr (n+1) 0)] (G 0) (λm=>n+1<m) ?_ (λm hm=>?_)
 . refine BP 0 [(1,.iptr [Ae l]),(2,.ptr (n+1) 0),(25,Ae l),(26,AA l.length),(27,AA 0)] (G 0) (λm=>n+1<m) ?_ (λm hm=>?_);simp[go_sem,IO,hm];refine AR (BG 0 (α:=Nat) (λi=>[(1,.iptr [Ae l]),(2,.ptr (n+1) 0),(25,Ae l),(26,AA l.length),(27,AA i)]) (λ_=>G 0) (λi m=>i<=l.length/\n+1<m) (λi=>l.length-i) 0 ⟨qg _,hm⟩ ?_ AB ?_);simp[go_sem,Ai,IO];rintro i m ⟨hi,hm⟩;by_cases hlt:i<l.length
   . have w1:=wS i (by omega);obtain⟨x,hx⟩:∃x,l[i]=x:=⟨_,rfl⟩
     obtain⟨X,hX⟩:∃X:SV,X=.iptr [AA x.id,AA x.kind,.str x.name,AA x.base,AA x.next,Af x.props]:=⟨_,rfl⟩
     refine BP 0 [(1,.iptr [Ae l]),(2,.ptr (n+1) 0),(25,Ae l),(26,AA l.length),(27,AA i),(28,.bool true)] (G 0) (λm=>n+1<m) ?_ (λm hm=>?_);simp[go_sem,IO,hm,hlt];refine BP 0 [(1,.iptr [Ae l]),(2,.ptr (n+1) 0),(25,Ae l),(26,AA l.length),(27,AA i)] (G 0) (λm=>n+1<m) ?_ (λm hm=>?_);simp[go_sem,IO,hm];refine AT 0 (α:=Unit) (λ_=>[(1,.iptr [Ae l]),(2,.ptr (n+1) 0),(25,Ae l),(26,AA l.length),(27,AA i)]) (λ_=>G 0) (λ_ m=>n+1<m) (AR ?_) (λ_ m hm=>?_)
     . refine BP 1 [(1,.iptr [Ae l]),(2,.ptr (n+1) 0),(25,Ae l),(26,AA l.length),(27,AA i),(6,X)] (G 0) (λm=>n+1<m) ?_ (λm hm=>?_);have hHm:∀j y,G 0 j=some y->j<m:=λj y e=>by have:=hGb 0 j y e;omega
       rw[hX];simp[go_sem,IO,hlt,hx,A6.enc,AC];exact⟨by omega,AV (AW hHm (qa _)) (AC _ _ _),AJ hHm (AJ hHm AB)⟩;refine BM 0 (α:=Bx) (λb=>[(1,.iptr [Ae l]),(2,.ptr (n+1) 0),(25,Ae l),(26,AA l.length),(27,AA i),(59,.bool b.b)]) (λ_=>G 0) (λ_ m=>n+1<m) ?_ (λb m hm=>?_)
       . rw[hX];have e208:∀(kd id:Int) {m:Nat} {K:SV->Hp->Nat->Prop},(∀b,K (.bool b) (G 0) m)->Ak (B6.plain.call true B) Tryz.prog 208 [Ae l,AA kd,AA id] (G 0) m K:=λkd id m K hK=>qw (aM l kd id hl) (hK _);have second:x.next=0\/(x.next≠0/\x.kind=2)\/(x.next≠0/\x.kind≠2):=by
          by_cases c1:x.next=0;exact .inl c1;by_cases c2:x.kind=2;exact .inr (.inl ⟨c1,c2⟩);exact .inr (.inr ⟨c1,c2⟩)
         by_cases b0:x.base=0
         . rcases second with c1|⟨c1,c2⟩|⟨c1,c2⟩
           simp[go_sem,b0,c1,IO,hm];exact⟨⟨_⟩,rfl⟩
           . have c1':(x.next !=0)=true:=by simpa using c1
             simp[go_sem,b0,c1',c2,IO,hm];exact⟨⟨_⟩,rfl⟩
           . have c1':(x.next !=0)=true:=by simpa using c1
             have c2':(x.kind==2)=false:=by simpa using c2
             simp[go_sem,b0,c1',c2'];refine e208 _ _ λb=>?_;cases b<;>simp[go_sem,IO,hm]<;>exact⟨⟨_⟩,rfl⟩
         . have b0':(x.base !=0)=true:=by simpa using b0
           simp[go_sem,b0'];refine e208 _ _ λb=>?_;cases b with
           | false=>simp[go_sem,IO,hm];exact⟨⟨_⟩,rfl⟩
           | true=>
            rcases second with c1|⟨c1,c2⟩|⟨c1,c2⟩
            simp[go_sem,c1,IO,hm];exact⟨⟨_⟩,rfl⟩
            . have c1':(x.next !=0)=true:=by simpa using c1
              simp[go_sem,c1',c2,IO,hm];exact⟨⟨_⟩,rfl⟩
            . have c1':(x.next !=0)=true:=by simpa using c1
              have c2':(x.kind==2)=false:=by simpa using c2
              simp[go_sem,c1',c2'];refine e208 _ _ λb=>?_;cases b<;>simp[go_sem,IO,hm]<;>exact⟨⟨_⟩,rfl⟩
       obtain⟨b⟩:=b;dsimp only;refine AH ?_;cases b with
       | true=>simp[go_sem,hGa,hGs];exact out _ _
       | false=>simp[go_sem,IO,hm]
     refine AH ?_;simp[go_sem,w1,IO,-Int.natCast_add];exact⟨i+1,by omega,⟨by omega,hm⟩,rfl⟩
   refine AH ?_;simp[go_sem,hlt,IO,hm]
 refine Bo 0 [(2,.ptr (n+1) 0)] (G 0) (λm=>n+1<m) ?_ (λm hm=>?_)
 . refine BP 0 [(1,.iptr [Ae l]),(2,.ptr (n+1) 0),(61,Ae l),(62,AA l.length),(63,AA 0)] (G 0) (λm=>n+1<m) ?_ (λm hm=>?_);simp[go_sem,IO,hm];refine AR (BG 0 (α:=Nat) (λi=>[(1,.iptr [Ae l]),(2,.ptr (n+1) 0),(61,Ae l),(62,AA l.length),(63,AA i)]) (λ_=>G 0) (λi m=>i<=l.length/\n+1<m) (λi=>l.length-i) 0 ⟨qg _,hm⟩ ?_ AB ?_);simp[go_sem,Ai,IO];rintro i m ⟨hi,hm⟩;by_cases hlt:i<l.length
   . have w1:=wS i (by omega);obtain⟨x,hx⟩:∃x,l[i]=x:=⟨_,rfl⟩
     refine BP 0 [(1,.iptr [Ae l]),(2,.ptr (n+1) 0),(61,Ae l),(62,AA l.length),(63,AA i),(64,.bool true)] (G 0) (λm=>n+1<m) ?_ (λm hm=>?_);simp[go_sem,IO,hm,hlt];refine BP 0 [(1,.iptr [Ae l]),(2,.ptr (n+1) 0),(61,Ae l),(62,AA l.length),(63,AA i)] (G 0) (λm=>n+1<m) ?_ (λm hm=>?_);simp[go_sem,IO,hm];refine AT 0 (α:=Unit) (λ_=>[(1,.iptr [Ae l]),(2,.ptr (n+1) 0),(61,Ae l),(62,AA l.length),(63,AA i)]) (λ_=>G 0) (λ_ m=>n+1<m) (AR ?_) (λ_ m hm=>?_)
     . refine BP 1 [(1,.iptr [Ae l]),(2,.ptr (n+1) 0),(61,Ae l),(62,AA l.length),(63,AA i),(8,.iptr [AA x.id,AA x.kind,.str x.name,AA x.base,AA x.next,Af x.props])] (G 0) (λm=>n+1<m) ?_ (λm hm=>?_);have hHm:∀j y,G 0 j=some y->j<m:=λj y e=>by have:=hGb 0 j y e;omega
       simp[go_sem,IO,hlt,hx,A6.enc,AC];exact⟨by omega,AV (AW hHm (qa _)) (AC _ _ _),AJ hHm (AJ hHm AB)⟩;refine BP 0 [(1,.iptr [Ae l]),(2,.ptr (n+1) 0),(61,Ae l),(62,AA l.length),(63,AA i),(8,.iptr [AA x.id,AA x.kind,.str x.name,AA x.base,AA x.next,Af x.props]),(9,.ptr m 0)] (hset (G 0) m (some (.cells [AA 0]))) (λm2=>m<m2) ?_ (λm2 hm2=>?_);simp[go_sem,IO,AC,AS];refine BM 0 (α:=Hp×Nat) (λz=>[(1,.iptr [Ae l]),(2,.ptr (n+1) 0),(61,Ae l),(62,AA l.length),(63,AA i),(9,.ptr m 0),(70,.fn (.func 270) [] [.iptr [Ae l],.ptr z.2 0])]) (λz=>z.1) (λz m3=>m2<=z.2/\z.2<m3/\z.1 z.2=some (.cells [AA x.id])/\∀o y,hset (G 0) m (some (.cells [AA 0])) o=some y->z.1 o=some y) ?_ (λz m3 hm3=>?_);simp[go_sem];refine qC (be l x.id) ?_;rintro v H' n' ⟨k,rfl,g1,g2,g3,g4⟩;simp[go_sem,IO];exact⟨H',k,⟨g1,g2,g3,g4⟩,rfl,AB⟩;obtain⟨z,k⟩:=z;obtain⟨k1,k2,k3,k4⟩:=hm3;dsimp only at k1 k2 k3 k4 ⊢;refine AR ?_;refine Fa rfl rfl rfl λE1 yl R hY=>?_;have za:z (n+1)=some (.cells [AA 0]):=k4 _ _ (by rw[AD _ _ (by omega)];exact hGa 0);have zm:z m=some (.cells [AA 0]):=k4 _ _ (AC _ _ _);let D:Nat->Prop:=λo=>o=n+1\/o=m\/o=m3;let J:Nat->Hp->Nat->Prop:=λc hh mm=>m3<mm/\c<=l.length/\hh (n+1)=some (.cells [AA 0])/\hh m=some (.cells [AA c])/\hh m3=some (.loop (R .ready none));let Jx:Hp->Nat->Prop:=λhh mm=>m3<mm/\hh (n+1)=some (.cells [AA 16])/\hh m3=some (.loop (R .done (some .ret)));have Y:YS E1 yl l.length J Jx D:=by
        refine⟨λc y hh mm hJ=>?_,?_,?_⟩;obtain⟨g0,gc,g1,g2,g3⟩:=hJ;have q1:n+1≠mm:=by omega
        have q2:m≠mm:=by omega
        have q3:m3≠mm:=by omega
        have q3':=q3.symm;have q4:m≠m3:=by omega
        have q5:n+1≠m3:=by omega
        have q6:n+1≠m:=by omega
        have w2:=wS c (by omega);refine hY _ _ _ _ g3 rfl (Ii ?_);by_cases hc:c+1<=l.length;have hc':¬(((l.length:Nat):Int)<((c+1:Nat):Int)):=by omega
        simp[go_sem,Jp,A6.enc,AC,AD,g2,g3,q4,w2,hc',ID,-Int.natCast_add];refine⟨by rw[AD _ _ q4.symm,AC],λo g1 g2=>?_,hc,?_⟩;have e1:o≠m:=λe=>g1 (.inr (.inl e));have e2:o≠m3:=λe=>g1 (.inr (.inr e));have e3:o≠mm:=by omega
        simp[hset,e1,e2];exact⟨by omega,hc,by simp[hset,q5,q6,g1],by simp[hset,q4],by simp[hset]⟩;have hc':(((l.length:Nat):Int)<((c+1:Nat):Int)):=by omega
        simp[go_sem,Jp,A6.enc,AC,AD,g1,g2,g3,q4,q5,q6,w2,hc',ID,-Int.natCast_add];refine⟨by rw[AD _ _ q5.symm,AD _ _ q4.symm,AC],λo g1 g2=>?_,?_⟩;have e0:o≠n+1:=λe=>g1 (.inl e);have e1:o≠m:=λe=>g1 (.inr (.inl e));have e2:o≠m3:=λe=>g1 (.inr (.inr e));have e3:o≠mm:=by omega
        simp[hset,e0,e1,e2];exact⟨by omega,by simp[hset,q5],by simp[hset]⟩;rintro c hh mm h' m' ⟨g0,gc,g1,g2,g3⟩ hmm hD;exact⟨by omega,gc,by rw[hD _ (.inl rfl)];exact g1,by rw[hD _ (.inr (.inl rfl))];exact g2,by rw[hD _ (.inr (.inr rfl))];exact g3⟩;rintro c hh mm ⟨g0,gc,g1,g2,g3⟩ o (rfl|rfl|rfl)<;>omega
       have hkm3:k≠m3:=by omega
       refine kS (lu Y l hl (id:=x.id) (k:=k) (by rw[AD _ _ hkm3];exact k3) (by rintro(g|g|g)<;>omega) ⟨by omega,qg _,by rw[AD _ _ (by omega)];exact za,by rw[AD _ _ (by omega)];exact zm,AC _ _ _⟩) ?_;rintro v h' m' ⟨hm',hfr,⟨c,g0,gc,g1,g2,g3⟩|⟨g0,g1,g3⟩⟩;refine⟨_,_,g3,by simp,?_⟩;simp[go_sem];refine⟨by omega,λo y e=>?_⟩;have o1:o<n+2:=hGb 0 o y e;by_cases o2:o=n+1;subst o2;rw[AD _ _ (by omega),g1,<-e,hGa];rw[AD _ _ (by omega),hfr o (by rintro(g|g|g)<;>omega) (by omega) (by omega),AD _ _ (by omega)];exact k4 _ _ ((AD _ _ (by omega)).trans e);refine⟨_,_,g3,by simp,?_⟩;simp[go_sem];rw[AD _ _ (by omega:n+1≠m3),g1];refine⟨_,rfl,GQ ho (λo y e=>?_) (by simp[closed]) ⟨16,rfl⟩⟩;have o1:o<n:=hHb o y e;rw[AD _ _ (by omega),hfr o (by rintro(g|g|g)<;>omega) (by omega) (by omega),AD _ _ (by omega)];exact k4 _ _ ((AD _ _ (by omega)).trans (hGk 0 _ _ e))
     refine AH ?_;simp[go_sem,w1,IO,-Int.natCast_add];exact⟨i+1,by omega,⟨by omega,hm⟩,rfl⟩
   refine AH ?_;simp[go_sem,hlt,IO,hm]
 refine AH ?_;simp[go_sem,hGa,hGs];exact out _ _
structure AK.sizedT (s:AK):Prop extends AK.sized s where
 tpl:∀x∈s.lists,∀y∈x.levels,y.template.size<=1048576
 com:∀x∈s.comments,x.author.size<=1048576/\x.text.size<=1048576
 var:∀x∈s.vars,x.name.size<=1048576/\x.value.size<=1048576
theorem dD (s:AK) (a:s.sizedT):TC 83 [s.enc] FM:=
 t83 s (cm _ a.styles a.props)
  (cn _ a.lists λi hi=>ct _ a.lists i hi (cv _ (a.levels _ (ql hi)) λx b k=>dA x.template (a.tpl _ (ql hi) x b) k))
  (co _ a.comments λi hi=>mF _ a.comments a.com i hi)
  (cp _ a.vars λi hi=>mG _ a.vars a.var i hi)
structure AI.sizedT (B N:Nat) (d:AI):Prop where
 flow:Da AF.sized B N d.flow
 «end» : d.«end».sized
 revs:d.revs.length<=1048576
 authors:∀r∈d.revs,r.author.size<=1048576
 settings:d.settings.sizedT
theorem Wr (d:AI) {B N:Nat} (b:B<=1048576) (a:d.sizedT B N):TC 12 [d.enc] (Qb N d):=
 ck d b a.flow (t24 d b a.flow a.end a.settings.styles a.settings.lists a.revs a.authors (dD _ a.settings))
structure VB (h:AF):Prop where
 move:h.move=0
 dels:h.dels=[]
 layers:h.layers=[]
theorem c44 (x:AF) (g:VB x):PC 44 [x.enc] (.imm 0 [] true):=by
 intro h n;refine gq Tryz.func44 rfl λd=>?_;have f:∀a b c,∀o y,h o=some y->hset (hset (hset h n a) (n+1) b) (n+1) c o=some y:=λa b c=>AQ d (by omega) (AQ d (by omega) (AQ d (qa _) AB));obtain⟨e,h2,_⟩:=g;simp[go_sem,AF.enc,AF.flat,AC,AD,e,h2];refine An 1 (α:=Unit) (λk=>[(3,.imm 0 [] true),(22,AP []),(23,AA 0),(24,AA 0)]) (λ_=>h) (λk m=>n<=m) (λk=>0) () ?_ ?_ ?_ ?_;omega;simp[Ai];exact f _ _ _;rintro _ m hm;simp[go_sem];exact Ay d AB rfl rfl
theorem d43 (p:BW) (hp:VB p.head) (t:Nat) {H:Hp} {n:Nat}:BA Tryz.prog 43 [p.enc,.ptr t 0] H n (λv h' n'=>v=.tup []/\h'=H/\n'=n):=by
 refine Db Tryz.func43 rfl λa=>?_;refine AY 1 [(1,.ptr t 0),(2,.iptr (p.head.flat++[.bool p.mid,AA p.units]))] H n ?_ (λm b=>?_);simp[go_sem,BW.enc,AF.flat,IO];refine⟨AV (a.none (qa n)) (by simp[hset]),AJ (λj z e=>(a j z e).1) AB⟩;refine AH ?_;simp[go_sem,AF.flat];refine qw (by simpa[AF.enc,AF.flat]using c44 p.head hp) ?_;simp[go_sem];refine An 0 (α:=Unit) (λk=>[(8,.imm 0 [] true),(9,AA 0),(10,AA 0)]) (λ_=>H) (λk m=>n<=m) (λk=>0) () ?_ ?_ AB ?_;omega;simp[Ai,IO];rintro _ m b;simp[go_sem];exact B9 a (by simp[closed,closedL]) AB
def Po:Unit->Nat->Option BT:=λ_ _=>none
theorem ZX (s:Unit) (H:Hp):Aj Po s H=H:=rfl
theorem v43 (n0 t:Nat):Vu Po n0 43 [] [.ptr t 0] (λs _=>s) VB where
 lt _ _ _:=rfl
 dom _ _ _ _:=rfl
 cl _ _ _ e:=by cases e
 call s p H n hp _ hn hs:=by rw[ZX];exact d43 p hp t
theorem c48 (a x:Int):PC 48 [AA x,.iptr [AA a]] (.bool (x==a)):=by
 intro h n;refine gq Tryz.func48 rfl λb=>?_;simp[go_sem];exact Ay b AB (by by_cases e:x=a<;>simp[e]) rfl
theorem aZ:PC 254 [.imm 2 [] false,AA 0,AA 0,.fn (.func 120) [] []] (.tup []):=by
 intro h n;refine gq Tryz.func254 rfl λa=>?_;simp[go_sem];refine An 1 (α:=Unit) (λk=>[(2,AA 0),(8,AA 1)]) (λ_=>h) (λk m=>n<=m) (λk=>0) () ?_ ?_ AB ?_;omega;simp[Ai,show IntKind.i64.wrap 1=1 from by decide,IO];rintro _ m hm;simp[go_sem];exact Ay a AB rfl rfl
theorem aE:PC 188 [.imm 2 [] false,AA 0,.fn (.func 120) [] []] (.tup []):=by
 intro h n;refine gq Tryz.func188 rfl λb=>?_;simp[go_sem];refine An 1 (α:=Unit) (λk=>[(0,.imm 2 [] false),(1,AA 0),(2,.fn (.func 120) [] []),(6,AA 20),(7,AA 0),(8,AA 20)]) (λ_=>h) (λk m=>n<=m) (λk=>0) () ?_ ?_ AB ?_;omega;simp[Ai];rintro _ m a;simp[go_sem];refine qw aZ ?_;simp[go_sem];refine An 1 (α:=Unit) (λk=>[(1,AA 0),(6,AA 20)]) (λ_=>h) (λk m=>n<=m) (λk=>0) () ?_ ?_ AB ?_;omega;simp[Ai];rintro _ m a;simp[go_sem];exact Ay b AB rfl rfl
theorem Zq:PC 119 [.imm 2 [] false,.fn (.func 120) [] []] (.tup []):=by
 intro h n;refine gq Tryz.func119 rfl λa=>?_;simp[go_sem];refine qw aE ?_;simp[go_sem];exact Ay a AB rfl rfl
set_option maxHeartbeats 2000000 in
theorem bQ (l:List Ax) (d:l≠[]) (hl:l.length<=1048576) (r:Ax) {H:Hp} {n o k:Nat} {full:Bool} (u:H o=some (.cells ((l.map Ax.enc).flatMap SV.cells))) (A:H k=some (.cells [AA r.id,.str r.author,AA r.time])) (hok:o≠k):
 BA Tryz.prog 117 [.sl o 0 3 l.length full,AA l.length,.sl k 0 3 1 true] H n (λv h' n'=>v=Ao (l++[r])/\h'=hset H o none/\n'=n):=by
 refine Db Tryz.func117 rfl λp=>?_;have b:=p.lt;have m:flat H (.sl o 0 3 l.length full)=some ((l.map Ax.enc).flatMap SV.cells):=by
  have:((l.map Ax.enc).flatMap SV.cells).length=l.length*3:=by rw[A7 (z:=3) (Ax.E.size l)];simp
  simp[flat,u,Bg,<-this,-List.length_flatMap]
 have c:flat H (.sl k 0 3 1 true)=some [AA r.id,.str r.author,AA r.time]:=by simp[flat,A,Bg]
 have ht:A9 Tryz.prog 30=some 42:=by simp[go_sem]
 have g:AU Tryz.prog H n .append [30,30] [.sl o 0 3 l.length full,.sl k 0 3 1 true]=some { val:=.sl n 0 3 (l.length+1) false,upd:=if full then none else some (o,none),new:=some (.cells ((l.map Ax.enc).flatMap SV.cells++[AA r.id,.str r.author,AA r.time])) }:=by
  have B:Bh Tryz.prog 42=3:=by simp[go_sem]
  have s:(BH Tryz.prog 42).storable=true:=by simp[go_sem]
  have t:(BH Tryz.prog 42).cells.length=3:=by simp[go_sem]
  have hb:BY Tryz.prog 42<=65536:=by simp[go_sem]
  have q:dY (l.length+1) (BY Tryz.prog 42)=true:=by simp[dY,hb];omega
  simp[AU,ht,Cm,B,s,t,Dw,m,c,Hd,q,HI,Gq]
 have fin:∀(h':Hp) (n':Nat),h'=hset (match(if full then none else some (o,(none:Option BT)))with|some (j,x)=>hset H j x|none=>H) n (some (.cells ((l.map Ax.enc).flatMap SV.cells++[AA r.id,.str r.author,AA r.time])))->B8 n h' n' (.sl n 0 3 (l.length+1) false) (λv h' n'=>v=Ao (l++[r])/\h'=hset H o none/\n'=n):=λh' n' e=>by
  have hon:=b o _ u;have i:((l++[r]).map Ax.enc).flatMap SV.cells=(l.map Ax.enc).flatMap SV.cells++[AA r.id,.str r.author,AA r.time]:=by simp[Ax.enc,SV.cells]
  refine .inr ⟨1,Ao (l++[r]),hset H o none,?_,Ax.E.imm _ _ _ _,λj y a=>?_,rfl,rfl,rfl⟩;have:=DV (h':=h') (h:=hset H o none) (k:=0) (z:=3) (es:=(l++[r]).map Ax.enc) (full:=false) (full':=false) (o:=n) (by rw[AD _ _ (by omega)];exact p.none (qa n)) (by simp) (by rw[e,AC,i]) (Ax.E.size _);rw[qd,qt]at this;exact this;by_cases f:j=o;subst f;rw[AC]at a;cases a;rw[AD _ _ f]at a;refine⟨?_,p j y a⟩;have:=b j y a;rw[e,AD _ _ (by omega)];cases full;simp only[qj,if_false];rw[AD _ _ f];exact a;exact a
 refine AH ?_;have w:¬l.length=0:=by simpa using d
 simp[go_sem,d];rw[g];cases full<;>simp[go_sem]<;>exact fin _ _ (by simp)
def VD:Tr:=(.pure 0 (.pure 2 (.two 1 3 (.one 3 (.one 4 (.one 5 (.pure 6 (.pure 7 .nil))))) (.two 1 4 (.one 4 (.one 5 (.pure 6 (.pure 7 .nil)))) (.one 1 (.one 5 (.pure 6 (.pure 7 .nil))))))))
section
variable {P : Program} {E : B6} {evs : Operand → SV} {o : Oper} {h : Hp} {n : Nat} {K : SV → Hp → Nat → Prop}
def F3 (P:Program) (kt:TypeId) (cs:List SV):List (SV×SV)->Nat->Option (Option (Nat×SV))
 | [],_=>some none
 | e :: es, i => match e.1 with
  | .agg ds=>match Bv P cs ds (Ba P kt)with
   | some true=>some (some (i,e.2))
   | some false=>F3 P kt cs es (i+1)
   | none=>none
  | _=>none
structure Vq (P:Program) (kt:TypeId):Prop where
 ht:P.underlying kt=some (.struct (P.fieldsOf kt))
 hp:P.stoodInHeld kt=false
theorem Mi {c:Cx} {a:TypeId} (e:Vq P a) {cs d:List SV} {v u:Value} {b:Bool} (m:V c (.agg cs) v) (l:V c (.agg d) u) (hb:Bv P cs d (Ba P a)=some b) (w:World):(Op.equal a v u).run P w=.ok b w:=by
 obtain⟨vs,f,h,h2⟩:=Eh m;obtain⟨us,g,i,j⟩:=Eh l;have k:=HV h i h2 j 9998 w _ _ hb;rw[f,g];show(Op.equalIn 10000 a _ _).run P w=_;rw[run_equalIn_struct w 9999 a _ _ e.ht e.hp];exact k
theorem J1 {c:Cx} {b:TypeId} (n:Vq P b) {cs:List SV} {v:Value} (o:V c (.agg cs) v) (w:World):
 ∀(es:List (SV×SV)) (a:List MapEntry) (i:Nat) (r:Option (Nat×SV)),AZ (λ(p:SV×SV) (e:MapEntry)=>V c p.1 e.key/\V c p.2 e.val) es a->F3 P b cs es i=some r->
  (r=none/\(Instr.findAsking b v a i).run P w=.ok none w)\/∃j x y e d,r=some (i+j,x)/\(Instr.findAsking b v a i).run P w=.ok (some (i+j,y)) w/\V c x y/\a[j]? = some e/\V c (.agg d) e.key/\Bv P cs d (Ba P b)=some true
 | [],a,i,r,h,hf=>by
  simp only[F3,qh]at hf;subst hf;rw[h.nil_left];exact .inl ⟨rfl,by simp[Instr.findAsking]⟩
 | p::es,[],i,r,h,_=>h.elim
 | p::es,e::a,i,r,h,hf=>by
  obtain⟨⟨f,h2⟩,s⟩:=h;simp only[F3]at hf;split at hf<;>try cases hf
  rename_i d l;rw[l]at f;split at hf;rename_i g;cases hf;have:=Mi n o f g w;exact .inr ⟨0,p.2,e.val,e,d,rfl,by simp[Instr.findAsking,this],h2,rfl,f,g⟩;rename_i g;have:=Mi n o f g w;rcases J1 n o w es a (i+1) r s hf with⟨rfl,m⟩|⟨j,x,y,e',k,rfl,m,q,t,u⟩
  exact .inl ⟨rfl,by simp[Instr.findAsking,this,m]⟩;exact .inr ⟨j+1,x,y,e',k,by congr 2;omega,by rw[show i+(j+1)=i+1+j by omega];simp[Instr.findAsking,this,m],q,by simpa using t,u⟩;cases hf
end
theorem LH (b:Bool) (x y:Int) (w:World):(Instr.checkKey b 10000 89 (.agg #[.int .i64 x,.int .i64 y])).run Tryz.prog w=.ok () w:=by
 have c:Tryz.prog.underlying 89=_:=Tryz.underlying89;have f:Tryz.prog.underlying 3=_:=Tryz.underlying3;have d:∀n z,(Instr.checkKey b (n+1) 3 (.int .i64 z)).run Tryz.prog w=.ok () w:=λn z=>by simp[Instr.checkKey,AO f]
 have e:Fm Tryz.prog 3=some false:=by simp[go_sem]
 have p:∀(cs:Array Value) off v,cs[off]? = some v->(part 3 cs off).run Tryz.prog w=.ok v w:=λcs off v h=>by simp[part,Dz e,h]
 have a:∀n,(Instr.checkKey b (n+2) 89 (.agg #[.int .i64 x,.int .i64 y])).run Tryz.prog w=.ok () w:=λn=>by
  rw[Instr.checkKey];simp only[Sem.run_bind,AO c,Result.andThen_ok];rw[<-Array.forIn_toList];simp[List.forIn_cons,p #[.int .i64 x,.int .i64 y] 0 (.int .i64 x) rfl,p #[.int .i64 x,.int .i64 y] 1 (.int .i64 y) rfl,d]
 exact a 9998
section
variable {E : B6} {evs : Operand → SV} {o : Oper} {h : Hp} {n : Nat} {K : SV → Hp → Nat → Prop}
theorem GB {c:TypeId} {d:Array Field} {v:Value} {a:List MapEntry} {r:Option (Nat×Value)} {w:World} (f:Tryz.prog.underlying c=some (.struct d)) (b:(Instr.findAsking c v a 0).run Tryz.prog w=.ok r w):(Instr.findKey c v a).run Tryz.prog w=.ok r w:=by
 cases a with
 | nil=>
  simp[Instr.findAsking]at b;subst b;simp[Instr.findKey,AO f,Instr.findNow]
 | cons e es=>
  have:Instr.findNow (.struct d) v (e::es) 0=none:=by simp[Instr.findNow,Instr.sameNow]
  simp[Instr.findKey,AO f,this,b]
theorem Vf:Vq Tryz.prog 89:=⟨by kernel_rfl,by kernel_rfl⟩
theorem Vv {c:Cx} {a b:Int} {v:Value} (h:V c (.agg [.int .i64 a,.int .i64 b]) v):v=.agg #[.int .i64 a,.int .i64 b]:=by
 simp only[V,VL]at h;obtain⟨vs,rfl,⟨_,_,rfl,rfl,_,_,rfl,rfl,rfl⟩,_⟩:=h;rfl
theorem iO {m x:Operand} {q:Nat} {a b:Int} {es:List (SV×SV)} {r:Option (Nat×SV)} (D:o.op=.lookup 85 m x false) (U:evs m=.map q) (W:h q=some (.map es)) (X:evs x=.agg [.int .i64 a,.int .i64 b])
 {v:SV} (H:(match r with|some p=>p.2|none=>BH Tryz.prog 90)=v) (T:F3 Tryz.prog 89 [.int .i64 a,.int .i64 b] es 0=some r) (N:K v h n):EI E Tryz.prog evs o h n K:=by
 subst H;refine⟨by rw[D];simp,λc ev _ _ R F O=>?_⟩;have u:=O m;have g:=O x;rw[U,V]at u;obtain⟨P,hρ,l⟩:=u;rw[X]at g;have t:=Vv g;obtain⟨b',d,e,M,Q,S,_⟩:=R.obj _ _ W;rw[hρ]at M;cases M;have s:(getObj P).run Tryz.prog c.w=.ok (.map d e) c.w:=by simp[getObj,Sem.run,Q]
 have A:Tryz.prog.underlying 85=some (.map 89 90):=Tryz.underlying85;have k:∀B,(Instr.checkKey B 10000 89 (ev x)).run Tryz.prog c.w=.ok () c.w:=λB=>by rw[t];exact LH B a b c.w
 have G:(BH Tryz.prog 90).storable=true:=by simp[go_sem]
 obtain⟨i,z,hi,L,J⟩:=CB G;have y:=C9 c z;rw[<-J]at y;rcases J1 Vf g c.w es d.toList 0 r S T with⟨rfl,C⟩|⟨j,Y,Z,e2,ds,rfl,C,I,_,_⟩
 have f:=GB Tryz.underlying89 C;refine⟨z,BH Tryz.prog 90,h,n,c,?_,y,R,F,ke n c,N⟩;simp[execOp,D,Instr.lookup,AO A,l,s,k,f,E5 hi L];have f:=GB Tryz.underlying89 C;refine⟨Z,Y,h,n,c,?_,I,R,F,ke n c,N⟩;simp[execOp,D,Instr.lookup,AO A,l,s,k,f]
end
section
variable {E : B6} {evs : Operand → SV} {o : Oper} {h : Hp} {n : Nat} {K : SV → Hp → Nat → Prop}
theorem YM:(Ba Tryz.prog 89).map (λf=>(f.name == "_",f.type,f.offset))=[(false,3,0),(false,3,1)]:=by kernel_rfl
theorem Wo {a b:Int} {g:List SV} (hl:g.length=2) (f:Bv Tryz.prog [.int .i64 a,.int .i64 b] g (Ba Tryz.prog 89)=some true):g=[.int .i64 a,.int .i64 b]:=by
 rw[CT,YM]at f
 match g,hl with
 | [x, y], _ =>
  have q:(Jl Tryz.prog 3).isSome=true:=by simp[go_sem]
  have s:Bh Tryz.prog 3=1:=by simp[go_sem]
  have p:Fm Tryz.prog 3=some false:=by simp[go_sem]
  have one:∀(c:Int) (z:SV) (r:Bool),DP Tryz.prog 3 (.int .i64 c) z=some r->∃d,z=.int .i64 d/\r=(c==d):=λc z r hc=>by
   cases z with
   | int k d=>
    simp only[DP,q,s,p,and_true]at hc;split at hc;rename_i e;subst e;cases hc;exact⟨d,rfl,rfl⟩;cases hc
   | _=>simp[DP]at hc
  simp only[DA,qj,if_false,jG,List.getElem?_cons_succ]at f;cases h:DP Tryz.prog 3 (.int .i64 a) x with
  | none=>simp[h]at f
  | some r1 =>
   cases r1 with
   | false=>simp[h]at f
   | true =>
    simp only[h]at f;cases h2:DP Tryz.prog 3 (.int .i64 b) y with
    | none=>simp[h2]at f
    | some r2 =>
     cases r2 with
     | false=>simp[h2]at f
     | true=>
      obtain⟨l,rfl,n⟩:=one a x true h;obtain⟨m,rfl,o⟩:=one b y true h2;have i:a=l:=by simpa using n.symm
      have j:b=m:=by simpa using o.symm
      rw[i,j]
theorem Ou {e:TypeId} {cs:List SV}:∀(es:List (SV×SV)) (i:Nat) (j:Nat) (x:SV),F3 Tryz.prog e cs es i=some (some (i+j,x))->∃a v,es[j]? = some (.agg a,v)/\Bv Tryz.prog cs a (Ba Tryz.prog e)=some true
 | [],i,j,x,h=>by simp[F3]at h
 | p::es,i,j,x,h=>by
  simp only[F3]at h;split at h<;>try cases h
  rename_i a c;split at h;rename_i g;simp only[qh,Prod.mk.injEq]at h;have:j=0:=by omega
  subst this;exact⟨a,p.2,by simp[<-c],g⟩
  . cases j with
    | zero =>
     exfalso;have d:∀(es:List (SV×SV)) (i k:Nat) (x:SV),F3 Tryz.prog e cs es i=some (some (k,x))->i<=k:=by
      intro es
      induction es with
      | nil=>intro i k x h;simp[F3]at h
      | cons p es ih=>
       intro i k x h;simp only[F3]at h;split at h<;>try cases h
       split at h;simp only[qh,Prod.mk.injEq]at h;omega;have:=ih _ _ _ h;omega;cases h
     have:=d _ _ _ _ h;omega
    | succ j=>
     obtain⟨b,v,f,h2⟩:=Ou es (i+1) j x (by rw[show i+1+j=i+(j+1)by omega];exact h);exact⟨b,v,by simpa using f,h2⟩
  cases h
end
section
variable {E : B6} {evs : Operand → SV} {o : Oper} {h : Hp} {n : Nat} {K : SV → Hp → Nat → Prop}
def Vd (p:SV×SV):Prop:=∃a b:Int,p.1=.agg [.int .i64 a,.int .i64 b]
theorem gE {m y x:Operand} {q:Nat} {a b:Int} {es:List (SV×SV)} {r:Option (Nat×SV)} (ho:o.op=.mapUpdate 85 m y x) (hm:evs m=.map q) (hq:h q=some (.map es)) (hy:evs y=.agg [.int .i64 a,.int .i64 b]) (S:∀p∈es,Vd p)
 {es2:List (SV×SV)} (O:(match r with|some p=>HF es p.1 (.agg [.int .i64 a,.int .i64 b]) (evs x)|none=>es++[(.agg [.int .i64 a,.int .i64 b],evs x)])=es2) (T:F3 Tryz.prog 89 [.int .i64 a,.int .i64 b] es 0=some r)
 (hk:K (.tup []) (hset h q (some (.map es2))) n):XM E Tryz.prog evs o h n K:=by
 subst O;refine⟨by rw[ho];simp,λc ev _ _ R F Y=>?_⟩;have A:=Y m;have k:=Y y;have B:=Y x;rw[hm,V]at A;obtain⟨D,hρ,v⟩:=A;rw[hy]at k;have s:=Vv k;obtain⟨b',g,d,g1,L,G,hB⟩:=R.obj _ _ hq;rw[hρ]at g1;cases g1;have z:(getObj D).run Tryz.prog c.w=.ok (.map g d) c.w:=by simp[getObj,Sem.run,L]
 have C:Tryz.prog.underlying 85=some (.map 89 90):=Tryz.underlying85;have u:∀J,(Instr.checkKey J 10000 89 (ev y)).run Tryz.prog c.w=.ok () c.w:=λJ=>by rw[s];exact LH J a b c.w
 have i:∀Z:Obj,(setObj D Z).run Tryz.prog c.w=.ok () { c.w with heap:=c.w.heap.setIfInBounds D Z }:=λZ=>by
  simp[setObj,Sem.run,L]
 have fin:∀(t:List (SV×SV)) (f:Array MapEntry) (clock':Nat),AZ (λ(p:SV×SV) (e:MapEntry)=>V c p.1 e.key/\V c p.2 e.val) t f.toList->Hm f.toList clock'->
  (Instr.mapUpdate 85 (ev m) (ev y) (ev x)).run Tryz.prog c.w=.ok () { c.w with heap:=c.w.heap.setIfInBounds D (.map f clock') }->K (.tup []) (hset h q (some (.map t))) n->
  ∃h' n' c',(execOp ev o).run Tryz.prog c.w=.ok .skip c'.w/\Bn h' c'/\Fr n' c'/\Fq n c n' c'/\K (.tup []) h' n':=λt f clock' he M hr hK=>by
  obtain⟨R',E'⟩:=KB (clock':=clock') R hq hρ L he M;exact⟨_,n,_,by simp[execOp,ho,hr],R',F,⟨E',qa n,λ_ _=>rfl⟩,hK⟩
 rcases J1 Vf k c.w es g.toList 0 r G T with⟨rfl,U⟩|⟨j,x2,y2,e2,ds,rfl,U,hxy,hj,hds,hfe⟩
 have l:=GB Tryz.underlying89 U;refine fin _ (g.push { key:=ev y,val:=ev x,born:=d }) (d+1) (by rw[Array.toList_push];exact jS G (as':=[(_,evs x)]) ⟨⟨k,B⟩,trivial⟩) (by rw[Array.toList_push];exact hB.push _ rfl) ?_ hk;simp[Instr.mapUpdate,AO C,v,z,u,l,i];have l:=GB Tryz.underlying89 U;rw[jc]at T l;obtain⟨H,v',k1,k2⟩:=Ou es 0 j x2 (by rw[jc];exact T);obtain⟨a',b',k3⟩:=S _ (jb k1);have N:H=[.int .i64 a',.int .i64 b']:=by simpa using k3
 have hs:=Wo (by rw[N];rfl) k2;obtain⟨I,k4,k5,_⟩:=AZ.get G k1;have P:I=e2:=by rw[hj]at k4;exact(Option.some.inj k4).symm
 subst P;simp only[hs]at k5;have Q:=Vv k5;have W:g[j]? = some I:=by simpa using hj
 have X:Instr.sameBits 10000 I.key (ev y)=true:=by
  rw[Q,s];have:∀n,Instr.sameBits (n+1) (.agg #[.int .i64 a,.int .i64 b]) (.agg #[.int .i64 a,.int .i64 b])=true:=λn=>by simp[Instr.sameBits]
  exact this 9999
 refine fin _ _ d (Oq j k B G) (Hm.modify hB j _ λ_=>rfl) ?_ (by simpa using hk);simp[Instr.mapUpdate,AO C,v,z,u,l,Instr.keyThatStays,W,X,i]
end
section
variable {P : Program} {E : B6} {evs : Operand → SV} {o : Oper} {h : Hp} {n : Nat} {K : SV → Hp → Nat → Prop}
theorem T6 {t:TypeId} {x:Operand} {j off z len cap:Nat} (d:o.op=.call { callee:=.builtin .len,args:=#[x],argTypes:=#[t] }) (ht:(A9 P t).isSome=true) (l:evs x=.slc j off z len cap) (g:K (.int .i64 len) h n):EI E P evs o h n K:=by
 refine⟨by rw[d];simp,λc ev _ _ R F k=>?_⟩;have a:=k x;rw[l,V]at a;obtain⟨b,st,_,i,_⟩:=a;obtain⟨e,f⟩:=jn.1 ht;refine⟨.int .i64 len,.int .i64 len,h,n,c,Bi (P:=P) (ev:=ev) d _ _ _ λcs=>?_,by rw[V],R,F,ke n c,g⟩;simp[builtin,Builtin.len_,AO (A5 f),goInt,i]
theorem Pf {t:TypeId} {x:Operand} {j off z len cap:Nat} (d:o.op=.call { callee:=.builtin .cap,args:=#[x],argTypes:=#[t] }) (ht:(A9 P t).isSome=true) (l:evs x=.slc j off z len cap) (g:K (.int .i64 cap) h n):EI E P evs o h n K:=by
 refine⟨by rw[d];simp,λc ev _ _ R F k=>?_⟩;have a:=k x;rw[l,V]at a;obtain⟨b,st,_,i,_⟩:=a;obtain⟨e,f⟩:=jn.1 ht;refine⟨.int .i64 cap,.int .i64 cap,h,n,c,Bi (P:=P) (ev:=ev) d _ _ _ λcs=>?_,by rw[V],R,F,ke n c,g⟩;simp[builtin,Builtin.cap_,AO (A5 f),goInt,i]
theorem PZ {isS:Bool} {len cap l m:Nat} {lo hi:Option Value} (b:(lo=none/\l=0)\/∃i,lo=some (.int i l)) (a:(hi=none/\m=len)\/∃i,hi=some (.int i m))
 (h1:l<=m) (h2:m<=cap) (w:World):(Instr.sliceBounds isS len cap lo hi none).run P w=.ok (l,m,cap) w:=by
 have hb:=λ(code:BoundsCode) (i:IntKind)=>FW (P:=P) (i:=i) (n:=(l:Int)) (y:=m) (code:=code) (by omega) (by omega) w;have Hn:=λ(code:BoundsCode) (i:IntKind)=>FW (P:=P) (i:=i) (n:=(m:Int)) (y:=cap) (code:=code) (by omega) (by omega) w;simp only[Int.toNat_natCast]at hb Hn;rcases b with⟨rfl,hl⟩|⟨i,rfl⟩<;>rcases a with⟨rfl,c⟩|⟨j,rfl⟩
 simp[Instr.sliceBounds,hl,c];simp[Instr.sliceBounds,hl,Hn];subst c;simp[Instr.sliceBounds,hb];simp[Instr.sliceBounds,hb,Hn]
theorem D6 {t e:TypeId} {x:Operand} {lo hi:Option Operand} {j off z len cap l m:Nat} (s:o.op=.slice t x lo hi none) (ht:A9 P t=some e) (H:Bh P e=z) (hz0:z≠0) (G:evs x=.slc j off z len cap)
 (p:(lo=none/\l=0)\/∃y,lo=some y/\evs y=.int .i64 l) (f:(hi=none/\m=len)\/∃y,hi=some y/\evs y=.int .i64 m) (k:l<=m) (C:m<=cap) (hl2:l<cap\/l=0)
 (B:K (.slc j (off+l*z) z (m-l) (cap-l)) h n):EI E P evs o h n K:=by
 refine⟨by rw[s];simp,λc ev _ _ R F r=>?_⟩;have d:=r x;rw[G,V]at d;obtain⟨b,st,hρ,D,hcap,hroom⟩:=d;obtain⟨I,g,q⟩:=EZ (P:=P) (e:=e) (by omega);have A:(lo.map ev=none/\l=0)\/∃i,lo.map ev=some (.int i l):=by
  rcases p with⟨rfl,a⟩|⟨y,rfl,a⟩
  exact .inl ⟨rfl,a⟩;have:=r y;rw[a]at this;exact .inr ⟨.i64,by simp[C7 this]⟩
 have v:(hi.map ev=none/\m=len)\/∃i,hi.map ev=some (.int i m):=by
  rcases f with⟨rfl,a⟩|⟨y,rfl,a⟩
  exact .inl ⟨rfl,a⟩;have:=r y;rw[a]at this;exact .inr ⟨.i64,by simp[C7 this]⟩
 have u:=Gl (P:=P) (A5 ht) ⟨I,g,q.symm.trans H⟩ (some ⟨b,st+off,none⟩) len cap l m cap (PZ (isS:=true) A v k C c.w);rw[<-D]at u;refine⟨_,.slc j (off+l*z) z (m-l) (cap-l),h,n,c,by simp[execOp,s,u];rfl,?_,R,F,ke n c,B⟩;rw[V];refine⟨b,st,hρ,?_,by omega,?_⟩;split;rename_i a;have:l=0:=by omega
 subst this;simp;simp[Fc,qD];have:l*z+(cap-l)*z=cap*z:=by rw[<-jB];congr 1;omega
 omega
theorem To {c:Cx} {q off:Nat} {cs xs:List SV} {ty:Option TypeId} {us:List Value} {b st:Nat} (R:Bn h c) (r:h q=some (.cells cs ty)) (m:c.ρ q=some (b,st))
 (hle:off<=cs.length) (hge:cs.length<=off+xs.length) (d:st+off+us.length<=rm c.w b) (a:AZ (V c) xs us) (p:∀x∈us,x.oneCell'=true):
 ∃w',(storeCells ⟨b,st+off,none⟩ us).run P c.w=.ok () w'/\Bn (hset h q (some (.cells (cs.take off++xs) ty))) { c with w:=w' }/\DZ c { c with w:=w' }:=by
 obtain⟨s,st',arr,e,vs,n,j,v,o,y,z⟩:=R.obj _ _ r;rw[m]at n;cases n;have hl:=a.length;have hl2:=o.length;have l:rm c.w b=arr.size:=by simp[rm,j]
 rw[l]at d;have g:=run_storeCells_at (P:=P) b (st+off) e us 0 arr c.w j (by simpa using d) p;simp only[jJ]at g;refine⟨_,g,?_⟩;have f:=setRow_heap c.w b arr (arr.toList.take (st+off)++us++arr.toList.drop (st+off+us.length)).toArray e (0,0) j;refine R.write r m (IJ _ _ _) (λs k=>Ha _ _ _ k) ?_ rfl rfl (λE=>?_);simp only[rm,j,f];simp;omega;refine⟨b,st,_,e,vs.take off++us,m,f,λi x a=>?_,kL E (jS (o.take off) a),λx a=>?_,z⟩;simp only[List.getElem?_toArray,qn];have t:(arr.toList.take (st+off)).length=st+off:=by simp;omega
 have u:(vs.take off).length=off:=by simp;omega
 by_cases hi:i<off;rw[jD (by omega)]at a ⊢;rw[jf,if_pos (by omega)]at a ⊢;simpa using v i x a;rw[qV (by omega),u]at a;have hi2:=(qo.1 a).1;rw[qV (by omega),t,jD (by omega),show st+i-(st+off)=i-off by omega];exact a;rcases qe.1 a with a|a;exact y x (qH a);exact p x a
theorem SF {t t2 e:TypeId} {x y:Operand} {j z d B g a sl m k:Nat} {cs:List SV} {ty:Option TypeId} (U:o.op=.call { callee:=.builtin .copy,args:=#[x,y],argTypes:=#[t,t2] }) (ht:A9 P t=some e) (hz:Bh P e=z) (hz0:z≠0)
 (L:evs x=.slc j d z B g) (hy:evs y=.slc j a z sl m) (S:h j=some (.cells cs ty)) (T:Nat.min sl B=k) (hin:a+k*z<=cs.length) (G:d<=cs.length) (C:cs.length<=d+k*z)
 (hK:K (.int .i64 k) (hset h j (some (.cells (cs.take d++(cs.drop a).take (k*z)) ty))) n):EI E P evs o h n K:=by
 refine⟨by rw[U];simp,λc ev _ _ R F l=>?_⟩;have u:=l x;have A:=l y;rw[L,V]at u;rw[hy,V]at A;obtain⟨b,st,hρ,hu,p,hroom⟩:=u;obtain⟨Y,N,hρ',J,hcap',hroom'⟩:=A;rw[hρ]at hρ';cases hρ';obtain⟨ii,D,I⟩:=EZ (P:=P) (e:=e) (by omega);obtain⟨Y,N,arr,e',vs,O,Z,g3,Q,g5,g6⟩:=R.obj _ _ S;rw[hρ]at O;cases O;have hvl:=Q.length;have s:((vs.drop a).take (k*z)).length=k*z:=by simp;omega
 have M:((cs.drop a).take (k*z)).length=k*z:=by simp;omega
 have q:∀x∈(vs.drop a).take (k*z),x.oneCell'=true:=λx L=>g5 x (qT (qH L));have hkd:k*z<=B*z:=jt _ (by rw[<-T];exact Nat.min_le_right _ _);have hdc:B*z<=g*z:=jt _ p;obtain⟨w',H,W,X⟩:=To (P:=P) (off:=d) R S hρ G (by rw[M];exact C) (by rw[s];omega) ((Q.drop a).take (k*z)) q;have f:(Builtin.firstCells z k (.slice (some ⟨b,st+a,none⟩) sl m)).run P c.w=.ok ((vs.drop a).take (k*z)).toArray c.w:=by
  have:=run_loadCells_list (P:=P) c.w ⟨b,st+a,none⟩ ((vs.drop a).take (k*z)) (λi v l=>by
   rw[dT rfl];rw[jf]at l;split at l;rw[qY]at l;have:=g3 _ _ l;simp only[World.cell?,Z,qD];simpa using this;cases l)
  rw[s]at this;simpa[Builtin.firstCells]using this
 refine⟨.int .i64 k,.int .i64 k,_,n,_,Bi (P:=P) (ev:=ev) U _ _ _ λc2=>?_,by rw[V],W,F,⟨X,qa _,λ_ _=>rfl⟩,hK⟩;have r:ii.size=z:=I.symm.trans hz;simp[builtin,Builtin.copy_,AO (A5 ht),sizeOf,typeInfo,D,r,Builtin.lenOf,hu,J,T,f,H,goInt]
theorem Pe {t tn e:TypeId} {x y:Operand} {j off z len cap k:Nat} {cs:List SV} {ty:Option TypeId} (ho:o.op=.call { callee:=.builtin .append,args:=#[x,y],argTypes:=#[t,tn] }) (ht:A9 P t=some e) (htn:Jl P tn=some .i64)
 (hz:Bh P e=z) (hz0:z≠0) (hst:(BH P e).storable=true) (hzl:(BH P e).cells.length=z) (hby:BY P e<=65536) (hx:evs x=.slc j off z len cap) (hy:evs y=.int .i64 k) (hk0:0<k) (hgt:cap<len+k) (hbig:len+k<=1073741824)
 (hj:h j=some (.cells cs ty)) (hin:off+len*z<=cs.length)
 (hK:K (.sl n 0 z (len+k) false) (hset h n (some (.cells ((cs.drop off).take (len*z)++(List.replicate k (BH P e).cells).flatten)))) (n+1)):EI E P evs o h n K:=by
 refine⟨by rw[ho];simp,λc ev _ _ R F hv=>?_⟩;have hvx:=hv x;have hvy:=hv y;rw[hx,V]at hvx;rw[hy]at hvy;have hvy:=C7 hvy;obtain⟨b,st,hρ,hu,hcap,hroom⟩:=hvx;obtain⟨ii,hi,hsz⟩:=EZ (P:=P) (e:=e) (by omega);have hsz2:ii.size=z:=hsz.symm.trans hz;obtain⟨i',zv,hi',hzz,hze⟩:=CB hst;rw[hi]at hi';cases hi';have hvz:=C9 c zv;rw[<-hze]at hvz;have hzsize:zv.cells.size=z:=by have:=(hvz.cells hst).1.length;simp at this;omega
 have hbb : ii.bytes ≤ 65536 := by have : BY P e = ii.bytes := by simp [BY, Program.bytesOf, hi]
                                   omega
 obtain⟨b',st',arr,e',vs,g1,g2,g3,g4,g5,g6⟩:=R.obj _ _ hj;rw[hρ]at g1;cases g1;have hvl:=g4.length;have hul:((vs.drop off).take (len*z)).length=len*z:=by simp;omega
 obtain⟨zr,z1⟩:=HJ hvz hst k;have BE:(Builtin.firstCells ii.size len (.slice (some ⟨b,st+off,none⟩) len cap)).run P c.w.drew=.ok ((vs.drop off).take (len*z)).toArray c.w.drew:=by
  have:=run_loadCells_list (P:=P) c.w.drew ⟨b,st+off,none⟩ ((vs.drop off).take (len*z)) (λi v hv=>by
   rw[dT rfl];rw[jf]at hv;split at hv;rw[qY]at hv;have:=g3 _ _ hv;simp only[World.cell?,GG,g2,qD];simpa using this;cases hv)
  rw[hul]at this;rw[hsz2];simpa[Builtin.firstCells]using this
 have hmul:(len+k)*ii.bytes<=1073741824*65536:=Nat.mul_le_mul hbig hbb;have hmul2:k*ii.bytes<=1073741824*65536:=Nat.mul_le_mul (by omega) hbb;have hr:=Lib.run_append_grow_zeros (P:=P) c.w t tn o.type e ii zv .i64 .i64 (A5 ht) (FY htn) hi hzz (some ⟨b,st+off,none⟩) len cap _ BE k hk0 (by omega) hgt (by omega) (by omega) (growslice_fits hgt (by omega));have hcell:=Em zv.cells (by omega) k;have hfr:c.ρ n=none:=F n (qa n);have Rn:=KE (k:=n) (e:=e) (ty:=none) (cs:=(cs.drop off).take (len*z)++(List.replicate k (BH P e).cells).flatten) (vs:=(vs.drop off).take (len*z)++(Builtin.zeroCells zv.cells k).toList) (arr:=((vs.drop off).take (len*z)).toArray++Builtin.zeroCells zv.cells k++Builtin.zeroCells zv.cells (grownCap c.w (len+k) cap e-(len+k))) R.drew (by exact hfr)
  (jS (kL c.drew_ext ((g4.drop off).take (len*z))) (by rw[show(Builtin.zeroCells zv.cells k).toList=(List.replicate k zv.cells.toList).flatten from hcell];exact kL c.drew_ext zr))
  (λx hx=>by
    rcases qe.1 hx with hx|hx;exact g5 x (qT (qH hx));rw[show(Builtin.zeroCells zv.cells k).toList=(List.replicate k zv.cells.toList).flatten from hcell]at hx;exact z1 x hx)
  (λi x hx=>by
    have hlt:=(qo.1 hx).1;rw[jp (by simpa using hlt)];rw[<-Array.getElem?_toList];simpa using hx) Ty.none
 have En:=c.drew_ext.trans (c.drew.alloc_ext n (.cells (((vs.drop off).take (len*z)).toArray++Builtin.zeroCells zv.cells k++Builtin.zeroCells zv.cells (grownCap c.w (len+k) cap e-(len+k))) e) (by exact hfr));have hcap2:len+k<=grownCap c.w (len+k) cap e:=by unfold grownCap;exact Nat.le_add_right _ _
 refine⟨.slice (some ⟨c.w.heap.size,0,none⟩) (len+k) (grownCap c.w (len+k) cap e),.sl n 0 z (len+k) false,_,n+1,_,Bi (P:=P) (ev:=ev) ho _ _ _ λc2=>?_,?_,Rn,?_,⟨En,by omega,λj hj=>?_⟩,hK⟩;simp only[builtin,Sem.run_bind,List.map_toArray,qu,qS,hu,hvy];rw[hr];rfl;rw[V];refine⟨c.w.heap.size,0,grownCap c.w (len+k) cap e,by simp[Cx.alloc,Cx.drew,GG],by simp,hcap2,by simp,?_⟩;have e6:(len+k)*z+(grownCap c.w (len+k) cap e-(len+k))*z=grownCap c.w (len+k) cap e*z:=by rw[<-jB];congr 1;omega
 have e8:len*z+k*z=(len+k)*z:=by rw[jB]
 have e7:rm (c.drew.alloc n (.cells (((vs.drop off).take (len*z)).toArray++Builtin.zeroCells zv.cells k++Builtin.zeroCells zv.cells (grownCap c.w (len+k) cap e-(len+k))) e)).w c.w.heap.size =
  (((vs.drop off).take (len*z)).toArray++Builtin.zeroCells zv.cells k++Builtin.zeroCells zv.cells (grownCap c.w (len+k) cap e-(len+k))).size:=by
  simp[rm,Cx.alloc,Cx.drew,Bk,GG]
 rw[e7];simp only[Array.size_append,List.size_toArray,hul,Builtin.zeroCells,Array.size_map,Array.size_range,hzsize];omega;intro j hj;have:j≠n:=by omega
 simp[Cx.alloc,Cx.drew,this];exact F j (by omega);have:j≠n:=by omega
 simp[Cx.alloc,Cx.drew,this]
def ZQ (o:Oper):Bool:=match o.op with|.call { callee:=.value (.func f),.. }=>f==183|_=>false
def Jk (E:B6) (P:Program) (ops:Array Oper) (Q:SA->Hp->Nat->Prop):List Oper->SA->Hp->Nat->Prop
 | [],sa,h,n=>Q sa h n
 | o::rest,sa,h,n=>o.guard=none/\
  if ZQ o=true then EI E P (Gp sa) o h n λv h' n'=>Jk E P ops Q rest (EB sa o.dst v) h' n' else Ke E P o sa h n λv h' n'=>Jk E P ops Q rest (EB sa o.dst v) h' n'
variable {N : Nat} {ops : Array Oper}
theorem Kc {Q:SA->Hp->Nat->Prop} (m:dO) (s:∀sa h n,Q sa h n->m .normal sa h n):∀(l:List Oper) (sa:SA) (h:Hp) (n n0:Nat) (c0 c:Cx) (a:Act),(∀o∈l,o.dst.all (· < N)=true)->
 Jk E P ops Q l sa h n->E.inv c->Bn h c->Fr n c->FR E N sa c a->Fq n0 c0 n c->wpListIn E.fc 0 P ops (Sl E N n0 c0 m) l a c.w
 | [],sa,h,n,n0,c0,c,a,_,H,I,R,F,A,X=>⟨sa,h,n,c,s _ _ _ H,rfl,R,F,A,X⟩
 | o :: rest, sa, h, n, n0, c0, c, a, hd, H, I, R, F, A, X => by
  have q:∀d,o.dst=some d->d<N:=λd e=>by have:=hd o (by simp);rw[e]at this;simpa using this
  simp only[Jk]at H;simp only[wpListIn];obtain⟨t,H⟩:=H;have r:Dg ops sa o=some true:=by simp[Dg,t]
  rw[Gz A r,if_pos rfl];have fin:∀v h' n' b u,Jk E P ops Q rest (EB sa o.dst v) h' n'->V b v u->Bn h' b->Fr n' b->Fq n c n' b->wpListIn E.fc 0 P ops (Sl E N n0 c0 m) rest (a.put o.dst u) b.w:=λv h' n' b u j k i g f=>
   Kc m s rest _ h' n' n0 c0 b _ (λo x=>hd o (by simp[x])) j (E.ext f.ext I) i g ((A.ext f.ext).put q k) (X.trans f)
  split at H;obtain⟨p,H⟩:=H;refine⟨λ_ _=>trivial,?_⟩;rw[Oper.semAt_eq _ _ _ p];obtain⟨u,v,h',n',b,y,k,i,g,f,j⟩:=H c a.eval (λ_=>rfl) I R F A.ev;rw[y];exact fin v h' n' b u j k i g f;exact IN H I R F A λv h' n' b u j k i g f=>fin v h' n' b u j k i g f
theorem OR {id:Nat} {Q:dO} {sa:SA} {h:Hp} {n:Nat} (H:Jk E P ops (Q .normal) ops.toList sa h n):Fs E P N (.region id ops false) Q sa h n:=by
 intro b c a I R F A;simp only[Code.dok,jj]at b;exact wpIn_region_list (Kc Q (λ_ _ _ h=>h) _ sa h n n c c a b H I R F A (ke n c))
end
section
variable {E : B6} {evs : Operand → SV} {o : Oper} {h : Hp} {n : Nat} {K : SV → Hp → Nat → Prop}
theorem N5 {f x y:Operand} {ts:Array TypeId} {k j off len cap:Nat} {a b U:SV} {full:Bool} {t:List SV} {ty ty':Option TypeId} (O:o.op=.call { callee:=.value f,args:=#[x,y],argTypes:=ts }) (hf:evs f=.fn (.func 183) [] [])
 (hx:evs x=.sl k 0 3 1 full) (hy:evs y=.slc j off 3 len cap) (z:k≠j) (N:h k=some (.cells [a,b,U] ty)) (M:h j=some (.cells t ty')) (u:t≠[]) (Z:K (.bool false) h n):EI E Tryz.prog evs o h n K:=by
 refine⟨by rw[O];simp,λc ev _ _ R F G=>?_⟩;have g:=G f;have q:=G x;have r:=G y;rw[hf,V]at g;obtain⟨xs,ys,g,L,h2⟩:=g;simp only[VL]at L h2;subst L;subst h2;rw[hx,V]at q;rw[hy,V]at r;obtain⟨bk,J,l,hρk,D,_⟩:=q;obtain⟨s,I,hρj,C,_⟩:=r;obtain⟨b1,s1,m,X,vk,Q,H,p3,p4,_⟩:=R.obj _ _ N;rw[hρk]at Q;cases Q;obtain⟨b2,s2,i,W,T,S,q2,q3,q4,_⟩:=R.obj _ _ M;rw[hρj]at S;cases S;have hb:bk≠s:=by
  rintro rfl;exact z (R.inj k j _ _ bk J I N M hρk hρj)
 have v:i.size≠0:=by
  have hl:=q4.length;have:0<t.length:=qA.2 u;have h0:T[0]? = some T[0]:=qf (by omega);have:=(qp.1 (q3 _ _ h0)).1;omega
 obtain⟨i42,p,Y⟩:=qX.1 (show(Tryz.prog.info? 42).map (·.size)=some 3 by kernel_rfl);have B:∀w,(Go.sizeOf 42).run Tryz.prog w=.ok 3 w:=λw=>by simp[sizeOf,typeInfo,p,Y]
 have A:=Lib.run_overlaps_apart (P:=Tryz.prog) c.w 30 4 42 Tryz.underlying30 3 B ⟨bk,J+0,none⟩ ⟨s,I+off,none⟩ 1 l len cap hb X W m.size i.size (by simp[World.shape?,H]) (by simp[World.shape?,q2]) v (by simp[World.frozen?,H]) (by simp[World.frozen?,H]);have d:=run_callFunc_extern (P:=Tryz.prog) Tryz.func183 (by kernel_rfl) (by kernel_rfl) (by kernel_rfl) (e:=Extern.SlicesOverlaps.overlaps #[30,30] #[4]) (by kernel_rfl) #[.slice (some ⟨bk,J+0,none⟩) 1 l,.slice (some ⟨s,I+off,none⟩) len cap] c.w;rw[A]at d;refine⟨.bool false,.bool false,h,n,c,?_,by rw[V],R,F,ke n c,Z⟩;simp only[Result.andThen_ok]at d;simp[execOp,O,resolve,Deferred.ofValue,g,invoke,D,C];simpa using d
end
theorem Ak.cap {E:B6} {P:Program} {f:FuncId} {us:List SV} {o off z len:Nat} {full:Bool} {h:Hp} {n:Nat} {Q:SV->Hp->Nat->Prop} (H:∀cap,len<=cap->Ak E P f (.slc o off z len cap::us) h n Q):Ak E P f (.sl o off z len full::us) h n Q:=by
 refine⟨(H len (qa _)).1,λc vs I R F A=>?_⟩
 match vs,A with
 | v::vs,A=>
  obtain⟨d,i⟩:=A;rw[V]at d;obtain⟨b,st,cap,e,h2,a,_,g⟩:=d;exact(H cap a).2 c (v::vs) I R F ⟨by rw[V];exact⟨b,st,e,h2,a,g⟩,i⟩
def VH:Tr:=.pure 0 (.pure 1 (.pure 2 (.pure 3 (.pure 5 (.pure 6 (.two 4 7 (.one 7 (.one 8 .nil)) (.one 4 (.one 8 .nil))))))))
def Bu (l:List Ax):List SV:=(l.map Ax.enc).flatMap SV.cells
theorem GS (l:List Ax):(Bu l).length=l.length*3:=by
 have:=A7 (z:=3) (Ax.E.size l);rw[qd]at this;exact this
theorem KF (l:List Ax) (i:Nat) (hi:i<=l.length):(Bu l).take (i*3)=Bu (l.take i):=by
 have a:Bu l=Bu (l.take i)++Bu (l.drop i):=by
  unfold Bu;rw[<-jm,<-qc,ja]
 have h2:=GS (l.take i);rw[a,List.take_append_of_le_length (by rw[h2];simp;omega),qB (by rw[h2];simp;omega)]
theorem NK (l:List Ax) (i:Nat) (hi:i<=l.length):(Bu l).drop (i*3)=Bu (l.drop i):=by
 have a:Bu l=Bu (l.take i)++Bu (l.drop i):=by
  unfold Bu;rw[<-jm,<-qc,ja]
 have h2:=GS (l.take i);rw[a,List.drop_append_of_le_length (by rw[h2];simp;omega),kj (by rw[h2];simp;omega)];rfl
theorem PW (a b:List Ax):Bu (a++b)=Bu a++Bu b:=by unfold Bu;rw[qc,jm]
def F7 (l:List Ax) (i:Nat) (r:Ax):List Ax:=l.take i++r::l.drop i
theorem O7 (l:List Ax) (i:Nat) (r:Ax) (hi:i<=l.length):(F7 l i r).length=l.length+1:=by unfold F7;simp;omega
set_option maxHeartbeats 4000000 in
theorem Xp (l:List Ax) (hl:l.length<=1048576) (i:Nat) (hi:i<l.length) (r:Ax) {H:Hp} {n o k cap:Nat} (G:l.length<=cap) (F:H o=some (.cells (Bu l))) (N:H k=some (.cells [AA r.id,.str r.author,AA r.time])) (J:k≠o):
 BA Tryz.prog 117 [.slc o 0 3 l.length cap,AA i,.sl k 0 3 1 true] H n (λv h' n'=>v=Ao (F7 l i r)/\h'=hset H o none/\n'=n):=by
 refine Db Tryz.func117 rfl λI=>?_;have u:=I.lt;have ht:A9 Tryz.prog 30=some 42:=by simp[go_sem]
 have f:Bh Tryz.prog 42=3:=by simp[go_sem]
 have Y:(BH Tryz.prog 42).storable=true:=by simp[go_sem]
 have M:(BH Tryz.prog 42).cells.length=3:=by simp[go_sem]
 have hb:BY Tryz.prog 42<=65536:=by simp[go_sem]
 have hti:Jl Tryz.prog 3=some .i64:=by simp[go_sem]
 have B:(A9 Tryz.prog 30).isSome=true:=by rw[ht];rfl
 have hC:=GS l;have K:=u o _ F;have hkn:=u k _ N;have w1:=wS i (by omega);have w2:IntKind.i64.wrap ((l.length:Int)+1)=((l.length+1:Nat):Int):=by rw[Cl]<;>omega
 refine Ea 0 [(0,.slc o 0 3 l.length cap),(1,AA i),(2,.sl k 0 3 1 true)] H n (AH ?_) (λm a=>?_);simp[go_sem,IO];subst a;refine Ea 0 [(0,.slc o 0 3 l.length cap),(1,AA i),(2,.sl k 0 3 1 true)] H n (AH ?_) (λm a=>?_);simp[go_sem];refine D6 (j:=o) (off:=0) (z:=3) (len:=l.length) (cap:=cap) (l:=i) (m:=l.length) rfl ht f (by omega) (by simp[go_sem]) (.inr ⟨_,rfl,by simp[go_sem]⟩) (.inl ⟨rfl,rfl⟩) (by omega) G (by omega) ?_;simp[go_sem,IO];subst a;refine Ea 0 [(0,.slc o 0 3 l.length cap),(1,AA i),(2,.sl k 0 3 1 true),(7,AA 1)] H n (AH ?_) (λm a=>?_);simp[go_sem,IO];subst a;refine Ea 0 [(0,.slc o 0 3 l.length cap),(1,AA i),(2,.sl k 0 3 1 true),(7,AA 1)] H n (AH ?_) (λm a=>?_);simp[go_sem,IO];subst a;refine Ea 0 [(0,.slc o 0 3 l.length cap),(1,AA i),(2,.sl k 0 3 1 true),(7,AA 1),(8,AA l.length)] H n (AH ?_) (λm a=>?_);simp[go_sem];refine T6 (j:=o) (off:=0) (z:=3) (len:=l.length) (cap:=cap) rfl B (by simp[go_sem]) ?_;simp[go_sem,IO];subst a;refine Ea 0 [(0,.slc o 0 3 l.length cap),(1,AA i),(2,.sl k 0 3 1 true),(7,AA 1),(8,AA l.length)] H n (AH ?_) (λm a=>?_);have:((i:Int)==l.length)=false:=by simp;omega
 simp[go_sem,IO,this];subst a;have fin:∀(q:Nat) (full:Bool) (h':Hp) (n':Nat),n<=q\/q=o->h' q=some (.cells (Bu (F7 l i r)))->(∀j,j<n->j≠o->h' j=H j)->B8 n h' n' (.sl q 0 3 (l.length+1) full) (λv h' n'=>v=Ao (F7 l i r)/\h'=hset H o none/\n'=n):=λq full h' n' L hc hh=>by
  have hcs:=GS (F7 l i r);have K:hset H o none q=none:=by
   rcases L with L|rfl;rw[AD _ _ (by omega)];exact I.none L;exact AC _ _ _
  refine .inr ⟨1,Ao (F7 l i r),hset H o none,?_,Ax.E.imm _ _ _ _,λj y s=>?_,rfl,rfl,rfl⟩;have:=DV (h':=h') (h:=hset H o none) (k:=0) (z:=3) (es:=(F7 l i r).map Ax.enc) (full:=full) (full':=false) (o:=q) K (by simp) hc (Ax.E.size _);rw[qd,O7 _ _ _ (by omega)]at this;exact this;by_cases C:j=o;subst C;rw[AC]at s;cases s;rw[AD _ _ C]at s;have:=u j y s;exact⟨by rw[hh j this C];exact s,I j y s⟩
 have w:Bu [r]=[AA r.id,.str r.author,AA r.time]:=by simp[Bu,Ax.enc,SV.cells]
 have t:Bu (F7 l i r)=Bu (l.take i)++(Bu [r]++Bu (l.drop i)):=by
  rw[<-PW,<-PW];rfl
 have X:(Bu (l.take i)).length=i*3:=by rw[GS];simp;omega
 have W:(Bu (l.drop i)).length=(l.length-i)*3:=by rw[GS];simp
 have hrl:(Bu [r]).length=3:=by rw[w];rfl
 by_cases hc:cap<l.length+1;refine GI ?_;refine Ea 0 [(0,.slc o 0 3 l.length cap),(1,AA i),(2,.sl k 0 3 1 true),(7,AA 1),(8,AA l.length),(31,.bool true)] H n (AH ?_) (λm a=>?_);simp[go_sem,w2];refine Pf (j:=o) (off:=0) (z:=3) (len:=l.length) (cap:=cap) rfl B (by simp[go_sem]) ?_;have:(cap:Int)<(l.length:Int)+1:=by omega
 simp[go_sem,IO,this];subst a;refine Ah (b:=true) (by simp[go_sem]) ?_;simp only[if_true];obtain⟨Z,hZ⟩:∃Z,Z=(List.replicate (l.length+1-i) (BH Tryz.prog 42).cells).flatten:=⟨_,rfl⟩
 have hZl:Z.length=(l.length+1-i)*3:=by rw[hZ,List.length_flatten];simp[M]
 refine Bo 1 [(0,.sl o 0 3 l.length false),(1,AA i),(2,.sl k 0 3 1 true),(7,AA 1),(9,.sl n 0 3 (l.length+1) false)] (hset H n (some (.cells (Bu (l.take i)++Z)))) (λm=>n+1=m) (AH ?_) (λm a=>?_);simp[go_sem];refine D6 (j:=o) (off:=0) (z:=3) (len:=l.length) (cap:=cap) (l:=0) (m:=i) rfl ht f (by omega) (by simp[go_sem]) (.inl ⟨rfl,rfl⟩) (.inr ⟨_,rfl,by simp[go_sem]⟩) (by omega) (by omega) (by omega) ?_;have w3:IntKind.i64.wrap (((l.length+1:Nat):Int)-i)=((l.length+1-i:Nat):Int):=by rw[Cl]<;>omega
 simp[go_sem,w2,w3,-Int.natCast_add];refine Pe (j:=o) (off:=0) (z:=3) (len:=i) (cap:=cap) (k:=l.length+1-i) (e:=42) rfl ht hti f (by omega) Y M hb (by simp[go_sem]) (by simp[go_sem]) (by omega) (by omega) (by omega) F (by omega) ?_;rw[<-hZ];have C:((Bu l).drop 0).take (i*3)=Bu (l.take i):=by rw[kn];exact KF l i (by omega)
 have s:i+(l.length+1-i)=l.length+1:=by omega
 rw[C,s];simp[go_sem,Fz];subst a;have p:¬((i:Int)=l.length+1):=by omega
 have d:(i:Int)<=l.length+1:=by omega
 have g:∀(y:Option BT),hset H n y k=some (.cells [AA r.id,.str r.author,AA r.time]):=λy=>by rw[AD _ _ (by omega)];exact N
 have S:∀(y:Option BT),hset H n y o=some (.cells (Bu l)):=λy=>by rw[AD _ _ (by omega)];exact F
 refine Bo 0 [(0,.sl o 0 3 l.length false),(1,AA i),(7,AA 1),(9,.sl n 0 3 (l.length+1) false)] (hset H n (some (.cells (Bu (l.take i)++(Bu [r]++Z.drop 3))))) (λm=>n+1=m) (AH ?_) (λm a=>?_);have c:Nat.min 1 (l.length+1-i)=1:=jO (by omega);have h0:¬(l.length+1-i=0):=by omega
 have D:i*3+3<=i*3+Z.length:=by omega
 have T:(Bu (l.take i)).drop (i*3+3)=[]:=kj (by omega);simp[go_sem,p,d,g,AC,c,X,D,IO,AS,List.drop_append,w,T];subst a;refine AT 0 (α:=Unit) (λ_=>[(9,.sl n 0 3 (l.length+1) false)]) (λ_=>hset H n (some (.cells (Bu (F7 l i r))))) (λ_ m=>n+1=m) (BX VH rfl (by kernel_rfl) (by kernel_rfl) ?_) (λ_ m a=>?_);have V:¬((i:Int)=l.length):=by omega
 have U:(i:Int)<=l.length:=by omega
 have O:(i:Int)+1<=l.length+1:=by omega
 have c:Nat.min (l.length-i) (l.length-i)=l.length-i:=Nat.min_self _;have h0:¬(l.length-i=0):=by omega
 have h1:((i:Int)+1).toNat=i+1:=by omega
 have h2:(0:Int)<=(i:Int)+1:=by omega
 have h3:((l.length:Int)+1-((i:Int)+1)).toNat=l.length-i:=by omega
 have h4:i*3+(l.length-i)*3<=(Bu l).length:=by omega
 have D:((Bu l).drop (i*3)).take ((l.length-i)*3)=Bu (l.drop i):=by rw[NK l i (by omega)];exact qB (by omega)
 have P:(Bu (l.take i)++(Bu [r]++Z.drop 3)).take ((i+1)*3)=Bu (l.take i)++Bu [r]:=by
  rw[<-qn];exact List.take_left' (by rw[qt];omega)
 have R:(Bu (l.take i)++(Bu [r]++Z.drop 3)).drop ((i+1)*3+(l.length-i)*3)=[]:=kj (by simp only[qt,List.length_drop];omega);have h8:(i+1)*3+(l.length-i)*3<=(Bu (l.take i)++(Bu [r]++Z.drop 3)).length:=by simp only[qt,List.length_drop];omega
 have h9:(Bu (l.drop i)).take ((l.length-i)*3)=Bu (l.drop i):=qB (by omega);rw[t,<-qn];generalize(Bu (l.take i)++(Bu [r]++Z.drop 3))=A at *;simp[go_sem,VH,w1,V,U,O,h1,h2,h3,h4,D,P,R,h8,h9,S,AC,c,h0,W,IO,AS];subst a;refine AH ?_;simp[go_sem];exact fin n false _ _ (.inl (qa n)) (AC _ _ _) λj hj _=>AD _ _ (by omega);refine Ea 0 [(0,.slc o 0 3 l.length cap),(1,AA i),(2,.sl k 0 3 1 true),(7,AA 1),(8,AA l.length)] H n ?_ (λm a=>?_);refine Ea 0 [(0,.slc o 0 3 l.length cap),(1,AA i),(2,.sl k 0 3 1 true),(7,AA 1),(8,AA l.length),(31,.bool false)] H n (AH ?_) (λm a=>?_);simp[go_sem,w2];refine Pf (j:=o) (off:=0) (z:=3) (len:=l.length) (cap:=cap) rfl B (by simp[go_sem]) ?_;have:¬((cap:Int)<(l.length:Int)+1):=by omega
 simp[go_sem,IO,this];subst a;refine AH ?_;simp[go_sem,IO];subst a;refine Ea 0 [(0,.slc o 0 3 (l.length+1) cap),(1,AA i),(2,.sl k 0 3 1 true),(7,AA 1),(8,AA l.length)] H n (AH ?_) (λm a=>?_);simp[go_sem,w2,-Int.natCast_add];refine D6 (j:=o) (off:=0) (z:=3) (len:=l.length) (cap:=cap) (l:=0) (m:=l.length+1) rfl ht f (by omega) (by simp[go_sem]) (.inl ⟨rfl,rfl⟩) (.inr ⟨_,rfl,by simp[go_sem]⟩) (by omega) (by omega) (by omega) ?_;simp[go_sem,IO];subst a;refine GI ?_;refine AT 0 (α:=Unit) (λ_=>[(0,.slc o 0 3 (l.length+1) cap),(1,AA i),(2,.sl k 0 3 1 true),(7,AA 1),(68,.bool true)]) (λ_=>H) (λ_ m=>n=m) (OR ?_) (λ_ m a=>?_);simp[go_sem,Jk,ZQ,w1,-Int.natCast_add];refine D6 (j:=o) (off:=0) (z:=3) (len:=l.length+1) (cap:=cap) (l:=i+1) (m:=l.length+1) rfl ht f (by omega) (by simp[go_sem]) (.inr ⟨_,rfl,by simp[go_sem]⟩) (.inl ⟨rfl,rfl⟩) (by omega) (by omega) (by omega) ?_;simp[go_sem];refine N5 (k:=k) (j:=o) (off:=(i+1)*3) (len:=l.length-i) (cap:=cap-(i+1)) (full:=true) rfl (by simp[go_sem]) (by simp[go_sem]) (by simp[go_sem]) J N F (λe=>by rw[e]at hC;simp at hC;omega) ?_;simp[go_sem,IO];subst a;refine Ah (b:=true) (by simp[go_sem]) ?_;simp only[if_true];have g1:(Bu l).take ((i+1)*3)=Bu (l.take (i+1)):=KF l (i+1) (by omega);have g2:((Bu l).drop (i*3)).take ((l.length-i)*3)=Bu (l.drop i):=by rw[NK l i (by omega)];exact qB (by omega)
 have A1:∀{evs:Operand->SV} {x y:Operand} {o':Oper} {Q:SV->Hp->Nat->Prop},o'.op=.call { callee:=.builtin .copy,args:=#[x,y],argTypes:=#[30,30] }->evs x=.slc o ((i+1)*3) 3 (l.length-i) (cap-(i+1))->evs y=.slc o (i*3) 3 (l.length+1-i) (cap-i)->Q (.int .i64 ↑(l.length-i)) (hset H o (some (.cells (Bu (l.take (i+1))++Bu (l.drop i))))) n->EI (B6.plain.call false 0) Tryz.prog evs o' H n Q:=λI hx hy L=>
  SF (k:=l.length-i) I ht f (by omega) hx hy F (Nat.min_eq_right (by omega)) (by omega) (by omega) (by omega) (by rw[g1,g2];exact L)
 refine AT 1 (α:=Unit) (λ_=>[(0,.sl o 0 3 (l.length+1) false),(1,AA i),(2,.sl k 0 3 1 true)]) (λ_=>hset H o (some (.cells (Bu (l.take (i+1))++Bu (l.drop i))))) (λ_ m=>n=m) (BX VH rfl (by kernel_rfl) (by kernel_rfl) ?_) (λ_ m a=>?_);simp[go_sem,VH,w1,-Int.natCast_add];have C:l.length+1-(i+1)=l.length-i:=by omega
 refine⟨?_,?_⟩;refine D6 (j:=o) (off:=0) (z:=3) (len:=l.length+1) (cap:=cap) (l:=i+1) (m:=l.length+1) rfl ht f (by omega) (by simp[go_sem]) (.inr ⟨_,rfl,by simp[go_sem]⟩) (.inl ⟨rfl,rfl⟩) (by omega) (by omega) (by omega) ?_;simp[go_sem];refine D6 (j:=o) (off:=0) (z:=3) (len:=l.length+1) (cap:=cap) (l:=i) (m:=l.length+1) rfl ht f (by omega) (by simp[go_sem]) (.inr ⟨_,rfl,by simp[go_sem]⟩) (.inl ⟨rfl,rfl⟩) (by omega) (by omega) (by omega) ?_;simp[go_sem];refine A1 rfl (by simp[go_sem]) (by simp[go_sem]) ?_;simp[go_sem,Fz];refine D6 (j:=o) (off:=0) (z:=3) (len:=l.length+1) (cap:=cap) (l:=i) (m:=l.length+1) rfl ht f (by omega) (by simp[go_sem]) (.inr ⟨_,rfl,by simp[go_sem]⟩) (.inl ⟨rfl,rfl⟩) (by omega) (by omega) (by omega) ?_;simp[go_sem,-Int.natCast_add];refine D6 (j:=o) (off:=0) (z:=3) (len:=l.length+1) (cap:=cap) (l:=i+1) (m:=l.length+1) rfl ht f (by omega) (by simp[go_sem]) (.inr ⟨_,rfl,by simp[go_sem]⟩) (.inl ⟨rfl,rfl⟩) (by omega) (by omega) (by omega) ?_;simp[go_sem];refine A1 rfl (by simp[go_sem]) (by simp[go_sem]) ?_;simp[go_sem,Fz];subst a;have g3:(Bu (l.take (i+1))).length=(i+1)*3:=by rw[GS];simp;omega
 refine Ea 0 [(0,.sl o 0 3 (l.length+1) false)] (hset H o (some (.cells (Bu (F7 l i r))))) n (AH ?_) (λm a=>?_);have p:¬((i:Int)=l.length+1):=by omega
 have d:(i:Int)<=l.length+1:=by omega
 have g:∀(y:Option BT),hset H o y k=some (.cells [AA r.id,.str r.author,AA r.time]):=λy=>by rw[AD _ _ J];exact N
 have c:Nat.min 1 (l.length+1-i)=1:=jO (by omega);have h0:¬(l.length+1-i=0):=by omega
 have D:i*3+3<=(Bu (l.take (i+1))++Bu (l.drop i)).length:=by rw[qt];omega
 have O:(Bu (l.take (i+1))++Bu (l.drop i)).take (i*3)=Bu (l.take i):=by
  rw[List.take_append_of_le_length (by omega),KF _ _ (by simp;omega),List.take_take,jO (by omega)]
 have R:(Bu (l.take (i+1))++Bu (l.drop i)).drop (i*3+3)=Bu (l.drop i):=List.drop_left' (by omega);rw[t,w];generalize Bu (l.take (i+1))++Bu (l.drop i)=A at *;simp[go_sem,p,d,g,AC,c,D,O,R,IO,AS];subst a;refine AH ?_;simp[go_sem];exact fin o false _ _ (.inr rfl) (AC _ _ _) λj hj e=>AD _ _ e
theorem TZ (l:List Ax) (r:Ax):F7 l l.length r=l++[r]:=by unfold F7;simp
theorem TE (l:List Ax) (b:l≠[]) (hl:l.length<=1048576) (i:Nat) (hi:i<=l.length) (r:Ax) {H:Hp} {n o k:Nat} {full:Bool} (c:H o=some (.cells ((l.map Ax.enc).flatMap SV.cells))) (d:H k=some (.cells [AA r.id,.str r.author,AA r.time])) (a:o≠k):
 BA Tryz.prog 117 [.sl o 0 3 l.length full,AA i,.sl k 0 3 1 true] H n (λv h' n'=>v=Ao (F7 l i r)/\h'=hset H o none/\n'=n):=by
 rcases ji i l.length with h|h;exact Ak.cap λcap hc=>Xp l hl i h r hc c d a.symm;have:i=l.length:=by omega
 subst this;have:=bQ l b hl r (full:=full) (n:=n) c d a;rw[TZ];exact this
set_option maxHeartbeats 2000000 in
theorem Xm (l:List Ax) (b:l≠[]) (hl:l.length<256) (r:Ax) (h0:Cd l=0) (x:CL r=0) (i:Nat) (hi:i<=l.length) (hb:BI (Gr l r.id) l.length=(i,false)):PC 45 [Ao l,r.enc] (.tup [Ao (F7 l i r),AA 0]):=by
 intro h n;refine Db Tryz.func45 rfl λu=>?_;have f:=u.lt;refine AY 1 [(0,Ao l),(3,.iptr [AA r.id,.str r.author,AA r.time])] h n ?_ (λm c=>?_);simp[go_sem,Ax.enc,IO];exact⟨AV (AW f (qa _)) (AC _ _ _),AJ f AB⟩;refine Bc 0 [(0,Ao l),(3,.iptr [AA r.id,.str r.author,AA r.time])] h n (AH ?_) (λm c=>?_);simp[go_sem];refine qw (bI l (by omega)) ?_;rw[h0];simp[go_sem,IO,c];refine Bc 0 [(0,Ao l),(3,.iptr [AA r.id,.str r.author,AA r.time])] h n (AH ?_) (λm c=>?_);simp[go_sem];refine qw (by simpa[Ax.enc]using W9 r) ?_;rw[x];simp[go_sem,IO,c];refine AY 0 [(0,Ao l),(3,.iptr [AA r.id,.str r.author,AA r.time]),(8,AA i),(9,.bool false)] h n ?_ (λm c=>?_);simp[go_sem];refine qw (bJ l (by omega) r.id) ?_;rw[hb];simp[go_sem,IO,c];refine Bc 0 [(0,Ao l),(3,.iptr [AA r.id,.str r.author,AA r.time]),(8,AA i)] h n (AH ?_) (λm c=>?_);have:¬(256:Int)<=l.length:=by omega
 simp[go_sem,IO,c,this];refine AT 0 (α:=Unit) (λ_=>[(4,Ao (F7 l i r)),(5,AA 0)]) (λ_=>h) (λ_ m=>n<=m) (BX VD rfl (by kernel_rfl) (by kernel_rfl) ?_) (λ_ m c=>?_);have a:∀j y,h j=some y->j<m:=λj y e=>by have:=f j y e;omega
 simp[go_sem,VD];refine⟨?_,?_,?_⟩;refine LC.use (YW l (by omega)) ?_;rintro v h' n' ⟨s,g,⟨d,_⟩|⟨o,full,d,t,rfl,p⟩⟩;exact absurd (by simpa using d) b;simp[go_sem];have k:o≠n':=by omega
 refine qC (TE l b (by omega) i hi r (by rw[AD _ _ k];exact p) (AC _ _ _) k) ?_;rintro v q w ⟨rfl,rfl,rfl⟩;simp[go_sem,IO];exact⟨by omega,AJ (λj z e=>by have:=a j z e;omega) (AJ (λj z e=>by have:=a j z e;omega) g)⟩;refine LC.use (YW l (by omega)) ?_;rintro v h' n' ⟨s,g,⟨d,_⟩|⟨o,full,d,t,rfl,p⟩⟩;exact absurd (by simpa using d) b;simp[go_sem];have k:o≠n':=by omega
 refine qC (TE l b (by omega) i hi r (by rw[AD _ _ k];exact p) (AC _ _ _) k) ?_;rintro v q w ⟨rfl,rfl,rfl⟩;simp[go_sem,IO];exact⟨by omega,AJ (λj z e=>by have:=a j z e;omega) (AJ (λj z e=>by have:=a j z e;omega) g)⟩;refine LC.use (YW l (by omega)) ?_;rintro v h' n' ⟨s,g,⟨d,_⟩|⟨o,full,d,t,rfl,p⟩⟩;exact absurd (by simpa using d) b;simp[go_sem];refine qC (TE l b (by omega) i hi r p (g _ _ (AC _ _ _)) (by omega)) ?_;rintro v q w ⟨rfl,rfl,rfl⟩;simp[go_sem,IO];exact⟨by omega,AJ (λj z e=>by have:=a j z e;omega) λj z e=>g _ _ (AJ a AB j z e)⟩;refine AH ?_;simp[go_sem];exact Ay u AB rfl (by rw[closed,closedL,closedL,Ax.E.imm];rfl)
def CS (l:List Az):List SV:=(l.map Az.enc).flatMap SV.cells
theorem Ej (d:Az) (l:List Az):CS (d::l)=AA d.rev::AA d.move::CS l:=by simp[CS,Az.enc,SV.cells]
theorem Ol (l:List Az):(CS l).length=l.length*2:=by
 have:=A7 (z:=2) (Az.E.size l);rw[qd]at this;exact this
theorem Mg (l:List Az):∀i,(CS l).drop (i*2)=CS (l.drop i):=by
 induction l with
 | nil=>intro i;simp[CS]
 | cons d l ih=>
  intro i;cases i with
  | zero=>simp
  | succ i=>rw[Ej,show(i+1)*2=i*2+2 by omega,List.drop_succ_cons,List.drop_succ_cons,ih i,List.drop_succ_cons]
theorem Rj (l:List Az):∀i,(CS l).take (i*2)=CS (l.take i):=by
 induction l with
 | nil=>intro i;simp[CS]
 | cons d l ih=>
  intro i;cases i with
  | zero=>simp[CS]
  | succ i=>rw[Ej,show(i+1)*2=i*2+2 by omega,jl,jl,ih i,jl,Ej]
theorem TG (a b:List Az):CS (a++b)=CS a++CS b:=by unfold CS;rw[qc,jm]
def W7:Az:=⟨0,0⟩
def HK (l:List Az) (i:Nat):Az:=l.getD i W7
theorem Q4 (l:List Az) (i:Nat) (hi:i<l.length):(CS l).drop (i*2)=AA (HK l i).rev::AA (HK l i).move::CS (l.drop (i+1)):=by
 have e:HK l i=l[i]:=by simp[HK,List.getD,hi]
 rw[Mg,qG hi,Ej,e]
theorem Om (l:List Az) (i:Nat) (hi:i<l.length) (d:Az):(CS l).take (i*2)++(AA d.rev::AA d.move::(CS l).drop (i*2+2))=CS (l.set i d):=by
 rw[show i*2+2=(i+1)*2 by omega,Mg,Rj,ku,if_pos hi,TG,Ej]
def IQ (l:List Az) (j:Nat):List Az:=(l.set (j+1) (HK l j)).set j (HK l (j+1))
def E8 (l:List Az):Nat->List Az
 | 0=>l
 | j+1=>if(HK l (j+1)).rev<(HK l j).rev then E8 (IQ l j) j else l
def Cz (l:List Az):Nat->List Az
 | 0=>l
 | i+1=>E8 (Cz l i) i
theorem KQ (l:List Az) (j:Nat):(IQ l j).length=l.length:=by simp[IQ]
theorem NR:∀(j:Nat) (l:List Az),(E8 l j).length=l.length
 | 0,l=>rfl
 | j+1,l=>by rw[E8];split;rw[NR j,KQ];rfl
theorem HH (l:List Az):∀i,(Cz l i).length=l.length
 | 0=>rfl
 | i+1=>by rw[Cz,NR,HH l i]
theorem Zr (a b:Az):PC 120 [a.enc,b.enc] (AA (Do a.rev b.rev)):=by
 intro h n;refine gq Tryz.func120 rfl λc=>?_;have d:∀y z,∀o x,h o=some x->hset (hset h n y) (n+1) z o=some x:=λy z=>AQ c (by omega) (AQ c (qa _) AB);have q:n≠n+1:=by omega
 simp[go_sem,Az.enc,AC,AD];refine(Rg a.rev b.rev).use ?_;simp[go_sem];exact Ay c (d _ _) rfl rfl
set_option maxHeartbeats 4000000 in
theorem bg (l:List Az) (hl0:1<=l.length) (hl:l.length<=1048576) {H:Hp} {n o:Nat} {full:Bool} (P:H o=some (.cells (CS l))):
 BA Tryz.prog 254 [.sl o 0 2 l.length full,AA 0,AA l.length,.fn (.func 120) [] []] H n (λv h' n'=>v=.tup []/\h'=hset H o (some (.cells (CS (Cz l l.length))))/\n'=n):=by
 refine Db Tryz.func254 rfl λR=>?_;have x:=R.lt;have E:=x o _ P;have z:∀L:List Az,closedL n (CS L)=true:=λL=>by
  induction L with
  | nil=>rfl
  | cons d L ih=>rw[Ej];simp[closedL,closed,ih]
 obtain⟨G,k⟩:∃G:List Az->Hp,∀L,G L=hset H o (some (.cells (CS L))):=⟨_,λ_=>rfl⟩
 have p:∀L,G L o=some (.cells (CS L)):=λL=>by rw[k,AC]
 have w:∀L t,hset (G L) o (some (.cells (CS t)))=G t:=λL t=>by rw[k,k,AS]
 have r:∀L,Es (G L) n:=λL j y e=>by
  rw[k]at e;simp only[hset]at e;split at e;subst_vars;cases e;exact⟨E,z L⟩;exact R j y e
 have u:G l=H:=by rw[k];funext j;simp only[hset];split;subst_vars;exact P.symm;rfl
 refine AY 0 [(0,.sl o 0 2 l.length full),(1,AA 0),(2,AA l.length),(3,.fn (.func 120) [] []),(8,AA 1)] (G l) n ?_ (λm B=>?_);rw[u];simp[go_sem,IO,show IntKind.i64.wrap 1=1 from by decide];refine AR (BG 0 (α:=Nat) (λi=>[(0,.sl o 0 2 l.length full),(1,AA 0),(2,AA l.length),(3,.fn (.func 120) [] []),(8,AA i)]) (λi=>G (Cz l i)) (λi m=>1<=i/\i<=l.length/\n<=m) (λi=>l.length-i) 1 ⟨by omega,by omega,B⟩ ?_ AB ?_);simp[Ai,IO];rintro i m ⟨hi1,hi2,B⟩;have f:=HH l i;by_cases A:i<l.length
 . have w1:=wS i (by omega);have s:Cz l (i+1)=E8 (Cz l i) i:=rfl;generalize Cz l i=S at f s;refine Bc 0 [(0,.sl o 0 2 l.length full),(1,AA 0),(2,AA l.length),(3,.fn (.func 120) [] []),(8,AA i)] (G S) n (AH ?_) (λm2 c=>?_);simp[go_sem,IO,A,B];refine AT 0 (α:=Unit) (λ_=>[(0,.sl o 0 2 l.length full),(1,AA 0),(2,AA l.length),(3,.fn (.func 120) [] []),(8,AA i)]) (λ_=>G (E8 S i)) (λ_ m2=>n<=m2) (AR ?_) (λ_ m2 c=>?_)
   . refine AY 0 [(0,.sl o 0 2 l.length full),(1,AA 0),(2,AA l.length),(3,.fn (.func 120) [] []),(8,AA i),(9,AA i)] (G S) n ?_ (λm2 c=>?_);simp[go_sem,IO,c];refine AR (BG 0 (α:=Nat×List Az) (λq=>[(0,.sl o 0 2 l.length full),(1,AA 0),(2,AA l.length),(3,.fn (.func 120) [] []),(8,AA i),(9,AA q.1)]) (λq=>G q.2) (λq m=>q.1<=i/\q.2.length=l.length/\E8 q.2 q.1=E8 S i/\n<=m) (λq=>q.1) (i,S) ⟨by omega,f,rfl,c⟩ ?_ AB ?_);simp[Ai,IO];rintro⟨j,L⟩ m3 ⟨T,Q,g,C⟩;dsimp only at T Q g ⊢;refine GI ?_;cases j with
     | zero=>
      rw[E8]at g;refine Bc 0 [(0,.sl o 0 2 l.length full),(1,AA 0),(2,AA l.length),(3,.fn (.func 120) [] []),(8,AA i),(34,.bool false)] (G L) n (AH ?_) (λm2 c=>?_)
      . simp[go_sem]
        repeat first|refine nq ?_|refine sq ?_|refine aq ?_
        simp[go_sem,C]
      refine Ah (b:=false) (by simp[go_sem]) (AH ?_);simp[go_sem,IO];rw[<-g];exact⟨c,AB⟩
     | succ j=>
      have w2:IntKind.i64.wrap (((j+1:Nat):Int)-1)=(j:Int):=by rw[Cl]<;>omega
      have w3:IntKind.i64.wrap (j:Int)=j:=by rw[Cl]<;>omega
      have M:=Q4 L (j+1) (by omega);have N:=Q4 L j (by omega);have hLl:=Ol L;refine Bc 0 [(0,.sl o 0 2 l.length full),(1,AA 0),(2,AA l.length),(3,.fn (.func 120) [] []),(8,AA i),(9,AA (j+1:Nat)),(34,.bool (decide ((HK L (j+1)).rev<(HK L j).rev)))] (G L) n (AH ?_) (λm2 c=>?_)
      . have f1:(j:Int)+1<l.length:=by omega
        have f2:(j:Int)<l.length:=by omega
        have f3:(0:Int)<=(j:Int)+1:=by omega
        have f4:(0:Int)<(j:Int)+1:=by omega
        have f5:((j:Int)+1).toNat=j+1:=by omega
        have K:((CS L).drop ((j+1)*2)).take 2=[AA (HK L (j+1)).rev,AA (HK L (j+1)).move]:=by rw[M];rfl
        have t2:((CS L).drop (j*2)).take 2=[AA (HK L j).rev,AA (HK L j).move]:=by rw[N];rfl
        have I:(j+1)*2+2<=(CS L).length:=by omega
        have J:j*2+2<=(CS L).length:=by omega
        simp[go_sem,w3,p,f1,f2,f3,f4,f5,K,t2,I,J]
        repeat first|refine nq ?_|refine sq ?_|refine aq ?_
        refine jw _ _ _ _ _ _ (by simpa[Az.enc]using Zr (HK L (j+1)) (HK L j)) ?_;simp[go_sem]
        repeat first|refine nq ?_|refine sq ?_|refine aq ?_
        have hc:∀a b:Int,decide (Do a b<0)=decide (a<b):=λa b=>by
         unfold Do;by_cases O:a<b;simp[O];by_cases h2:b<a<;>simp[O,h2]
        rw[hc];exact IO
      by_cases hc:(HK L (j+1)).rev<(HK L j).rev
      . refine Ah (b:=true) (by simp[go_sem,hc]) ?_;rw[if_pos rfl];refine Gv ?_;rw[FB];have h:E8 (IQ L j) j=E8 S i:=by rw[E8,if_pos hc]at g;exact g
        refine AT 0 (α:=Unit) (λ_=>[(0,.sl o 0 2 l.length full),(1,AA 0),(2,AA l.length),(3,.fn (.func 120) [] []),(8,AA i),(9,AA (j+1:Nat))]) (λ_=>G (IQ L j)) (λ_ m2=>n<=m2) (AR (AH ?_)) (λ_ m4 D=>?_)
        . have f1:(j:Int)+1<l.length:=by omega
          have f2:(j:Int)<l.length:=by omega
          have f3:(0:Int)<=(j:Int)+1:=by omega
          have f5:((j:Int)+1).toNat=j+1:=by omega
          have K:((CS L).drop ((j+1)*2)).take 2=[AA (HK L (j+1)).rev,AA (HK L (j+1)).move]:=by rw[M];rfl
          have t2:((CS L).drop (j*2)).take 2=[AA (HK L j).rev,AA (HK L j).move]:=by rw[N];rfl
          have I:(j+1)*2+2<=(CS L).length:=by omega
          have J:j*2+2<=(CS L).length:=by omega
          have s1:=Om L (j+1) (by omega) (HK L j);have s2:=Om (L.set (j+1) (HK L j)) j (by rw[List.length_set];omega) (HK L (j+1));have U:j*2+2<=(CS (L.set (j+1) (HK L j))).length:=by rw[Ol,List.length_set];omega
          have F:(L.set (j+1) (HK L j)).set j (HK L (j+1))=IQ L j:=rfl;rw[F]at s2;generalize L.set (j+1) (HK L j)=L2 at *;simp[go_sem,w3,p,f1,f2,f3,f5,K,t2,I,J,s1,s2,U,w]
          repeat first|refine nq ?_|refine sq ?_|refine aq ?_
          exact c
        refine AH ?_;simp[go_sem,w2,IO,-Int.natCast_add];exact⟨j,by omega,IQ L j,⟨by omega,by rw[KQ,Q],h,D⟩,IO,AB⟩
      refine Ah (b:=false) (by simp[go_sem,hc]) (AH ?_);have h:L=E8 S i:=by rw[E8,if_neg hc]at g;exact g
      simp[go_sem,IO];rw[<-h];exact⟨c,AB⟩
   refine AH ?_;simp[go_sem,w1,IO,-Int.natCast_add];exact⟨i+1,by omega,⟨by omega,by omega⟩,IO,by rw[s];exact AB⟩
 have:i=l.length:=by omega
 subst this;refine AH ?_;simp[go_sem];have:=B9 (r (Cz l l.length)) (n':=m) (v:=.tup []) (by simp[closed,closedL]) AB;rw[k]at this ⊢;exact this
theorem bb (l:List Az) (g:1<=l.length) (hl:l.length<20) {H:Hp} {n o:Nat} {full:Bool} (i:H o=some (.cells (CS l))):
 BA Tryz.prog 188 [.sl o 0 2 l.length full,AA l.length,.fn (.func 120) [] []] H n (λv h' n'=>v=.tup []/\h'=hset H o (some (.cells (CS (Cz l l.length))))/\n'=n):=by
 refine Db Tryz.func188 rfl λk=>?_;have c:=k.lt;have h:=c o _ i;have f:∀L:List Az,closedL n (CS L)=true:=λL=>by
  induction L with
  | nil=>rfl
  | cons d L ih=>rw[Ej];simp[closedL,closed,ih]
 have b:Es (hset H o (some (.cells (CS (Cz l l.length))))) n:=λj y e=>by
  simp only[hset]at e;split at e;subst_vars;cases e;exact⟨h,f _⟩;exact k j y e
 refine AY 0 [(0,.sl o 0 2 l.length full),(1,AA l.length),(2,.fn (.func 120) [] []),(6,AA 20)] H n ?_ (λm a=>?_);simp[go_sem,IO];refine AY 0 [(0,.sl o 0 2 l.length full),(1,AA l.length),(2,.fn (.func 120) [] []),(6,AA 20),(7,AA 0),(8,AA 20)] H n ?_ (λm a=>?_);simp[go_sem,IO,a];refine Bc 0 [(0,.sl o 0 2 l.length full),(1,AA l.length),(2,.fn (.func 120) [] []),(6,AA 20),(7,AA 0),(8,AA 20)] H n (AH ?_) (λm a=>?_);simp[go_sem];refine An 0 (α:=Unit) (λ_=>[(0,.sl o 0 2 l.length full),(1,AA l.length),(2,.fn (.func 120) [] []),(6,AA 20),(7,AA 0),(8,AA 20)]) (λ_=>H) (λ_ m=>n<=m) (λ_=>0) () a ?_ AB ?_;simp[Ai,IO];rintro _ m a;have:¬((20:Int)<=l.length):=by omega
 simp[go_sem,IO,a,this];refine Bc 0 [(1,AA l.length),(6,AA 20)] (hset H o (some (.cells (CS (Cz l l.length))))) n (AH ?_) (λm a=>?_);simp[go_sem];refine qC (bg l g (by omega) i) ?_;rintro v H' n' ⟨rfl,rfl,rfl⟩;simp[go_sem,IO,a];refine AH ?_;simp[go_sem];refine An 0 (α:=Unit) (λ_=>[(1,AA l.length),(6,AA 20)]) (λ_=>hset H o (some (.cells (CS (Cz l l.length))))) (λ_ m=>n<=m) (λ_=>0) () a ?_ AB ?_;simp[Ai,IO];rintro _ m a;have:¬((20:Int)<l.length):=by omega
 simp[go_sem,this];exact B9 b (by simp[closed,closedL]) AB
theorem bR (l:List Az) (f:1<=l.length) (hl:l.length<20) {H:Hp} {n o:Nat} {full:Bool} (h:H o=some (.cells (CS l))):
 BA Tryz.prog 119 [.sl o 0 2 l.length full,.fn (.func 120) [] []] H n (λv h' n'=>v=.tup []/\h'=hset H o (some (.cells (CS (Cz l l.length))))/\n'=n):=by
 refine Db Tryz.func119 rfl λi=>?_;have b:=i.lt;have g:=b o _ h;have c:∀L:List Az,closedL n (CS L)=true:=λL=>by
  induction L with
  | nil=>rfl
  | cons d L ih=>rw[Ej];simp[closedL,closed,ih]
 have a:Es (hset H o (some (.cells (CS (Cz l l.length))))) n:=λj y e=>by
  simp only[hset]at e;split at e;subst_vars;cases e;exact⟨g,c _⟩;exact i j y e
 refine AH ?_;simp[go_sem];refine qC (bb l f hl h) ?_;rintro v H' n' ⟨rfl,rfl,rfl⟩;simp[go_sem];exact B9 a (by simp[closed,closedL]) AB
def VC:Tr:=.pure 8 (.pure 9 (.one 7 (.one 10 (.one 11 (.one 12 (.one 13 .nil))))))
def trH:Tr:=.pure 0 (.pure 1 (.pure 4 (.pure 5 (.two 2 6 (.two 3 6 (.one 6 VC) (.one 3 VC)) (.one 2 (.one 3 VC))))))
abbrev VJ:BT:=.cells [.imm 0 [] true,AA 0,AA 0,.imm 0 [] true,.imm 0 [] true]
set_option maxHeartbeats 4000000 in
theorem Zg (x:AF) (z:x.sized) {h:Hp} {n:Nat}:BA Tryz.prog 118 [x.enc] h n (λv h' n'=>∃c o1 d b,v=.agg [Af x.props,AA x.ins,AA x.move,c,d]/\HL 2 (x.dels.map Az.enc) c o1 n n'/\HL 4 (x.layers.map Am.enc) d b n n'/\
 (∀j,o1=some j->b≠some j)/\n<=n'/\∀j y,D8 (x.layers.map Am.enc) b (D8 (x.dels.map Az.enc) o1 h) j=some y->h' j=some y):=by
 refine Db Tryz.func118 rfl λI=>?_;have p:=I.lt;have A:n≠n+1:=by omega
 refine BP 0 [(1,.ptr n 0),(2,.ptr (n+1) 0)] (hset (hset h n (some (.cells x.flat))) (n+1) (some VJ)) (λm=>n+2=m) ?_ (λm r=>?_);simp[go_sem,AF.enc,AF.flat,IO];subst r;refine BP 0 [(1,.ptr n 0),(2,.ptr (n+1) 0)] (hset (hset h n (some (.cells x.flat))) (n+1) (some VJ)) (λm=>n+2<=m) ?_ (λm r=>?_);simp[go_sem,AF.flat,AD _ _ A,AC];refine(V3 _ z.props).use ?_;simp[go_sem,AD _ _ A,AC,IO];intro j y;simp only[hset];grind;refine AT 0 (α:=SV×Option Nat×SV×Option Nat) (λ_=>[(1,.ptr n 0),(2,.ptr (n+1) 0)])
  (λa=>D8 (x.layers.map Am.enc) a.2.2.2 (D8 (x.dels.map Az.enc) a.2.1 (hset (hset h n (some (.cells [Af x.props,AA x.ins,AA x.move,a.1,a.2.2.1]))) (n+1) (some VJ))))
  (λa m'=>HL 2 (x.dels.map Az.enc) a.1 a.2.1 (n+2) m'/\HL 4 (x.layers.map Am.enc) a.2.2.1 a.2.2.2 (n+2) m'/\(∀j,a.2.1=some j->a.2.2.2≠some j)/\n+2<=m') (BX trH rfl (by kernel_rfl) (by kernel_rfl) ?_) ?_
 . have i:hset (hset h n (some (.cells x.flat))) (n+1) (some VJ) n=some (.cells [Af x.props,AA x.ins,AA x.move,AP x.dels,AL x.layers]):=by rw[AD _ _ A,AC];rfl
   simp[go_sem,trH,VC,i]
   iterate 8 (all_goals (try first
    | (refine LC.use (YT _ z.dels) ?_;intro c H1 m1 s;have lt1:=s.1;obtain⟨o1,a1,b1,c1⟩:=s.own;obtain⟨s1,l⟩:=a1.st;simp only[SV.storable,SV.cells]at s1 l;(first|have w:=b1 n _ k|have w:=b1 n _ i);simp[go_sem,w])
    | (refine LC.use (YU _ z.layers) ?_;intro d H2 m2 t;have ZT:=t.1;obtain⟨b,a2,q,E⟩:=t.own;obtain⟨s2,t2⟩:=a2.st;simp only[SV.storable,SV.cells]at s2 t2;(first|have k:=q n _ w|have k:=q n _ i);simp[go_sem,k,s2,t2])
    | refine⟨?_,?_⟩))
   all_goals
    have f:=a1.lt;have g:=a2.lt;simp[go_sem,s1,l,AC,AS];refine⟨c,o1,d,b,⟨a1.mono (by omega) (by omega),a2.mono (by omega) (by omega),λj e e'=>?_,?_⟩,λj y=>?_⟩;have:=f _ e;have:=g _ e';omega;omega;intro J;have r1:=b1 j;have r2:=q j;have q3:=c1 j;have q4:=E j;have C:=f j;have D:=g j;have K:=p j y;clear b1 q c1 E f g s t a1 a2;simp only[hset]at *;cases o1<;>cases b<;>simp only[D8,hset]at J<;>grind
 rintro⟨c,o1,d,b⟩ m ⟨a1,a2,o,r⟩;dsimp only at a1 a2 o r ⊢;have f:=a1.lt;have g:=a2.lt;obtain⟨s1,l⟩:=a1.st;obtain⟨s2,t2⟩:=a2.st;simp only[SV.storable,SV.cells]at s1 l s2 t2;generalize u:D8 (x.layers.map Am.enc) b (D8 (x.dels.map Az.enc) o1 (hset (hset h n (some (.cells [Af x.props,AA x.ins,AA x.move,c,d]))) (n+1) (some VJ)))=B;have F:B n=some (.cells [Af x.props,AA x.ins,AA x.move,c,d]):=by
  rw[<-u];have C:=f n;have D:=g n;cases o1<;>cases b<;>simp only[D8,hset]<;>grind
 have G:B (n+1)=some VJ:=by
  rw[<-u];have C:=f (n+1);have D:=g (n+1);cases o1<;>cases b<;>simp only[D8,hset]<;>grind
 have H:∀j y,D8 (x.layers.map Am.enc) b (D8 (x.dels.map Az.enc) o1 h) j=some y->hset B (n+1) (some (.cells [Af x.props,AA x.ins,AA x.move,c,d])) j=some y:=λj y=>by
  rw[<-u];have C:=f j;have D:=g j;have K:=p j y;cases o1<;>cases b<;>simp only[D8,hset]<;>grind
 refine AH ?_;simp[go_sem,F,G,AC];exact .inl ⟨c,o1,d,rfl,a1.mono (by omega) (qa _),b,a2.mono (by omega) (qa _),o,by omega,H⟩
theorem Og {z k i:Nat} {es:List SV} {e e' c:SV} (d:∀e∈es,e.storable=true/\e.cells.length=z) (h:es[i]? = some e) (hk:k<z) (a:e'.cells=e.cells.take k++c::e.cells.drop (k+1)):
 (es.flatMap SV.cells).take (i*z+k)++c::(es.flatMap SV.cells).drop (i*z+k+1)=(es.set i e').flatMap SV.cells:=by
 have hi:=(qo.1 h).1;have b:=(qo.1 h).2;have hez:=(d e (jb h)).2;have f:es=es.take i++e::es.drop (i+1):=by rw[<-b,Q6,ja]
 have hl:((es.take i).flatMap SV.cells).length=i*z:=by
  rw[A7 (z:=z) λe a=>d e (qH a),jr,jO (by omega)]
 rw[ku,if_pos hi];have h2:es.flatMap SV.cells=(es.take i).flatMap SV.cells++(e.cells++(es.drop (i+1)).flatMap SV.cells):=by
  conv=>lhs;rw[f]
  simp
 rw[h2,jm,qK,a];generalize(es.take i).flatMap SV.cells=A at hl ⊢;generalize(es.drop (i+1)).flatMap SV.cells=B;rw[<-hl,List.take_append,List.drop_append,qB (by omega:A.length<=A.length+k),kj (by omega:A.length<=A.length+k+1)];rw[show A.length+k-A.length=k by omega,show A.length+k+1-A.length=k+1 by omega,List.take_append_of_le_length (by omega),List.drop_append_of_le_length (by omega)];simp
def Kl (p:Int->Bool) (id y:Int):Int:=if p y then id else y
def Bz (p:Int->Bool) (id:Int) (d:Az):Az:={ d with rev:=Kl p id d.rev }
def CE (p:Int->Bool) (id:Int) (d:Am):Am:={ d with rev:=Kl p id d.rev }
def FV (p:Int->Bool) (id y:Int):Int:=if y≠0/\p y=true then id else y
def Ji (p:Int->Bool) (id:Int) (h:AF):AF:={ h with ins:=FV p id h.ins,dels:=Cz (h.dels.map (Bz p id)) h.dels.length,layers:=h.layers.map (CE p id) }
def EO {α:Type} (f:α->α) (l:List α) (i:Nat):List α:=(l.take i).map f++l.drop i
theorem Ll {α:Type} (f:α->α) (l:List α):EO f l 0=l:=by simp[EO]
theorem ND {α:Type} (f:α->α) (l:List α):EO f l l.length=l.map f:=by simp[EO]
theorem NF {α:Type} (f:α->α) (l:List α) (i:Nat) (hi:i<=l.length):(EO f l i).length=l.length:=by simp[EO];omega
theorem NE {α:Type} (f:α->α) (l:List α) (i:Nat) (hi:i<l.length):(EO f l i)[i]? = some l[i]:=by
 simp only[EO];rw[qV (by simp;omega)];simp[jO (kx hi),hi]
theorem Lk {α:Type} (f:α->α) (l:List α) (i:Nat) (hi:i<l.length):(EO f l i).set i (f l[i])=EO f l (i+1):=by
 simp only[EO];rw[jV _ _ (by simp;omega)];have:((l.take i).map f).length=i:=by simp;omega
 rw[this,Nat.sub_self,qG hi,List.set_cons_zero,qb hi,qc,qu,qS,qn];rfl
end Go.Proofs.YtgakninlhfkkmaaGreat.Sh
