/- A part of the proof (part 12 of 17). -/
import Derived.Test.YtgakninlhfkkmaaGreatM11
import Derived.Lib.Overlaps
import Derived.Lib.AppendZerosOnto
namespace Go.Proofs.YtgakninlhfkkmaaGreat.Sh
open Proofs
set_option maxRecDepth 10000
def SY:Tr:=.pure 0 (.pure 1 (.pure 2 (.pure 3 (.pure 4 (.pure 5 (.pure 6 (.pure 7 (.pure 8 (.pure 9 (.pure 10 (.pure 11 (.pure 12 (.pure 13 .nil)))))))))))))
def Yu:Tr:=.pure 0 (.pure 1 (.pure 3 (.pure 4 (.pure 5 (.pure 6 (.one 2 (.one 7 (.pure 8 (.pure 9 (.pure 10 (.pure 11 (.pure 12 .nil))))))))))))
def Yv:Tr:=.pure 0 (.pure 1 (.pure 3 (.pure 4 (.one 2 (.one 5 (.pure 6 .nil))))))
set_option maxHeartbeats 2000000 in
theorem cq (l:List A6) (hl:l.length<=1048576) (hs:∀x∈l,x.props.length<=1048576) (i:Nat) (hi:i<l.length):TC 207 [Ae l,AA i] FM:=by
 intro h n;refine Db Tryz.func207 rfl λho=>?_;have hHb:=ho.lt;obtain⟨s,hx⟩:∃s,l[i]=s:=⟨_,rfl⟩
 have hps:=hs s (by rw[<-hx];exact ql hi);have out:∀(e:Int) (m:Nat),B8 n h m (AA e) (λv h' n'=>FM v/\h'=h/\n'=n):=λe m=>GQ ho AB (by simp[closed]) ⟨e,rfl⟩;obtain⟨X,hX⟩:∃X:SV,X=.iptr [AA s.id,AA s.kind,.str s.name,AA s.base,AA s.next,Af s.props]:=⟨_,rfl⟩
 refine AY 0 [(0,Ae l),(1,AA i)] h n ?_ (λm hm=>?_);simp[go_sem,IO];refine AY 1 [(0,Ae l),(1,AA i),(5,X)] h n ?_ (λm hm=>?_);have hHm:∀j y,h j=some y->j<m:=λj y e=>by have:=hHb j y e;omega
 rw[hX];simp[go_sem,IO,hi,hx,A6.enc,AC];exact⟨by omega,AV (AW hHm (qa _)) (AC _ _ _),AJ hHm (AJ hHm AB)⟩;have w1:0<i->IntKind.i64.wrap ((i:Int)-1)=((i-1:Nat):Int):=λg=>by rw[Cl]<;>omega
 refine AT 0 (α:=Unit) (λ_=>[(0,Ae l),(1,AA i),(5,X)]) (λ_=>h) (λ_ m=>n<=m) (AR ?_) (λ_ m hm=>?_)
 . refine BM 0 (α:=Bx) (λb=>[(0,Ae l),(1,AA i),(5,X),(14,.bool b.b)]) (λ_=>h) (λ_ m=>n<=m) ?_ (λb m hm=>?_);rw[hX];by_cases a1:s.id<1;simp[go_sem,IO,a1,hm];exact⟨⟨_⟩,rfl⟩;simp[go_sem,IO,a1,hm];exact⟨⟨_⟩,rfl⟩;obtain⟨b⟩:=b;dsimp only;cases b with
   | true=>exact AH (by simp[go_sem];exact out _ _)
   | false=>
   refine Ah (b:=false) (by simp[go_sem]) ?_;simp only[qj,if_false];refine AT 0 (α:=Bx) (λb=>[(0,Ae l),(1,AA i),(5,X),(23,.bool b.b)]) (λ_=>h) (λ_ m=>n<=m) (BX SY rfl (by kernel_rfl) (by kernel_rfl) ?_) (λb m hm=>?_);rw[hX];by_cases a1:0<i;have hi1:i-1<l.length:=by omega
   simp[go_sem,SY,IO,a1,w1,hm,hi1,A6.enc];exact⟨⟨_⟩,rfl⟩;simp[go_sem,SY,IO,a1,hm];exact⟨⟨_⟩,rfl⟩;obtain⟨b⟩:=b;dsimp only;cases b with
   | true=>exact AH (by simp[go_sem];exact out _ _)
   | false=>
   refine Ah (b:=false) (by simp[go_sem]) ?_;simp only[qj,if_false];refine AT 0 (α:=Bx) (λb=>[(0,Ae l),(1,AA i),(5,X),(37,.bool b.b)]) (λ_=>h) (λ_ m=>n<=m) (BX SY rfl (by kernel_rfl) (by kernel_rfl) ?_) (λb m hm=>?_);rw[hX];by_cases a1:0<i;have hi1:i-1<l.length:=by omega
   simp[go_sem,SY,IO,a1,w1,hm,hi1,A6.enc];exact⟨⟨_⟩,rfl⟩;simp[go_sem,SY,IO,a1,hm];exact⟨⟨_⟩,rfl⟩;obtain⟨b⟩:=b;dsimp only;cases b with
   | true=>exact AH (by simp[go_sem];exact out _ _)
   | false=>
   refine Ah (b:=false) (by simp[go_sem]) ?_;simp only[qj,if_false];refine BM 0 (α:=Bx) (λb=>[(0,Ae l),(1,AA i),(5,X),(51,.bool b.b)]) (λ_=>h) (λ_ m=>n<=m) ?_ (λb m hm=>?_);rw[hX];by_cases a1:s.kind=1;simp[go_sem,IO,a1,hm];exact⟨⟨_⟩,rfl⟩;have a2:(s.kind !=1)=true:=by simpa using a1
   simp[go_sem,IO,a2,hm];exact⟨⟨_⟩,rfl⟩;obtain⟨b⟩:=b;dsimp only;cases b with
   | true=>exact AH (by simp[go_sem];exact out _ _)
   | false=>
   refine Ah (b:=false) (by simp[go_sem]) ?_;simp only[qj,if_false];refine BM 0 (α:=Bx) (λb=>[(0,Ae l),(1,AA i),(5,X),(60,.bool b.b)]) (λ_=>h) (λ_ m=>n<=m) ?_ (λb m hm=>?_);rw[hX];simp[go_sem];refine(aa s.name).use ?_;simp[go_sem,IO,hm];exact⟨⟨_⟩,rfl⟩;obtain⟨b⟩:=b;dsimp only;cases b with
   | true=>exact AH (by simp[go_sem];exact out _ _)
   | false=>exact AH (by simp[go_sem,IO,hm])
 refine Bc 0 [(0,Ae l),(1,AA i),(5,X)] h n ?_ (λm hm=>?_);refine AT 0 (α:=Bx) (λb=>[(0,Ae l),(1,AA i),(5,X),(7,.bool b.b)]) (λ_=>h) (λ_ m=>n<=m) (BX Yu rfl (by kernel_rfl) (by kernel_rfl) ?_) (λb m hm=>?_);have hle:i<=l.length:=by omega
 have hc:=ac (l.take i) s.kind s.name (by simp;omega);generalize C0 (l.take i) s.kind s.name=k at hc;generalize(if 0<=k then k else 0)=k1 at hc;generalize decide (0<=k)=k2 at hc;simp only[Ae,kz]at hc;rw[hX];simp[go_sem,Yu,hle,-List.map_take];refine qw hc ?_;simp[go_sem,IO,hm];exact⟨⟨_⟩,rfl⟩;obtain⟨b⟩:=b;dsimp only;cases b with
 | true=>exact AH (by simp[go_sem];exact out _ _)
 | false=>exact AH (by simp[go_sem,IO,hm])
 refine Bc 0 [(5,X)] h n ?_ (λm hm=>?_);refine AY 0 [(5,X),(78,Af s.props),(79,AA s.props.length),(80,AA 0)] h n ?_ (λm hm=>?_);rw[hX];simp[go_sem,IO,hm];refine AR (BG 0 (α:=Nat) (λk=>[(5,X),(78,Af s.props),(79,AA s.props.length),(80,AA k)]) (λ_=>h) (λk m=>k<=s.props.length/\n<=m) (λk=>s.props.length-k) 0 ⟨qg _,hm⟩ ?_ AB ?_);simp[go_sem,Ai,IO];rintro k m ⟨hk,hm⟩;by_cases hlt:k<s.props.length;have w2:=wS k (by omega);obtain⟨p,hp⟩:∃p,s.props[k]=p:=⟨_,rfl⟩
 refine AY 0 [(5,X),(78,Af s.props),(79,AA s.props.length),(80,AA k),(81,.bool true)] h n ?_ (λm hm=>?_);simp[go_sem,IO,hm,hlt];refine AY 0 [(5,X),(78,Af s.props),(79,AA s.props.length),(80,AA k)] h n ?_ (λm hm=>?_);simp[go_sem,IO,hm];refine AT 0 (α:=Unit) (λ_=>[(5,X),(78,Af s.props),(79,AA s.props.length),(80,AA k)]) (λ_=>h) (λ_ m=>n<=m) (AR ?_) (λ_ m hm=>?_);refine AY 1 [(5,X),(78,Af s.props),(79,AA s.props.length),(80,AA k),(9,.iptr [AA p.key,AA p.value])] h n ?_ (λm hm=>?_);have hHm:∀j y,h j=some y->j<m:=λj y e=>by have:=hHb j y e;omega
 simp[go_sem,IO,hlt,hp,Er.enc,AC];exact⟨by omega,AV (AW hHm (qa _)) (AC _ _ _),AJ hHm (AJ hHm AB)⟩;refine AH ?_;by_cases a1:p.key=20;simp[go_sem,a1];exact out _ _;by_cases a2:p.key=1;simp[go_sem,a2];exact out _ _;have a3:(p.key==20)=false:=by simpa using a1
 have a4:(p.key==1)=false:=by simpa using a2
 simp[go_sem,a3,a4,IO,hm];refine AH ?_;simp[go_sem,w2,IO,-Int.natCast_add];exact⟨k+1,by omega,⟨by omega,hm⟩,rfl⟩;refine AH ?_;simp[go_sem,hlt,IO,hm];refine AT 0 (α:=Int) (λe=>[(4,AA e)]) (λ_=>h) (λ_ m=>n<=m) (BX Yv rfl (by kernel_rfl) (by kernel_rfl) ?_) (λe m hm=>?_);rw[hX];simp[go_sem,Yv];refine(ae s.kind).use ?_;generalize(if s.kind=1 then(2:Int)else 1)=el;simp[go_sem];refine(XZ el s.props hps).use ?_;simp[go_sem,hm];exact⟨_,rfl⟩;refine AH ?_;simp[go_sem];exact out _ _
def ChQ (l:List A6) (id:Int) (h:Hp) (n:Nat):SV->Hp->Nat->Prop:=λv h' n'=>∃k,v=.fn (.func 270) [] [.iptr [Ae l],.ptr k 0]/\n<=k/\k<n'/\h' k=some (.cells [AA id])/\∀o y,h o=some y->h' o=some y
theorem be (l:List A6) (id:Int) {h:Hp} {n:Nat}:BA Tryz.prog 209 [Ae l,AA id] h n (ChQ l id h n):=by
 refine Db Tryz.func209 rfl λho=>?_;have hHb:=ho.lt;refine BP 1 [(2,.iptr [Ae l]),(3,.ptr (n+1) 0)] (hset h (n+1) (some (.cells [AA id]))) (λm=>n+1<m) ?_ (λm hm=>?_);simp[go_sem,IO];refine⟨AV (by simp[hset];exact AW hHb (qa _)) (by simp[hset]),λj y=>?_⟩;have:=hHb j y;simp only[hset];grind;refine AH ?_;simp[go_sem];exact .inl ⟨n+1,rfl,by omega,hm,AC _ _ _,AJ (λj z e=>by have:=hHb j z e;omega) AB⟩
structure YS (E:B6) (yl:Nat) (N:Nat) (J:Nat->Hp->Nat->Prop) (Jx:Hp->Nat->Prop) (D:Nat->Prop):Prop where
 step:∀c (x:A6) h m,J c h m->FJ E Tryz.prog yl [x.enc] h m (λv h' m'=>m<=m'/\(∀o,¬D o->o<m->h' o=h o)/\((v=.bool true/\c+1<=N/\J (c+1) h' m')\/(v=.bool false/\Jx h' m')))
 keep:∀c h m h' m',J c h m->m<=m'->(∀o,D o->h' o=h o)->J c h' m'
 lt:∀c h m,J c h m->∀o,D o->o<m
theorem I2 {P:Int->Prop} (x:Int):∀(l:List (Int×Int)) (i:Nat),(∀p∈l,P p.2)->DH (AA x) (GY l) i=some none\/∃j k,DH (AA x) (GY l) i=some (some (j,AA k))/\P k
 | [],i,_=>.inl rfl
 | a::l,i,hP=>by
  by_cases e:x=a.1;exact .inr ⟨i,a.2,by simp[GY,DH,G5,e],hP a (by simp)⟩;have:(x==a.1)=false:=by simpa using e
  rcases I2 x l (i+1) (λp hp=>hP p (by simp[hp]))with h|⟨j,k,h,hk⟩
  left;simp only[GY,qu,DH,G5,if_true,this];exact h;right;refine⟨j,k,?_,hk⟩;simp only[GY,qu,DH,G5,if_true,this];exact h
theorem SH {P:Int->Prop} (l:List (Int×Int)) (j:Nat) (x v:Int) (hl:∀p∈l,P p.2) (hv:P v):∃l',HF (GY l) j (AA x) (AA v)=GY l'/\∀p∈l',P p.2:=by
 refine⟨l.modify j λ_=>(x,v),?_,λp hp=>?_⟩;unfold HF GY;apply List.ext_getElem?;intro i;simp only[List.getElem?_modify,qO];by_cases e:j=i<;>cases l[i]? <;> simp[e];obtain⟨i,hi⟩:=List.getElem?_of_mem hp;rw[List.getElem?_modify]at hi;cases hli:l[i]? with
 | none=>simp[hli]at hi
 | some q=>
  by_cases e:j=i;simp[hli,e]at hi;rw[<-hi];exact hv;simp[hli,e]at hi;rw[<-hi];exact hl q (jb hli)
section
variable {E : B6} {yl N : Nat} {J : Nat → Hp → Nat → Prop} {Jx : Hp → Nat → Prop} {D : Nat → Prop}
def ZH (l:List A6) (a:List (Int×Int)):Prop:=∀p∈a,0<=p.2/\p.2<l.length
set_option maxHeartbeats 2000000 in
theorem bp (Y:YS E yl N J Jx D) (l:List A6) (hl:l.length<=1048576) {H:Hp} {n k:Nat} {id:Int} (hk:H k=some (.cells [AA id])) (hkD:¬D k) (hJ:J 0 H n):
 Ak E Tryz.prog 270 [.fn (.yield yl) [] [],.iptr [Ae l],.ptr k 0] H n (λ_ h' m'=>n<=m'/\(∀o,¬D o->o≠k->o<n->h' o=H o)/\((∃c,J c h' m')\/Jx h' m')):=by
 refine Db Tryz.func270 rfl λho=>?_;have hHb:=ho.lt;have hkn:k<n:=hHb k _ hk;have hDn:=Y.lt _ _ _ hJ;have nk:k≠n:=by omega
 refine BP 0 [(0,.fn (.yield yl) [] []),(1,.iptr [Ae l]),(2,.ptr k 0),(4,.map n)] (hset H n (some (.map (GY [])))) (λm=>n<m) ?_ (λm hm=>?_);simp[go_sem,IO,GY];refine AT 0 (α:=List (Int×Int)) (λ_=>[(0,.fn (.yield yl) [] []),(1,.iptr [Ae l]),(2,.ptr k 0),(4,.map n)]) (λa=>hset H n (some (.map (GY a)))) (λa m=>n<m/\ZH l a) ?_ (λa m hm=>?_)
 . refine BP 0 [(0,.fn (.yield yl) [] []),(1,.iptr [Ae l]),(2,.ptr k 0),(4,.map n),(10,Ae l),(11,AA l.length),(12,AA 0)] (hset H n (some (.map (GY [])))) (λm=>n<m) ?_ (λm hm=>?_);simp[go_sem,IO,hm];refine AR (BG 0 (α:=Nat×List (Int×Int)) (λq=>[(0,.fn (.yield yl) [] []),(1,.iptr [Ae l]),(2,.ptr k 0),(4,.map n),(10,Ae l),(11,AA l.length),(12,AA q.1)]) (λq=>hset H n (some (.map (GY q.2)))) (λq m=>q.1<=l.length/\n<m/\ZH l q.2) (λq=>l.length-q.1) (0,[]) ⟨qg _,hm,by simp[ZH]⟩ ?_ AB ?_);simp[go_sem,Ai,IO];rintro⟨i,a⟩ m ⟨hi,hm,ha⟩;dsimp only at hi ha ⊢;by_cases hlt:i<l.length
   . have w1:=wS i (by omega);obtain⟨x,hx⟩:∃x,l[i]=x:=⟨_,rfl⟩
     refine BP 0 [(0,.fn (.yield yl) [] []),(1,.iptr [Ae l]),(2,.ptr k 0),(4,.map n),(10,Ae l),(11,AA l.length),(12,AA i),(13,.bool true)] (hset H n (some (.map (GY a)))) (λm=>n<m) ?_ (λm hm=>?_);simp[go_sem,IO,hm,hlt];refine BP 0 [(0,.fn (.yield yl) [] []),(1,.iptr [Ae l]),(2,.ptr k 0),(4,.map n),(10,Ae l),(11,AA l.length),(12,AA i)] (hset H n (some (.map (GY a)))) (λm=>n<m) ?_ (λm hm=>?_);simp[go_sem,IO,hm];refine AT 0 (α:=List (Int×Int)) (λ_=>[(0,.fn (.yield yl) [] []),(1,.iptr [Ae l]),(2,.ptr k 0),(4,.map n),(10,Ae l),(11,AA l.length),(12,AA i)]) (λa=>hset H n (some (.map (GY a)))) (λa m=>n<m/\ZH l a) (AR ?_) (λa m hm=>?_)
     . refine BP 1 [(0,.fn (.yield yl) [] []),(1,.iptr [Ae l]),(2,.ptr k 0),(4,.map n),(10,Ae l),(11,AA l.length),(12,AA i),(5,AA i),(6,.iptr [AA x.id,AA x.kind,.str x.name,AA x.base,AA x.next,Af x.props])] (hset H n (some (.map (GY a)))) (λm=>n<m) ?_ (λm hm=>?_);have hHm:∀j y,hset H n (some (.map (GY a))) j=some y->j<m:=λj y e=>by
        simp only[hset]at e;split at e;omega;have:=hHb j y e;omega
       simp[go_sem,IO,hlt,hx,A6.enc,AC];exact⟨by omega,AV (AW hHm (qa _)) (AC _ _ _),AJ hHm (AJ hHm AB)⟩;refine AH ?_;have hB:∀v:Int,v=(i:Int)->0<=v/\v<l.length:=λv hv=>by omega
       rcases I2 (P:=λv=>0<=v/\v<l.length) x.id a 0 ha with hf|⟨j,v,hf,_⟩
       have hpush:GY a++[(AA x.id,AA (i:Int))]=GY (a++[(x.id,(i:Int))]):=by simp[GY]
       simp[go_sem,AC,hf,CK,hpush,IO,AS];refine⟨a++[(x.id,(i:Int))],⟨hm,λp hp=>?_⟩,AB⟩;rcases qe.1 hp with hp|hp;exact ha p hp;rw[qv.1 hp];exact hB _ rfl;obtain⟨a',h1,h2⟩:=SH (P:=λv=>0<=v/\v<l.length) a j x.id i ha (hB _ rfl);have h1':(GY a).modify j (λ_=>(AA x.id,AA i))=GY a':=h1;simp[go_sem,AC,hf,CK,h1',IO,AS];exact⟨a',⟨hm,h2⟩,AB⟩
     obtain⟨hm,ha⟩:=hm;refine AH ?_;simp[go_sem,w1,IO,-Int.natCast_add];exact⟨i+1,by omega,a,⟨by omega,hm,ha⟩,rfl,AB⟩
   refine AH ?_;simp[go_sem,hlt,IO,hm];exact⟨a,ha,AB⟩
 obtain⟨hm,ha⟩:=hm;have hnD:¬D n:=λg=>by have:=hDn n g;omega
 refine AH ?_;simp[go_sem];refine An 0 (α:=Nat×Int×Hp) (λ_=>[(0,.fn (.yield yl) [] []),(1,.iptr [Ae l]),(2,.ptr k 0),(4,.map n)]) (λq=>q.2.2) (λq m=>n<m/\J q.1 q.2.2 m/\q.2.2 k=some (.cells [AA q.2.1])/\q.2.2 n=some (.map (GY a))/\∀o,¬D o->o≠k->o<n->q.2.2 o=H o) (λq=>N-q.1)
  (0,id,hset H n (some (.map (GY a)))) ⟨hm,Y.keep _ _ _ _ _ hJ (by omega) λo g=>AD _ _ (by have:=hDn o g;omega),(AD _ _ nk).trans hk,AC _ _ _,λo _ _ g=>AD _ _ (by omega)⟩ ?_ AB ?_
 simp[Ai,IO];rintro⟨c,id,G⟩ m ⟨hm,hJ,hGk,hGn,BE⟩;dsimp only at hJ hGk hGn BE ⊢;by_cases h0:id=0;simp[go_sem,hGk,h0];exact .inl ⟨by omega,BE,.inl ⟨c,hJ⟩⟩;have h0':(id !=0)=true:=by simpa using h0
 rcases I2 (P:=λv=>0<=v/\v<l.length) id a 0 ha with hf|⟨j,v,hf,hv1,hv2⟩
 simp[go_sem,hGk,hGn,h0',hf,CK];exact .inl ⟨by omega,BE,.inl ⟨c,hJ⟩⟩;have hvl:v.toNat<l.length:=by omega
 obtain⟨x,hx⟩:∃x,l[v.toNat]'hvl=x:=⟨_,rfl⟩
 simp[go_sem,hGk,hGn,h0',hf,CK,hv1,hvl,hx,A6.enc];have hy:=Y.step c x G m hJ;simp only[A6.enc]at hy;refine FJ.mono hy ?_;rintro w G3 m3 ⟨hm3,hfr,⟨rfl,hcN,hj⟩|⟨rfl,hj⟩⟩;have g3k:G3 k=some (.cells [AA id]):=by rw[hfr k hkD (by omega)];exact hGk
 have g3n:G3 n=some (.map (GY a)):=by rw[hfr n hnD (by omega)];exact hGn
 simp[go_sem,hv1,hvl,hx,A6.enc,g3k];refine⟨c+1,by omega,x.base,hset G3 k (some (.cells [AA x.base])),⟨by omega,Y.keep _ _ _ _ _ hj (qa _) λo g=>AD _ _ (by rintro rfl;exact hkD g),AC _ _ _,by rw[AD _ _ (Ne.symm nk)];exact g3n,λo g1 g2 g3=>?_⟩,AB⟩;rw[AD _ _ g2,hfr o g1 (by omega)];exact BE o g1 g2 g3;simp[go_sem];exact .inl ⟨by omega,λo g1 g2 g3=>by rw[hfr o g1 (by omega)];exact BE o g1 g2 g3,.inr hj⟩
end
theorem cB {E:B6} {f:FuncId} {fn:Func} {code:Code} {args:List SV} {h:Hp} {n:Nat} {K:SV->Hp->Nat->Prop} (hf:Tryz.prog.funcs[f]? = some fn) (hb:fn.body=some code)
 (hn:(fn.name != "runtime.NumGoroutine")=true) (hd:Code.dok fn.ntmps code=true) (hl:args.length<=fn.ntmps)
 (H:Es h n->∀B,SP (E.call true B) fn.ntmps code (MT Tryz.prog fn n K) (Ec 0 args) h n):Ak E Tryz.prog f args h n K:=
 K7 hf hb hn hd hl λ_ ho B=>H ho B
set_option maxHeartbeats 4000000 in
theorem cm (l:List A6) (hl:l.length<=1048576) (hs:∀x∈l,x.props.length<=1048576):TC 146 [Ae l] FM:=by
 intro h n;refine cB Tryz.func146 rfl (by kernel_rfl) (by kernel_rfl) (by simp[go_sem]) λho B=>?_;have hHb:=ho.lt;obtain⟨G,hG⟩:∃G:Int->Hp,∀e,G e=hset h (n+1) (some (.cells [AA e])):=⟨_,λ_=>rfl⟩
 have hGa:∀e,G e (n+1)=some (.cells [AA e]):=λe=>by rw[hG,AC]
 have hGs:∀e e',hset (G e) (n+1) (some (.cells [AA e']))=G e':=λe e'=>by rw[hG,hG,AS]
 have hGk:∀e j y,h j=some y->G e j=some y:=λe j y g=>by rw[hG,AD _ _ (by have:=hHb j y g;omega)];exact g
 have hGb:∀e j y,G e j=some y->j<n+2:=λe j y g=>by
  rw[hG]at g;simp only[hset]at g;split at g;omega;have:=hHb j y g;omega
 have out:∀(e:Int) (m:Nat),B8 n (G e) m (AA e) (λv h' n'=>FM v/\h'=h/\n'=n):=λe m=>GQ ho (hGk e) (by simp[closed]) ⟨e,rfl⟩;refine BP 1 [(1,.iptr [Ae l]),(2,.ptr (n+1) 0)] (G 0) (λm=>n+1<m) ?_ (λm hm=>?_);rw[hG];simp[go_sem,IO];refine⟨AV (by simp[hset];exact AW hHb (qa _)) (by simp[hset]),λj y=>?_⟩;have:=hHb j y;simp only[hset];grind;refine Bo 0 [(1,.iptr [Ae l]),(2,.ptr (n+1) 0)] (G 0) (λm=>n+1<m) (AH ?_) (λm hm=>?_);by_cases a1:(128:Int)<l.length;simp[go_sem,a1,hGa,hGs];exact out _ _;simp[go_sem,a1,IO,hm];refine Bo 0 [(1,.iptr [Ae l]),(2,.ptr (n+1) 0)] (G 0) (λm=>n+1<m) ?_ (λm hm=>?_);refine BP 0 [(1,.iptr [Ae l]),(2,.ptr (n+1) 0),(14,AA l.length),(15,AA 0)] (G 0) (λm=>n+1<m) ?_ (λm hm=>?_);simp[go_sem,IO,hm];refine AR (BG 0 (α:=Nat) (λi=>[(1,.iptr [Ae l]),(2,.ptr (n+1) 0),(14,AA l.length),(15,AA i)]) (λ_=>G 0) (λi m=>i<=l.length/\n+1<m) (λi=>l.length-i) 0 ⟨qg _,hm⟩ ?_ AB ?_);simp[go_sem,Ai,IO];rintro i m ⟨hi,hm⟩;by_cases hlt:i<l.length;have w1:=wS i (by omega);refine AH ?_;simp[go_sem,hlt];refine kW (cq l hl hs i hlt) ?_;rintro v ⟨e,rfl⟩;by_cases e0:e=0;simp[go_sem,e0,w1,IO,-Int.natCast_add];exact⟨i+1,by omega,⟨by omega,hm⟩,rfl⟩;have e1:(e !=0)=true:=by simpa using e0
 simp[go_sem,e1,hGa,hGs];exact out _ _;refine AH ?_;simp[go_sem,hlt,IO,hm];refine Bo 0 [(1,.iptr [Ae l]),(2,.ptr (n+1) 0)] (G 0) (λm=>n+1<m) ?_ (λm hm=>?_)
 . refine BP 0 [(1,.iptr [Ae l]),(2,.ptr (n+1) 0),(25,Ae l),(26,AA l.length),(27,AA 0)] (G 0) (λm=>n+1<m) ?_ (λm hm=>?_);simp[go_sem,IO,hm];refine AR (BG 0 (α:=Nat) (λi=>[(1,.iptr [Ae l]),(2,.ptr (n+1) 0),(25,Ae l),(26,AA l.length),(27,AA i)]) (λ_=>G 0) (λi m=>i<=l.length/\n+1<m) (λi=>l.length-i) 0 ⟨qg _,hm⟩ ?_ AB ?_);simp[go_sem,Ai,IO];rintro i m ⟨hi,hm⟩;by_cases hlt:i<l.length
   . have w1:=wS i (by omega);obtain⟨x,hx⟩:∃x,l[i]=x:=⟨_,rfl⟩
     obtain⟨X,hX⟩:∃X:SV,X=.iptr [AA x.id,AA x.kind,.str x.name,AA x.base,AA x.next,Af x.props]:=⟨_,rfl⟩
     refine BP 0 [(1,.iptr [Ae l]),(2,.ptr (n+1) 0),(25,Ae l),(26,AA l.length),(27,AA i),(28,.bool true)] (G 0) (λm=>n+1<m) ?_ (λm hm=>?_);simp[go_sem,IO,hm,hlt];refine BP 0 [(1,.iptr [Ae l]),(2,.ptr (n+1) 0),(25,Ae l),(26,AA l.length),(27,AA i)] (G 0) (λm=>n+1<m) ?_ (λm hm=>?_);simp[go_sem,IO,hm];refine AT 0 (α:=Unit) (λ_=>[(1,.iptr [Ae l]),(2,.ptr (n+1) 0),(25,Ae l),(26,AA l.length),(27,AA i)]) (λ_=>G 0) (λ_ m=>n+1<m) (AR ?_) (λ_ m hm=>?_)
     . refine BP 1 [(1,.iptr [Ae l]),(2,.ptr (n+1) 0),(25,Ae l),(26,AA l.length),(27,AA i),(6,X)] (G 0) (λm=>n+1<m) ?_ (λm hm=>?_);have hHm:∀j y,G 0 j=some y->j<m:=λj y e=>by have:=hGb 0 j y e;omega
       rw[hX];simp[go_sem,IO,hlt,hx,A6.enc,AC];exact⟨by omega,AV (AW hHm (qa _)) (AC _ _ _),AJ hHm (AJ hHm AB)⟩;refine BM 0 (α:=Bx) (λb=>[(1,.iptr [Ae l]),(2,.ptr (n+1) 0),(25,Ae l),(26,AA l.length),(27,AA i),(59,.bool b.b)]) (λ_=>G 0) (λ_ m=>n+1<m) ?_ (λb m hm=>?_)
       . rw[hX];have e208:∀(kd id:Int) {m:Nat} {K:SV->Hp->Nat->Prop},(∀b,K (.bool b) (G 0) m)->Ak (B6.plain.call true B) Tryz.prog 208 [Ae l,AA kd,AA id] (G 0) m K:=λkd id m K hK=>qw (aM l kd id hl) (hK _);have second:x.next=0\/(x.next≠0/\x.kind=2)\/(x.next≠0/\x.kind≠2):=by
          by_cases c1:x.next=0;exact .inl c1;by_cases c2:x.kind=2;exact .inr (.inl ⟨c1,c2⟩);exact .inr (.inr ⟨c1,c2⟩)
         by_cases b0:x.base=0
         . rcases second with c1|⟨c1,c2⟩|⟨c1,c2⟩
           simp[go_sem,b0,c1,IO,hm];exact⟨⟨_⟩,rfl⟩
           . have c1':(x.next !=0)=true:=by simpa using c1
             simp[go_sem,b0,c1',c2,IO,hm];exact⟨⟨_⟩,rfl⟩
           . have c1':(x.next !=0)=true:=by simpa using c1
             have c2':(x.kind==2)=false:=by simpa using c2
             simp[go_sem,b0,c1',c2'];refine e208 _ _ λb=>?_;cases b<;>simp[go_sem,IO,hm]<;>exact⟨⟨_⟩,rfl⟩
         . have b0':(x.base !=0)=true:=by simpa using b0
           simp[go_sem,b0'];refine e208 _ _ λb=>?_;cases b with
           | false=>simp[go_sem,IO,hm];exact⟨⟨_⟩,rfl⟩
           | true=>
            rcases second with c1|⟨c1,c2⟩|⟨c1,c2⟩
            simp[go_sem,c1,IO,hm];exact⟨⟨_⟩,rfl⟩
            . have c1':(x.next !=0)=true:=by simpa using c1
              simp[go_sem,c1',c2,IO,hm];exact⟨⟨_⟩,rfl⟩
            . have c1':(x.next !=0)=true:=by simpa using c1
              have c2':(x.kind==2)=false:=by simpa using c2
              simp[go_sem,c1',c2'];refine e208 _ _ λb=>?_;cases b<;>simp[go_sem,IO,hm]<;>exact⟨⟨_⟩,rfl⟩
       obtain⟨b⟩:=b;dsimp only;refine AH ?_;cases b with
       | true=>simp[go_sem,hGa,hGs];exact out _ _
       | false=>simp[go_sem,IO,hm]
     refine AH ?_;simp[go_sem,w1,IO,-Int.natCast_add];exact⟨i+1,by omega,⟨by omega,hm⟩,rfl⟩
   refine AH ?_;simp[go_sem,hlt,IO,hm]
 refine Bo 0 [(2,.ptr (n+1) 0)] (G 0) (λm=>n+1<m) ?_ (λm hm=>?_)
 . refine BP 0 [(1,.iptr [Ae l]),(2,.ptr (n+1) 0),(61,Ae l),(62,AA l.length),(63,AA 0)] (G 0) (λm=>n+1<m) ?_ (λm hm=>?_);simp[go_sem,IO,hm];refine AR (BG 0 (α:=Nat) (λi=>[(1,.iptr [Ae l]),(2,.ptr (n+1) 0),(61,Ae l),(62,AA l.length),(63,AA i)]) (λ_=>G 0) (λi m=>i<=l.length/\n+1<m) (λi=>l.length-i) 0 ⟨qg _,hm⟩ ?_ AB ?_);simp[go_sem,Ai,IO];rintro i m ⟨hi,hm⟩;by_cases hlt:i<l.length
   . have w1:=wS i (by omega);obtain⟨x,hx⟩:∃x,l[i]=x:=⟨_,rfl⟩
     refine BP 0 [(1,.iptr [Ae l]),(2,.ptr (n+1) 0),(61,Ae l),(62,AA l.length),(63,AA i),(64,.bool true)] (G 0) (λm=>n+1<m) ?_ (λm hm=>?_);simp[go_sem,IO,hm,hlt];refine BP 0 [(1,.iptr [Ae l]),(2,.ptr (n+1) 0),(61,Ae l),(62,AA l.length),(63,AA i)] (G 0) (λm=>n+1<m) ?_ (λm hm=>?_);simp[go_sem,IO,hm];refine AT 0 (α:=Unit) (λ_=>[(1,.iptr [Ae l]),(2,.ptr (n+1) 0),(61,Ae l),(62,AA l.length),(63,AA i)]) (λ_=>G 0) (λ_ m=>n+1<m) (AR ?_) (λ_ m hm=>?_)
     . refine BP 1 [(1,.iptr [Ae l]),(2,.ptr (n+1) 0),(61,Ae l),(62,AA l.length),(63,AA i),(8,.iptr [AA x.id,AA x.kind,.str x.name,AA x.base,AA x.next,Af x.props])] (G 0) (λm=>n+1<m) ?_ (λm hm=>?_);have hHm:∀j y,G 0 j=some y->j<m:=λj y e=>by have:=hGb 0 j y e;omega
       simp[go_sem,IO,hlt,hx,A6.enc,AC];exact⟨by omega,AV (AW hHm (qa _)) (AC _ _ _),AJ hHm (AJ hHm AB)⟩;refine BP 0 [(1,.iptr [Ae l]),(2,.ptr (n+1) 0),(61,Ae l),(62,AA l.length),(63,AA i),(8,.iptr [AA x.id,AA x.kind,.str x.name,AA x.base,AA x.next,Af x.props]),(9,.ptr m 0)] (hset (G 0) m (some (.cells [AA 0]))) (λm2=>m<m2) ?_ (λm2 hm2=>?_);simp[go_sem,IO,AC,AS];refine BM 0 (α:=Hp×Nat) (λz=>[(1,.iptr [Ae l]),(2,.ptr (n+1) 0),(61,Ae l),(62,AA l.length),(63,AA i),(9,.ptr m 0),(70,.fn (.func 270) [] [.iptr [Ae l],.ptr z.2 0])]) (λz=>z.1) (λz m3=>m2<=z.2/\z.2<m3/\z.1 z.2=some (.cells [AA x.id])/\∀o y,hset (G 0) m (some (.cells [AA 0])) o=some y->z.1 o=some y) ?_ (λz m3 hm3=>?_);simp[go_sem];refine qC (be l x.id) ?_;rintro v H' n' ⟨k,rfl,g1,g2,g3,g4⟩;simp[go_sem,IO];exact⟨H',k,⟨g1,g2,g3,g4⟩,rfl,AB⟩;obtain⟨z,k⟩:=z;obtain⟨k1,k2,k3,k4⟩:=hm3;dsimp only at k1 k2 k3 k4 ⊢;refine AR ?_;refine Fa rfl rfl rfl λE1 yl R hY=>?_;have za:z (n+1)=some (.cells [AA 0]):=k4 _ _ (by rw[AD _ _ (by omega)];exact hGa 0);have zm:z m=some (.cells [AA 0]):=k4 _ _ (AC _ _ _);let D:Nat->Prop:=λo=>o=n+1\/o=m\/o=m3;let J:Nat->Hp->Nat->Prop:=λc hh mm=>m3<mm/\c<=l.length/\hh (n+1)=some (.cells [AA 0])/\hh m=some (.cells [AA c])/\hh m3=some (.loop (R .ready none));let Jx:Hp->Nat->Prop:=λhh mm=>m3<mm/\hh (n+1)=some (.cells [AA 16])/\hh m3=some (.loop (R .done (some .ret)));have Y:YS E1 yl l.length J Jx D:=by
        refine⟨λc y hh mm hJ=>?_,?_,?_⟩;obtain⟨g0,gc,g1,g2,g3⟩:=hJ;have q1:n+1≠mm:=by omega
        have q2:m≠mm:=by omega
        have q3:m3≠mm:=by omega
        have q3':=q3.symm;have q4:m≠m3:=by omega
        have q5:n+1≠m3:=by omega
        have q6:n+1≠m:=by omega
        have w2:=wS c (by omega);refine hY _ _ _ _ g3 rfl (Ii ?_);by_cases hc:c+1<=l.length;have hc':¬(((l.length:Nat):Int)<((c+1:Nat):Int)):=by omega
        simp[go_sem,Jp,A6.enc,AC,AD,g2,g3,q4,w2,hc',ID,-Int.natCast_add];refine⟨by rw[AD _ _ q4.symm,AC],λo g1 g2=>?_,hc,?_⟩;have e1:o≠m:=λe=>g1 (.inr (.inl e));have e2:o≠m3:=λe=>g1 (.inr (.inr e));have e3:o≠mm:=by omega
        simp[hset,e1,e2];exact⟨by omega,hc,by simp[hset,q5,q6,g1],by simp[hset,q4],by simp[hset]⟩;have hc':(((l.length:Nat):Int)<((c+1:Nat):Int)):=by omega
        simp[go_sem,Jp,A6.enc,AC,AD,g1,g2,g3,q4,q5,q6,w2,hc',ID,-Int.natCast_add];refine⟨by rw[AD _ _ q5.symm,AD _ _ q4.symm,AC],λo g1 g2=>?_,?_⟩;have e0:o≠n+1:=λe=>g1 (.inl e);have e1:o≠m:=λe=>g1 (.inr (.inl e));have e2:o≠m3:=λe=>g1 (.inr (.inr e));have e3:o≠mm:=by omega
        simp[hset,e0,e1,e2];exact⟨by omega,by simp[hset,q5],by simp[hset]⟩;rintro c hh mm h' m' ⟨g0,gc,g1,g2,g3⟩ hmm hD;exact⟨by omega,gc,by rw[hD _ (.inl rfl)];exact g1,by rw[hD _ (.inr (.inl rfl))];exact g2,by rw[hD _ (.inr (.inr rfl))];exact g3⟩;rintro c hh mm ⟨g0,gc,g1,g2,g3⟩ o (rfl|rfl|rfl)<;>omega
       have hkm3:k≠m3:=by omega
       refine kS (bp Y l hl (id:=x.id) (k:=k) (by rw[AD _ _ hkm3];exact k3) (by rintro(g|g|g)<;>omega) ⟨by omega,qg _,by rw[AD _ _ (by omega)];exact za,by rw[AD _ _ (by omega)];exact zm,AC _ _ _⟩) ?_;rintro v h' m' ⟨hm',hfr,⟨c,g0,gc,g1,g2,g3⟩|⟨g0,g1,g3⟩⟩;refine⟨_,_,g3,by simp,?_⟩;simp[go_sem];refine⟨by omega,λo y e=>?_⟩;have o1:o<n+2:=hGb 0 o y e;by_cases o2:o=n+1;subst o2;rw[AD _ _ (by omega),g1,<-e,hGa];rw[AD _ _ (by omega),hfr o (by rintro(g|g|g)<;>omega) (by omega) (by omega),AD _ _ (by omega)];exact k4 _ _ ((AD _ _ (by omega)).trans e);refine⟨_,_,g3,by simp,?_⟩;simp[go_sem];rw[AD _ _ (by omega:n+1≠m3),g1];refine⟨_,rfl,GQ ho (λo y e=>?_) (by simp[closed]) ⟨16,rfl⟩⟩;have o1:o<n:=hHb o y e;rw[AD _ _ (by omega),hfr o (by rintro(g|g|g)<;>omega) (by omega) (by omega),AD _ _ (by omega)];exact k4 _ _ ((AD _ _ (by omega)).trans (hGk 0 _ _ e))
     refine AH ?_;simp[go_sem,w1,IO,-Int.natCast_add];exact⟨i+1,by omega,⟨by omega,hm⟩,rfl⟩
   refine AH ?_;simp[go_sem,hlt,IO,hm]
 refine AH ?_;simp[go_sem,hGa,hGs];exact out _ _
structure AK.sizedT (s:AK):Prop extends AK.sized s where
 tpl:∀x∈s.lists,∀y∈x.levels,y.template.size<=1048576
 com:∀x∈s.comments,x.author.size<=1048576/\x.text.size<=1048576
 var:∀x∈s.vars,x.name.size<=1048576/\x.value.size<=1048576
theorem dD (s:AK) (hs:s.sizedT):TC 83 [s.enc] FM:=
 t83 s (cm _ hs.styles hs.props)
  (cn _ hs.lists λi hi=>ct _ hs.lists i hi (cv _ (hs.levels _ (ql hi)) λx hx k=>dA x.template (hs.tpl _ (ql hi) x hx) k))
  (co _ hs.comments λi hi=>cw _ hs.comments hs.com i hi)
  (cp _ hs.vars λi hi=>cy _ hs.vars hs.var i hi)
structure AI.sizedT (B N:Nat) (d:AI):Prop where
 flow:Da AF.sized B N d.flow
 «end» : d.«end».sized
 revs:d.revs.length<=1048576
 authors:∀r∈d.revs,r.author.size<=1048576
 settings:d.settings.sizedT
theorem Wr (d:AI) {B N:Nat} (hB:B<=1048576) (hd:d.sizedT B N):TC 12 [d.enc] (Qb N d):=
 ck d hB hd.flow (t24 d hB hd.flow hd.end hd.settings.styles hd.settings.lists hd.revs hd.authors (dD _ hd.settings))
structure VB (h:AF):Prop where
 move:h.move=0
 dels:h.dels=[]
 layers:h.layers=[]
theorem c44 (x:AF) (hx:VB x):PC 44 [x.enc] (.imm 0 [] true):=by
 intro h n;refine gq Tryz.func44 rfl λho=>?_;have hh:∀a b c,∀o y,h o=some y->hset (hset (hset h n a) (n+1) b) (n+1) c o=some y:=λa b c=>AQ ho (by omega) (AQ ho (by omega) (AQ ho (qa _) AB));obtain⟨h1,h2,_⟩:=hx;simp[go_sem,AF.enc,AF.flat,AC,AD,h1,h2];refine An 1 (α:=Unit) (λk=>[(3,.imm 0 [] true),(22,AP []),(23,AA 0),(24,AA 0)]) (λ_=>h) (λk m=>n<=m) (λk=>0) () ?_ ?_ ?_ ?_;omega;simp[Ai];exact hh _ _ _;rintro _ m hm;simp[go_sem];exact Ay ho AB rfl rfl
theorem d43 (p:BW) (hp:VB p.head) (t:Nat) {H:Hp} {n:Nat}:BA Tryz.prog 43 [p.enc,.ptr t 0] H n (λv h' n'=>v=.tup []/\h'=H/\n'=n):=by
 refine Db Tryz.func43 rfl λho=>?_;refine AY 1 [(1,.ptr t 0),(2,.iptr (p.head.flat++[.bool p.mid,AA p.units]))] H n ?_ (λm hm=>?_);simp[go_sem,BW.enc,AF.flat,IO];refine⟨AV (ho.none (qa n)) (by simp[hset]),AJ (λj z e=>(ho j z e).1) AB⟩;refine AH ?_;simp[go_sem,AF.flat];refine qw (by simpa[AF.enc,AF.flat]using c44 p.head hp) ?_;simp[go_sem];refine An 0 (α:=Unit) (λk=>[(8,.imm 0 [] true),(9,AA 0),(10,AA 0)]) (λ_=>H) (λk m=>n<=m) (λk=>0) () ?_ ?_ AB ?_;omega;simp[Ai,IO];rintro _ m hm;simp[go_sem];exact B9 ho (by simp[closed,closedL]) AB
def Po:Unit->Nat->Option BT:=λ_ _=>none
theorem ZX (s:Unit) (H:Hp):Aj Po s H=H:=rfl
theorem v43 (n0 t:Nat):Vu Po n0 43 [] [.ptr t 0] (λs _=>s) VB where
 lt _ _ _:=rfl
 dom _ _ _ _:=rfl
 cl _ _ _ e:=by cases e
 call s p H n hp _ hn hs:=by rw[ZX];exact d43 p hp t
theorem c48 (a x:Int):PC 48 [AA x,.iptr [AA a]] (.bool (x==a)):=by
 intro h n;refine gq Tryz.func48 rfl λho=>?_;simp[go_sem];exact Ay ho AB (by by_cases e:x=a<;>simp[e]) rfl
theorem aZ:PC 254 [.imm 2 [] false,AA 0,AA 0,.fn (.func 120) [] []] (.tup []):=by
 intro h n;refine gq Tryz.func254 rfl λho=>?_;simp[go_sem];refine An 1 (α:=Unit) (λk=>[(2,AA 0),(8,AA 1)]) (λ_=>h) (λk m=>n<=m) (λk=>0) () ?_ ?_ AB ?_;omega;simp[Ai,show IntKind.i64.wrap 1=1 from by decide,IO];rintro _ m hm;simp[go_sem];exact Ay ho AB rfl rfl
theorem aE:PC 188 [.imm 2 [] false,AA 0,.fn (.func 120) [] []] (.tup []):=by
 intro h n;refine gq Tryz.func188 rfl λho=>?_;simp[go_sem];refine An 1 (α:=Unit) (λk=>[(0,.imm 2 [] false),(1,AA 0),(2,.fn (.func 120) [] []),(6,AA 20),(7,AA 0),(8,AA 20)]) (λ_=>h) (λk m=>n<=m) (λk=>0) () ?_ ?_ AB ?_;omega;simp[Ai];rintro _ m hm;simp[go_sem];refine qw aZ ?_;simp[go_sem];refine An 1 (α:=Unit) (λk=>[(1,AA 0),(6,AA 20)]) (λ_=>h) (λk m=>n<=m) (λk=>0) () ?_ ?_ AB ?_;omega;simp[Ai];rintro _ m hm;simp[go_sem];exact Ay ho AB rfl rfl
theorem Zq:PC 119 [.imm 2 [] false,.fn (.func 120) [] []] (.tup []):=by
 intro h n;refine gq Tryz.func119 rfl λho=>?_;simp[go_sem];refine qw aE ?_;simp[go_sem];exact Ay ho AB rfl rfl
set_option maxHeartbeats 2000000 in
theorem bQ (l:List Ax) (hl0:l≠[]) (hl:l.length<=1048576) (r:Ax) {H:Hp} {n o k:Nat} {full:Bool} (hH:H o=some (.cells ((l.map Ax.enc).flatMap SV.cells))) (hk:H k=some (.cells [AA r.id,.str r.author,AA r.time])) (hok:o≠k):
 BA Tryz.prog 117 [.sl o 0 3 l.length full,AA l.length,.sl k 0 3 1 true] H n (λv h' n'=>v=Ao (l++[r])/\h'=hset H o none/\n'=n):=by
 refine Db Tryz.func117 rfl λho=>?_;have hHb:=ho.lt;have hfl:flat H (.sl o 0 3 l.length full)=some ((l.map Ax.enc).flatMap SV.cells):=by
  have:((l.map Ax.enc).flatMap SV.cells).length=l.length*3:=by rw[A7 (z:=3) (Ax.E.size l)];simp
  simp[flat,hH,Bg,<-this,-List.length_flatMap]
 have hfl2:flat H (.sl k 0 3 1 true)=some [AA r.id,.str r.author,AA r.time]:=by simp[flat,hk,Bg]
 have ht:A9 Tryz.prog 30=some 42:=by simp[go_sem]
 have hap:AU Tryz.prog H n .append [30,30] [.sl o 0 3 l.length full,.sl k 0 3 1 true]=some { val:=.sl n 0 3 (l.length+1) false,upd:=if full then none else some (o,none),new:=some (.cells ((l.map Ax.enc).flatMap SV.cells++[AA r.id,.str r.author,AA r.time])) }:=by
  have hz:Bh Tryz.prog 42=3:=by simp[go_sem]
  have hst:(BH Tryz.prog 42).storable=true:=by simp[go_sem]
  have hzl:(BH Tryz.prog 42).cells.length=3:=by simp[go_sem]
  have hb:BY Tryz.prog 42<=65536:=by simp[go_sem]
  have hro:C4 (l.length+1) (BY Tryz.prog 42)=true:=by simp[C4,hb];omega
  simp[AU,ht,Cm,hz,hst,hzl,Dw,hfl,hfl2,Hd,hro,HI,Gq]
 have fin:∀(h':Hp) (n':Nat),h'=hset (match(if full then none else some (o,(none:Option BT)))with|some (j,x)=>hset H j x|none=>H) n (some (.cells ((l.map Ax.enc).flatMap SV.cells++[AA r.id,.str r.author,AA r.time])))->B8 n h' n' (.sl n 0 3 (l.length+1) false) (λv h' n'=>v=Ao (l++[r])/\h'=hset H o none/\n'=n):=λh' n' e=>by
  have hon:=hHb o _ hH;have hcs:((l++[r]).map Ax.enc).flatMap SV.cells=(l.map Ax.enc).flatMap SV.cells++[AA r.id,.str r.author,AA r.time]:=by simp[Ax.enc,SV.cells]
  refine .inr ⟨1,Ao (l++[r]),hset H o none,?_,Ax.E.imm _ _ _ _,λj y e2=>?_,rfl,rfl,rfl⟩;have:=DV (h':=h') (h:=hset H o none) (k:=0) (z:=3) (es:=(l++[r]).map Ax.enc) (full:=false) (full':=false) (o:=n) (by rw[AD _ _ (by omega)];exact ho.none (qa n)) (by simp) (by rw[e,AC,hcs]) (Ax.E.size _);rw[qd,qt]at this;exact this;by_cases e1:j=o;subst e1;rw[AC]at e2;cases e2;rw[AD _ _ e1]at e2;refine⟨?_,ho j y e2⟩;have:=hHb j y e2;rw[e,AD _ _ (by omega)];cases full;simp only[qj,if_false];rw[AD _ _ e1];exact e2;exact e2
 refine AH ?_;have w:¬l.length=0:=by simpa using hl0
 simp[go_sem,hl0];rw[hap];cases full<;>simp[go_sem]<;>exact fin _ _ (by simp)
def VD:Tr:=(.pure 0 (.pure 2 (.two 1 3 (.one 3 (.one 4 (.one 5 (.pure 6 (.pure 7 .nil))))) (.two 1 4 (.one 4 (.one 5 (.pure 6 (.pure 7 .nil)))) (.one 1 (.one 5 (.pure 6 (.pure 7 .nil))))))))
section
variable {P : Program} {E : B6} {evs : Operand → SV} {o : Oper} {h : Hp} {n : Nat} {K : SV → Hp → Nat → Prop}
def F3 (P:Program) (kt:TypeId) (cs:List SV):List (SV×SV)->Nat->Option (Option (Nat×SV))
 | [],_=>some none
 | e :: es, i => match e.1 with
  | .agg ds=>match Bv P cs ds (Ba P kt)with
   | some true=>some (some (i,e.2))
   | some false=>F3 P kt cs es (i+1)
   | none=>none
  | _=>none
structure Vq (P:Program) (kt:TypeId):Prop where
 ht:P.underlying kt=some (.struct (P.fieldsOf kt))
 hp:P.stoodInHeld kt=false
theorem Mi {c:Cx} {kt:TypeId} (hk:Vq P kt) {cs ds:List SV} {v u:Value} {b:Bool} (hv:V c (.agg cs) v) (hu:V c (.agg ds) u) (hb:Bv P cs ds (Ba P kt)=some b) (w:World):(Op.equal kt v u).run P w=.ok b w:=by
 obtain⟨vs,e1,h1,h2⟩:=Eh hv;obtain⟨us,e2,h3,h4⟩:=Eh hu;have hr:=HV h1 h3 h2 h4 9998 w _ _ hb;rw[e1,e2];show(Op.equalIn 10000 kt _ _).run P w=_;rw[run_equalIn_struct w 9999 kt _ _ hk.ht hk.hp];exact hr
theorem J1 {c:Cx} {kt:TypeId} (hk:Vq P kt) {cs:List SV} {v:Value} (hv:V c (.agg cs) v) (w:World):
 ∀(es:List (SV×SV)) (ents:List MapEntry) (i:Nat) (r:Option (Nat×SV)),AZ (λ(p:SV×SV) (e:MapEntry)=>V c p.1 e.key/\V c p.2 e.val) es ents->F3 P kt cs es i=some r->
  (r=none/\(Instr.findAsking kt v ents i).run P w=.ok none w)\/∃j x y e ds,r=some (i+j,x)/\(Instr.findAsking kt v ents i).run P w=.ok (some (i+j,y)) w/\V c x y/\ents[j]? = some e/\V c (.agg ds) e.key/\Bv P cs ds (Ba P kt)=some true
 | [],ents,i,r,h,hf=>by
  simp only[F3,qh]at hf;subst hf;rw[h.nil_left];exact .inl ⟨rfl,by simp[Instr.findAsking]⟩
 | p::es,[],i,r,h,_=>h.elim
 | p::es,e::ents,i,r,h,hf=>by
  obtain⟨⟨h1,h2⟩,h3⟩:=h;simp only[F3]at hf;split at hf<;>try cases hf
  rename_i ds hds;rw[hds]at h1;split at hf;rename_i he;cases hf;have:=Mi hk hv h1 he w;exact .inr ⟨0,p.2,e.val,e,ds,rfl,by simp[Instr.findAsking,this],h2,rfl,h1,he⟩;rename_i he;have:=Mi hk hv h1 he w;rcases J1 hk hv w es ents (i+1) r h3 hf with⟨rfl,hg⟩|⟨j,x,y,e',ds',rfl,hg,hxy,hj,hs⟩
  exact .inl ⟨rfl,by simp[Instr.findAsking,this,hg]⟩;exact .inr ⟨j+1,x,y,e',ds',by congr 2;omega,by rw[show i+(j+1)=i+1+j by omega];simp[Instr.findAsking,this,hg],hxy,by simpa using hj,hs⟩;cases hf
end
theorem LH (b:Bool) (x y:Int) (w:World):(Instr.checkKey b 10000 89 (.agg #[.int .i64 x,.int .i64 y])).run Tryz.prog w=.ok () w:=by
 have u89:Tryz.prog.underlying 89=_:=Tryz.underlying89;have u3:Tryz.prog.underlying 3=_:=Tryz.underlying3;have g3:∀n z,(Instr.checkKey b (n+1) 3 (.int .i64 z)).run Tryz.prog w=.ok () w:=λn z=>by simp[Instr.checkKey,AO u3]
 have ha:Fm Tryz.prog 3=some false:=by simp[go_sem]
 have p:∀(cs:Array Value) off v,cs[off]? = some v->(part 3 cs off).run Tryz.prog w=.ok v w:=λcs off v h=>by simp[part,Dz ha,h]
 have gen:∀n,(Instr.checkKey b (n+2) 89 (.agg #[.int .i64 x,.int .i64 y])).run Tryz.prog w=.ok () w:=λn=>by
  rw[Instr.checkKey];simp only[Sem.run_bind,AO u89,Result.andThen_ok];rw[<-Array.forIn_toList];simp[List.forIn_cons,p #[.int .i64 x,.int .i64 y] 0 (.int .i64 x) rfl,p #[.int .i64 x,.int .i64 y] 1 (.int .i64 y) rfl,g3]
 exact gen 9998
section
variable {E : B6} {evs : Operand → SV} {o : Oper} {h : Hp} {n : Nat} {K : SV → Hp → Nat → Prop}
theorem GB {kt:TypeId} {fs:Array Field} {v:Value} {ents:List MapEntry} {r:Option (Nat×Value)} {w:World} (hu:Tryz.prog.underlying kt=some (.struct fs)) (hf:(Instr.findAsking kt v ents 0).run Tryz.prog w=.ok r w):(Instr.findKey kt v ents).run Tryz.prog w=.ok r w:=by
 cases ents with
 | nil=>
  simp[Instr.findAsking]at hf;subst hf;simp[Instr.findKey,AO hu,Instr.findNow]
 | cons e es=>
  have:Instr.findNow (.struct fs) v (e::es) 0=none:=by simp[Instr.findNow,Instr.sameNow]
  simp[Instr.findKey,AO hu,this,hf]
theorem Vf:Vq Tryz.prog 89:=⟨by kernel_rfl,by kernel_rfl⟩
theorem Vv {c:Cx} {a b:Int} {v:Value} (h:V c (.agg [.int .i64 a,.int .i64 b]) v):v=.agg #[.int .i64 a,.int .i64 b]:=by
 simp only[V,VL]at h;obtain⟨vs,rfl,⟨_,_,rfl,rfl,_,_,rfl,rfl,rfl⟩,_⟩:=h;rfl
end
section
variable {E : B6} {evs : Operand → SV} {o : Oper} {h : Hp} {n : Nat} {K : SV → Hp → Nat → Prop}
theorem YM:(Ba Tryz.prog 89).map (λf=>(f.name == "_",f.type,f.offset))=[(false,3,0),(false,3,1)]:=by kernel_rfl
theorem Wo {a b:Int} {ds:List SV} (hl:ds.length=2) (hf:Bv Tryz.prog [.int .i64 a,.int .i64 b] ds (Ba Tryz.prog 89)=some true):ds=[.int .i64 a,.int .i64 b]:=by
 rw[CT,YM]at hf
 match ds,hl with
 | [x, y], _ =>
  have ti:(Jl Tryz.prog 3).isSome=true:=by simp[go_sem]
  have ts:Bh Tryz.prog 3=1:=by simp[go_sem]
  have ta:Fm Tryz.prog 3=some false:=by simp[go_sem]
  have one:∀(c:Int) (z:SV) (r:Bool),DP Tryz.prog 3 (.int .i64 c) z=some r->∃d,z=.int .i64 d/\r=(c==d):=λc z r hc=>by
   cases z with
   | int k d=>
    simp only[DP,ti,ts,ta,and_true]at hc;split at hc;rename_i e;subst e;cases hc;exact⟨d,rfl,rfl⟩;cases hc
   | _=>simp[DP]at hc
  simp only[DA,qj,if_false,jG,List.getElem?_cons_succ]at hf;cases h1:DP Tryz.prog 3 (.int .i64 a) x with
  | none=>simp[h1]at hf
  | some r1 =>
   cases r1 with
   | false=>simp[h1]at hf
   | true =>
    simp only[h1]at hf;cases h2:DP Tryz.prog 3 (.int .i64 b) y with
    | none=>simp[h2]at hf
    | some r2 =>
     cases r2 with
     | false=>simp[h2]at hf
     | true=>
      obtain⟨d1,rfl,e1⟩:=one a x true h1;obtain⟨d2,rfl,e2⟩:=one b y true h2;have e1':a=d1:=by simpa using e1.symm
      have e2':b=d2:=by simpa using e2.symm
      rw[e1',e2']
theorem Ou {kt:TypeId} {cs:List SV}:∀(es:List (SV×SV)) (i:Nat) (j:Nat) (x:SV),F3 Tryz.prog kt cs es i=some (some (i+j,x))->∃ds v,es[j]? = some (.agg ds,v)/\Bv Tryz.prog cs ds (Ba Tryz.prog kt)=some true
 | [],i,j,x,h=>by simp[F3]at h
 | p::es,i,j,x,h=>by
  simp only[F3]at h;split at h<;>try cases h
  rename_i ds hds;split at h;rename_i he;simp only[qh,Prod.mk.injEq]at h;have:j=0:=by omega
  subst this;exact⟨ds,p.2,by simp[<-hds],he⟩
  . cases j with
    | zero =>
     exfalso;have hge:∀(es:List (SV×SV)) (i k:Nat) (x:SV),F3 Tryz.prog kt cs es i=some (some (k,x))->i<=k:=by
      intro es
      induction es with
      | nil=>intro i k x h;simp[F3]at h
      | cons p es ih=>
       intro i k x h;simp only[F3]at h;split at h<;>try cases h
       split at h;simp only[qh,Prod.mk.injEq]at h;omega;have:=ih _ _ _ h;omega;cases h
     have:=hge _ _ _ _ h;omega
    | succ j=>
     obtain⟨ds',v,h1,h2⟩:=Ou es (i+1) j x (by rw[show i+1+j=i+(j+1)by omega];exact h);exact⟨ds',v,by simpa using h1,h2⟩
  cases h
end
section
variable {E : B6} {evs : Operand → SV} {o : Oper} {h : Hp} {n : Nat} {K : SV → Hp → Nat → Prop}
def Vd (p:SV×SV):Prop:=∃a b:Int,p.1=.agg [.int .i64 a,.int .i64 b]
end
section
variable {P : Program} {E : B6} {evs : Operand → SV} {o : Oper} {h : Hp} {n : Nat} {K : SV → Hp → Nat → Prop}
theorem T6 {t:TypeId} {x:Operand} {j off z len cap:Nat} (ho:o.op=.call { callee:=.builtin .len,args:=#[x],argTypes:=#[t] }) (ht:(A9 P t).isSome=true) (hx:evs x=.slc j off z len cap) (hk:K (.int .i64 len) h n):EI E P evs o h n K:=by
 refine⟨by rw[ho];simp,λc ev _ _ R F hv=>?_⟩;have hvx:=hv x;rw[hx,V]at hvx;obtain⟨b,st,_,hu,_⟩:=hvx;obtain⟨e,he⟩:=jn.1 ht;refine⟨.int .i64 len,.int .i64 len,h,n,c,Bi (P:=P) (ev:=ev) ho _ _ _ λcs=>?_,by rw[V],R,F,ke n c,hk⟩;simp[builtin,Builtin.len_,AO (A5 he),goInt,hu]
theorem Pf {t:TypeId} {x:Operand} {j off z len cap:Nat} (ho:o.op=.call { callee:=.builtin .cap,args:=#[x],argTypes:=#[t] }) (ht:(A9 P t).isSome=true) (hx:evs x=.slc j off z len cap) (hk:K (.int .i64 cap) h n):EI E P evs o h n K:=by
 refine⟨by rw[ho];simp,λc ev _ _ R F hv=>?_⟩;have hvx:=hv x;rw[hx,V]at hvx;obtain⟨b,st,_,hu,_⟩:=hvx;obtain⟨e,he⟩:=jn.1 ht;refine⟨.int .i64 cap,.int .i64 cap,h,n,c,Bi (P:=P) (ev:=ev) ho _ _ _ λcs=>?_,by rw[V],R,F,ke n c,hk⟩;simp[builtin,Builtin.cap_,AO (A5 he),goInt,hu]
theorem PZ {isS:Bool} {len cap l m:Nat} {lo hi:Option Value} (hlo:(lo=none/\l=0)\/∃i,lo=some (.int i l)) (hhi:(hi=none/\m=len)\/∃i,hi=some (.int i m))
 (h1:l<=m) (h2:m<=cap) (w:World):(Instr.sliceBounds isS len cap lo hi none).run P w=.ok (l,m,cap) w:=by
 have hb:=λ(code:BoundsCode) (i:IntKind)=>FW (P:=P) (i:=i) (n:=(l:Int)) (y:=m) (code:=code) (by omega) (by omega) w;have Hn:=λ(code:BoundsCode) (i:IntKind)=>FW (P:=P) (i:=i) (n:=(m:Int)) (y:=cap) (code:=code) (by omega) (by omega) w;simp only[Int.toNat_natCast]at hb Hn;rcases hlo with⟨rfl,hl⟩|⟨i,rfl⟩<;>rcases hhi with⟨rfl,hm⟩|⟨j,rfl⟩
 simp[Instr.sliceBounds,hl,hm];simp[Instr.sliceBounds,hl,Hn];subst hm;simp[Instr.sliceBounds,hb];simp[Instr.sliceBounds,hb,Hn]
theorem D6 {t e:TypeId} {x:Operand} {lo hi:Option Operand} {j off z len cap l m:Nat} (ho:o.op=.slice t x lo hi none) (ht:A9 P t=some e) (hz:Bh P e=z) (hz0:z≠0) (hx:evs x=.slc j off z len cap)
 (hlo:(lo=none/\l=0)\/∃y,lo=some y/\evs y=.int .i64 l) (hhi:(hi=none/\m=len)\/∃y,hi=some y/\evs y=.int .i64 m) (hlm:l<=m) (hm:m<=cap) (hl2:l<cap\/l=0)
 (hk:K (.slc j (off+l*z) z (m-l) (cap-l)) h n):EI E P evs o h n K:=by
 refine⟨by rw[ho];simp,λc ev _ _ R F hv=>?_⟩;have hvx:=hv x;rw[hx,V]at hvx;obtain⟨b,st,hρ,hu,hcap,hroom⟩:=hvx;obtain⟨ii,hi',hsz⟩:=EZ (P:=P) (e:=e) (by omega);have hL:(lo.map ev=none/\l=0)\/∃i,lo.map ev=some (.int i l):=by
  rcases hlo with⟨rfl,e1⟩|⟨y,rfl,e1⟩
  exact .inl ⟨rfl,e1⟩;have:=hv y;rw[e1]at this;exact .inr ⟨.i64,by simp[C7 this]⟩
 have hH:(hi.map ev=none/\m=len)\/∃i,hi.map ev=some (.int i m):=by
  rcases hhi with⟨rfl,e1⟩|⟨y,rfl,e1⟩
  exact .inl ⟨rfl,e1⟩;have:=hv y;rw[e1]at this;exact .inr ⟨.i64,by simp[C7 this]⟩
 have hr:=Gl (P:=P) (A5 ht) ⟨ii,hi',hsz.symm.trans hz⟩ (some ⟨b,st+off,none⟩) len cap l m cap (PZ (isS:=true) hL hH hlm hm c.w);rw[<-hu]at hr;refine⟨_,.slc j (off+l*z) z (m-l) (cap-l),h,n,c,by simp[execOp,ho,hr];rfl,?_,R,F,ke n c,hk⟩;rw[V];refine⟨b,st,hρ,?_,by omega,?_⟩;split;rename_i e1;have:l=0:=by omega
 subst this;simp;simp[Fc,qD];have:l*z+(cap-l)*z=cap*z:=by rw[<-jB];congr 1;omega
 omega
theorem To {c:Cx} {q off:Nat} {cs xs:List SV} {ty:Option TypeId} {us:List Value} {b st:Nat} (R:Bn h c) (ho:h q=some (.cells cs ty)) (hρ:c.ρ q=some (b,st))
 (hle:off<=cs.length) (hge:cs.length<=off+xs.length) (hroom:st+off+us.length<=rm c.w b) (hx:AZ (V c) xs us) (h1:∀x∈us,x.oneCell'=true):
 ∃w',(storeCells ⟨b,st+off,none⟩ us).run P c.w=.ok () w'/\Bn (hset h q (some (.cells (cs.take off++xs) ty))) { c with w:=w' }/\DZ c { c with w:=w' }:=by
 obtain⟨b',st',arr,e,vs,g1,g2,g3,g4,g5,g6⟩:=R.obj _ _ ho;rw[hρ]at g1;cases g1;have hl:=hx.length;have hl2:=g4.length;have hrm:rm c.w b=arr.size:=by simp[rm,g2]
 rw[hrm]at hroom;have hrun:=run_storeCells_at (P:=P) b (st+off) e us 0 arr c.w g2 (by simpa using hroom) h1;simp only[jJ]at hrun;refine⟨_,hrun,?_⟩;have hnew:=setRow_heap c.w b arr (arr.toList.take (st+off)++us++arr.toList.drop (st+off+us.length)).toArray e (0,0) g2;refine R.write ho hρ (IJ _ _ _) (λb' hb'=>Ha _ _ _ hb') ?_ rfl rfl (λE=>?_);simp only[rm,g2,hnew];simp;omega;refine⟨b,st,_,e,vs.take off++us,hρ,hnew,λi x hx=>?_,kL E (jS (g4.take off) hx),λx hx=>?_,g6⟩;simp only[List.getElem?_toArray,qn];have eA:(arr.toList.take (st+off)).length=st+off:=by simp;omega
 have eV:(vs.take off).length=off:=by simp;omega
 by_cases hi:i<off;rw[jD (by omega)]at hx ⊢;rw[jf,if_pos (by omega)]at hx ⊢;simpa using g3 i x hx;rw[qV (by omega),eV]at hx;have hi2:=(qo.1 hx).1;rw[qV (by omega),eA,jD (by omega),show st+i-(st+off)=i-off by omega];exact hx;rcases qe.1 hx with hx|hx;exact g5 x (qH hx);exact h1 x hx
theorem SF {t t2 e:TypeId} {x y:Operand} {j z offd dl dcap offs sl scap k:Nat} {cs:List SV} {ty:Option TypeId} (ho:o.op=.call { callee:=.builtin .copy,args:=#[x,y],argTypes:=#[t,t2] }) (ht:A9 P t=some e) (hz:Bh P e=z) (hz0:z≠0)
 (hx:evs x=.slc j offd z dl dcap) (hy:evs y=.slc j offs z sl scap) (hj:h j=some (.cells cs ty)) (hk:Nat.min sl dl=k) (hin:offs+k*z<=cs.length) (hle:offd<=cs.length) (hge:cs.length<=offd+k*z)
 (hK:K (.int .i64 k) (hset h j (some (.cells (cs.take offd++(cs.drop offs).take (k*z)) ty))) n):EI E P evs o h n K:=by
 refine⟨by rw[ho];simp,λc ev _ _ R F hv=>?_⟩;have hvx:=hv x;have hvy:=hv y;rw[hx,V]at hvx;rw[hy,V]at hvy;obtain⟨b,st,hρ,hu,hcap,hroom⟩:=hvx;obtain⟨b',st',hρ',hu',hcap',hroom'⟩:=hvy;rw[hρ]at hρ';cases hρ';obtain⟨ii,hi',hsz⟩:=EZ (P:=P) (e:=e) (by omega);obtain⟨b',st',arr,e',vs,g1,g2,g3,g4,g5,g6⟩:=R.obj _ _ hj;rw[hρ]at g1;cases g1;have hvl:=g4.length;have hul:((vs.drop offs).take (k*z)).length=k*z:=by simp;omega
 have hxl:((cs.drop offs).take (k*z)).length=k*z:=by simp;omega
 have hone:∀x∈(vs.drop offs).take (k*z),x.oneCell'=true:=λx hx=>g5 x (qT (qH hx));have hkd:k*z<=dl*z:=jt _ (by rw[<-hk];exact Nat.min_le_right _ _);have hdc:dl*z<=dcap*z:=jt _ hcap;obtain⟨w',hst,R',X⟩:=To (P:=P) (off:=offd) R hj hρ hle (by rw[hxl];exact hge) (by rw[hul];omega) ((g4.drop offs).take (k*z)) hone;have hfirst:(Builtin.firstCells z k (.slice (some ⟨b,st+offs,none⟩) sl scap)).run P c.w=.ok ((vs.drop offs).take (k*z)).toArray c.w:=by
  have:=run_loadCells_list (P:=P) c.w ⟨b,st+offs,none⟩ ((vs.drop offs).take (k*z)) (λi v hv=>by
   rw[Cr rfl];rw[jf]at hv;split at hv;rw[qY]at hv;have:=g3 _ _ hv;simp only[World.cell?,g2,qD];simpa using this;cases hv)
  rw[hul]at this;simpa[Builtin.firstCells]using this
 refine⟨.int .i64 k,.int .i64 k,_,n,_,Bi (P:=P) (ev:=ev) ho _ _ _ λc2=>?_,by rw[V],R',F,⟨X,qa _,λ_ _=>rfl⟩,hK⟩;have hsz2:ii.size=z:=hsz.symm.trans hz;simp[builtin,Builtin.copy_,AO (A5 ht),sizeOf,typeInfo,hi',hsz2,Builtin.lenOf,hu,hu',hk,hfirst,hst,goInt]
theorem Pe {t tn e:TypeId} {x y:Operand} {j off z len cap k:Nat} {cs:List SV} {ty:Option TypeId} (ho:o.op=.call { callee:=.builtin .append,args:=#[x,y],argTypes:=#[t,tn] }) (ht:A9 P t=some e) (htn:Jl P tn=some .i64)
 (hz:Bh P e=z) (hz0:z≠0) (hst:(BH P e).storable=true) (hzl:(BH P e).cells.length=z) (hby:BY P e<=65536) (hx:evs x=.slc j off z len cap) (hy:evs y=.int .i64 k) (hk0:0<k) (hgt:cap<len+k) (hbig:len+k<=1073741824)
 (hj:h j=some (.cells cs ty)) (hin:off+len*z<=cs.length)
 (hK:K (.sl n 0 z (len+k) false) (hset h n (some (.cells ((cs.drop off).take (len*z)++(List.replicate k (BH P e).cells).flatten)))) (n+1)):EI E P evs o h n K:=by
 refine⟨by rw[ho];simp,λc ev _ _ R F hv=>?_⟩;have hvx:=hv x;have hvy:=hv y;rw[hx,V]at hvx;rw[hy]at hvy;have hvy:=C7 hvy;obtain⟨b,st,hρ,hu,hcap,hroom⟩:=hvx;obtain⟨ii,hi,hsz⟩:=EZ (P:=P) (e:=e) (by omega);have hsz2:ii.size=z:=hsz.symm.trans hz;obtain⟨i',zv,hi',hzz,hze⟩:=CB hst;rw[hi]at hi';cases hi';have hvz:=C9 c zv;rw[<-hze]at hvz;have hzsize:zv.cells.size=z:=by have:=(hvz.cells hst).1.length;simp at this;omega
 have hbb : ii.bytes ≤ 65536 := by have : BY P e = ii.bytes := by simp [BY, Program.bytesOf, hi]
                                   omega
 obtain⟨b',st',arr,e',vs,g1,g2,g3,g4,g5,g6⟩:=R.obj _ _ hj;rw[hρ]at g1;cases g1;have hvl:=g4.length;have hul:((vs.drop off).take (len*z)).length=len*z:=by simp;omega
 obtain⟨zr,z1⟩:=HJ hvz hst k;have BE:(Builtin.firstCells ii.size len (.slice (some ⟨b,st+off,none⟩) len cap)).run P c.w.drew=.ok ((vs.drop off).take (len*z)).toArray c.w.drew:=by
  have:=run_loadCells_list (P:=P) c.w.drew ⟨b,st+off,none⟩ ((vs.drop off).take (len*z)) (λi v hv=>by
   rw[Cr rfl];rw[jf]at hv;split at hv;rw[qY]at hv;have:=g3 _ _ hv;simp only[World.cell?,GG,g2,qD];simpa using this;cases hv)
  rw[hul]at this;rw[hsz2];simpa[Builtin.firstCells]using this
 have hmul:(len+k)*ii.bytes<=1073741824*65536:=Nat.mul_le_mul hbig hbb;have hmul2:k*ii.bytes<=1073741824*65536:=Nat.mul_le_mul (by omega) hbb;have hr:=Lib.run_append_grow_zeros (P:=P) c.w t tn o.type e ii zv .i64 .i64 (A5 ht) (FY htn) hi hzz (some ⟨b,st+off,none⟩) len cap _ BE k hk0 (by omega) hgt (by omega) (by omega) (growslice_fits hgt (by omega));have hcell:=Em zv.cells (by omega) k;have hfr:c.ρ n=none:=F n (qa n);have Rn:=KE (k:=n) (e:=e) (ty:=none) (cs:=(cs.drop off).take (len*z)++(List.replicate k (BH P e).cells).flatten) (vs:=(vs.drop off).take (len*z)++(Builtin.zeroCells zv.cells k).toList) (arr:=((vs.drop off).take (len*z)).toArray++Builtin.zeroCells zv.cells k++Builtin.zeroCells zv.cells (grownCap c.w (len+k) cap e-(len+k))) R.drew (by exact hfr)
  (jS (kL c.drew_ext ((g4.drop off).take (len*z))) (by rw[show(Builtin.zeroCells zv.cells k).toList=(List.replicate k zv.cells.toList).flatten from hcell];exact kL c.drew_ext zr))
  (λx hx=>by
    rcases qe.1 hx with hx|hx;exact g5 x (qT (qH hx));rw[show(Builtin.zeroCells zv.cells k).toList=(List.replicate k zv.cells.toList).flatten from hcell]at hx;exact z1 x hx)
  (λi x hx=>by
    have hlt:=(qo.1 hx).1;rw[jp (by simpa using hlt)];rw[<-Array.getElem?_toList];simpa using hx) Ty.none
 have En:=c.drew_ext.trans (c.drew.alloc_ext n (.cells (((vs.drop off).take (len*z)).toArray++Builtin.zeroCells zv.cells k++Builtin.zeroCells zv.cells (grownCap c.w (len+k) cap e-(len+k))) e) (by exact hfr));have hcap2:len+k<=grownCap c.w (len+k) cap e:=by unfold grownCap;exact Nat.le_add_right _ _
 refine⟨.slice (some ⟨c.w.heap.size,0,none⟩) (len+k) (grownCap c.w (len+k) cap e),.sl n 0 z (len+k) false,_,n+1,_,Bi (P:=P) (ev:=ev) ho _ _ _ λc2=>?_,?_,Rn,?_,⟨En,by omega,λj hj=>?_⟩,hK⟩;simp only[builtin,Sem.run_bind,List.map_toArray,qu,qS,hu,hvy];rw[hr];rfl;rw[V];refine⟨c.w.heap.size,0,grownCap c.w (len+k) cap e,by simp[Cx.alloc,Cx.drew,GG],by simp,hcap2,by simp,?_⟩;have e6:(len+k)*z+(grownCap c.w (len+k) cap e-(len+k))*z=grownCap c.w (len+k) cap e*z:=by rw[<-jB];congr 1;omega
 have e8:len*z+k*z=(len+k)*z:=by rw[jB]
 have e7:rm (c.drew.alloc n (.cells (((vs.drop off).take (len*z)).toArray++Builtin.zeroCells zv.cells k++Builtin.zeroCells zv.cells (grownCap c.w (len+k) cap e-(len+k))) e)).w c.w.heap.size =
  (((vs.drop off).take (len*z)).toArray++Builtin.zeroCells zv.cells k++Builtin.zeroCells zv.cells (grownCap c.w (len+k) cap e-(len+k))).size:=by
  simp[rm,Cx.alloc,Cx.drew,Bk,GG]
 rw[e7];simp only[Array.size_append,List.size_toArray,hul,Builtin.zeroCells,Array.size_map,Array.size_range,hzsize];omega;intro j hj;have:j≠n:=by omega
 simp[Cx.alloc,Cx.drew,this];exact F j (by omega);have:j≠n:=by omega
 simp[Cx.alloc,Cx.drew,this]
def ZQ (o:Oper):Bool:=match o.op with|.call { callee:=.value (.func f),.. }=>f==183|_=>false
def Jk (E:B6) (P:Program) (ops:Array Oper) (Q:SA->Hp->Nat->Prop):List Oper->SA->Hp->Nat->Prop
 | [],sa,h,n=>Q sa h n
 | o::rest,sa,h,n=>o.guard=none/\
  if ZQ o=true then EI E P (Gp sa) o h n λv h' n'=>Jk E P ops Q rest (EB sa o.dst v) h' n' else Ke E P o sa h n λv h' n'=>Jk E P ops Q rest (EB sa o.dst v) h' n'
variable {N : Nat} {ops : Array Oper}
theorem Kc {Q:SA->Hp->Nat->Prop} (Qp:Ce) (hQ:∀sa h n,Q sa h n->Qp .normal sa h n):∀(l:List Oper) (sa:SA) (h:Hp) (n n0:Nat) (c0 c:Cx) (a:Act),(∀o∈l,o.dst.all (· < N)=true)->
 Jk E P ops Q l sa h n->E.inv c->Bn h c->Fr n c->FR E N sa c a->Fq n0 c0 n c->wpListIn E.fc 0 P ops (Sl E N n0 c0 Qp) l a c.w
 | [],sa,h,n,n0,c0,c,a,_,H,I,R,F,A,X=>⟨sa,h,n,c,hQ _ _ _ H,rfl,R,F,A,X⟩
 | o :: rest, sa, h, n, n0, c0, c, a, hd, H, I, R, F, A, X => by
  have hdo:∀d,o.dst=some d->d<N:=λd e=>by have:=hd o (by simp);rw[e]at this;simpa using this
  simp only[Jk]at H;simp only[wpListIn];obtain⟨hg,H⟩:=H;have hg2:Dg ops sa o=some true:=by simp[Dg,hg]
  rw[Gz A hg2,if_pos rfl];have fin:∀v h' n' c' u,Jk E P ops Q rest (EB sa o.dst v) h' n'->V c' v u->Bn h' c'->Fr n' c'->Fq n c n' c'->wpListIn E.fc 0 P ops (Sl E N n0 c0 Qp) rest (a.put o.dst u) c'.w:=λv h' n' c' u hk hv R' F' X'=>
   Kc Qp hQ rest _ h' n' n0 c0 c' _ (λo ho=>hd o (by simp[ho])) hk (E.ext X'.ext I) R' F' ((A.ext X'.ext).put hdo hv) (X.trans X')
  split at H;obtain⟨hd2,H⟩:=H;refine⟨λ_ _=>trivial,?_⟩;rw[Oper.semAt_eq _ _ _ hd2];obtain⟨u,v,h',n',c',hr,hv,R',F',X',hk⟩:=H c a.eval (λ_=>rfl) I R F A.ev;rw[hr];exact fin v h' n' c' u hk hv R' F' X';exact IN H I R F A λv h' n' c' u hk hv R' F' X'=>fin v h' n' c' u hk hv R' F' X'
theorem OR {id:Nat} {Q:Ce} {sa:SA} {h:Hp} {n:Nat} (H:Jk E P ops (Q .normal) ops.toList sa h n):Fs E P N (.region id ops false) Q sa h n:=by
 intro hd c a I R F A;simp only[Code.dok,jj]at hd;exact wpIn_region_list (Kc Q (λ_ _ _ h=>h) _ sa h n n c c a hd H I R F A (ke n c))
end
section
variable {E : B6} {evs : Operand → SV} {o : Oper} {h : Hp} {n : Nat} {K : SV → Hp → Nat → Prop}
theorem N5 {f x y:Operand} {ts:Array TypeId} {k j off len cap:Nat} {a b c':SV} {full:Bool} {ds:List SV} {ty ty':Option TypeId} (ho:o.op=.call { callee:=.value f,args:=#[x,y],argTypes:=ts }) (hf:evs f=.fn (.func 183) [] [])
 (hx:evs x=.sl k 0 3 1 full) (hy:evs y=.slc j off 3 len cap) (hne:k≠j) (hk:h k=some (.cells [a,b,c'] ty)) (hj:h j=some (.cells ds ty')) (hds:ds≠[]) (hK:K (.bool false) h n):EI E Tryz.prog evs o h n K:=by
 refine⟨by rw[ho];simp,λc ev _ _ R F hv=>?_⟩;have hvf:=hv f;have hvx:=hv x;have hvy:=hv y;rw[hf,V]at hvf;obtain⟨xs,ys,hvf,h1,h2⟩:=hvf;simp only[VL]at h1 h2;subst h1;subst h2;rw[hx,V]at hvx;rw[hy,V]at hvy;obtain⟨bk,sk,capk,hρk,huk,_⟩:=hvx;obtain⟨bj,sj,hρj,huj,_⟩:=hvy;obtain⟨b1,s1,arrk,ek,vk,p1,p2,p3,p4,_⟩:=R.obj _ _ hk;rw[hρk]at p1;cases p1;obtain⟨b2,s2,arrj,ej,vj,q1,q2,q3,q4,_⟩:=R.obj _ _ hj;rw[hρj]at q1;cases q1;have hb:bk≠bj:=by
  rintro rfl;exact hne (R.inj k j _ _ bk sk sj hk hj hρk hρj)
 have hlj:arrj.size≠0:=by
  have hl:=q4.length;have:0<ds.length:=qA.2 hds;have h0:vj[0]? = some vj[0]:=qf (by omega);have:=(qp.1 (q3 _ _ h0)).1;omega
 obtain⟨i42,hi42,h3⟩:=qX.1 (show(Tryz.prog.info? 42).map (·.size)=some 3 by kernel_rfl);have hsz:∀w,(Go.sizeOf 42).run Tryz.prog w=.ok 3 w:=λw=>by simp[sizeOf,typeInfo,hi42,h3]
 have hov:=Lib.run_overlaps_apart (P:=Tryz.prog) c.w 30 4 42 Tryz.underlying30 3 hsz ⟨bk,sk+0,none⟩ ⟨bj,sj+off,none⟩ 1 capk len cap hb ek ej arrk.size arrj.size (by simp[World.shape?,p2]) (by simp[World.shape?,q2]) hlj (by simp[World.frozen?,p2]) (by simp[World.frozen?,p2]);have hcall:=run_callFunc_extern (P:=Tryz.prog) Tryz.func183 (by kernel_rfl) (by kernel_rfl) (by kernel_rfl) (e:=Extern.SlicesOverlaps.overlaps #[30,30] #[4]) (by kernel_rfl) #[.slice (some ⟨bk,sk+0,none⟩) 1 capk,.slice (some ⟨bj,sj+off,none⟩) len cap] c.w;rw[hov]at hcall;refine⟨.bool false,.bool false,h,n,c,?_,by rw[V],R,F,ke n c,hK⟩;simp only[Result.andThen_ok]at hcall;simp[execOp,ho,resolve,Deferred.ofValue,hvf,invoke,huk,huj];simpa using hcall
end
theorem Ak.cap {E:B6} {P:Program} {f:FuncId} {us:List SV} {o off z len:Nat} {full:Bool} {h:Hp} {n:Nat} {Q:SV->Hp->Nat->Prop} (H:∀cap,len<=cap->Ak E P f (.slc o off z len cap::us) h n Q):Ak E P f (.sl o off z len full::us) h n Q:=by
 refine⟨(H len (qa _)).1,λc vs I R F A=>?_⟩
 match vs,A with
 | v::vs,A=>
  obtain⟨hv,hA⟩:=A;rw[V]at hv;obtain⟨b,st,cap,h1,h2,h3,_,h4⟩:=hv;exact(H cap h3).2 c (v::vs) I R F ⟨by rw[V];exact⟨b,st,h1,h2,h3,h4⟩,hA⟩
def VH:Tr:=.pure 0 (.pure 1 (.pure 2 (.pure 3 (.pure 5 (.pure 6 (.two 4 7 (.one 7 (.one 8 .nil)) (.one 4 (.one 8 .nil))))))))
def Bu (l:List Ax):List SV:=(l.map Ax.enc).flatMap SV.cells
theorem GS (l:List Ax):(Bu l).length=l.length*3:=by
 have:=A7 (z:=3) (Ax.E.size l);rw[qd]at this;exact this
theorem KF (l:List Ax) (i:Nat) (hi:i<=l.length):(Bu l).take (i*3)=Bu (l.take i):=by
 have h1:Bu l=Bu (l.take i)++Bu (l.drop i):=by
  unfold Bu;rw[<-jm,<-qc,ja]
 have h2:=GS (l.take i);rw[h1,List.take_append_of_le_length (by rw[h2];simp;omega),qB (by rw[h2];simp;omega)]
theorem NK (l:List Ax) (i:Nat) (hi:i<=l.length):(Bu l).drop (i*3)=Bu (l.drop i):=by
 have h1:Bu l=Bu (l.take i)++Bu (l.drop i):=by
  unfold Bu;rw[<-jm,<-qc,ja]
 have h2:=GS (l.take i);rw[h1,List.drop_append_of_le_length (by rw[h2];simp;omega),kj (by rw[h2];simp;omega)];rfl
theorem PW (a b:List Ax):Bu (a++b)=Bu a++Bu b:=by unfold Bu;rw[qc,jm]
def F7 (l:List Ax) (i:Nat) (r:Ax):List Ax:=l.take i++r::l.drop i
theorem O7 (l:List Ax) (i:Nat) (r:Ax) (hi:i<=l.length):(F7 l i r).length=l.length+1:=by unfold F7;simp;omega
set_option maxHeartbeats 4000000 in
theorem Xp (l:List Ax) (hl:l.length<=1048576) (i:Nat) (hi:i<l.length) (r:Ax) {H:Hp} {n o k cap:Nat} (hcap:l.length<=cap) (hH:H o=some (.cells (Bu l))) (hk:H k=some (.cells [AA r.id,.str r.author,AA r.time])) (hok:k≠o):
 BA Tryz.prog 117 [.slc o 0 3 l.length cap,AA i,.sl k 0 3 1 true] H n (λv h' n'=>v=Ao (F7 l i r)/\h'=hset H o none/\n'=n):=by
 refine Db Tryz.func117 rfl λho=>?_;have hHb:=ho.lt;have ht:A9 Tryz.prog 30=some 42:=by simp[go_sem]
 have hz:Bh Tryz.prog 42=3:=by simp[go_sem]
 have hst:(BH Tryz.prog 42).storable=true:=by simp[go_sem]
 have hzl:(BH Tryz.prog 42).cells.length=3:=by simp[go_sem]
 have hb:BY Tryz.prog 42<=65536:=by simp[go_sem]
 have hti:Jl Tryz.prog 3=some .i64:=by simp[go_sem]
 have ht2:(A9 Tryz.prog 30).isSome=true:=by rw[ht];rfl
 have hC:=GS l;have hon:=hHb o _ hH;have hkn:=hHb k _ hk;have w1:=wS i (by omega);have w2:IntKind.i64.wrap ((l.length:Int)+1)=((l.length+1:Nat):Int):=by rw[Cl]<;>omega
 refine Ea 0 [(0,.slc o 0 3 l.length cap),(1,AA i),(2,.sl k 0 3 1 true)] H n (AH ?_) (λm hm=>?_);simp[go_sem,IO];subst hm;refine Ea 0 [(0,.slc o 0 3 l.length cap),(1,AA i),(2,.sl k 0 3 1 true)] H n (AH ?_) (λm hm=>?_);simp[go_sem];refine D6 (j:=o) (off:=0) (z:=3) (len:=l.length) (cap:=cap) (l:=i) (m:=l.length) rfl ht hz (by omega) (by simp[go_sem]) (.inr ⟨_,rfl,by simp[go_sem]⟩) (.inl ⟨rfl,rfl⟩) (by omega) hcap (by omega) ?_;simp[go_sem,IO];subst hm;refine Ea 0 [(0,.slc o 0 3 l.length cap),(1,AA i),(2,.sl k 0 3 1 true),(7,AA 1)] H n (AH ?_) (λm hm=>?_);simp[go_sem,IO];subst hm;refine Ea 0 [(0,.slc o 0 3 l.length cap),(1,AA i),(2,.sl k 0 3 1 true),(7,AA 1)] H n (AH ?_) (λm hm=>?_);simp[go_sem,IO];subst hm;refine Ea 0 [(0,.slc o 0 3 l.length cap),(1,AA i),(2,.sl k 0 3 1 true),(7,AA 1),(8,AA l.length)] H n (AH ?_) (λm hm=>?_);simp[go_sem];refine T6 (j:=o) (off:=0) (z:=3) (len:=l.length) (cap:=cap) rfl ht2 (by simp[go_sem]) ?_;simp[go_sem,IO];subst hm;refine Ea 0 [(0,.slc o 0 3 l.length cap),(1,AA i),(2,.sl k 0 3 1 true),(7,AA 1),(8,AA l.length)] H n (AH ?_) (λm hm=>?_);have:((i:Int)==l.length)=false:=by simp;omega
 simp[go_sem,IO,this];subst hm;have fin:∀(q:Nat) (full:Bool) (h':Hp) (n':Nat),n<=q\/q=o->h' q=some (.cells (Bu (F7 l i r)))->(∀j,j<n->j≠o->h' j=H j)->B8 n h' n' (.sl q 0 3 (l.length+1) full) (λv h' n'=>v=Ao (F7 l i r)/\h'=hset H o none/\n'=n):=λq full h' n' hq hc hh=>by
  have hcs:=GS (F7 l i r);have hon:hset H o none q=none:=by
   rcases hq with hq|rfl;rw[AD _ _ (by omega)];exact ho.none hq;exact AC _ _ _
  refine .inr ⟨1,Ao (F7 l i r),hset H o none,?_,Ax.E.imm _ _ _ _,λj y e2=>?_,rfl,rfl,rfl⟩;have:=DV (h':=h') (h:=hset H o none) (k:=0) (z:=3) (es:=(F7 l i r).map Ax.enc) (full:=full) (full':=false) (o:=q) hon (by simp) hc (Ax.E.size _);rw[qd,O7 _ _ _ (by omega)]at this;exact this;by_cases e1:j=o;subst e1;rw[AC]at e2;cases e2;rw[AD _ _ e1]at e2;have:=hHb j y e2;exact⟨by rw[hh j this e1];exact e2,ho j y e2⟩
 have hrc:Bu [r]=[AA r.id,.str r.author,AA r.time]:=by simp[Bu,Ax.enc,SV.cells]
 have hins:Bu (F7 l i r)=Bu (l.take i)++(Bu [r]++Bu (l.drop i)):=by
  rw[<-PW,<-PW];rfl
 have hlt:(Bu (l.take i)).length=i*3:=by rw[GS];simp;omega
 have hld:(Bu (l.drop i)).length=(l.length-i)*3:=by rw[GS];simp
 have hrl:(Bu [r]).length=3:=by rw[hrc];rfl
 by_cases hc:cap<l.length+1;refine GI ?_;refine Ea 0 [(0,.slc o 0 3 l.length cap),(1,AA i),(2,.sl k 0 3 1 true),(7,AA 1),(8,AA l.length),(31,.bool true)] H n (AH ?_) (λm hm=>?_);simp[go_sem,w2];refine Pf (j:=o) (off:=0) (z:=3) (len:=l.length) (cap:=cap) rfl ht2 (by simp[go_sem]) ?_;have:(cap:Int)<(l.length:Int)+1:=by omega
 simp[go_sem,IO,this];subst hm;refine Ah (b:=true) (by simp[go_sem]) ?_;simp only[if_true];obtain⟨Z,hZ⟩:∃Z,Z=(List.replicate (l.length+1-i) (BH Tryz.prog 42).cells).flatten:=⟨_,rfl⟩
 have hZl:Z.length=(l.length+1-i)*3:=by rw[hZ,List.length_flatten];simp[hzl]
 refine Bo 1 [(0,.sl o 0 3 l.length false),(1,AA i),(2,.sl k 0 3 1 true),(7,AA 1),(9,.sl n 0 3 (l.length+1) false)] (hset H n (some (.cells (Bu (l.take i)++Z)))) (λm=>n+1=m) (AH ?_) (λm hm=>?_);simp[go_sem];refine D6 (j:=o) (off:=0) (z:=3) (len:=l.length) (cap:=cap) (l:=0) (m:=i) rfl ht hz (by omega) (by simp[go_sem]) (.inl ⟨rfl,rfl⟩) (.inr ⟨_,rfl,by simp[go_sem]⟩) (by omega) (by omega) (by omega) ?_;have w3:IntKind.i64.wrap (((l.length+1:Nat):Int)-i)=((l.length+1-i:Nat):Int):=by rw[Cl]<;>omega
 simp[go_sem,w2,w3,-Int.natCast_add];refine Pe (j:=o) (off:=0) (z:=3) (len:=i) (cap:=cap) (k:=l.length+1-i) (e:=42) rfl ht hti hz (by omega) hst hzl hb (by simp[go_sem]) (by simp[go_sem]) (by omega) (by omega) (by omega) hH (by omega) ?_;rw[<-hZ];have e1:((Bu l).drop 0).take (i*3)=Bu (l.take i):=by rw[kn];exact KF l i (by omega)
 have e2:i+(l.length+1-i)=l.length+1:=by omega
 rw[e1,e2];simp[go_sem,Fz];subst hm;have hio:¬((i:Int)=l.length+1):=by omega
 have hile:(i:Int)<=l.length+1:=by omega
 have hGk:∀(y:Option BT),hset H n y k=some (.cells [AA r.id,.str r.author,AA r.time]):=λy=>by rw[AD _ _ (by omega)];exact hk
 have hGo:∀(y:Option BT),hset H n y o=some (.cells (Bu l)):=λy=>by rw[AD _ _ (by omega)];exact hH
 refine Bo 0 [(0,.sl o 0 3 l.length false),(1,AA i),(7,AA 1),(9,.sl n 0 3 (l.length+1) false)] (hset H n (some (.cells (Bu (l.take i)++(Bu [r]++Z.drop 3))))) (λm=>n+1=m) (AH ?_) (λm hm=>?_);have hmin:Nat.min 1 (l.length+1-i)=1:=jO (by omega);have h0:¬(l.length+1-i=0):=by omega
 have h5:i*3+3<=i*3+Z.length:=by omega
 have hdd:(Bu (l.take i)).drop (i*3+3)=[]:=kj (by omega);simp[go_sem,hio,hile,hGk,AC,hmin,hlt,h5,IO,AS,List.drop_append,hrc,hdd];subst hm;refine AT 0 (α:=Unit) (λ_=>[(9,.sl n 0 3 (l.length+1) false)]) (λ_=>hset H n (some (.cells (Bu (F7 l i r))))) (λ_ m=>n+1=m) (BX VH rfl (by kernel_rfl) (by kernel_rfl) ?_) (λ_ m hm=>?_);have hin:¬((i:Int)=l.length):=by omega
 have hil:(i:Int)<=l.length:=by omega
 have h6:(i:Int)+1<=l.length+1:=by omega
 have hmin:Nat.min (l.length-i) (l.length-i)=l.length-i:=Nat.min_self _;have h0:¬(l.length-i=0):=by omega
 have h1:((i:Int)+1).toNat=i+1:=by omega
 have h2:(0:Int)<=(i:Int)+1:=by omega
 have h3:((l.length:Int)+1-((i:Int)+1)).toNat=l.length-i:=by omega
 have h4:i*3+(l.length-i)*3<=(Bu l).length:=by omega
 have h5:((Bu l).drop (i*3)).take ((l.length-i)*3)=Bu (l.drop i):=by rw[NK l i (by omega)];exact qB (by omega)
 have h6':(Bu (l.take i)++(Bu [r]++Z.drop 3)).take ((i+1)*3)=Bu (l.take i)++Bu [r]:=by
  rw[<-qn];exact List.take_left' (by rw[qt];omega)
 have h7:(Bu (l.take i)++(Bu [r]++Z.drop 3)).drop ((i+1)*3+(l.length-i)*3)=[]:=kj (by simp only[qt,List.length_drop];omega);have h8:(i+1)*3+(l.length-i)*3<=(Bu (l.take i)++(Bu [r]++Z.drop 3)).length:=by simp only[qt,List.length_drop];omega
 have h9:(Bu (l.drop i)).take ((l.length-i)*3)=Bu (l.drop i):=qB (by omega);rw[hins,<-qn];generalize(Bu (l.take i)++(Bu [r]++Z.drop 3))=A at *;simp[go_sem,VH,w1,hin,hil,h6,h1,h2,h3,h4,h5,h6',h7,h8,h9,hGo,AC,hmin,h0,hld,IO,AS];subst hm;refine AH ?_;simp[go_sem];exact fin n false _ _ (.inl (qa n)) (AC _ _ _) λj hj _=>AD _ _ (by omega);refine Ea 0 [(0,.slc o 0 3 l.length cap),(1,AA i),(2,.sl k 0 3 1 true),(7,AA 1),(8,AA l.length)] H n ?_ (λm hm=>?_);refine Ea 0 [(0,.slc o 0 3 l.length cap),(1,AA i),(2,.sl k 0 3 1 true),(7,AA 1),(8,AA l.length),(31,.bool false)] H n (AH ?_) (λm hm=>?_);simp[go_sem,w2];refine Pf (j:=o) (off:=0) (z:=3) (len:=l.length) (cap:=cap) rfl ht2 (by simp[go_sem]) ?_;have:¬((cap:Int)<(l.length:Int)+1):=by omega
 simp[go_sem,IO,this];subst hm;refine AH ?_;simp[go_sem,IO];subst hm;refine Ea 0 [(0,.slc o 0 3 (l.length+1) cap),(1,AA i),(2,.sl k 0 3 1 true),(7,AA 1),(8,AA l.length)] H n (AH ?_) (λm hm=>?_);simp[go_sem,w2,-Int.natCast_add];refine D6 (j:=o) (off:=0) (z:=3) (len:=l.length) (cap:=cap) (l:=0) (m:=l.length+1) rfl ht hz (by omega) (by simp[go_sem]) (.inl ⟨rfl,rfl⟩) (.inr ⟨_,rfl,by simp[go_sem]⟩) (by omega) (by omega) (by omega) ?_;simp[go_sem,IO];subst hm;refine GI ?_;refine AT 0 (α:=Unit) (λ_=>[(0,.slc o 0 3 (l.length+1) cap),(1,AA i),(2,.sl k 0 3 1 true),(7,AA 1),(68,.bool true)]) (λ_=>H) (λ_ m=>n=m) (OR ?_) (λ_ m hm=>?_);simp[go_sem,Jk,ZQ,w1,-Int.natCast_add];refine D6 (j:=o) (off:=0) (z:=3) (len:=l.length+1) (cap:=cap) (l:=i+1) (m:=l.length+1) rfl ht hz (by omega) (by simp[go_sem]) (.inr ⟨_,rfl,by simp[go_sem]⟩) (.inl ⟨rfl,rfl⟩) (by omega) (by omega) (by omega) ?_;simp[go_sem];refine N5 (k:=k) (j:=o) (off:=(i+1)*3) (len:=l.length-i) (cap:=cap-(i+1)) (full:=true) rfl (by simp[go_sem]) (by simp[go_sem]) (by simp[go_sem]) hok hk hH (λe=>by rw[e]at hC;simp at hC;omega) ?_;simp[go_sem,IO];subst hm;refine Ah (b:=true) (by simp[go_sem]) ?_;simp only[if_true];have g1:(Bu l).take ((i+1)*3)=Bu (l.take (i+1)):=KF l (i+1) (by omega);have g2:((Bu l).drop (i*3)).take ((l.length-i)*3)=Bu (l.drop i):=by rw[NK l i (by omega)];exact qB (by omega)
 have A1:∀{evs:Operand->SV} {x y:Operand} {o':Oper} {Q:SV->Hp->Nat->Prop},o'.op=.call { callee:=.builtin .copy,args:=#[x,y],argTypes:=#[30,30] }->evs x=.slc o ((i+1)*3) 3 (l.length-i) (cap-(i+1))->evs y=.slc o (i*3) 3 (l.length+1-i) (cap-i)->Q (.int .i64 ↑(l.length-i)) (hset H o (some (.cells (Bu (l.take (i+1))++Bu (l.drop i))))) n->EI (B6.plain.call false 0) Tryz.prog evs o' H n Q:=λho hx hy hq=>
  SF (k:=l.length-i) ho ht hz (by omega) hx hy hH (Nat.min_eq_right (by omega)) (by omega) (by omega) (by omega) (by rw[g1,g2];exact hq)
 refine AT 1 (α:=Unit) (λ_=>[(0,.sl o 0 3 (l.length+1) false),(1,AA i),(2,.sl k 0 3 1 true)]) (λ_=>hset H o (some (.cells (Bu (l.take (i+1))++Bu (l.drop i))))) (λ_ m=>n=m) (BX VH rfl (by kernel_rfl) (by kernel_rfl) ?_) (λ_ m hm=>?_);simp[go_sem,VH,w1,-Int.natCast_add];have e1:l.length+1-(i+1)=l.length-i:=by omega
 refine⟨?_,?_⟩;refine D6 (j:=o) (off:=0) (z:=3) (len:=l.length+1) (cap:=cap) (l:=i+1) (m:=l.length+1) rfl ht hz (by omega) (by simp[go_sem]) (.inr ⟨_,rfl,by simp[go_sem]⟩) (.inl ⟨rfl,rfl⟩) (by omega) (by omega) (by omega) ?_;simp[go_sem];refine D6 (j:=o) (off:=0) (z:=3) (len:=l.length+1) (cap:=cap) (l:=i) (m:=l.length+1) rfl ht hz (by omega) (by simp[go_sem]) (.inr ⟨_,rfl,by simp[go_sem]⟩) (.inl ⟨rfl,rfl⟩) (by omega) (by omega) (by omega) ?_;simp[go_sem];refine A1 rfl (by simp[go_sem]) (by simp[go_sem]) ?_;simp[go_sem,Fz];refine D6 (j:=o) (off:=0) (z:=3) (len:=l.length+1) (cap:=cap) (l:=i) (m:=l.length+1) rfl ht hz (by omega) (by simp[go_sem]) (.inr ⟨_,rfl,by simp[go_sem]⟩) (.inl ⟨rfl,rfl⟩) (by omega) (by omega) (by omega) ?_;simp[go_sem,-Int.natCast_add];refine D6 (j:=o) (off:=0) (z:=3) (len:=l.length+1) (cap:=cap) (l:=i+1) (m:=l.length+1) rfl ht hz (by omega) (by simp[go_sem]) (.inr ⟨_,rfl,by simp[go_sem]⟩) (.inl ⟨rfl,rfl⟩) (by omega) (by omega) (by omega) ?_;simp[go_sem];refine A1 rfl (by simp[go_sem]) (by simp[go_sem]) ?_;simp[go_sem,Fz];subst hm;have g3:(Bu (l.take (i+1))).length=(i+1)*3:=by rw[GS];simp;omega
 refine Ea 0 [(0,.sl o 0 3 (l.length+1) false)] (hset H o (some (.cells (Bu (F7 l i r))))) n (AH ?_) (λm hm=>?_);have hio:¬((i:Int)=l.length+1):=by omega
 have hile:(i:Int)<=l.length+1:=by omega
 have hGk:∀(y:Option BT),hset H o y k=some (.cells [AA r.id,.str r.author,AA r.time]):=λy=>by rw[AD _ _ hok];exact hk
 have hmin:Nat.min 1 (l.length+1-i)=1:=jO (by omega);have h0:¬(l.length+1-i=0):=by omega
 have h5:i*3+3<=(Bu (l.take (i+1))++Bu (l.drop i)).length:=by rw[qt];omega
 have h6:(Bu (l.take (i+1))++Bu (l.drop i)).take (i*3)=Bu (l.take i):=by
  rw[List.take_append_of_le_length (by omega),KF _ _ (by simp;omega),List.take_take,jO (by omega)]
 have h7:(Bu (l.take (i+1))++Bu (l.drop i)).drop (i*3+3)=Bu (l.drop i):=List.drop_left' (by omega);rw[hins,hrc];generalize Bu (l.take (i+1))++Bu (l.drop i)=A at *;simp[go_sem,hio,hile,hGk,AC,hmin,h5,h6,h7,IO,AS];subst hm;refine AH ?_;simp[go_sem];exact fin o false _ _ (.inr rfl) (AC _ _ _) λj hj e=>AD _ _ e
theorem TZ (l:List Ax) (r:Ax):F7 l l.length r=l++[r]:=by unfold F7;simp
theorem TE (l:List Ax) (hl0:l≠[]) (hl:l.length<=1048576) (i:Nat) (hi:i<=l.length) (r:Ax) {H:Hp} {n o k:Nat} {full:Bool} (hH:H o=some (.cells ((l.map Ax.enc).flatMap SV.cells))) (hk:H k=some (.cells [AA r.id,.str r.author,AA r.time])) (hok:o≠k):
 BA Tryz.prog 117 [.sl o 0 3 l.length full,AA i,.sl k 0 3 1 true] H n (λv h' n'=>v=Ao (F7 l i r)/\h'=hset H o none/\n'=n):=by
 rcases ji i l.length with h|h;exact Ak.cap λcap hc=>Xp l hl i h r hc hH hk hok.symm;have:i=l.length:=by omega
 subst this;have:=bQ l hl0 hl r (full:=full) (n:=n) hH hk hok;rw[TZ];exact this
set_option maxHeartbeats 2000000 in
theorem Xm (l:List Ax) (hl0:l≠[]) (hl:l.length<256) (r:Ax) (h0:Cd l=0) (h1:CL r=0) (i:Nat) (hi:i<=l.length) (hb:BI (Gr l r.id) l.length=(i,false)):PC 45 [Ao l,r.enc] (.tup [Ao (F7 l i r),AA 0]):=by
 intro h n;refine Db Tryz.func45 rfl λho=>?_;have hHb:=ho.lt;refine AY 1 [(0,Ao l),(3,.iptr [AA r.id,.str r.author,AA r.time])] h n ?_ (λm hm=>?_);simp[go_sem,Ax.enc,IO];exact⟨AV (AW hHb (qa _)) (AC _ _ _),AJ hHb AB⟩;refine Bc 0 [(0,Ao l),(3,.iptr [AA r.id,.str r.author,AA r.time])] h n (AH ?_) (λm hm=>?_);simp[go_sem];refine qw (bI l (by omega)) ?_;rw[h0];simp[go_sem,IO,hm];refine Bc 0 [(0,Ao l),(3,.iptr [AA r.id,.str r.author,AA r.time])] h n (AH ?_) (λm hm=>?_);simp[go_sem];refine qw (by simpa[Ax.enc]using W9 r) ?_;rw[h1];simp[go_sem,IO,hm];refine AY 0 [(0,Ao l),(3,.iptr [AA r.id,.str r.author,AA r.time]),(8,AA i),(9,.bool false)] h n ?_ (λm hm=>?_);simp[go_sem];refine qw (bJ l (by omega) r.id) ?_;rw[hb];simp[go_sem,IO,hm];refine Bc 0 [(0,Ao l),(3,.iptr [AA r.id,.str r.author,AA r.time]),(8,AA i)] h n (AH ?_) (λm hm=>?_);have:¬(256:Int)<=l.length:=by omega
 simp[go_sem,IO,hm,this];refine AT 0 (α:=Unit) (λ_=>[(4,Ao (F7 l i r)),(5,AA 0)]) (λ_=>h) (λ_ m=>n<=m) (BX VD rfl (by kernel_rfl) (by kernel_rfl) ?_) (λ_ m hm=>?_);have hHm:∀j y,h j=some y->j<m:=λj y e=>by have:=hHb j y e;omega
 simp[go_sem,VD];refine⟨?_,?_,?_⟩;refine LC.use (YW l (by omega)) ?_;rintro v h' n' ⟨g1,g2,⟨g3,_⟩|⟨o,full,g3,g4,rfl,g5⟩⟩;exact absurd (by simpa using g3) hl0;simp[go_sem];have e1:o≠n':=by omega
 refine qC (TE l hl0 (by omega) i hi r (by rw[AD _ _ e1];exact g5) (AC _ _ _) e1) ?_;rintro v H2 n2 ⟨rfl,rfl,rfl⟩;simp[go_sem,IO];exact⟨by omega,AJ (λj z e=>by have:=hHm j z e;omega) (AJ (λj z e=>by have:=hHm j z e;omega) g2)⟩;refine LC.use (YW l (by omega)) ?_;rintro v h' n' ⟨g1,g2,⟨g3,_⟩|⟨o,full,g3,g4,rfl,g5⟩⟩;exact absurd (by simpa using g3) hl0;simp[go_sem];have e1:o≠n':=by omega
 refine qC (TE l hl0 (by omega) i hi r (by rw[AD _ _ e1];exact g5) (AC _ _ _) e1) ?_;rintro v H2 n2 ⟨rfl,rfl,rfl⟩;simp[go_sem,IO];exact⟨by omega,AJ (λj z e=>by have:=hHm j z e;omega) (AJ (λj z e=>by have:=hHm j z e;omega) g2)⟩;refine LC.use (YW l (by omega)) ?_;rintro v h' n' ⟨g1,g2,⟨g3,_⟩|⟨o,full,g3,g4,rfl,g5⟩⟩;exact absurd (by simpa using g3) hl0;simp[go_sem];refine qC (TE l hl0 (by omega) i hi r g5 (g2 _ _ (AC _ _ _)) (by omega)) ?_;rintro v H2 n2 ⟨rfl,rfl,rfl⟩;simp[go_sem,IO];exact⟨by omega,AJ (λj z e=>by have:=hHm j z e;omega) λj z e=>g2 _ _ (AJ hHm AB j z e)⟩;refine AH ?_;simp[go_sem];exact Ay ho AB rfl (by rw[closed,closedL,closedL,Ax.E.imm];rfl)
def CS (l:List Az):List SV:=(l.map Az.enc).flatMap SV.cells
theorem Ej (d:Az) (l:List Az):CS (d::l)=AA d.rev::AA d.move::CS l:=by simp[CS,Az.enc,SV.cells]
theorem Ol (l:List Az):(CS l).length=l.length*2:=by
 have:=A7 (z:=2) (Az.E.size l);rw[qd]at this;exact this
theorem Mg (l:List Az):∀i,(CS l).drop (i*2)=CS (l.drop i):=by
 induction l with
 | nil=>intro i;simp[CS]
 | cons d l ih=>
  intro i;cases i with
  | zero=>simp
  | succ i=>rw[Ej,show(i+1)*2=i*2+2 by omega,List.drop_succ_cons,List.drop_succ_cons,ih i,List.drop_succ_cons]
theorem Rj (l:List Az):∀i,(CS l).take (i*2)=CS (l.take i):=by
 induction l with
 | nil=>intro i;simp[CS]
 | cons d l ih=>
  intro i;cases i with
  | zero=>simp[CS]
  | succ i=>rw[Ej,show(i+1)*2=i*2+2 by omega,jl,jl,ih i,jl,Ej]
theorem TG (a b:List Az):CS (a++b)=CS a++CS b:=by unfold CS;rw[qc,jm]
def W7:Az:=⟨0,0⟩
def HK (l:List Az) (i:Nat):Az:=l.getD i W7
theorem Q4 (l:List Az) (i:Nat) (hi:i<l.length):(CS l).drop (i*2)=AA (HK l i).rev::AA (HK l i).move::CS (l.drop (i+1)):=by
 have e:HK l i=l[i]:=by simp[HK,List.getD,hi]
 rw[Mg,qG hi,Ej,e]
theorem Om (l:List Az) (i:Nat) (hi:i<l.length) (d:Az):(CS l).take (i*2)++(AA d.rev::AA d.move::(CS l).drop (i*2+2))=CS (l.set i d):=by
 rw[show i*2+2=(i+1)*2 by omega,Mg,Rj,ku,if_pos hi,TG,Ej]
def IQ (l:List Az) (j:Nat):List Az:=(l.set (j+1) (HK l j)).set j (HK l (j+1))
def E8 (l:List Az):Nat->List Az
 | 0=>l
 | j+1=>if(HK l (j+1)).rev<(HK l j).rev then E8 (IQ l j) j else l
def Cz (l:List Az):Nat->List Az
 | 0=>l
 | i+1=>E8 (Cz l i) i
theorem KQ (l:List Az) (j:Nat):(IQ l j).length=l.length:=by simp[IQ]
theorem NR:∀(j:Nat) (l:List Az),(E8 l j).length=l.length
 | 0,l=>rfl
 | j+1,l=>by rw[E8];split;rw[NR j,KQ];rfl
theorem HH (l:List Az):∀i,(Cz l i).length=l.length
 | 0=>rfl
 | i+1=>by rw[Cz,NR,HH l i]
theorem Zr (a b:Az):PC 120 [a.enc,b.enc] (AA (Do a.rev b.rev)):=by
 intro h n;refine gq Tryz.func120 rfl λho=>?_;have hh:∀y z,∀o x,h o=some x->hset (hset h n y) (n+1) z o=some x:=λy z=>AQ ho (by omega) (AQ ho (qa _) AB);have q:n≠n+1:=by omega
 simp[go_sem,Az.enc,AC,AD];refine(Rg a.rev b.rev).use ?_;simp[go_sem];exact Ay ho (hh _ _) rfl rfl
set_option maxHeartbeats 4000000 in
theorem bg (l:List Az) (hl0:1<=l.length) (hl:l.length<=1048576) {H:Hp} {n o:Nat} {full:Bool} (hH:H o=some (.cells (CS l))):
 BA Tryz.prog 254 [.sl o 0 2 l.length full,AA 0,AA l.length,.fn (.func 120) [] []] H n (λv h' n'=>v=.tup []/\h'=hset H o (some (.cells (CS (Cz l l.length))))/\n'=n):=by
 refine Db Tryz.func254 rfl λho=>?_;have hHb:=ho.lt;have hon:=hHb o _ hH;have hcl:∀L:List Az,closedL n (CS L)=true:=λL=>by
  induction L with
  | nil=>rfl
  | cons d L ih=>rw[Ej];simp[closedL,closed,ih]
 obtain⟨G,hG⟩:∃G:List Az->Hp,∀L,G L=hset H o (some (.cells (CS L))):=⟨_,λ_=>rfl⟩
 have hGo:∀L,G L o=some (.cells (CS L)):=λL=>by rw[hG,AC]
 have hGs:∀L L',hset (G L) o (some (.cells (CS L')))=G L':=λL L'=>by rw[hG,hG,AS]
 have hOld:∀L,Es (G L) n:=λL j y e=>by
  rw[hG]at e;simp only[hset]at e;split at e;subst_vars;cases e;exact⟨hon,hcl L⟩;exact ho j y e
 have hGH:G l=H:=by rw[hG];funext j;simp only[hset];split;subst_vars;exact hH.symm;rfl
 refine AY 0 [(0,.sl o 0 2 l.length full),(1,AA 0),(2,AA l.length),(3,.fn (.func 120) [] []),(8,AA 1)] (G l) n ?_ (λm hm=>?_);rw[hGH];simp[go_sem,IO,show IntKind.i64.wrap 1=1 from by decide];refine AR (BG 0 (α:=Nat) (λi=>[(0,.sl o 0 2 l.length full),(1,AA 0),(2,AA l.length),(3,.fn (.func 120) [] []),(8,AA i)]) (λi=>G (Cz l i)) (λi m=>1<=i/\i<=l.length/\n<=m) (λi=>l.length-i) 1 ⟨by omega,by omega,hm⟩ ?_ AB ?_);simp[Ai,IO];rintro i m ⟨hi1,hi2,hm⟩;have hlen:=HH l i;by_cases hlt:i<l.length
 . have w1:=wS i (by omega);have hnx:Cz l (i+1)=E8 (Cz l i) i:=rfl;generalize Cz l i=S at hlen hnx;refine Bc 0 [(0,.sl o 0 2 l.length full),(1,AA 0),(2,AA l.length),(3,.fn (.func 120) [] []),(8,AA i)] (G S) n (AH ?_) (λm2 hm2=>?_);simp[go_sem,IO,hlt,hm];refine AT 0 (α:=Unit) (λ_=>[(0,.sl o 0 2 l.length full),(1,AA 0),(2,AA l.length),(3,.fn (.func 120) [] []),(8,AA i)]) (λ_=>G (E8 S i)) (λ_ m2=>n<=m2) (AR ?_) (λ_ m2 hm2=>?_)
   . refine AY 0 [(0,.sl o 0 2 l.length full),(1,AA 0),(2,AA l.length),(3,.fn (.func 120) [] []),(8,AA i),(9,AA i)] (G S) n ?_ (λm2 hm2=>?_);simp[go_sem,IO,hm2];refine AR (BG 0 (α:=Nat×List Az) (λq=>[(0,.sl o 0 2 l.length full),(1,AA 0),(2,AA l.length),(3,.fn (.func 120) [] []),(8,AA i),(9,AA q.1)]) (λq=>G q.2) (λq m=>q.1<=i/\q.2.length=l.length/\E8 q.2 q.1=E8 S i/\n<=m) (λq=>q.1) (i,S) ⟨by omega,hlen,rfl,hm2⟩ ?_ AB ?_);simp[Ai,IO];rintro⟨j,L⟩ m3 ⟨hj,hL,hs,hm3⟩;dsimp only at hj hL hs ⊢;refine GI ?_;cases j with
     | zero=>
      rw[E8]at hs;refine Bc 0 [(0,.sl o 0 2 l.length full),(1,AA 0),(2,AA l.length),(3,.fn (.func 120) [] []),(8,AA i),(34,.bool false)] (G L) n (AH ?_) (λm2 hm2=>?_)
      . simp[go_sem]
        repeat first|refine nq ?_|refine sq ?_|refine aq ?_
        simp[go_sem,hm3]
      refine Ah (b:=false) (by simp[go_sem]) (AH ?_);simp[go_sem,IO];rw[<-hs];exact⟨hm2,AB⟩
     | succ j=>
      have w2:IntKind.i64.wrap (((j+1:Nat):Int)-1)=(j:Int):=by rw[Cl]<;>omega
      have w3:IntKind.i64.wrap (j:Int)=j:=by rw[Cl]<;>omega
      have e1:=Q4 L (j+1) (by omega);have e2:=Q4 L j (by omega);have hLl:=Ol L;refine Bc 0 [(0,.sl o 0 2 l.length full),(1,AA 0),(2,AA l.length),(3,.fn (.func 120) [] []),(8,AA i),(9,AA (j+1:Nat)),(34,.bool (decide ((HK L (j+1)).rev<(HK L j).rev)))] (G L) n (AH ?_) (λm2 hm2=>?_)
      . have f1:(j:Int)+1<l.length:=by omega
        have f2:(j:Int)<l.length:=by omega
        have f3:(0:Int)<=(j:Int)+1:=by omega
        have f4:(0:Int)<(j:Int)+1:=by omega
        have f5:((j:Int)+1).toNat=j+1:=by omega
        have t1:((CS L).drop ((j+1)*2)).take 2=[AA (HK L (j+1)).rev,AA (HK L (j+1)).move]:=by rw[e1];rfl
        have t2:((CS L).drop (j*2)).take 2=[AA (HK L j).rev,AA (HK L j).move]:=by rw[e2];rfl
        have l1:(j+1)*2+2<=(CS L).length:=by omega
        have l2:j*2+2<=(CS L).length:=by omega
        simp[go_sem,w3,hGo,f1,f2,f3,f4,f5,t1,t2,l1,l2]
        repeat first|refine nq ?_|refine sq ?_|refine aq ?_
        refine jw _ _ _ _ _ _ (by simpa[Az.enc]using Zr (HK L (j+1)) (HK L j)) ?_;simp[go_sem]
        repeat first|refine nq ?_|refine sq ?_|refine aq ?_
        have hc:∀a b:Int,decide (Do a b<0)=decide (a<b):=λa b=>by
         unfold Do;by_cases h1:a<b;simp[h1];by_cases h2:b<a<;>simp[h1,h2]
        rw[hc];exact IO
      by_cases hc:(HK L (j+1)).rev<(HK L j).rev
      . refine Ah (b:=true) (by simp[go_sem,hc]) ?_;rw[if_pos rfl];refine Gv ?_;rw[FB];have hs':E8 (IQ L j) j=E8 S i:=by rw[E8,if_pos hc]at hs;exact hs
        refine AT 0 (α:=Unit) (λ_=>[(0,.sl o 0 2 l.length full),(1,AA 0),(2,AA l.length),(3,.fn (.func 120) [] []),(8,AA i),(9,AA (j+1:Nat))]) (λ_=>G (IQ L j)) (λ_ m2=>n<=m2) (AR (AH ?_)) (λ_ m4 hm4=>?_)
        . have f1:(j:Int)+1<l.length:=by omega
          have f2:(j:Int)<l.length:=by omega
          have f3:(0:Int)<=(j:Int)+1:=by omega
          have f5:((j:Int)+1).toNat=j+1:=by omega
          have t1:((CS L).drop ((j+1)*2)).take 2=[AA (HK L (j+1)).rev,AA (HK L (j+1)).move]:=by rw[e1];rfl
          have t2:((CS L).drop (j*2)).take 2=[AA (HK L j).rev,AA (HK L j).move]:=by rw[e2];rfl
          have l1:(j+1)*2+2<=(CS L).length:=by omega
          have l2:j*2+2<=(CS L).length:=by omega
          have s1:=Om L (j+1) (by omega) (HK L j);have s2:=Om (L.set (j+1) (HK L j)) j (by rw[List.length_set];omega) (HK L (j+1));have l3:j*2+2<=(CS (L.set (j+1) (HK L j))).length:=by rw[Ol,List.length_set];omega
          have hsw:(L.set (j+1) (HK L j)).set j (HK L (j+1))=IQ L j:=rfl;rw[hsw]at s2;generalize L.set (j+1) (HK L j)=L2 at *;simp[go_sem,w3,hGo,f1,f2,f3,f5,t1,t2,l1,l2,s1,s2,l3,hGs]
          repeat first|refine nq ?_|refine sq ?_|refine aq ?_
          exact hm2
        refine AH ?_;simp[go_sem,w2,IO,-Int.natCast_add];exact⟨j,by omega,IQ L j,⟨by omega,by rw[KQ,hL],hs',hm4⟩,IO,AB⟩
      refine Ah (b:=false) (by simp[go_sem,hc]) (AH ?_);have hs':L=E8 S i:=by rw[E8,if_neg hc]at hs;exact hs
      simp[go_sem,IO];rw[<-hs'];exact⟨hm2,AB⟩
   refine AH ?_;simp[go_sem,w1,IO,-Int.natCast_add];exact⟨i+1,by omega,⟨by omega,by omega⟩,IO,by rw[hnx];exact AB⟩
 have:i=l.length:=by omega
 subst this;refine AH ?_;simp[go_sem];have:=B9 (hOld (Cz l l.length)) (n':=m) (v:=.tup []) (by simp[closed,closedL]) AB;rw[hG]at this ⊢;exact this
theorem bb (l:List Az) (hl0:1<=l.length) (hl:l.length<20) {H:Hp} {n o:Nat} {full:Bool} (hH:H o=some (.cells (CS l))):
 BA Tryz.prog 188 [.sl o 0 2 l.length full,AA l.length,.fn (.func 120) [] []] H n (λv h' n'=>v=.tup []/\h'=hset H o (some (.cells (CS (Cz l l.length))))/\n'=n):=by
 refine Db Tryz.func188 rfl λho=>?_;have hHb:=ho.lt;have hon:=hHb o _ hH;have hcl:∀L:List Az,closedL n (CS L)=true:=λL=>by
  induction L with
  | nil=>rfl
  | cons d L ih=>rw[Ej];simp[closedL,closed,ih]
 have hOld:Es (hset H o (some (.cells (CS (Cz l l.length))))) n:=λj y e=>by
  simp only[hset]at e;split at e;subst_vars;cases e;exact⟨hon,hcl _⟩;exact ho j y e
 refine AY 0 [(0,.sl o 0 2 l.length full),(1,AA l.length),(2,.fn (.func 120) [] []),(6,AA 20)] H n ?_ (λm hm=>?_);simp[go_sem,IO];refine AY 0 [(0,.sl o 0 2 l.length full),(1,AA l.length),(2,.fn (.func 120) [] []),(6,AA 20),(7,AA 0),(8,AA 20)] H n ?_ (λm hm=>?_);simp[go_sem,IO,hm];refine Bc 0 [(0,.sl o 0 2 l.length full),(1,AA l.length),(2,.fn (.func 120) [] []),(6,AA 20),(7,AA 0),(8,AA 20)] H n (AH ?_) (λm hm=>?_);simp[go_sem];refine An 0 (α:=Unit) (λ_=>[(0,.sl o 0 2 l.length full),(1,AA l.length),(2,.fn (.func 120) [] []),(6,AA 20),(7,AA 0),(8,AA 20)]) (λ_=>H) (λ_ m=>n<=m) (λ_=>0) () hm ?_ AB ?_;simp[Ai,IO];rintro _ m hm;have:¬((20:Int)<=l.length):=by omega
 simp[go_sem,IO,hm,this];refine Bc 0 [(1,AA l.length),(6,AA 20)] (hset H o (some (.cells (CS (Cz l l.length))))) n (AH ?_) (λm hm=>?_);simp[go_sem];refine qC (bg l hl0 (by omega) hH) ?_;rintro v H' n' ⟨rfl,rfl,rfl⟩;simp[go_sem,IO,hm];refine AH ?_;simp[go_sem];refine An 0 (α:=Unit) (λ_=>[(1,AA l.length),(6,AA 20)]) (λ_=>hset H o (some (.cells (CS (Cz l l.length))))) (λ_ m=>n<=m) (λ_=>0) () hm ?_ AB ?_;simp[Ai,IO];rintro _ m hm;have:¬((20:Int)<l.length):=by omega
 simp[go_sem,this];exact B9 hOld (by simp[closed,closedL]) AB
theorem bR (l:List Az) (hl0:1<=l.length) (hl:l.length<20) {H:Hp} {n o:Nat} {full:Bool} (hH:H o=some (.cells (CS l))):
 BA Tryz.prog 119 [.sl o 0 2 l.length full,.fn (.func 120) [] []] H n (λv h' n'=>v=.tup []/\h'=hset H o (some (.cells (CS (Cz l l.length))))/\n'=n):=by
 refine Db Tryz.func119 rfl λho=>?_;have hHb:=ho.lt;have hon:=hHb o _ hH;have hcl:∀L:List Az,closedL n (CS L)=true:=λL=>by
  induction L with
  | nil=>rfl
  | cons d L ih=>rw[Ej];simp[closedL,closed,ih]
 have hOld:Es (hset H o (some (.cells (CS (Cz l l.length))))) n:=λj y e=>by
  simp only[hset]at e;split at e;subst_vars;cases e;exact⟨hon,hcl _⟩;exact ho j y e
 refine AH ?_;simp[go_sem];refine qC (bb l hl0 hl hH) ?_;rintro v H' n' ⟨rfl,rfl,rfl⟩;simp[go_sem];exact B9 hOld (by simp[closed,closedL]) AB
def VC:Tr:=.pure 8 (.pure 9 (.one 7 (.one 10 (.one 11 (.one 12 (.one 13 .nil))))))
def trH:Tr:=.pure 0 (.pure 1 (.pure 4 (.pure 5 (.two 2 6 (.two 3 6 (.one 6 VC) (.one 3 VC)) (.one 2 (.one 3 VC))))))
abbrev VJ:BT:=.cells [.imm 0 [] true,AA 0,AA 0,.imm 0 [] true,.imm 0 [] true]
set_option maxHeartbeats 4000000 in
theorem Zg (x:AF) (hs:x.sized) {h:Hp} {n:Nat}:BA Tryz.prog 118 [x.enc] h n (λv h' n'=>∃v1 o1 v2 o2,v=.agg [Af x.props,AA x.ins,AA x.move,v1,v2]/\HL 2 (x.dels.map Az.enc) v1 o1 n n'/\HL 4 (x.layers.map Am.enc) v2 o2 n n'/\
 (∀j,o1=some j->o2≠some j)/\n<=n'/\∀j y,D8 (x.layers.map Am.enc) o2 (D8 (x.dels.map Az.enc) o1 h) j=some y->h' j=some y):=by
 refine Db Tryz.func118 rfl λho=>?_;have hHb:=ho.lt;have q1:n≠n+1:=by omega
 refine BP 0 [(1,.ptr n 0),(2,.ptr (n+1) 0)] (hset (hset h n (some (.cells x.flat))) (n+1) (some VJ)) (λm=>n+2=m) ?_ (λm hm=>?_);simp[go_sem,AF.enc,AF.flat,IO];subst hm;refine BP 0 [(1,.ptr n 0),(2,.ptr (n+1) 0)] (hset (hset h n (some (.cells x.flat))) (n+1) (some VJ)) (λm=>n+2<=m) ?_ (λm hm=>?_);simp[go_sem,AF.flat,AD _ _ q1,AC];refine(V3 _ hs.props).use ?_;simp[go_sem,AD _ _ q1,AC,IO];intro j y;simp only[hset];grind;refine AT 0 (α:=SV×Option Nat×SV×Option Nat) (λ_=>[(1,.ptr n 0),(2,.ptr (n+1) 0)])
  (λa=>D8 (x.layers.map Am.enc) a.2.2.2 (D8 (x.dels.map Az.enc) a.2.1 (hset (hset h n (some (.cells [Af x.props,AA x.ins,AA x.move,a.1,a.2.2.1]))) (n+1) (some VJ))))
  (λa m'=>HL 2 (x.dels.map Az.enc) a.1 a.2.1 (n+2) m'/\HL 4 (x.layers.map Am.enc) a.2.2.1 a.2.2.2 (n+2) m'/\(∀j,a.2.1=some j->a.2.2.2≠some j)/\n+2<=m') (BX trH rfl (by kernel_rfl) (by kernel_rfl) ?_) ?_
 . have hG1:hset (hset h n (some (.cells x.flat))) (n+1) (some VJ) n=some (.cells [Af x.props,AA x.ins,AA x.move,AP x.dels,AL x.layers]):=by rw[AD _ _ q1,AC];rfl
   simp[go_sem,trH,VC,hG1]
   iterate 8 (all_goals (try first
    | (refine LC.use (YT _ hs.dels) ?_;intro v1 H1 m1 W1;have lt1:=W1.1;obtain⟨o1,a1,b1,c1⟩:=W1.own;obtain⟨s1,t1⟩:=a1.st;simp only[SV.storable,SV.cells]at s1 t1;(first|have hq:=b1 n _ hq2|have hq:=b1 n _ hG1);simp[go_sem,hq])
    | (refine LC.use (YU _ hs.layers) ?_;intro v2 H2 m2 W2;have ZT:=W2.1;obtain⟨o2,a2,b2,c2⟩:=W2.own;obtain⟨s2,t2⟩:=a2.st;simp only[SV.storable,SV.cells]at s2 t2;(first|have hq2:=b2 n _ hq|have hq2:=b2 n _ hG1);simp[go_sem,hq2,s2,t2])
    | refine⟨?_,?_⟩))
   all_goals
    have L1:=a1.lt;have L2:=a2.lt;simp[go_sem,s1,t1,AC,AS];refine⟨v1,o1,v2,o2,⟨a1.mono (by omega) (by omega),a2.mono (by omega) (by omega),λj e e'=>?_,?_⟩,λj y=>?_⟩;have:=L1 _ e;have:=L2 _ e';omega;omega;intro hy;have r1:=b1 j;have r2:=b2 j;have q3:=c1 j;have q4:=c2 j;have r3:=L1 j;have r4:=L2 j;have q6:=hHb j y;clear b1 b2 c1 c2 L1 L2 W1 W2 a1 a2;simp only[hset]at *;cases o1<;>cases o2<;>simp only[D8,hset]at hy<;>grind
 rintro⟨v1,o1,v2,o2⟩ m ⟨a1,a2,h12,hm⟩;dsimp only at a1 a2 h12 hm ⊢;have L1:=a1.lt;have L2:=a2.lt;obtain⟨s1,t1⟩:=a1.st;obtain⟨s2,t2⟩:=a2.st;simp only[SV.storable,SV.cells]at s1 t1 s2 t2;generalize hB:D8 (x.layers.map Am.enc) o2 (D8 (x.dels.map Az.enc) o1 (hset (hset h n (some (.cells [Af x.props,AA x.ins,AA x.move,v1,v2]))) (n+1) (some VJ)))=B;have B0:B n=some (.cells [Af x.props,AA x.ins,AA x.move,v1,v2]):=by
  rw[<-hB];have r3:=L1 n;have r4:=L2 n;cases o1<;>cases o2<;>simp only[D8,hset]<;>grind
 have B1:B (n+1)=some VJ:=by
  rw[<-hB];have r3:=L1 (n+1);have r4:=L2 (n+1);cases o1<;>cases o2<;>simp only[D8,hset]<;>grind
 have B2:∀j y,D8 (x.layers.map Am.enc) o2 (D8 (x.dels.map Az.enc) o1 h) j=some y->hset B (n+1) (some (.cells [Af x.props,AA x.ins,AA x.move,v1,v2])) j=some y:=λj y=>by
  rw[<-hB];have r3:=L1 j;have r4:=L2 j;have q6:=hHb j y;cases o1<;>cases o2<;>simp only[D8,hset]<;>grind
 refine AH ?_;simp[go_sem,B0,B1,AC];exact .inl ⟨v1,o1,v2,rfl,a1.mono (by omega) (qa _),o2,a2.mono (by omega) (qa _),h12,by omega,B2⟩
theorem Og {z k i:Nat} {es:List SV} {e e' c:SV} (hs:∀e∈es,e.storable=true/\e.cells.length=z) (h:es[i]? = some e) (hk:k<z) (he:e'.cells=e.cells.take k++c::e.cells.drop (k+1)):
 (es.flatMap SV.cells).take (i*z+k)++c::(es.flatMap SV.cells).drop (i*z+k+1)=(es.set i e').flatMap SV.cells:=by
 have hi:=(qo.1 h).1;have hee:=(qo.1 h).2;have hez:=(hs e (jb h)).2;have h1:es=es.take i++e::es.drop (i+1):=by rw[<-hee,List.getElem_cons_drop,ja]
 have hl:((es.take i).flatMap SV.cells).length=i*z:=by
  rw[A7 (z:=z) λe he=>hs e (qH he),jr,jO (by omega)]
 rw[ku,if_pos hi];have h2:es.flatMap SV.cells=(es.take i).flatMap SV.cells++(e.cells++(es.drop (i+1)).flatMap SV.cells):=by
  conv=>lhs;rw[h1]
  simp
 rw[h2,jm,qK,he];generalize(es.take i).flatMap SV.cells=A at hl ⊢;generalize(es.drop (i+1)).flatMap SV.cells=B;rw[<-hl,List.take_append,List.drop_append,qB (by omega:A.length<=A.length+k),kj (by omega:A.length<=A.length+k+1)];rw[show A.length+k-A.length=k by omega,show A.length+k+1-A.length=k+1 by omega,List.take_append_of_le_length (by omega),List.drop_append_of_le_length (by omega)];simp
def Kl (p:Int->Bool) (id y:Int):Int:=if p y then id else y
def Bz (p:Int->Bool) (id:Int) (d:Az):Az:={ d with rev:=Kl p id d.rev }
def CE (p:Int->Bool) (id:Int) (d:Am):Am:={ d with rev:=Kl p id d.rev }
def FV (p:Int->Bool) (id y:Int):Int:=if y≠0/\p y=true then id else y
def Ji (p:Int->Bool) (id:Int) (h:AF):AF:={ h with ins:=FV p id h.ins,dels:=Cz (h.dels.map (Bz p id)) h.dels.length,layers:=h.layers.map (CE p id) }
def EO {α:Type} (f:α->α) (l:List α) (i:Nat):List α:=(l.take i).map f++l.drop i
theorem Ll {α:Type} (f:α->α) (l:List α):EO f l 0=l:=by simp[EO]
theorem ND {α:Type} (f:α->α) (l:List α):EO f l l.length=l.map f:=by simp[EO]
theorem NF {α:Type} (f:α->α) (l:List α) (i:Nat) (hi:i<=l.length):(EO f l i).length=l.length:=by simp[EO];omega
theorem NE {α:Type} (f:α->α) (l:List α) (i:Nat) (hi:i<l.length):(EO f l i)[i]? = some l[i]:=by
 simp only[EO];rw[qV (by simp;omega)];simp[jO (kx hi),hi]
theorem Lk {α:Type} (f:α->α) (l:List α) (i:Nat) (hi:i<l.length):(EO f l i).set i (f l[i])=EO f l (i+1):=by
 simp only[EO];rw[jV _ _ (by simp;omega)];have:((l.take i).map f).length=i:=by simp;omega
 rw[this,Nat.sub_self,qG hi,List.set_cons_zero,qb hi,qc,qu,qS,qn];rfl
end Go.Proofs.YtgakninlhfkkmaaGreat.Sh
