/- A part of the proof (part 15 of 17). -/
import Derived.Test.YthinbkgpjmjfeaaGreatDoorN14
namespace Go.Proofs.YthinbkgpjmjfeaaGreatDoor.Sh
open Go.Proofs.Tryz
open Proofs
set_option maxRecDepth 10000
set_option maxHeartbeats 4000000
def fy(s:ByteArray):Bool:=MQ (λi=>match(s.data.toList.map λx=>(x.toNat:Int))[i]? with|some b=>decide (b<32)||decide (b=127)|none=>false) (s.data.toList.map λx=>(x.toNat:Int)).length
def V1(s:ByteArray):Int:=if(64:Int)<s.size then 10 else if Ci s=false then 12 else if fy s=true then 5 else bb s
def PaX(s:ByteArray)(v:SV):Prop:=∃ps:List CG,v=.tup [.y 3 (ps.map CG.h) false,AA (V1 s)]/\ps.length<=1048576/\(V1 s=0->KW ps=bc s)
theorem iW(s:ByteArray)(O:s.size<=1048576):TC 282 [.str s] (PaX s):=by
 intro h n;refine FF func282 rfl λI=>?_;have out:∀(H:Hp)(m:Nat)(e:Int),e=V1 s->e≠0->(∀j y,h j=some y->H j=some y)->Ce n H m (.tup [.y 0 [] true,AA e]) (λv h' n'=>PaX s v/\h'=h/\n'=n):=λH m e M G hh=>
  ba 2 I hh (v:=.tup [.y 3 [] false,AA e]) (.inr ⟨Fg mr,Or,trivial⟩) (by simp[C_,c_]) ⟨[],by rw[M];rfl,by simp,λg=>absurd (M.trans g) G⟩
 refine As 0 [(0,.str s)] h n ?_ (λm hm=>?_);simp[go_sem,Or];refine AV 0 (α:=Unit) (λ_=>[(0,.str s)]) (λ_=>h) (λ_ m=>n<=m/\s.size<=64/\V1 s=bb s) (AP ?_) (λ_ m hm=>?_)
 . by_cases a1:(64:Int)<s.size;refine AK ?_;simp[go_sem,a1];exact out _ _ 10 (by unfold V1;rw[my a1]) (by decide) AC;have N:s.size<=64:=by omega
   refine AK ?_;simp[go_sem,a1];refine(WP s mq).use ?_;cases hv:Ci s with
   | false=>
    simp[go_sem];exact out _ _ 12 (by unfold V1;rw[mw a1,my hv]) (by decide) AC
   | true=>
   simp[go_sem];have D:∀b:List UInt8,b.map EH=(b.map λx=>(x.toNat:Int)).map Jf:=λb=>by rw[vO];rfl
   refine Vf (s:=s) (e:=5) rfl ms ms ms rfl ?_;rw[D];have t:s.data.toList.length=s.size:=by rw[wh];rfl
   have d:=kj (s.data.toList.map λx=>(x.toNat:Int)) (by simp[t];omega) 308 [] [] (λi=>match(s.data.toList.map λx=>(x.toNat:Int))[i]? with|some b=>decide (b<32)||decide (b=127)|none=>false) (λi hi=>by rw[qk hi];exact kl _);obtain⟨b,hb⟩:∃b,b=fy s:=⟨_,rfl⟩
   have IZ:MQ (λi=>match(s.data.toList.map λx=>(x.toNat:Int))[i]? with|some b=>decide (b<32)||decide (b=127)|none=>false) (s.data.toList.map λx=>(x.toNat:Int)).length=b:=by rw[hb];rfl
   rw[IZ]at d;generalize(s.data.toList.map λx=>(x.toNat:Int)).map Jf=L at d ⊢;simp[go_sem];refine qY d ?_;cases b with
   | true=>
    simp[go_sem];exact out _ _ 5 (by unfold V1;rw[mw a1,mw (by rw[hv];decide),my hb.symm]) (by decide) AC
   | false=>
    simp[go_sem,Or,hm,N];unfold V1;rw[mw a1,mw (by rw[hv];decide),mw (by rw[<-hb];decide)]
 obtain⟨hm,N,A⟩:=hm;refine PU λq=>?_;refine DH 0 (α:=Hp) (λ_=>[(4,.ptr m 0)]) (λz=>z) (λz m2=>m<m2/\Vw z m m s 0 [] [] 0 0/\∀o y,h o=some y->z o=some y) ?_ (λz m2 u=>?_);simp[go_sem,Or];exact⟨_,⟨⟨.nilp,none,none,IO _,AE _ _ _,.inl rfl,λ_=>rfl,by simp,λ_=>rfl,by simp⟩,AW (λj y e=>(q j y e).1) AC⟩,AC⟩;obtain⟨u,S,hk⟩:=u;refine AV 0 (α:=Hp) (λ_=>[(4,.ptr m 0)]) (λy=>y) (Y9 z m m m2 s λ_ _ l _ C=>(l.length<=1048576/\KW l=bc s/\C=bb s)/\C=0) ?_ (λy P k=>?_);refine DH 0 (α:=Hp) (λ_=>[(4,.ptr m 0)]) (λy=>y) (Y9 z m m m2 s λ_ _ l _ C=>l.length<=1048576/\KW l=bc s/\C=bb s) ?_ (λy P k=>?_);simp[go_sem];refine qM (gO S mq) ?_;rintro v Q n' W;simp[go_sem,Or];exact⟨Q,W.st (IO _),AC⟩;obtain⟨k,b1,J,ps,K,e,a,⟨p1,B,c,T⟩,p⟩:=k;have r:=T.cells;have f:∀o w,h o=some w->y o=some w:=λo w g=>p o w (q o w g).1 (hk o w g);by_cases c1:e=0;refine AK ?_;simp[go_sem,r,c1,Or];exact⟨y,⟨by omega,b1,J,ps,K,e,⟨a,c1⟩,⟨p1,B,c,T⟩,p⟩,AC⟩;have R:(e !=0)=true:=by simpa using c1
 refine Bc 0 [(4,.ptr m 0),(26,.bool true)] y (λ_=>True) ?_ (λm4 _=>?_);simp[go_sem,r,R,Or];refine BD (b:=true) ms ?_;simp only[if_true];refine AV 0 (α:=Unit) (λ_=>[(2,.y 0 [] true),(3,AA e)]) (λ_=>y) (λ_ _=>True) (CN ig rfl mu mu ?_) (λ_ m5 _=>?_);simp[go_sem,ig,r,Or];refine AK ?_;simp[go_sem];exact out _ _ e (by rw[A];exact a.2.2) c1 f;obtain⟨k,b1,J,ps,K,e,⟨a,U⟩,⟨p1,B,c,T⟩,p⟩:=k;have E:(0:Int)=bb s:=by rw[<-a.2.2,U]
 have r:=T.cells;have f:∀o w,h o=some w->y o=some w:=λo w g=>p o w (q o w g).1 (hk o w g);refine AK ?_;simp[go_sem,r];have V:CD n (P+(c.getD 0)+1) 3 c (ps.map CG.h):=⟨λe=>by rw[T.o0 e];rfl,λj e=>⟨by have:=(T.o1 j e).1;omega,by rw[e];simp;omega⟩,CG.size ps⟩
 have hh:∀j w,Ae c (ps.map CG.h) h j=some w->y j=some w:=λj w g=>by
  cases c with
  | none=>exact f j w g
  | some i=>
   simp only[Ae,h_]at g;split at g;rename_i F;subst F;rw[(T.o1 j rfl).2.2.2];exact g;exact f j w g
 exact ba 2 I f (v:=.tup [.y 3 (ps.map CG.h) false,AA 0]) (.inr ⟨AZ.fz I V hh,Or,trivial⟩) (by simp[C_,c_];exact EJ.2 λs O=>by obtain⟨x,_,rfl⟩:=qa.1 O;rfl) ⟨ps,by rw[A,<-E],a.1,λ_=>a.2.1⟩
def cN(L:List Int)(k:Int):Bool:=MQ (λi=>match L[i]? with|some x=>decide (k<x)|none=>false) L.length
def bQ(s:ByteArray)(k:Int):Int:=if k<1\/9<k then 2 else if V1 s=0 then(if cN (bc s) k then 6 else 0)else V1 s
theorem kV(s:ByteArray)(t:s.size<=1048576)(k:Int):PC 249 [.str s,AA k] (AA (bQ s k)):=by
 intro h n;refine FF func249 rfl λl=>?_;have d:=l.lt;have out:∀(e:Int)(m:Nat),e=bQ s k->Ce n h m (AA e) (Is (AA (bQ s k)) h n):=λe m r=>Ar l rfl (by rw[r]);refine As 1 [(0,.str s),(3,.q [AA k])] h n ?_ (λm hm=>?_);simp[go_sem,Or];exact⟨Ap (Ai d (IO _)) (AE _ _ _),AW d AC⟩;refine CH 0 [(0,.str s),(3,.q [AA k])] h (λm=>n<=m/\¬(k<1\/9<k)) (AK ?_) (λm hm=>?_);by_cases a1:k<1;simp[go_sem,a1];exact out 2 _ (by unfold bQ;rw[my (.inl a1)]);by_cases a2:9<k;simp[go_sem,a1,a2];exact out 2 _ (by unfold bQ;rw[my (.inr a2)]);simp[go_sem,a1,a2,Or,hm];obtain⟨hm,hk⟩:=hm;refine AK ?_;simp[go_sem];refine TC.use (iW s t) ?_;rintro v ⟨ps,rfl,g,f⟩;by_cases c:V1 s=0;have a:=ke ps g 284 [] [.q [AA k]] (λi=>match ps[i]? with|some p=>decide (k<p.level)|none=>false) (λi hi=>by rw[qk hi];exact kf _ k);obtain⟨b,hb⟩:∃b,b=cN (bc s) k:=⟨_,rfl⟩
 have IZ:MQ (λi=>match ps[i]? with|some p=>decide (k<p.level)|none=>false) ps.length=b:=by
  rw[hb,<-f c];unfold cN KW;rw[qf];congr 1;funext i;rw[vo];cases ps[i]? <;> rfl
 rw[IZ]at a;have j:bQ s k=if b then 6 else 0:=by unfold bQ;rw[mw hk,my c,hb]
 simp[go_sem,c];refine qY a ?_;cases b;simp[go_sem];exact out 0 _ (by rw[j];rfl);simp[go_sem];exact out 6 _ (by rw[j];rfl);have o:(V1 s==0)=false:=by simpa using c
 simp[go_sem,o];exact out _ _ (by unfold bQ;rw[mw hk,mw c])
def MJ(l:List Ao)(x:Ao):Bool:=(decide (x.base≠0) && !R8 l x.x x.base)||(decide (x.next≠0)&&(decide (x.x=2) || !R8 l 1 x.next))
def ZF{α:Type}(p:α->Bool)(l:List α)(i:Nat):Prop:=(l.take i).any p=false
theorem RQ{α:Type}(p:α->Bool)(l:List α):ZF p l 0:=rfl
theorem RP{α:Type}{p:α->Bool}{l:List α}{i:Nat}(hi:i<l.length)(h:ZF p l i)(g:p l[i]=false):ZF p l (i+1):=by
 unfold ZF at h ⊢;rw[qb hi,List.any_append,h];simp[g]
theorem UY{α:Type}{p:α->Bool}{l:List α}(h:ZF p l l.length):¬l.any p=true:=by
 unfold ZF at h;rw[qp]at h;rw[h];simp
theorem T2{α:Type}{p:α->Bool}{l:List α}{i:Nat}(hi:i<l.length)(h:p l[i]=true):l.any p=true:=List.any_eq_true.2 ⟨_,qn hi,h⟩
theorem lJ(l:List Ao)(hl:l.length<=1048576)(hs:∀x∈l,x.Q.length<=1048576):EC 139 [AT l]:=by
 obtain⟨F,hF⟩:=EC.fam (A:=λi=>[AT l,AA i]) (N:=l.length) (λi hi=>lM l hl hs i hi);obtain⟨V,hV⟩:∃V:Int,V=if(128:Int)<l.length then 9 else if CI F l.length≠0 then CI F l.length else if l.any (MJ l)then 25 else if l.any (λx=>QX l l.length x.id)then 16 else 0:=⟨_,rfl⟩
 refine⟨V,?_⟩;intro h n;refine lW func139 rfl mu mu ms λho B=>?_;have hHb:=ho.lt;obtain⟨G,hG⟩:∃G:Int->Hp,∀e,G e=h_ h (n+1) (some (.cells [AA e])):=⟨_,λ_=>rfl⟩
 have hGa:∀e,G e (n+1)=some (.cells [AA e]):=λe=>by rw[hG,AE]
 have hGs:∀e e',h_ (G e) (n+1) (some (.cells [AA e']))=G e':=λe e'=>by rw[hG,hG,Ad]
 have hGk:∀e j y,h j=some y->G e j=some y:=λe j y g=>by rw[hG,AD _ _ (by have:=hHb j y g;omega)];exact g
 have hGb:∀e j y,G e j=some y->j<n+2:=λe j y g=>by
  rw[hG]at g;simp only[h_]at g;split at g;omega;have:=hHb j y g;omega
 have out:∀(e:Int)(m:Nat),V=e->Ce n (G e) m (AA e) (Is (AA V) h n):=λe m he=>Rb (T:=λv=>v=AA V) ho (hGk e) (by simp[C_]) (by rw[he]);refine Bc 1 [(1,.q [AT l]),(2,.ptr (n+1) 0)] (G 0) (λm=>n+1<m) ?_ (λm hm=>?_);rw[hG];simp[go_sem,Or];refine⟨Ap (by simp[h_];exact Ai hHb (IO _)) (by simp[h_]),λj y=>?_⟩;have:=hHb j y;simp only[h_];grind;refine CH 0 [(1,.q [AT l]),(2,.ptr (n+1) 0)] (G 0) (λm=>n+1<m/\¬(128:Int)<l.length) (AK ?_) (λm hm=>?_);by_cases a1:(128:Int)<l.length;simp[go_sem,a1,hGa,hGs];exact out _ _ (by rw[hV,my a1]);simp[go_sem,a1,Or,hm];obtain⟨hm,a1⟩:=hm;rw[mw a1]at hV;refine CH 0 [(1,.q [AT l]),(2,.ptr (n+1) 0)] (G 0) (λm=>n+1<m/\CI F l.length=0) ?_ (λm hm=>?_);refine Bc 0 [(1,.q [AT l]),(2,.ptr (n+1) 0),(14,AA l.length),(15,AA 0)] (G 0) (λm=>n+1<m) ?_ (λm hm=>?_);simp[go_sem,Or,hm];refine AP (Aq 0 (α:=Nat) (λi=>[(1,.q [AT l]),(2,.ptr (n+1) 0),(14,AA l.length),(15,AA i)]) (λ_=>G 0) (λi m=>i<=l.length/\n+1<m/\CI F i=0) (λi=>l.length-i) 0 ⟨qj _,hm,rfl⟩ ?_ AC ?_);simp[go_sem,look,Or];rintro i m ⟨hi,hm,hI⟩;by_cases hlt:i<l.length;have w1:=wS i mq;refine AK ?_;simp[go_sem,hlt];refine qY (hF i hlt) ?_;obtain⟨e,he⟩:∃e,F i=e:=⟨_,rfl⟩
 rw[he];by_cases e0:e=0;simp[go_sem,e0,w1,Or,-Int.natCast_add];exact⟨i+1,by omega,⟨by omega,hm,by rw[CI,my hI,he,e0]⟩,rfl⟩;have e1:(e !=0)=true:=by simpa using e0
 have hne:F i≠0:=by rw[he];exact e0
 have ha:CI F l.length=e:=by rw[Ew F hlt hI hne,he]
 simp[go_sem,e1,hGa,hGs];exact out _ _ (by rw[hV,my (by rw[ha];exact e0),ha]);refine AK ?_;have e:i=l.length:=by omega
 subst e;simp[go_sem,Or,hm,hI];obtain⟨hm,a2⟩:=hm;rw[mw (by rw[a2];simp)]at hV;refine CH 0 [(1,.q [AT l]),(2,.ptr (n+1) 0)] (G 0) (λm=>n+1<m/\ZF (MJ l) l l.length) ?_ (λm hm=>?_)
 . refine Bc 0 [(1,.q [AT l]),(2,.ptr (n+1) 0),(25,AT l),(26,AA l.length),(27,AA 0)] (G 0) (λm=>n+1<m) ?_ (λm hm=>?_);simp[go_sem,Or,hm];refine AP (Aq 0 (α:=Nat) (λi=>[(1,.q [AT l]),(2,.ptr (n+1) 0),(25,AT l),(26,AA l.length),(27,AA i)]) (λ_=>G 0) (λi m=>i<=l.length/\n+1<m/\ZF (MJ l) l i) (λi=>l.length-i) 0 ⟨qj _,hm,RQ _ _⟩ ?_ AC ?_);simp[go_sem,look,Or];rintro i m ⟨hi,hm,hI⟩;by_cases hlt:i<l.length
   . have w1:=wS i mq;obtain⟨x,hx⟩:∃x,l[i]=x:=⟨_,rfl⟩
     obtain⟨X,hX⟩:∃X:SV,X=.q [AA x.id,AA x.x,.str x.name,AA x.base,AA x.next,AO x.Q]:=⟨_,rfl⟩
     refine Bc 0 [(1,.q [AT l]),(2,.ptr (n+1) 0),(25,AT l),(26,AA l.length),(27,AA i),(28,.bool true)] (G 0) (λm=>n+1<m) ?_ (λm hm=>?_);simp[go_sem,Or,hm,hlt];refine Bc 0 [(1,.q [AT l]),(2,.ptr (n+1) 0),(25,AT l),(26,AA l.length),(27,AA i)] (G 0) (λm=>n+1<m) ?_ (λm hm=>?_);simp[go_sem,Or,hm];refine AV 0 (α:=Unit) (λ_=>[(1,.q [AT l]),(2,.ptr (n+1) 0),(25,AT l),(26,AA l.length),(27,AA i)]) (λ_=>G 0) (λ_ m=>n+1<m/\MJ l x=false) (AP ?_) (λ_ m hm=>?_)
     . refine Bc 1 [(1,.q [AT l]),(2,.ptr (n+1) 0),(25,AT l),(26,AA l.length),(27,AA i),(6,X)] (G 0) (λm=>n+1<m) ?_ (λm hm=>?_);have hHm:∀j y,G 0 j=some y->j<m:=λj y e=>by have:=hGb 0 j y e;omega
       rw[hX];simp[go_sem,Or,hlt,hx,Ao.h,AE];exact⟨by omega,Ap (Ai hHm (IO _)) (AE _ _ _),AW hHm (AW hHm AC)⟩;refine Bc 0 [(1,.q [AT l]),(2,.ptr (n+1) 0),(25,AT l),(26,AA l.length),(27,AA i),(59,.bool (MJ l x))] (G 0) (λm=>n+1<m) ?_ (λm hm=>?_)
       . rw[hX];obtain⟨q1,hq1⟩:∃q,R8 l x.x x.base=q:=⟨_,rfl⟩
         obtain⟨q2,hq2⟩:∃q,R8 l 1 x.next=q:=⟨_,rfl⟩
         have hbad:MJ l x=((decide (x.base≠0) && !q1)||(decide (x.next≠0)&&(decide (x.x=2) || !q2))):=by rw[MJ,hq1,hq2]
         have e208:∀(kd id:Int)(q:Bool),R8 l kd id=q->∀{m:Nat} {K:SV->Hp->Nat->Prop},K (.bool q) (G 0) m->Ab (BZ.plain.call true B) prog 187 [AT l,AA kd,AA id] (G 0) m K:=λkd id q e m K hK=>qY (kI l kd id hl) (by rw[e];exact hK);have second:x.next=0\/(x.next≠0/\x.x=2)\/(x.next≠0/\x.x≠2):=by
          by_cases c1:x.next=0;exact .inl c1;by_cases c2:x.x=2;exact .inr (.inl ⟨c1,c2⟩);exact .inr (.inr ⟨c1,c2⟩)
         by_cases b0:x.base=0
         . rcases second with c1|⟨c1,c2⟩|⟨c1,c2⟩
           simp[go_sem,b0,c1,hbad,Or,hm]
           . have c1':(x.next !=0)=true:=by simpa using c1
             simp[go_sem,b0,c1,c1',c2,hbad,Or,hm]
           . have c1':(x.next !=0)=true:=by simpa using c1
             have c2':(x.x==2)=false:=by simpa using c2
             simp[go_sem,b0,c1',c2'];refine e208 _ _ _ hq2 ?_;cases q2<;>simp[go_sem,b0,c1,c2,hbad,Or,hm]
         . have b0':(x.base !=0)=true:=by simpa using b0
           simp[go_sem,b0'];refine e208 _ _ _ hq1 ?_;cases q1 with
           | false=>simp[go_sem,b0,hbad,Or,hm]
           | true=>
            rcases second with c1|⟨c1,c2⟩|⟨c1,c2⟩
            simp[go_sem,b0,c1,hbad,Or,hm]
            . have c1':(x.next !=0)=true:=by simpa using c1
              simp[go_sem,b0,c1,c1',c2,hbad,Or,hm]
            . have c1':(x.next !=0)=true:=by simpa using c1
              have c2':(x.x==2)=false:=by simpa using c2
              simp[go_sem,c1',c2'];refine e208 _ _ _ hq2 ?_;cases q2<;>simp[go_sem,b0,c1,c2,hbad,Or,hm]
       obtain⟨b,hb⟩:∃b,MJ l x=b:=⟨_,rfl⟩
       rw[hb];refine AK ?_;cases b with
       | true=>simp[go_sem,hGa,hGs];exact out _ _ (by rw[hV,my (T2 hlt (by rw[hx];exact hb))])
       | false=>simp[go_sem,Or,hm]
     refine AK ?_;simp[go_sem,w1,Or,-Int.natCast_add];exact⟨i+1,by omega,⟨by omega,hm.1,RP hlt hI (by rw[hx];exact hm.2)⟩,rfl⟩
   refine AK ?_;have e:i=l.length:=by omega
   subst e;simp[go_sem,Or,hm,hI]
 obtain⟨hm,a3⟩:=hm;rw[mw (UY a3)]at hV;refine CH 0 [(2,.ptr (n+1) 0)] (G 0) (λm=>n+1<m/\ZF (λx=>QX l l.length x.id) l l.length) ?_ (λm hm=>?_)
 . refine Bc 0 [(1,.q [AT l]),(2,.ptr (n+1) 0),(61,AT l),(62,AA l.length),(63,AA 0)] (G 0) (λm=>n+1<m) ?_ (λm hm=>?_);simp[go_sem,Or,hm];refine AP (Aq 0 (α:=Nat) (λi=>[(1,.q [AT l]),(2,.ptr (n+1) 0),(61,AT l),(62,AA l.length),(63,AA i)]) (λ_=>G 0) (λi m=>i<=l.length/\n+1<m/\ZF (λx=>QX l l.length x.id) l i) (λi=>l.length-i) 0 ⟨qj _,hm,RQ _ _⟩ ?_ AC ?_);simp[go_sem,look,Or];rintro i m ⟨hi,hm,hI⟩;by_cases hlt:i<l.length
   . have w1:=wS i mq;obtain⟨x,hx⟩:∃x,l[i]=x:=⟨_,rfl⟩
     refine Bc 0 [(1,.q [AT l]),(2,.ptr (n+1) 0),(61,AT l),(62,AA l.length),(63,AA i),(64,.bool true)] (G 0) (λm=>n+1<m) ?_ (λm hm=>?_);simp[go_sem,Or,hm,hlt];refine Bc 0 [(1,.q [AT l]),(2,.ptr (n+1) 0),(61,AT l),(62,AA l.length),(63,AA i)] (G 0) (λm=>n+1<m) ?_ (λm hm=>?_);simp[go_sem,Or,hm];refine AV 0 (α:=Unit) (λ_=>[(1,.q [AT l]),(2,.ptr (n+1) 0),(61,AT l),(62,AA l.length),(63,AA i)]) (λ_=>G 0) (λ_ m=>n+1<m/\QX l l.length x.id=false) (AP ?_) (λ_ m hm=>?_)
     . refine Bc 1 [(1,.q [AT l]),(2,.ptr (n+1) 0),(61,AT l),(62,AA l.length),(63,AA i),(8,.q [AA x.id,AA x.x,.str x.name,AA x.base,AA x.next,AO x.Q])] (G 0) (λm=>n+1<m) ?_ (λm hm=>?_);have hHm:∀j y,G 0 j=some y->j<m:=λj y e=>by have:=hGb 0 j y e;omega
       simp[go_sem,Or,hlt,hx,Ao.h,AE];exact⟨by omega,Ap (Ai hHm (IO _)) (AE _ _ _),AW hHm (AW hHm AC)⟩;refine Bc 0 [(1,.q [AT l]),(2,.ptr (n+1) 0),(61,AT l),(62,AA l.length),(63,AA i),(8,.q [AA x.id,AA x.x,.str x.name,AA x.base,AA x.next,AO x.Q]),(9,.ptr m 0)] (h_ (G 0) m (some (.cells [AA 0]))) (λm2=>m<m2) ?_ (λm2 hm2=>?_);simp[go_sem,Or,AE,Ad];refine DH 0 (α:=Hp×Nat) (λz=>[(1,.q [AT l]),(2,.ptr (n+1) 0),(61,AT l),(62,AA l.length),(63,AA i),(9,.ptr m 0),(70,.fn (.func 248) [] [.q [AT l],.ptr z.2 0])]) (λz=>z.1) (λz m3=>m2<=z.2/\z.2<m3/\z.1 z.2=some (.cells [AA x.id])/\∀o y,h_ (G 0) m (some (.cells [AA 0])) o=some y->z.1 o=some y) ?_ (λz m3 hm3=>?_);simp[go_sem];refine qM (lB l x.id) ?_;rintro v H' n' ⟨k,rfl,g1,g2,g3,g4⟩;simp[go_sem,Or];exact⟨H',k,⟨g1,g2,g3,g4⟩,rfl,AC⟩;obtain⟨z,k⟩:=z;obtain⟨k1,k2,k3,k4⟩:=hm3;dsimp only at k1 k2 k3 k4 ⊢;refine AP ?_;refine HX rfl rfl rfl λE1 yl R hY=>?_;have za:z (n+1)=some (.cells [AA 0]):=k4 _ _ (by rw[AD _ _ mq];exact hGa 0);have zm:z m=some (.cells [AA 0]):=k4 _ _ (AE _ _ _);let D:Nat->Prop:=λo=>o=n+1\/o=m\/o=m3;let J:Nat->Hp->Nat->Prop:=λc hh mm=>m3<mm/\c<=l.length/\hh (n+1)=some (.cells [AA 0])/\hh m=some (.cells [AA c])/\hh m3=some (.loop (R .ready none));let Jx:Hp->Nat->Prop:=λhh mm=>m3<mm/\hh (n+1)=some (.cells [AA 16])/\hh m3=some (.loop (R .done (some .ret)));have Y:YX E1 yl l.length J Jx D:=by
        refine⟨λc y hh mm hJ=>?_,?_,?_⟩;obtain⟨g0,gc,g1,g2,g3⟩:=hJ;have q1:n+1≠mm:=by omega
        have q2:m≠mm:=by omega
        have q3:m3≠mm:=by omega
        have q3':=q3.symm;have q4:m≠m3:=by omega
        have q5:n+1≠m3:=by omega
        have q6:n+1≠m:=by omega
        have w2:=wS c mq;refine hY _ _ _ _ g3 rfl (Lk ?_);by_cases hc:c+1<=l.length;have hc':¬(((l.length:Nat):Int)<((c+1:Nat):Int)):=by omega
        simp[go_sem,IW,Ao.h,AE,AD,g2,g3,q4,w2,hc',Li,-Int.natCast_add];refine⟨by rw[AD _ _ q4.symm,AE],λo g1 g2=>?_,hc,?_⟩;have e1:o≠m:=λe=>g1 (.inr (.inl e));have e2:o≠m3:=λe=>g1 (.inr (.inr e));have e3:o≠mm:=by omega
        simp[h_,e1,e2];exact⟨by omega,hc,by simp[h_,q5,q6,g1],by simp[h_,q4],by simp[h_]⟩;have hc':(((l.length:Nat):Int)<((c+1:Nat):Int)):=by omega
        simp[go_sem,IW,Ao.h,AE,AD,g1,g2,g3,q4,q5,q6,w2,hc',Li,-Int.natCast_add];refine⟨by rw[AD _ _ q5.symm,AD _ _ q4.symm,AE],λo g1 g2=>?_,?_⟩;have e0:o≠n+1:=λe=>g1 (.inl e);have e1:o≠m:=λe=>g1 (.inr (.inl e));have e2:o≠m3:=λe=>g1 (.inr (.inr e));have e3:o≠mm:=by omega
        simp[h_,e0,e1,e2];exact⟨by omega,by omega,by simp[h_,q5],by simp[h_]⟩;rintro c hh mm h' m' ⟨g0,gc,g1,g2,g3⟩ hmm hD;exact⟨by omega,gc,by rw[hD _ (.inl rfl)];exact g1,by rw[hD _ (.inr (.inl rfl))];exact g2,by rw[hD _ (.inr (.inr rfl))];exact g3⟩;rintro c hh mm ⟨g0,gc,g1,g2,g3⟩ o (rfl|rfl|rfl)<;>omega
       have hkm3:k≠m3:=by omega
       refine ww (gM Y l hl (id:=x.id) (k:=k) (by rw[AD _ _ hkm3];exact k3) (by rintro(g|g|g)<;>omega) ⟨by omega,qj _,by rw[AD _ _ mq];exact za,by rw[AD _ _ mq];exact zm,AE _ _ _⟩) ?_;rintro v h' m' ⟨hm',hfr,⟨hch,c,g0,gc,g1,g2,g3⟩|⟨hch,g0,g1,g3⟩⟩;refine⟨_,_,g3,by simp,?_⟩;simp[go_sem];refine⟨⟨by omega,hch⟩,λo y e=>?_⟩;have o1:o<n+2:=hGb 0 o y e;by_cases o2:o=n+1;subst o2;rw[AD _ _ mq,g1,<-e,hGa];rw[AD _ _ mq,hfr o (by rintro(g|g|g)<;>omega) mq mq,AD _ _ mq];exact k4 _ _ ((AD _ _ mq).trans e);refine⟨_,_,g3,by simp,?_⟩;simp[go_sem];rw[AD _ _ (by omega:n+1≠m3),g1];refine⟨_,rfl,Rb (T:=λv=>v=AA V) ho (λo y e=>?_) (by simp[C_]) (by rw[hV,my (T2 hlt (by rw[hx];exact hch))])⟩;have o1:o<n:=hHb o y e;rw[AD _ _ mq,hfr o (by rintro(g|g|g)<;>omega) mq mq,AD _ _ mq];exact k4 _ _ ((AD _ _ mq).trans (hGk 0 _ _ e))
     refine AK ?_;simp[go_sem,w1,Or,-Int.natCast_add];exact⟨i+1,by omega,⟨by omega,hm.1,RP hlt hI (by rw[hx];exact hm.2)⟩,rfl⟩
   refine AK ?_;have e:i=l.length:=by omega
   subst e;simp[go_sem,Or,hm,hI]
 obtain⟨hm,a4⟩:=hm;rw[mw (UY a4)]at hV;refine AK ?_;simp[go_sem,hGa,hGs];exact out _ _ hV
theorem kq(s:AQ)(a:s.sizedT):PC 79 [s.h] (AA (ah s)):=
 V5 (lJ _ a.A a.Q)
  (lK _ a.L λi hi=>lN _ a.L i hi (lO _ (a.levels _ (qn hi)) λx b k=>⟨_,kV x.template (a.tpl _ (qn hi) x b) k⟩))
  a.C a.com
  (lL _ a.vars λi hi=>lP _ a.vars a.var i hi)
section
variable{K K':Ck}(h0:K.m0=K'.m0)(h1:K.m1=K'.m1)(h2:K.m2=K'.m2)
include h0 h1
theorem Ra:Hm K=Hm K':=by funext a b;unfold Hm;rw[h0,h1]
include h2
theorem LW:Dv K=Dv K':=by
 have d:MV K=MV K':=by funext a b;unfold MV;rw[Ra h0 h1]
 have e:GG K=GG K':=by funext a;unfold GG;rw[h2]
 have f:Ja K=Ja K':=by funext a b;unfold Ja;rw[h2]
 have g:MU K=MU K':=by funext a b c;unfold MU;rw[h2,Ra h0 h1]
 funext a b;unfold Dv;rw[d,e,f,g]
theorem Su:∀(N:Nat)(a:Cw)(l:List AB),gN K N a l↔gN K' N a l
 | 0,_,_=>Iff.rfl
 | N+1,a,l=>by
  have e:=LW h0 h1 h2;have g:=Su N;simp only[gN,e,g]
end
def Kd(d:AI):Ck:=⟨0,0,0,0,0,0,MD d.S.A d.S.A.length,BG [] (d.S.L.map (·.id)),BG [] (d.V.map (·.id))⟩
structure Cy(N:Nat)(d:AI):Prop where
 S:ah d.S=0
 V:FO d.V=0
 endH:Dv (Kd d) 3 d.T0 = 0
 endI:d.T0.I=0
 endM:d.T0.move=0
 endD:d.T0.Y=[]
 W:gN (Kd d) N ⟨true,false,0⟩ d.W
 ids:Ch [] (Jb N d.W)
 units:IntKind.i64.wrap (ZH N d.W)<=16384
def bu(T:Prop)(v:SV):Prop:=∃e:Int,v=AA e/\(e=0↔T)
theorem EL{a b:Int}:BL [a,b]=0↔a=0/\b=0:=by
 simp only[BL];by_cases c:a=0<;>by_cases hb:b=0<;>simp[c,hb]
theorem mX(d:AI){B N:Nat}(hB:B<=1048576)(hl:lim AG.l B N d.W)(he:d.T0.l)(h1:d.S.A.length<=1048576)(h2:d.S.L.length<=1048576)(h3:d.V.length<=1048576)(h4:∀r∈d.V,r.O.size<=1048576)
 (h83:PC 79 [d.S.h] (AA (ah d.S))):TC 26 [d.h] (bu (Cy N d)):=by
 intro h n;refine FF func26 rfl λho=>?_;have hHb:=ho.lt;obtain⟨X,hX⟩:∃X:SV,X=.q ([AH d.W]++d.T0.j++[BV d.V]++d.S.j):=⟨_,rfl⟩
 obtain⟨T,hT⟩:∃T:Prop,T=Cy N d:=⟨_,rfl⟩
 rw[<-hT];have no:∀(e:Int)(H2:Hp)(m:Nat),e≠0->¬T->(∀j y,h j=some y->H2 j=some y)->Ce n H2 m (AA e) (λv h' n'=>bu T v/\h'=h/\n'=n):=λe H2 m he hb hh=>Rb ho hh (by simp[C_]) ⟨e,rfl,λg=>absurd g he,λg=>absurd g hb⟩;refine As 1 [(1,X)] h n ?_ (λm hm=>?_);rw[hX];simp[go_sem,AI.h,AG.j,AQ.j];exact⟨Ap (Ai hHb (IO _)) (AE _ _ _),AW hHb AC⟩;refine CH 0 [(1,X)] h (λm=>n<=m/\ah d.S=0/\FO d.V=0) ?_ (λm hm=>?_)
 . refine AV 0 (α:=Int) (λe=>[(1,X),(3,AA e)]) (λ_=>h) (λe m=>n<=m/\e=BL [ah d.S,FO d.V]) (CN iY rfl mu mu ?_) (λe m hm=>?_);have hHm:∀j y,h j=some y->j<m:=λj y e=>by have:=hHb j y e;omega
   rw[hX];simp[go_sem,iY,AG.j,AQ.j];refine qY (by simpa[AQ.h,AQ.j]using h83) ?_;generalize ah d.S=e;simp[go_sem];refine(c84 d.V h3 h4).use ?_;generalize FO d.V=e2;simp[go_sem];refine wW (bs:=[.y 1 ([e,e2].map AA) false]) (h2:=h) 1 (AW hHm AC) ⟨?_,trivial⟩ ?_;exact E7 (es:=[AA e,AA e2]) (Ai hHm (IO _)) mr (by rw[AE];simp[SV.cells]) (by simp[SV.B,SV.cells]);refine(SO _ mr).use ?_;generalize BL [e,e2]=ef;simp[go_sem,Or]
   first|exact⟨ef,⟨by omega,rfl⟩,Or⟩|exact⟨by omega,Or⟩|(trace_state;omega)
   obtain⟨hm,hef⟩:=hm;by_cases e0:e=0
   case neg=>exact AK (by simp[go_sem,e0];exact no e _ _ e0 (λg=>e0 (by rw[hT]at g;rw[hef];exact EL.2 ⟨g.S,g.V⟩)) AC)
   have hrv:=EL.1 (hef▸e0);rw[e0];exact AK (by simp[go_sem,Or,hm,hrv])
 obtain⟨hm,h8,hrv⟩:=hm;refine DH 0 (α:=Ck) (λq=>[(1,X),(4,.ptr q.p 0)]) (λq=>Az q.st ([],0) h) (λq m=>n<=m/\q.ok m/\q.m2=(Kd d).m2/\q.m0=(Kd d).m0/\q.m1=(Kd d).m1/\∀o y,q.st ([],0) o=some y->n<=o) ?_ (λK n1 hq=>?_);rw[hX];simp[go_sem,AG.j,AQ.j];refine qM (by simpa[AI.h,AG.j,AQ.j]using lH d h1 h2 h3 (h:=h) (n:=m)) ?_;rintro v H' n' ⟨K,a1,a2,rfl,a4,a5,b0,b1,a6,a7⟩;simp[go_sem,Or];refine⟨K,⟨by omega,a1,a5,b0,b1,λo y e=>by have:=a7 o y e;omega⟩,Or,λo y e=>?_⟩;simp only[Az]at e;cases c:K.st ([],0) o with
 | some z=>rw[c]at e;cases e;exact a4 o y c
 | none=>rw[c]at e;exact a6 o y e
 obtain⟨hn1,hK,hm2,hm0,hm1,hlo⟩:=hq;have D:=hK.clo;have hlos:∀s' o y,K.st s' o=some y->n<=o:=λs' o y e=>by
  cases c:K.st ([],0) o with
  | some z=>exact hlo o z c
  | none=>rw[D.dom ([],0) s' o c]at e;cases e
 have BA:∀s',∀j y,h j=some y->Az K.st s' h j=some y:=λs' j y e=>by
  simp only[Az];cases c:K.st s' j with
  | some z=>have:=hlos s' j z c;have:=hHb j y e;omega
  | none=>exact e
 have hUb:∀s' j y,Az K.st s' h j=some y->j<n1:=λs' j y e=>(D.old s' (IO _) (λj y e=>⟨by have:=hHb j y e;omega,Kf hn1 (ho j y e).2⟩) j y e).1;have hps:∀s',Az K.st s' h K.p=some (.cells [.map K.s0,.map K.s1,.map K.s2,.map K.s3,.map K.s4,AA s'.2]):=λs'=>(hK.has (s:=s') CV).p;refine As 1 [(1,X),(4,.ptr K.p 0),(5,.q [AA d.T0.I,AA d.T0.move,AX d.T0.Y,AN d.T0.Z])] (Az K.st ([],0) h) n1 ?_ (λm hm=>?_);rw[hX];simp[go_sem,Or,AG.j,AQ.j,AE];exact⟨Ap (Ai (hUb _) (IO _)) (AE _ _ _),AW (hUb _) (AW (hUb _) AC)⟩;refine CH 0 [(1,X),(4,.ptr K.p 0)] (Az K.st ([],0) h) (λm=>n1<=m/\Dv K 3 d.T0 = 0/\d.T0.I=0/\d.T0.move=0/\d.T0.Y=[]) ?_ (λm hm=>?_)
 . have hd:=Zh hK ([],0) 3 d.T0 he (H:=Az K.st ([],0) h) (n:=m) hm CV;obtain⟨eh,heh⟩:∃eh,Dv K 3 d.T0 = eh:=⟨_,rfl⟩
   rw[heh]at hd ⊢;refine AV 0 (α:=Int) (λe=>[(1,X),(4,.ptr K.p 0),(6,AA e)]) (λ_=>Az K.st ([],0) h) (λe m=>n1<=m/\(e=0↔eh=0/\d.T0.I=0/\d.T0.move=0/\d.T0.Y=[])) (CN ac rfl mu mu ?_) (λe8 m hm=>?_);rw[hX];have fin:∀(e ea:Int)(m1:Nat)(KK:SV->Hp->Nat->Prop),n1<=m1->KK (AA (BL [e,ea])) (Az K.st ([],0) h) (m1+1)->Ab (BZ.plain.call false 0) prog 78 [.sl m1 0 1 2 true] (h_ (Az K.st ([],0) h) m1 (some (.cells [AA e,AA ea]))) (m1+1) KK:=λe ea m1 KK hm1 hk=>by
    refine wW (bs:=[.y 1 ([e,ea].map AA) false]) (h2:=Az K.st ([],0) h) 1 (AW (λj z e=>by have:=hUb ([],0) j z e;omega) AC) ⟨?_,trivial⟩ ?_;exact E7 (es:=[AA e,AA ea]) (Ai (hUb ([],0)) hm1) mr (by rw[AE];simp[SV.cells]) (by simp[SV.B,SV.cells]);exact(SO _ mr).use hk
   have hd':∀KK:SV->Hp->Nat->Prop,KK (AA eh) (Az K.st ([],0) h) m->Ab (BZ.plain.call false 0) prog 82 [.ptr K.p 0,AA 3,.agg [AO d.T0.Q,AA d.T0.I,AA d.T0.move,AX d.T0.Y,AN d.T0.Z]] (Az K.st ([],0) h) m KK:=λKK hk=>by
    refine qM (by simpa[AG.h,AG.j]using hd) ?_;rintro v H' n' ⟨rfl,rfl,rfl⟩;exact hk
   clear hd heh;generalize hin:d.T0.I=ins at hd' ⊢;generalize hmv:d.T0.move=mv at hd' ⊢;by_cases i0:ins=0;subst i0;by_cases m0:mv=0;subst m0;simp[go_sem,ac,AG.j,hin,hmv];refine hd' _ ?_;simp[go_sem];refine(Kc _ _).use ?_;simp[go_sem];refine fin _ _ _ _ hm ?_;generalize hf:BL [eh,_]=ef;simp[go_sem,Or];refine⟨ef,⟨by omega,?_⟩,Or⟩;rw[<-hf,EL];by_cases dl:d.T0.Y=[]<;>simp[dl];simp[go_sem,ac,AG.j,hin,hmv,m0];refine hd' _ ?_;simp[go_sem,m0];refine(Kc _ _).use ?_;simp[go_sem];refine fin _ _ _ _ hm ?_;generalize hf:BL [eh,_]=ef;simp[go_sem,Or];have hne:¬ef=0:=by rw[<-hf,EL];simp
   exact⟨ef,⟨by omega,hne⟩,Or⟩;simp[go_sem,ac,AG.j,hin,hmv,i0];refine hd' _ ?_;simp[go_sem,i0];refine(Kc _ _).use ?_;simp[go_sem];refine fin _ _ _ _ hm ?_;generalize hf:BL [eh,_]=ef;simp[go_sem,Or];have hne:¬ef=0:=by rw[<-hf,EL];simp
   exact⟨ef,⟨by omega,hne⟩,Or⟩;obtain⟨hm,hz⟩:=hm;have hE:=LW hm0 hm1 hm2;by_cases e80:e8=0
   case neg=>exact AK (by simp[go_sem,e80];exact no e8 _ _ e80 (λg=>e80 (by rw[hT]at g;exact hz.2 ⟨by rw[<-heh,hE];exact g.endH,g.endI,g.endM,g.endD⟩)) (BA _))
   have hhd:=hz.1 e80;rw[e80];exact AK (by simp[go_sem,Or,hm,hhd])
 obtain⟨hm,hhd⟩:=hm;refine AV 0 (α:=GK) (λ_=>[(4,.ptr K.p 0)]) (λq=>Az K.st q h) (λq m=>n1<=m/\Da ([],0) (Jb N d.W) (ZH N d.W) q/\Ch [] (Jb N d.W)/\gN K N ⟨true,false,0⟩ d.W) (AK ?_) (λq m hm=>?_);rw[hX];simp[go_sem,AG.j,AQ.j];refine qM (by simpa[Cw.h]using Pd hK hB N d.W hl ([],0) ⟨true,false,0⟩ (Az K.st ([],0) h) m hm CV) ?_;rintro v H' n' ⟨e,s2,rfl,hT2,rfl,rfl⟩;rw[D.up2];by_cases e0:e=0;obtain⟨b1,b2,b3⟩:=hT2.1 e0;simp[go_sem,e0,Or];exact⟨s2.1,s2.2,⟨hm,b3,b2,b1⟩,AC⟩;simp[go_sem,e0];exact no e _ _ e0 (λg=>by rw[hT]at g;exact hT2.2 e0 ⟨(Su hm0 hm1 hm2 ..).2 g.W,g.ids⟩) (BA _);obtain⟨_,hnx,hfr,hgn⟩:=hm;have hun:IntKind.i64.wrap (ZH N d.W)=q.2:=by
  have h1:=hnx.rg (by simp only[IntKind.wrap_i64];rfl);have h2:=hnx.un;rw[h1]at h2;rw[h2];simp
 have hE:=LW hm0 hm1 hm2;have hTT:T↔q.2<=16384:=by
  rw[hT];exact⟨λg=>by rw[<-hun];exact g.units,λg=>⟨h8,hrv,by rw[<-hE];exact hhd.1,hhd.2.1,hhd.2.2.1,hhd.2.2.2,(Su hm0 hm1 hm2 ..).1 hgn,hfr,by rw[hun];exact g⟩⟩
 refine AK ?_;simp[go_sem,hps];refine(Kc _ _).use ?_;simp[go_sem];refine Rb ho (BA _) (by simp[C_]) ⟨_,rfl,?_⟩;rw[hTT];by_cases c:16384<q.2
 . simp[c];try omega
 . simp[c];try omega
theorem He{F:Nat->Int}{n:Nat}:CI F n=0↔∀k,k<n->F k=0:=
 ⟨λh=>GW h,λh=>by
  induction n with
  | zero=>rfl
  | succ n ih=>rw[CI,my (ih λk hk=>h k mq)];exact h n mq⟩
structure XP(K:Ck)(el:Int)(h:AG):Prop where
 Q:C8 el h.Q=0
 refs:∀j,j<h.Q.length->MV K h.Q j=0
 I:GG K h=false
 mv:Ir h=false
 dlen:h.Y.length<=16
 Y:∀j,j<h.Y.length->Ja K h.Y j=0
 llen:h.Z.length<=64
 Z:∀j,j<h.Z.length->MU K el h.Z j=0
theorem Gb{K:Ck}{el:Int}{h:AG}:Dv K el h=0↔XP K el h:=by
 unfold Dv;constructor
 . intro g;by_cases a1:C8 el h.Q=0
   case neg=>rw[my a1]at g;exact absurd g a1
   rw[mw (by rw[a1];simp)]at g;by_cases a2:CI (MV K h.Q) h.Q.length=0
   case neg=>rw[my a2]at g;exact absurd g a2
   rw[mw (by rw[a2];simp)]at g;cases a3:GG K h with
   | true=>rw[a3]at g;simp at g
   | false=>
   cases a4:Ir h with
   | true=>rw[a3,a4]at g;simp at g
   | false=>
   rw[a3,a4]at g;simp only[qt,if_false]at g;by_cases a5:16<h.Y.length
   case pos=>rw[my a5]at g;cases g
   rw[mw a5]at g;by_cases a6:CI (Ja K h.Y) h.Y.length=0
   case neg=>rw[my a6]at g;exact absurd g a6
   rw[mw (by rw[a6];simp)]at g;by_cases a7:64<h.Z.length
   case pos=>rw[my a7]at g;cases g
   rw[mw a7]at g;exact⟨a1,He.1 a2,a3,a4,by omega,He.1 a6,by omega,He.1 g⟩
 rintro⟨a1,a2,a3,a4,a5,a6,a7,a8⟩;rw[mw (by rw[a1];simp),mw (by rw[He.2 a2];simp),a3,a4,mw mr,mw mr,mw mq,mw (by rw[He.2 a6];simp),mw mq];exact He.2 a8
theorem NW{K:Ck}{l:List Di}{j:Nat}(a:j<l.length):Ja K l j=0↔l[j].rev∈K.m2/\(0<j->l[j-1].rev<l[j].rev)/\0<=l[j].move/\l[j].move<=1073741824:=by
 rw[Ja,qk a];dsimp only;by_cases a1:l[j].rev∈K.m2<;>by_cases a2:0<j<;>by_cases a3:0<=l[j].move/\l[j].move<=1073741824
 all_goals first
  | (by_cases a4:l[j].rev<=l[j-1].rev<;>simp[a1,a2,a3,List.getD,show j-1<l.length by omega,a4]<;>omega)
  | (simp[a1,a2,a3])
theorem XP.ok{K:Ck}{el:Int}{h:AG}(g:XP K el h):Nh K.m2 h where
 I:=by
  have:=g.I;by_cases a:h.I=0;exact .inl a;right;simpa[GG,a]using this
 dlen:=g.dlen
 Y x hx:=by obtain⟨j,b,rfl⟩:=vX hx;exact((NW b).1 (g.Y j b)).1
 llen:=g.llen
 Z x hx:=by
  obtain⟨j,b,rfl⟩:=vX hx;have:=g.Z j b;rw[MU,qk b]at this;dsimp only at this;by_cases a:h.Z[j].rev∈K.m2;exact a;simp[a]at this
 inc i hi h0:=((NW hi).1 (g.Y i hi)).2.1 h0
 mv:=by
  have:=g.mv;simp only[Ir,Bool.or_eq_false_iff,Bool.not_eq_false',decide_eq_true_eq]at this;exact this.1.1
 dmv x hx:=by obtain⟨j,b,rfl⟩:=vX hx;exact((NW b).1 (g.Y j b)).2.2.1
theorem Km{x:AB}(h:Hi x=0):W8 x:=by
 unfold Hi at h;cases a1:So x with
 | true=>rw[a1]at h;simp at h
 | false=>
 cases a2:Sp x with
 | true=>rw[a1,a2]at h;simp at h
 | false=>
 cases a3:Ci x.J with
 | false=>rw[a1,a2,a3]at h;simp at h
 | true=>
 simp only[Sp,Bool.or_eq_false_iff,Bool.and_eq_false_imp,decide_eq_true_eq,decide_eq_false_iff_not]at a2;exact⟨λk=>vb.1 (by have:=a2.1.2 k;omega),λk=>vb.1 (by have:=a2.2 k;omega),a3⟩
theorem XA{K:Ck}:∀(N:Nat)(e:Cw)(l:List AB),gN K N e l->dM K.m2 N l
 | 0,_,_,_=>trivial
 | N+1,e,l,h=>λx i=>by
  obtain⟨g1,_,_,_,_,g6,g7,g8⟩:=h x i;have a:=Km g1;refine⟨a,(Gb.1 g6).ok,?_,λk=>(g8 k).1,λr hr=>?_⟩;by_cases k:x.x=6;exact XA N _ _ (g7 k);rw[a.1 k];exact aK _ _;by_cases k:x.x=7;obtain⟨_,_,g⟩:=g8 k;obtain⟨b1,f,_,b⟩:=g r hr;exact⟨⟨(Gb.1 b1).ok,f⟩,λc d=>⟨(Gb.1 (b c d).1).ok,XA N _ _ (b c d).2⟩⟩;rw[a.2.1 k]at hr;cases hr
theorem Cy.ok{N:Nat}{d:AI}(g:Cy N d):bW N d where
 W:=XA N _ _ g.W
 ids i hi:=⟨(g.ids.1 i hi).1,(g.ids.1 i hi).2.1⟩
 nodup:=g.ids.2
 V:=g.V
 T0:=(Gb.1 g.endH).ok
 endI:=g.endI
def KO(T:Prop)(N:Nat)(d:AI)(v:SV):Prop:=∃b,v=.bool b/\(b=true->T/\LS N d.W/\MM N d.W<=150)
theorem mW(T:Prop)(d:AI){B N:Nat}(hB:B<=1048576)(hl:lim AG.l B N d.W)(hc:TC 26 [d.h] (Err T)):TC 34 [d.h] (KO T N d):=by
 intro h n;refine FF func34 rfl λho=>?_;have hHb:=ho.lt;have fin:∀(b:Bool)(c:A9)(m:Nat),(b=true->T/\LS N d.W/\MM N d.W<=150)->Ce n (h_ h (n+1) (some c)) m (.bool b) (λv h' n'=>KO T N d v/\h'=h/\n'=n):=λb c m hb=>Rb ho (AW (λj z e=>by have:=hHb j z e;omega) AC) (by simp[C_]) ⟨b,rfl,hb⟩;refine Bc 1 [(1,.q ([AH d.W]++d.T0.j++[BV d.V]++d.S.j))] h (λm=>n+1=m) ?_ (λm hm=>?_);simp[go_sem,AI.h,AG.j,AQ.j];exact⟨Ap (Ai hHb (IO _)) (AE _ _ _),AW hHb AC⟩;subst hm;refine Bc 0 [(1,.q ([AH d.W]++d.T0.j++[BV d.V]++d.S.j)),(3,.ptr (n+1) 0)] (h_ h (n+1) (some (.cells [AA 150]))) (λm=>n+2=m) ?_ (λm hm=>?_);simp[go_sem,Or,AE,Ad];subst hm;have hGb:∀j y,h_ h (n+1) (some (.cells [AA 150])) j=some y->j<n+2:=λj y e=>by
  simp only[h_]at e;split at e;omega;have:=hHb j y e;omega
 refine Bc 1 [(1,.q ([AH d.W]++d.T0.j++[BV d.V]++d.S.j)),(3,.ptr (n+1) 0),(4,.q d.S.j)] (h_ h (n+1) (some (.cells [AA 150]))) (λm=>n+2<=m) ?_ (λm hm=>?_);simp[go_sem,Or,AG.j,AQ.j,AE];exact⟨Ap (Ai hGb (IO _)) (AE _ _ _),AW hGb (AW hGb AC)⟩;refine AK ?_;have no:=λc m=>fin false c m mr;by_cases a1:(d.S.C.length:Int)<=30
 case neg=>simp[go_sem,AG.j,AQ.j,a1];exact no _ _
 by_cases a2:(d.S.A.length:Int)<=30
 case neg=>simp[go_sem,AG.j,AQ.j,a1,a2];exact no _ _
 by_cases a3:(d.S.L.length:Int)<=30
 case neg=>simp[go_sem,AG.j,AQ.j,a1,a2,a3];exact no _ _
 by_cases a4:(d.S.vars.length:Int)<=30
 case neg=>simp[go_sem,AG.j,AQ.j,a1,a2,a3,a4];exact no _ _
 by_cases a5:(d.V.length:Int)<=30
 case neg=>simp[go_sem,AG.j,AQ.j,a1,a2,a3,a4,a5];exact no _ _
 simp[go_sem,AG.j,AQ.j,a1,a2,a3,a4,a5];refine qM (cY hB N d.W hl 12 (n+1) 150 (h_ h (n+1) (some (.cells [AA 150]))) m (AE _ _ _)) ?_;rintro v H' n' ⟨b,c,rfl,rfl,rfl,hfew⟩;rw[Ad];cases b with
 | false=>simp[go_sem];exact no _ _
 | true=>
 simp[go_sem];refine TC.use (by simpa[AI.h,AG.j,AQ.j]using hc) ?_;rintro v ⟨e,rfl,hT⟩;simp[go_sem];obtain⟨f1,f2,f3⟩:=hfew rfl ⟨by omega,by omega⟩;exact fin _ _ _ λg=>⟨hT (by simpa using g),f3,by omega⟩
theorem be(d:AI){B N:Nat}(a:B<=1048576)(hd:d.sizedT B N):TC 26 [d.h] (bu (Cy N d)):=
 mX d a hd.W hd.T0 hd.S.A hd.S.L hd.V hd.authors (kq _ hd.S)
theorem iV(d:AI){B N:Nat}(a:B<=1048576)(hd:d.sizedT B N):TC 34 [d.h] (KO (Cy N d) N d):=
 mW _ d a hd.W ((be d a hd).mono λ_ ⟨e,h,g⟩=>⟨e,h,g.1⟩)
theorem Ss{x:AB}(h:Hi x=0)(k:x.x=8):1<=x.code/\x.code<=4:=by
 unfold Hi at h;by_cases c:So x=true;rw[my c]at h;exact absurd h (by decide);unfold So ZC at c;rw[k]at c;simp at c;exact c
theorem Kp{K:Ck}{el:Int}{h:AG}{R:List Int}(a:∀y,y∈K.m2↔y∈R)(g:Dv K el h=0):HR R h:=by
 have G:=Gb.1 g;have H:=G.ok;refine⟨λh0=>?_,λh0=>?_,λd hd=>(a _).1 (H.Y d hd),λd hd=>(a _).1 (H.Z d hd)⟩;rcases H.I with e|e;exact absurd e h0;exact(a _).1 e;have:=G.mv;unfold Ir at this;rw[h0]at this;simp at this;exact this.2
theorem LG{K:Ck}{R:List Int}(hR:∀y,y∈K.m2↔y∈R){hp:AG->Prop}{B:Nat}:∀{N:Nat} {pl:Cw} {l:List AB},lim hp B N l->gN K N pl l->wf (HR R) (λ_=>True) N l/\∀a∈AB.anL l,ZG a
 | 0,_,_,h,_=>h.elim
 | N + 1, pl, l, hl, hg => by
  obtain⟨_,_,h3⟩:=Ca.1 hl;have nil:∀{M:Nat} {l:List AB},lim hp B M l->l=[]->wf (HR R) (λ_=>True) M l:=fun {M l} h e=>by
   cases M with
   | zero=>exact h.elim
   | succ M=>rw[e];exact eo M
  have key:∀x∈l,en (HR R) (λ_=>True) N x/\∀a∈x.an,ZG a:=λx hx=>by
   obtain⟨a1,a2,a3,a4⟩:=h3 x hx;obtain⟨b1,b2,b3,b4,b5,b6,b7,b8⟩:=hg x hx;obtain⟨f1,f2,_⟩:=Km b1;have hfl:wf (HR R) (λ_=>True) N x.W/\∀a∈AB.anL x.W,ZG a:=by
    by_cases k:x.x=6;exact LG hR a2 (b7 k);refine⟨nil a2 (f1 k),λa ha=>?_⟩;rw[f1 k,AB.anL]at ha;cases ha
   have hrw:∀r∈x.R,(HR R r.H/\r.cells≠[]/\∀c∈r.cells,True/\HR R c.H/\wf (HR R) (λ_=>True) N c.W)/\∀c∈r.cells,∀a∈AB.anL c.W,ZG a:=λr hr=>by
    by_cases k:x.x=7;obtain⟨c1,c2,c3⟩:=b8 k;obtain⟨d1,d2,d3,d4⟩:=c3 r hr;obtain⟨e1,e2,e3⟩:=a4 r hr;exact⟨⟨Kp hR d1,d2,λc hc=>⟨trivial,Kp hR (d4 c hc).1,(LG hR (e3 c hc).2 (d4 c hc).2).1⟩⟩,λc hc=>(LG hR (e3 c hc).2 (d4 c hc).2).2⟩;rw[f2 k]at hr;cases hr
   refine⟨⟨Kp hR b6,f1,f2,λk=>(b8 k).1,λ_=>trivial,hfl.1,λr hr=>(hrw r hr).1⟩,λa ha=>?_⟩;rw[AB.an_eq]at ha;rcases qd.1 ha with g|g
   . split at g
     . next k=>
       rw[qw]at g;subst g;have:=Ss b1 k;have:=b5 k;exact⟨by dsimp only;omega,by dsimp only;omega,by dsimp only;omega⟩
     cases g
   rcases qd.1 g with g|g;exact hfl.2 a g;rw[AL.anL_eq,qE]at g;obtain⟨r,hr,g⟩:=g;rw[AL.an_eq,AF.anL_eq,qE]at g;obtain⟨c,hc,g⟩:=g;rw[AF.an_eq]at g;exact(hrw r hr).2 c hc a g
  refine⟨DG.2 λx hx=>(key x hx).1,λa ha=>?_⟩;rw[AB.anL_eq,qE]at ha;obtain⟨x,hx,g⟩:=ha;exact(key x hx).2 a g
section
variable{hp:AG->Prop}{T:Int->Prop}
theorem JA:∀{N:Nat} {l:List AB},wf hp T N l->∀a∈AB.anL (AY l),a∈AB.anL l
 | 0,_,h=>h.elim
 | N + 1, l, H => by
  have key:∀y∈AY l,∀a∈y.an,a∈AB.anL l:=by
   unfold AY EM;rw[wH];refine JG (p:=λy=>∀a∈y.an,a∈AB.anL l) (λx t h a b=>h a (by rw[AB.an_eq]at b ⊢;exact b)) _ _ (λy d=>by cases d) λy d a b=>?_;obtain⟨x,e,rfl⟩:=qa.1 d;obtain⟨_,_,_,_,_,f,w⟩:=DG.1 H x e;have hr:=Fw λr hr=>(w r hr).2.1;rw[wV,hr,AB.an_eq]at b;rw[AB.anL_eq,qE];refine⟨x,e,?_⟩;rw[AB.an_eq];rcases qd.1 b with g|g;exact qz _ g;refine qx _ ?_;rcases qd.1 g with g|g;exact qz _ (JA f a g);refine qx _ ?_;have g:a∈AL.anL (x.R.map AL.N):=g;rw[AL.anL_eq,qE]at g ⊢;obtain⟨r,hr,g⟩:=g;obtain⟨r0,h0,rfl⟩:=qa.1 hr;refine⟨r0,h0,?_⟩;rw[wZ,AL.an_eq]at g;rw[AL.an_eq];have g:a∈AF.anL (r0.cells.map AF.N):=g;rw[AF.anL_eq,qE]at g ⊢;obtain⟨c,i,g⟩:=g;obtain⟨c0,h1,rfl⟩:=qa.1 i;refine⟨c0,h1,?_⟩;rw[ua,AF.an_eq]at g;rw[AF.an_eq];exact JA ((w r0 h0).2.2 c0 h1).2.2 a g
  intro a b;rw[AB.anL_eq,qE]at b;obtain⟨y,d,g⟩:=b;exact key y d a g
theorem XO:∀{N:Nat} {l:List AB},wf hp T N l->∀h∈AB.hdL l,∀y∈h.all,y∈AB.U l
 | 0,_,h=>h.elim
 | N+1,l,H=>λh hh y i=>by
  rw[ub,qE]at hh;obtain⟨x,m,g⟩:=hh;obtain⟨a,b,c,d,e,f,w⟩:=DG.1 H x m;rw[Yx,qE];refine⟨x,m,?_⟩;have us:x.us=x.H.all++(if x.x=6 then AB.U x.W else if x.x=7 then AL.U x.R else[]):=by cases x;rw[AB.us];rfl
  rw[us];rw[uf]at g;rcases qe.1 g with g|g;rw[g]at i;exact qz _ i;refine qx _ ?_;rcases qd.1 g with g|g;have:=XO f h g y i;by_cases k:x.x=6;rw[my k];exact this;rw[b k,UJ]at g;cases g;by_cases k:x.x=7;rw[mw mq,my k];rw[AL.hdL_eq,qE]at g;obtain⟨r,hr,g⟩:=g;rw[Uz,qE];refine⟨r,hr,?_⟩;have o:r.us=r.H.all++AF.U r.cells:=by cases r;rw[AL.us];rfl
  rw[o];rw[ud]at g;rcases qe.1 g with g|g;rw[g]at i;exact qz _ i;refine qx _ ?_;rw[AF.hdL_eq,qE]at g;obtain⟨q,j,g⟩:=g;rw[Uy,qE];refine⟨q,j,?_⟩;have n:q.us=q.H.all++AB.U q.W:=by cases q;rw[AF.us];rfl
  rw[n];rw[ue]at g;rcases qe.1 g with g|g;rw[g]at i;exact qz _ i;exact qx _ (XO ((w r hr).2.2 q j).2.2 h g y i);rw[c k,Pp]at g;cases g
theorem Y4{a:AG->Prop}{N:Nat}{l:List AB}(H:wf hp T N l)(h:∀x∈AB.hdL l,a x):wf a T N l:=OL (λ_ g=>g.2) (λ_ g=>g) (QS H h)
end
structure GE(N:Nat)(d:AI):Prop where
 wf:∃T,wf (HR (A6 d)) T N d.W
 endi:d.T0.I=0
 endm:d.T0.move=0
 endd:d.T0.Y=[]
 endl:∀x∈d.T0.Z,x.rev∈A6 d
 revn:(A6 d).Nodup
 rev0:(0:Int)∉A6 d
 coms:GI [] d.S.C
 anch:∀a∈AB.anL d.W,ZG a
theorem GE.two{N:Nat}{d:AI}(H:GE N d):HW N d.normal.renum:=by
 obtain⟨T,hw⟩:=H.wf;have m:=JY hw;have o:=Y5 (T:=T) 0 m;have f:∀r∈d.V,r.id≠0:=λr hr g=>H.rev0 (by rw[<-g];exact qa.2 ⟨r,hr,rfl⟩);have e:∀y∈A6 d,y∈AB.U (AY d.W)++d.T0.all->y∈A6 d.normal.renum:=λy p k=>by
  obtain⟨r,hr,rfl⟩:=qa.1 p;exact qa.2 ⟨r,(Gx (f r hr)).2 ⟨hr,k⟩,rfl⟩
 have b:d.normal.renum.W=(Cu 0 (AY d.W)).1:=rfl;have c:d.normal.renum.V.Sublist d.V:=List.filter_sublist;refine { wf:=⟨λ_=>True,?_⟩,endi:=H.endi,endm:=H.endm,endd:=H.endd,endl:=λx i=>?_,revn:=?_,rev0:=λg=>?_,coms:=H.coms,anch:=λa s=>?_,nf:=?_,rn:=?_,used:=λr hr=>?_ };rw[b];refine Y4 o λh hh=>?_;have j:h∈AB.hdL (AY d.W):=by rw[N0]at hh;exact hh
 have l:=I8 m h j;have k:∀y∈h.all,y∈AB.U (AY d.W)++d.T0.all:=λy p=>qz _ (XO m h j y p);have q:=@HM h;exact⟨λh0=>e _ (l.I h0) (k _ (q.2 (.inl rfl))),l.move,λx i=>e _ (l.Y x i) (k _ (q.2 (.inr (.inl ⟨x,i,rfl⟩)))),λx i=>e _ (l.lays x i) (k _ (q.2 (.inr (.inr ⟨x,i,rfl⟩))))⟩;exact e _ (H.endl x i) (qx _ (HM.2 (.inr (.inr ⟨x,i,rfl⟩))));exact(c.map _).nodup H.revn;exact H.rev0 ((c.map _).subset g);rw[b,Nz]at s;exact H.anch a (JA hw a s);rw[b];exact TK 0 (KC hw);rw[b,QC];have n:r∈d.normal.V:=hr;have:=((Gx (f r (c.subset hr))).1 n).2;rw[b,QE];exact this
theorem GE.good{N B:Nat}{hp:AG->Prop}{d:AI}{l:Cw}(k:lim hp B N d.W)(hg:gN (Kd d) N l d.W)(j:Dv (Kd d) 3 d.T0 = 0)(h1:d.T0.I=0)(h2:d.T0.move=0)(f:d.T0.Y=[])(ht:mY d.V)(i:GI [] d.S.C):GE N d:=by
 have c:∀y,y∈(Kd d).m2↔y∈A6 d:=λy=>by rw[show(y∈(Kd d).m2)↔_ from Xg rfl,A6,qa]
 obtain⟨m,n⟩:=LG c k hg;have E:=Kp c j;refine⟨⟨_,m⟩,h1,h2,f,E.lays,?_,λg=>?_,i,n⟩;unfold A6 List.Nodup;rw[List.pairwise_map];exact ht.2.2.imp fun {a b} h=>by omega
 obtain⟨r,hr,e⟩:=qa.1 g;have:=ht.2.1 r hr;unfold Jm at this;rw[my mq]at this;exact absurd this (by decide)
def EE(n i:Int):Int:=if i=0 then 0 else i+n
def SR(n k _c i:Int):Int:=if k=6\/k=7\/k=8 then EE n i else i
abbrev PO(n:Int):AG->AG:=I7 (EE n) λ_ m=>m
def KR(n:Int)(d:AI):AI:=
 ⟨AB.gmL (PO n) (SR n) (λi=>i+n) d.W,PO n d.T0,d.V.map λr=>{ r with id:=EE n r.id },{ d.S with C:=d.S.C.map λc=>{ c with id:=EE n c.id,parent:=EE n c.parent } }⟩
theorem IM{n a b:Int}(hn:0<=n)(ha:0<=a)(hb:0<=b)(h:EE n a=EE n b):a=b:=by
 unfold EE at h;split at h<;>split at h<;>omega
mutual
theorem eW:∀(x:AB)(y:Int),y∈x.us->∃h∈x.hd,y∈h.all
 | .mk k c i t h f r,y,hy=>by
  rw[AB.us]at hy;rw[AB.hd];rcases qd.1 hy with g|g;exact⟨h,by simp,g⟩;split at g;obtain⟨z,a,e⟩:=QR f y g;exact⟨z,by simp[a],e⟩;split at g;obtain⟨z,a,e⟩:=Y1 r y g;exact⟨z,by simp[a],e⟩;cases g
theorem QR:∀(l:List AB)(y:Int),y∈AB.U l->∃h∈AB.hdL l,y∈h.all
 | [],y,hy=>by rw[AB.U]at hy;cases hy
 | x::l,y,hy=>by
  rw[AB.U]at hy;rw[AB.hdL];rcases qd.1 hy with g|g;obtain⟨z,a,e⟩:=eW x y g;exact⟨z,by simp[a],e⟩;obtain⟨z,a,e⟩:=QR l y g;exact⟨z,by simp[a],e⟩
theorem eX:∀(x:AL)(y:Int),y∈x.us->∃h∈x.hd,y∈h.all
 | .mk h c,y,hy=>by
  rw[AL.us]at hy;rw[AL.hd];rcases qd.1 hy with g|g;exact⟨h,by simp,g⟩;obtain⟨z,a,e⟩:=Y0 c y g;exact⟨z,by simp[a],e⟩
theorem Y1:∀(l:List AL)(y:Int),y∈AL.U l->∃h∈AL.hdL l,y∈h.all
 | [],y,hy=>by rw[AL.U]at hy;cases hy
 | x::l,y,hy=>by
  rw[AL.U]at hy;rw[AL.hdL];rcases qd.1 hy with g|g;obtain⟨z,a,e⟩:=eX x y g;exact⟨z,by simp[a],e⟩;obtain⟨z,a,e⟩:=Y1 l y g;exact⟨z,by simp[a],e⟩
theorem eV:∀(x:AF)(y:Int),y∈x.us->∃h∈x.hd,y∈h.all
 | .mk i h f,y,hy=>by
  rw[AF.us]at hy;rw[AF.hd];rcases qd.1 hy with g|g;exact⟨h,by simp,g⟩;obtain⟨z,a,e⟩:=QR f y g;exact⟨z,by simp[a],e⟩
theorem Y0:∀(l:List AF)(y:Int),y∈AF.U l->∃h∈AF.hdL l,y∈h.all
 | [],y,hy=>by rw[AF.U]at hy;cases hy
 | x::l,y,hy=>by
  rw[AF.U]at hy;rw[AF.hdL];rcases qd.1 hy with g|g;obtain⟨z,a,e⟩:=eV x y g;exact⟨z,by simp[a],e⟩;obtain⟨z,a,e⟩:=Y0 l y g;exact⟨z,by simp[a],e⟩
end
theorem HR.all{R:List Int}{h:AG}(H:HR R h){y:Int}(a:y∈h.all):y=0\/y∈R:=by
 rcases HM.1 a with e|⟨d,hd,e⟩|⟨d,hd,e⟩
 by_cases h0:h.I=0;exact .inl (by rw[e,h0]);exact .inr (by rw[e];exact H.I h0);exact .inr (by rw[<-e];exact H.Y d hd);exact .inr (by rw[<-e];exact H.lays d hd)
theorem iK(n:Int):p6 (SR n)=U7 λa=>EE n a.2:=by
 funext k c i;unfold p6 U7 SR;by_cases h:k=6\/k=7;rw[my h,mw mq];rw[mw h];by_cases b:k=8;rw[my (.inr (.inr b)),my b];rw[mw mq,mw b]
structure jg(d:AI):Prop where
 rev:∀r∈A6 d,1<=r
 com:∀c∈Ee d,1<=c
 anc:∀a∈AB.anL d.W,1<=a.2
section
variable{n:Int}{N:Nat}{d:AI}
theorem Vu(q:0<=n)(H:GE N d)(P:jg d):(KR n d).normal.renum=MN (EE n) (λ_ m=>m) (λa=>EE n a.2) (EE n) d.normal.renum:=by
 obtain⟨T,hw⟩:=H.wf;have l:∀y,(y=0\/y∈A6 d)->0<=y:=λy c=>by
  rcases c with g|g;omega;have:=P.rev y g;omega
 have u:∀a b,HR (A6 d) a->HR (A6 d) b->PO n a=PO n b->a=b:=λa b s hb h=>by
  have z:∀x:AG,HR (A6 d) x->0<=x.I:=λx f=>l _ (f.all (HM.2 (.inl rfl)));obtain⟨p1,M,m1,B,Q⟩:=a;obtain⟨p2,O,m2,C,R⟩:=b;simp only[I7,AG.mk.injEq]at h;obtain⟨F,G,J,K,L⟩:=h;have X:M=O:=IM q (z _ s) (z _ hb) G;have Z:B=C:=Gw (λx f y c g=>by
   obtain⟨v,n1⟩:=x;obtain⟨w,S⟩:=y;simp only[Di.mk.injEq]at g;have A:v=w:=IM q (l _ (.inr (s.Y _ f))) (l _ (.inr (hb.Y _ c))) g.1;rw[A,g.2]) K
  have q5:Q=R:=Gw (λx f y c g=>by
   obtain⟨v,n1,b1,c1⟩:=x;obtain⟨w,S,b2,c2⟩:=y;simp only[A3.mk.injEq]at g;have A:v=w:=IM q (l _ (.inr (s.lays _ f))) (l _ (.inr (hb.lays _ c))) g.1;rw[A,g.2.1,g.2.2.1,g.2.2.2]) L
  subst F X J Z q5;rfl
 have o:AY (KR n d).W=AB.gmL (PO n) (SR n) (λi=>i+n) (AY d.W):=Lc u hw;have p:=JY hw;have t:AB.U (AY (KR n d).W)=(AB.U (AY d.W)).map (EE n):=by rw[o];exact OJ (MZ _ _) _
 have hend:(KR n d).T0.all=d.T0.all.map (EE n):=MZ _ _ _;have E:HR (A6 d) d.T0:=⟨λg=>absurd H.endi g,λ_=>H.endm,λx f=>(by rw[H.endd]at f;cases f),H.endl⟩
 have pos:∀y∈AB.U (AY d.W)++d.T0.all,0<=y:=λy c=>by
  rcases qd.1 c with g|g;obtain⟨h,hh,g⟩:=QR _ _ g;exact l _ ((I8 p h hh).all g);exact l _ (E.all g)
 have j:∀r∈d.V,1<=r.id:=λr hr=>P.rev _ (qa.2 ⟨r,hr,rfl⟩);have k:(KR n d).normal.V=d.normal.V.map λr=>{ r with id:=EE n r.id }:=by
  show(d.V.map _).filter _=(d.V.filter _).map _;rw[List.filter_map];congr 1;refine List.filter_congr λr hr=>?_;have h1:=j r hr;have a1:r∈d.normal.V↔_:=Gx mq;have up0:EE n r.id≠0:=by unfold EE;rw[mw mq];omega
  have a2:({ r with id:=EE n r.id }:By)∈(KR n d).normal.V↔_:=Gx (D:=KR n d) (r:={ r with id:=EE n r.id }) up0;have m1:r∈d.normal.V↔(BY (IE (Et d.norm1) r.id) (Et d.norm1).length).2=true:=by
   show r∈d.V.filter _↔_;rw[qW];exact and_iff_right hr
  have m2:({ r with id:=EE n r.id }:By)∈(KR n d).normal.V↔(BY (IE (Et (KR n d).norm1) (EE n r.id)) (Et (KR n d).norm1).length).2=true:=by
   show _∈(KR n d).V.filter _↔_;rw[qW];exact and_iff_right (qa.2 ⟨r,hr,rfl⟩)
  have key:({ r with id:=EE n r.id }:By)∈(KR n d).normal.V↔r∈d.normal.V:=by
   rw[a1,a2];have:({ r with id:=EE n r.id }:By)∈(KR n d).V:=qa.2 ⟨r,hr,rfl⟩;simp only[this,hr,true_and];rw[t,hend,<-qc];constructor;intro g;obtain⟨y,c,e⟩:=qa.1 g;rw[<-IM q (pos y c) mq e];exact c;exact λg=>qa.2 ⟨_,g,rfl⟩
  rw[Bool.eq_iff_iff];exact m2.symm.trans (key.trans m1)
 refine Sk ?_ rfl k rfl;show(Cu 0 (AY (KR n d).W)).1=AB.miL (PO n) (λa=>EE n a.2) (Cu 0 (AY d.W)).1;rw[o,Um N _ p,iK,KB]
theorem WV(j:0<=n)(H:GE N d)(P:jg d):Jh N (KR n d)=Jh N d:=by
 have k:=H.two;obtain⟨T,hw⟩:=H.wf;have i:d.normal.renum.V.Sublist d.V:=List.filter_sublist;have l:∀r∈A6 d.normal.renum,1<=r:=λr hr=>P.rev r ((i.map _).subset hr);have f:∀a∈AB.anL d.normal.renum.W,1<=a.2:=λa c=>by
  have c:a∈AB.anL (Cu 0 (AY d.W)).1:=c;rw[Nz]at c;exact P.anc a (JA hw a c)
 have K:SU (EE n) (λ_ m=>m) (λa=>EE n a.2) (EE n) (EE n) d.normal.renum:=by
  refine { u0:=rfl,ui:=λa c b hb h=>?_,v0:=λ_=>rfl,vn:=λ_ _ _ h=>h,vm:=λ_ _ _ _ _ _ _ h=>h,fe:=λa _=>by split<;>rfl,wbi:=λa c _ b hb _ h=>?_,wc0:=rfl,wci:=λx y p q h=>?_ };have:=l a c;refine IM j mq ?_ h;rcases hb with g|g;have:=l b g;omega;omega;have:=f a c;have:=f b hb;exact IM j mq mq h;refine IM j ?_ ?_ h;rcases p with g|⟨a,c,_,rfl⟩
  have:=P.com x g;omega;have:=f a c;omega;rcases q with g|g|⟨a,c,_,rfl⟩
  have:=P.com y g;omega;omega;have:=f a c;omega
 have o:∀a∈AB.anL d.normal.renum.W,(λa:Int×Int=>EE n a.2) a≠0:=λa c=>by
  have:=f a c;show EE n a.2≠0;unfold EE;rw[mw mq];omega
 have e:=Vu j H P;rw[(NN k).1,(NN (d:=KR n d) (by rw[e];exact bp k K o)).1,e,cZ k.toHc K]
end
inductive SM where
 | nil
 | pure (i:Nat) (t:SM)
 | one (i:Nat) (t:SM)
 | two (i j:Nat) (t u:SM)
 | three (i j k:Nat) (t u v:SM)
 | four (i j k l:Nat) (t u v x:SM)
def FB(ops:Array Oper):Array Bool->SM->Bool
 | listed,.nil=>(Region.ready .any ops listed).isEmpty
 | listed,.pure i t=>Region.free .any ops listed i&&(Region.ready .any ops listed).contains i&&FB ops (listed.setIfInBounds i true) t
 | listed,.one i t=>Region.ready .any ops listed==[i]&&FB ops (listed.setIfInBounds i true) t
 | listed,.two i j t u=>Region.ready .any ops listed==[i,j]&&FB ops (listed.setIfInBounds i true) t&&FB ops (listed.setIfInBounds j true) u
 | listed,.three i j k t u v=>Region.ready .any ops listed==[i,j,k]&&FB ops (listed.setIfInBounds i true) t&&FB ops (listed.setIfInBounds j true) u&&FB ops (listed.setIfInBounds k true) v
 | listed,.four i j k l t u v x=>Region.ready .any ops listed==[i,j,k,l]&&FB ops (listed.setIfInBounds i true) t&&FB ops (listed.setIfInBounds j true) u&&FB ops (listed.setIfInBounds k true) v&&FB ops (listed.setIfInBounds l true) x
section
variable(E:BZ)(P:Program)(ops:Array Oper)(K:SA->Hp->Nat->Prop)
def FQ:Bool->SM->SA->Hp->Nat->Prop
 | _,.nil,sa,h,n=>K sa h n
 | st,.pure i t,sa,h,n=>match ops[i]? with|some o=>K5 P ops st o sa λsa'=>FQ st t sa' h n|none=>False
 | _,.one i t,sa,h,n=>match ops[i]? with|some o=>Df E P ops o sa h n (FQ false t)|none=>False
 | _,.two i j t u,sa,h,n=>match ops[i]?,ops[j]? with|some o,some q=>Df E P ops o sa h n (FQ false t)/\Df E P ops q sa h n (FQ false u)|_,_=>False
 | _,.three i j k t u v,sa,h,n=>match ops[i]?,ops[j]?,ops[k]? with|some o,some q,some r=>Df E P ops o sa h n (FQ false t)/\Df E P ops q sa h n (FQ false u)/\Df E P ops r sa h n (FQ false v)|_,_,_=>False
 | _,.four i j k l t u v x,sa,h,n=>match ops[i]?,ops[j]?,ops[k]?,ops[l]? with|some o,some q,some r,some s=>Df E P ops o sa h n (FQ false t)/\Df E P ops q sa h n (FQ false u)/\Df E P ops r sa h n (FQ false v)/\Df E P ops s sa h n (FQ false x)|_,_,_,_=>False
end
section
variable{E:BZ}{P:Program}{N:Nat}{ops:Array Oper}{K:SA->Hp->Nat->Prop}
theorem Vs(hro:E.ro=none)(hdst:∀(i:Nat)(o:Oper),ops[i]? = some o->∀d,o.dst=some d->d<N)(hsel:∀(j:Nat)(o:Oper) cs b,ops[j]? = some o->o.op≠.select cs b){n0:Nat}{c0 c1:Cx}:
 ∀(t:SM)(st:Bool)(listed:Array Bool)(fuel:Nat)(sa:SA)(h:Hp)(n:Nat)(c:Cx)(a:Act),listed.size=ops.size->MO listed=fuel->FB ops listed t=true->FQ E P ops K st t sa h n->
  E.inv c->CB h c->Fr n c->FR E N sa c a->Fo n0 c0 n c->DV c1 c->(st=true->c=c1)->
  KU E.fc 0 P .any ops (OY E N n0 c0 K) (λw=>∃c',c'.w=w/\DV c1 c') fuel listed a c.w:=by
 have hfr:E.fc.round=none:=hro;intro t
 induction t with
 | nil=>
  intro st listed fuel sa h n c a _ _ hok H I R F A X _ _;have hr:Region.ready .any ops listed=[]:=by simpa[FB]using hok
  have hq:OY E N n0 c0 K .normal a c.w:=⟨rfl,sa,h,n,c,H,rfl,R,F,A,X⟩
  cases fuel with
  | zero=>exact⟨hr,hq⟩
  | succ fuel=>exact⟨λ_=>hq,by rw[hr];simp⟩
 | pure i t ih=>
  intro st listed fuel sa h n c a hs hu hok H I R F A X X1 hst;simp only[FB,qg]at hok;obtain⟨⟨hfree,hr⟩,hok⟩:=hok;simp only[FQ]at H;split at H
  case h_2=>exact H.elim
  rename_i o ho;have hmem:i∈Region.ready .any ops listed:=by simpa using hr
  obtain⟨hun,_,_,_⟩:=mem_ready.1 hmem;have hlt:=(qh.1 ho).1;have hF:listed.getD i false=false:=by rw[C5 mq]at hun ⊢;exact hun
  have hu2:=Ds mq hF;obtain⟨fuel,rfl⟩:∃f,fuel=f+1:=⟨fuel-1,by omega⟩
  unfold K5 at H;split at H
  case h_2=>exact H.elim
  rename_i b hg;have hw:=Ga A hg;cases b;simp only[qt,if_false]at H;refine Ec (v:=undef) hfr ho hsel (λ_ _ _ e=>by cases e.1) fuel listed a c.w (Region.free_spec ho hfree) hmem ⟨.inr ⟨hw,rfl⟩,λw=>J9 H.1 w⟩ ⟨c,rfl,X1⟩ (ih st _ fuel _ h n c _ (by simp[hs]) mq hok H.2 I R F (A.put (hdst i o ho) Hz) X X1 hst)
  . simp only[if_true]at H;split at H
    case h_2=>exact H.elim
    rename_i v hv;obtain⟨u,hvu,hrun⟩:=Nx (c:=c) (W:=λw=>∃c',c'.w=w/\DV c1 c') hv (λx _=>A.ev x) (λe w hw=>by rw[hst e];exact hw);refine Ec (v:=u) hfr ho hsel (λ_ _ _ e=>by cases e.1) fuel listed a c.w (Region.free_spec ho hfree) hmem ⟨.inl ⟨hw,hrun⟩,λw=>KF hv w⟩ ⟨c,rfl,X1⟩
     (ih st _ fuel _ h n c _ (by simp[hs]) mq hok H I R F (A.put (hdst i o ho) hvu) X X1 hst)
 | one i t ih=>
  intro st listed fuel sa h n c a hs hu hok H I R F A X X1 hst;simp only[FB,qg,beq_iff_eq]at hok;obtain⟨hr,hok⟩:=hok;simp only[FQ]at H;split at H
  case h_2=>exact H.elim
  rename_i o ho;have hmem:i∈Region.ready .any ops listed:=by rw[hr];simp
  obtain⟨hun,_,_,_⟩:=mem_ready.1 hmem;have hlt:=(qh.1 ho).1;have hF:listed.getD i false=false:=by rw[C5 mq]at hun ⊢;exact hun
  have hu2:=Ds mq hF;obtain⟨fuel,rfl⟩:∃f,fuel=f+1:=⟨fuel-1,by omega⟩
  refine⟨λe=>(by rw[e]at hr;cases hr),λj hj=>?_⟩;rw[hr]at hj;obtain rfl:=qw.1 hj;exact BT ho (hdst j o ho) H I R F A λsa' h' n' c' a' hT R' F' A' X'=>⟨⟨c',rfl,X1.trans X'.ext⟩,ih false _ fuel _ h' n' c' a' (by simp[hs]) mq hok hT (E.ext X'.ext I) R' F' A' (X.trans X') (X1.trans X'.ext) mr⟩
 | two i j t u iht ihu =>
  intro st listed fuel sa h n c a hs hu hok H I R F A X X1 hst;simp only[FB,qg,beq_iff_eq]at hok;obtain⟨⟨hr,hok1⟩,hok2⟩:=hok;simp only[FQ]at H;split at H
  case h_2=>exact H.elim
  rename_i o q ho hq;have hun:∀k,k∈Region.ready .any ops listed->MO (listed.setIfInBounds k true)+1=MO listed:=λk hk=>by
   obtain⟨hun,o',ho',_⟩:=mem_ready.1 hk;have hlt:=(qh.1 ho').1;have hF:listed.getD k false=false:=by rw[C5 mq]at hun ⊢;exact hun
   exact Ds mq hF
  have hui:=hun i (by rw[hr];simp);have huj:=hun j (by rw[hr];simp);obtain⟨fuel,rfl⟩:∃f,fuel=f+1:=⟨fuel-1,by omega⟩
  refine⟨λe=>(by rw[e]at hr;cases hr),λk hk=>?_⟩;rw[hr]at hk;rcases qe.1 hk with rfl|hk;exact BT ho (hdst _ o ho) H.1 I R F A λsa' h' n' c' a' hT R' F' A' X'=>⟨⟨c',rfl,X1.trans X'.ext⟩,iht false _ fuel _ h' n' c' a' (by simp[hs]) mq hok1 hT (E.ext X'.ext I) R' F' A' (X.trans X') (X1.trans X'.ext) mr⟩
  obtain rfl:=qw.1 hk;exact BT hq (hdst _ q hq) H.2 I R F A λsa' h' n' c' a' hT R' F' A' X'=>⟨⟨c',rfl,X1.trans X'.ext⟩,ihu false _ fuel _ h' n' c' a' (by simp[hs]) mq hok2 hT (E.ext X'.ext I) R' F' A' (X.trans X') (X1.trans X'.ext) mr⟩
 | three i j k t u v iht ihu ihv =>
  intro st listed fuel sa h n c a hs hu hok H I R F A X X1 hst;simp only[FB,qg,beq_iff_eq]at hok;obtain⟨⟨⟨hr,hok1⟩,hok2⟩,hok3⟩:=hok;simp only[FQ]at H;split at H
  case h_2=>exact H.elim
  rename_i o q r ho hq hr3;have hun:∀k,k∈Region.ready .any ops listed->MO (listed.setIfInBounds k true)+1=MO listed:=λk hk=>by
   obtain⟨hun,o',ho',_⟩:=mem_ready.1 hk;have hlt:=(qh.1 ho').1;have hF:listed.getD k false=false:=by rw[C5 mq]at hun ⊢;exact hun
   exact Ds mq hF
  have hui:=hun i (by rw[hr];simp);have huj:=hun j (by rw[hr];simp);have huk:=hun k (by rw[hr];simp);obtain⟨fuel,rfl⟩:∃f,fuel=f+1:=⟨fuel-1,by omega⟩
  refine⟨λe=>(by rw[e]at hr;cases hr),λk' hk=>?_⟩;rw[hr]at hk;rcases qe.1 hk with rfl|hk;exact BT ho (hdst _ o ho) H.1 I R F A λsa' h' n' c' a' hT R' F' A' X'=>⟨⟨c',rfl,X1.trans X'.ext⟩,iht false _ fuel _ h' n' c' a' (by simp[hs]) mq hok1 hT (E.ext X'.ext I) R' F' A' (X.trans X') (X1.trans X'.ext) mr⟩
  rcases qe.1 hk with rfl|hk;exact BT hq (hdst _ q hq) H.2.1 I R F A λsa' h' n' c' a' hT R' F' A' X'=>⟨⟨c',rfl,X1.trans X'.ext⟩,ihu false _ fuel _ h' n' c' a' (by simp[hs]) mq hok2 hT (E.ext X'.ext I) R' F' A' (X.trans X') (X1.trans X'.ext) mr⟩
  obtain rfl:=qw.1 hk;exact BT hr3 (hdst _ r hr3) H.2.2 I R F A λsa' h' n' c' a' hT R' F' A' X'=>⟨⟨c',rfl,X1.trans X'.ext⟩,ihv false _ fuel _ h' n' c' a' (by simp[hs]) mq hok3 hT (E.ext X'.ext I) R' F' A' (X.trans X') (X1.trans X'.ext) mr⟩
 | four i j k l t u v x iht ihu ihv ihx =>
  intro st listed fuel sa h n c a hs hu hok H I R F A X X1 hst;simp only[FB,qg,beq_iff_eq]at hok;obtain⟨⟨⟨⟨hr,hok1⟩,hok2⟩,hok3⟩,hok4⟩:=hok;simp only[FQ]at H;split at H
  case h_2=>exact H.elim
  rename_i o q r s ho hq hr3 hr4;have hun:∀k,k∈Region.ready .any ops listed->MO (listed.setIfInBounds k true)+1=MO listed:=λk hk=>by
   obtain⟨hun,o',ho',_⟩:=mem_ready.1 hk;have hlt:=(qh.1 ho').1;have hF:listed.getD k false=false:=by rw[C5 mq]at hun ⊢;exact hun
   exact Ds mq hF
  have hui:=hun i (by rw[hr];simp);have huj:=hun j (by rw[hr];simp);have huk:=hun k (by rw[hr];simp);have hul:=hun l (by rw[hr];simp);obtain⟨fuel,rfl⟩:∃f,fuel=f+1:=⟨fuel-1,by omega⟩
  refine⟨λe=>(by rw[e]at hr;cases hr),λk' hk=>?_⟩;rw[hr]at hk;rcases qe.1 hk with rfl|hk;exact BT ho (hdst _ o ho) H.1 I R F A λsa' h' n' c' a' hT R' F' A' X'=>⟨⟨c',rfl,X1.trans X'.ext⟩,iht false _ fuel _ h' n' c' a' (by simp[hs]) mq hok1 hT (E.ext X'.ext I) R' F' A' (X.trans X') (X1.trans X'.ext) mr⟩
  rcases qe.1 hk with rfl|hk;exact BT hq (hdst _ q hq) H.2.1 I R F A λsa' h' n' c' a' hT R' F' A' X'=>⟨⟨c',rfl,X1.trans X'.ext⟩,ihu false _ fuel _ h' n' c' a' (by simp[hs]) mq hok2 hT (E.ext X'.ext I) R' F' A' (X.trans X') (X1.trans X'.ext) mr⟩
  rcases qe.1 hk with rfl|hk;exact BT hr3 (hdst _ r hr3) H.2.2.1 I R F A λsa' h' n' c' a' hT R' F' A' X'=>⟨⟨c',rfl,X1.trans X'.ext⟩,ihv false _ fuel _ h' n' c' a' (by simp[hs]) mq hok3 hT (E.ext X'.ext I) R' F' A' (X.trans X') (X1.trans X'.ext) mr⟩
  obtain rfl:=qw.1 hk;exact BT hr4 (hdst _ s hr4) H.2.2.2 I R F A λsa' h' n' c' a' hT R' F' A' X'=>⟨⟨c',rfl,X1.trans X'.ext⟩,ihx false _ fuel _ h' n' c' a' (by simp[hs]) mq hok4 hT (E.ext X'.ext I) R' F' A' (X.trans X') (X1.trans X'.ext) mr⟩
theorem ZR(k:E.ro=none)(hm:P.follows .mixedOrders=true)(t:SM){id:Nat}{Q:CT}{sa:SA}{h:Hp}{n:Nat}(v:Region.noSelect ops=true)(g:FB ops (Array.replicate ops.size false) t=true)
 (H:FQ E P ops (Q .normal) true t sa h n):GU E P N (.region id ops true) Q sa h n:=by
 intro hd c a I R F A;simp only[Code.dok,qG]at hd;have f:∀(i:Nat)(o:Oper),ops[i]? = some o->∀d,o.dst=some d->d<N:=λi o u d e=>by
  have:=hd o (by simpa using Array.mem_of_getElem? u);rw[e]at this;simpa using this
 have:=Vs (E:=E) (P:=P) (N:=N) (K:=Q .normal) (n0:=n) (c0:=c) (c1:=c.drew) k f (Region.noSelect_spec v) t true (Array.replicate ops.size false) ops.size sa h n c.drew a mr (by simp[MO]) g H
  (E.ext c.zc I) R.drew (λj s=>F j s) (A.ext c.zc) ⟨c.zc,IO _,λ_ _=>rfl⟩ (wT _) (λ_=>rfl)
 refine wpIn_mono (wpIn_region_any hm (GS (S:=λw=>∃b,b.w=w/\DV c.drew b) _ _ _ _ this)) ?_;rintro e a' w' ⟨rfl,l,h',n',b,h1,h2,m,p,q,r⟩;exact⟨l,h',n',b,h1,h2,m,p,q,r⟩
end
noncomputable def LH:(E:BZ)->(P:Program)->(ops:Array Oper)->(K:SA->Hp->Nat->Prop)->Bool->SM->SA->Hp->Nat->Prop:=Classical.choose (BW FQ)
theorem GT:LH=FQ:=vg (BW FQ)
noncomputable def Z2:(E:BZ)->(P:Program)->(ops:Array Oper)->(K:SA->Hp->Nat->Prop)->SM->SA->Option Tmp->SV->Hp->Nat->Prop:=
 Classical.choose (BW λE P ops K t sa dst v h n=>LH E P ops K false t (C1 sa dst v) h n)
section
variable(E:BZ)(P:Program)(ops:Array Oper)(K:SA->Hp->Nat->Prop)(st:Bool)(t u:SM)(sa:SA)(h:Hp)(n i j:Nat)
@[go_sem] theorem Z4(dst:Option Tmp)(w:SV):Z2 E P ops K t sa dst w h n=LH E P ops K false t (C1 sa dst w) h n:=by
 unfold Z2;rw[vg (BW λE P ops K t sa dst v h n=>LH E P ops K false t (C1 sa dst v) h n)]
theorem XV(o:Oper):Z2 E P ops K t sa o.dst=λv h' n'=>FQ E P ops K false t (C1 sa o.dst v) h' n':=by
 funext v h' n';rw[Z4,GT]
@[go_sem] theorem i8:LH E P ops K st .nil sa h n=K sa h n:=by rw[GT];simp only[FQ]
@[go_sem] theorem fT:LH E P ops K st (.pure i t) sa h n=match ops[i]? with
 | some o=>(match Cz ops sa o with
  | some b=>if b=true then(match IR P st (EV sa) o.op with|some v=>LH E P ops K st t (C1 sa o.dst v) h n|none=>False)else Gy o.op=true/\LH E P ops K st t (C1 sa o.dst (.tup [])) h n
  | none=>False)
 | none=>False:=by
 rw[GT];simp only[FQ,K5]
 all_goals
  cases ops[i]? with
  | none=>rfl
  | some o =>
   simp only;cases Cz ops sa o with
   | none=>rfl
   | some b=>cases b with
    | false=>rfl
    | true=>simp only[if_true];cases IR P st (EV sa) o.op<;>rfl
def Fk(o:Oper):Prop:=
 match Cz ops sa o with
 | some b=>if b=true then Fa E P o sa h n (Z2 E P ops K t sa o.dst)else LH E P ops K false t (C1 sa o.dst (.tup [])) h n
 | none=>False
theorem JT(o:Oper):Fk E P ops K t sa h n o=Df E P ops o sa h n (FQ E P ops K false t):=by
 unfold Fk Df;rw[XV,GT]
 all_goals
  cases Cz ops sa o with
  | none=>rfl
  | some b=>cases b<;>rfl
@[go_sem] theorem jB:LH E P ops K st (.one i t) sa h n=match ops[i]? with|some o=>Fk E P ops K t sa h n o|none=>False:=by
 rw[GT];simp only[FQ,JT]<;>cases ops[i]? <;> rfl
@[go_sem] theorem jE:LH E P ops K st (.two i j t u) sa h n=match ops[i]?,ops[j]? with|some o,some q=>Fk E P ops K t sa h n o/\Fk E P ops K u sa h n q|_,_=>False:=by
 rw[GT];simp only[FQ,JT]<;>cases ops[i]? <;> cases ops[j]? <;> rfl
variable(v:SM)(k:Nat)
@[go_sem] theorem eu:LH E P ops K st (.three i j k t u v) sa h n=match ops[i]?,ops[j]?,ops[k]? with|some o,some q,some r=>Fk E P ops K t sa h n o/\Fk E P ops K u sa h n q/\Fk E P ops K v sa h n r|_,_,_=>False:=by
 rw[GT];simp only[FQ,JT]<;>cases ops[i]? <;> cases ops[j]? <;> cases ops[k]? <;> rfl
variable(x:SM)(l:Nat)
@[go_sem] theorem fR:LH E P ops K st (.four i j k l t u v x) sa h n=match ops[i]?,ops[j]?,ops[k]?,ops[l]? with|some o,some q,some r,some s=>Fk E P ops K t sa h n o/\Fk E P ops K u sa h n q/\Fk E P ops K v sa h n r/\Fk E P ops K x sa h n s|_,_,_,_=>False:=by
 rw[GT];simp only[FQ,JT]<;>cases ops[i]? <;> cases ops[j]? <;> cases ops[k]? <;> cases ops[l]? <;> rfl
end
attribute [go_sem] Fk
theorem b9{E:BZ}{N id:Nat}{a:Array Oper}{Q:CT}{sa:SA}{h:Hp}{n:Nat}(t:SM)(c:E.ro=none)(d:Region.noSelect a=true)(b:FB a (Array.replicate a.size false) t=true)
 (H:LH E prog a (Q .normal) true t sa h n):SP E N (.region id a true) Q sa h n:=
 ZR c follows t d b (by rw[<-GT];exact H)
def bg:Qi:=(.pure 0 (.pure 2 (.pure 3 (.pure 4 (.pure 6 (.pure 7 (.pure 8 (.three 1 5 9 (.two 5 9 (.one 9 (.one 10 (.one 11 (.pure 12 (.pure 13 (.one 14 .nil)))))) (.one 5 (.one 10 (.one 11 (.pure 12 (.pure 13 (.one 14 .nil))))))) (.two 1 9 (.one 9 (.one 10 (.one 11 (.pure 12 (.pure 13 (.one 14 .nil)))))) (.two 1 10 (.one 10 (.one 11 (.pure 12 (.pure 13 (.one 14 .nil))))) (.one 1 (.one 11 (.pure 12 (.pure 13 (.one 14 .nil))))))) (.two 1 5 (.one 5 (.one 10 (.one 11 (.pure 12 (.pure 13 (.one 14 .nil)))))) (.two 1 10 (.one 10 (.one 11 (.pure 12 (.pure 13 (.one 14 .nil))))) (.one 1 (.one 11 (.pure 12 (.pure 13 (.one 14 .nil)))))))))))))))
def Yl:Qi:=(.pure 0 (.pure 2 (.pure 3 (.pure 4 (.two 1 5 (.one 5 (.one 6 (.pure 7 (.pure 8 (.one 9 .nil))))) (.one 1 (.one 6 (.pure 7 (.pure 8 (.one 9 .nil))))))))))
def Ym:SM:=(.pure 0 (.pure 1 (.pure 2 (.pure 4 (.pure 6 (.pure 7 (.pure 10 (.pure 11 (.pure 12 (.pure 13 (.four 3 5 9 14 (.three 5 9 14 (.three 8 9 14 (.two 9 14 (.one 14 (.one 15 (.one 16 (.one 17 (.one 18 .nil))))) (.one 9 (.one 15 (.one 16 (.one 17 (.one 18 .nil)))))) (.two 8 14 (.one 14 (.one 15 (.one 16 (.one 17 (.one 18 .nil))))) (.two 8 15 (.one 15 (.one 16 (.one 17 (.one 18 .nil)))) (.one 8 (.one 16 (.one 17 (.one 18 .nil)))))) (.two 8 9 (.one 9 (.one 15 (.one 16 (.one 17 (.one 18 .nil))))) (.two 8 15 (.one 15 (.one 16 (.one 17 (.one 18 .nil)))) (.one 8 (.one 16 (.one 17 (.one 18 .nil))))))) (.two 5 14 (.two 8 14 (.one 14 (.one 15 (.one 16 (.one 17 (.one 18 .nil))))) (.two 8 15 (.one 15 (.one 16 (.one 17 (.one 18 .nil)))) (.one 8 (.one 16 (.one 17 (.one 18 .nil)))))) (.two 5 15 (.two 8 15 (.one 15 (.one 16 (.one 17 (.one 18 .nil)))) (.one 8 (.one 16 (.one 17 (.one 18 .nil))))) (.one 5 (.one 8 (.one 16 (.one 17 (.one 18 .nil))))))) (.two 5 9 (.two 8 9 (.one 9 (.one 15 (.one 16 (.one 17 (.one 18 .nil))))) (.two 8 15 (.one 15 (.one 16 (.one 17 (.one 18 .nil)))) (.one 8 (.one 16 (.one 17 (.one 18 .nil)))))) (.two 5 15 (.two 8 15 (.one 15 (.one 16 (.one 17 (.one 18 .nil)))) (.one 8 (.one 16 (.one 17 (.one 18 .nil))))) (.one 5 (.one 8 (.one 16 (.one 17 (.one 18 .nil)))))))) (.four 3 8 9 14 (.three 8 9 14 (.two 9 14 (.one 14 (.one 15 (.one 16 (.one 17 (.one 18 .nil))))) (.one 9 (.one 15 (.one 16 (.one 17 (.one 18 .nil)))))) (.two 8 14 (.one 14 (.one 15 (.one 16 (.one 17 (.one 18 .nil))))) (.two 8 15 (.one 15 (.one 16 (.one 17 (.one 18 .nil)))) (.one 8 (.one 16 (.one 17 (.one 18 .nil)))))) (.two 8 9 (.one 9 (.one 15 (.one 16 (.one 17 (.one 18 .nil))))) (.two 8 15 (.one 15 (.one 16 (.one 17 (.one 18 .nil)))) (.one 8 (.one 16 (.one 17 (.one 18 .nil))))))) (.three 3 9 14 (.two 9 14 (.one 14 (.one 15 (.one 16 (.one 17 (.one 18 .nil))))) (.one 9 (.one 15 (.one 16 (.one 17 (.one 18 .nil)))))) (.two 3 14 (.one 14 (.one 15 (.one 16 (.one 17 (.one 18 .nil))))) (.two 3 15 (.one 15 (.one 16 (.one 17 (.one 18 .nil)))) (.two 3 16 (.one 16 (.one 17 (.one 18 .nil))) (.one 3 (.one 17 (.one 18 .nil)))))) (.two 3 9 (.one 9 (.one 15 (.one 16 (.one 17 (.one 18 .nil))))) (.two 3 15 (.one 15 (.one 16 (.one 17 (.one 18 .nil)))) (.two 3 16 (.one 16 (.one 17 (.one 18 .nil))) (.one 3 (.one 17 (.one 18 .nil))))))) (.three 3 8 14 (.two 8 14 (.one 14 (.one 15 (.one 16 (.one 17 (.one 18 .nil))))) (.two 8 15 (.one 15 (.one 16 (.one 17 (.one 18 .nil)))) (.one 8 (.one 16 (.one 17 (.one 18 .nil)))))) (.two 3 14 (.one 14 (.one 15 (.one 16 (.one 17 (.one 18 .nil))))) (.two 3 15 (.one 15 (.one 16 (.one 17 (.one 18 .nil)))) (.two 3 16 (.one 16 (.one 17 (.one 18 .nil))) (.one 3 (.one 17 (.one 18 .nil)))))) (.three 3 8 15 (.two 8 15 (.one 15 (.one 16 (.one 17 (.one 18 .nil)))) (.one 8 (.one 16 (.one 17 (.one 18 .nil))))) (.two 3 15 (.one 15 (.one 16 (.one 17 (.one 18 .nil)))) (.two 3 16 (.one 16 (.one 17 (.one 18 .nil))) (.one 3 (.one 17 (.one 18 .nil))))) (.two 3 8 (.one 8 (.one 16 (.one 17 (.one 18 .nil)))) (.two 3 16 (.one 16 (.one 17 (.one 18 .nil))) (.one 3 (.one 17 (.one 18 .nil))))))) (.three 3 8 9 (.two 8 9 (.one 9 (.one 15 (.one 16 (.one 17 (.one 18 .nil))))) (.two 8 15 (.one 15 (.one 16 (.one 17 (.one 18 .nil)))) (.one 8 (.one 16 (.one 17 (.one 18 .nil)))))) (.two 3 9 (.one 9 (.one 15 (.one 16 (.one 17 (.one 18 .nil))))) (.two 3 15 (.one 15 (.one 16 (.one 17 (.one 18 .nil)))) (.two 3 16 (.one 16 (.one 17 (.one 18 .nil))) (.one 3 (.one 17 (.one 18 .nil)))))) (.three 3 8 15 (.two 8 15 (.one 15 (.one 16 (.one 17 (.one 18 .nil)))) (.one 8 (.one 16 (.one 17 (.one 18 .nil))))) (.two 3 15 (.one 15 (.one 16 (.one 17 (.one 18 .nil)))) (.two 3 16 (.one 16 (.one 17 (.one 18 .nil))) (.one 3 (.one 17 (.one 18 .nil))))) (.two 3 8 (.one 8 (.one 16 (.one 17 (.one 18 .nil)))) (.two 3 16 (.one 16 (.one 17 (.one 18 .nil))) (.one 3 (.one 17 (.one 18 .nil)))))))) (.three 3 5 14 (.two 5 14 (.two 8 14 (.one 14 (.one 15 (.one 16 (.one 17 (.one 18 .nil))))) (.two 8 15 (.one 15 (.one 16 (.one 17 (.one 18 .nil)))) (.one 8 (.one 16 (.one 17 (.one 18 .nil)))))) (.two 5 15 (.two 8 15 (.one 15 (.one 16 (.one 17 (.one 18 .nil)))) (.one 8 (.one 16 (.one 17 (.one 18 .nil))))) (.one 5 (.one 8 (.one 16 (.one 17 (.one 18 .nil))))))) (.three 3 8 14 (.two 8 14 (.one 14 (.one 15 (.one 16 (.one 17 (.one 18 .nil))))) (.two 8 15 (.one 15 (.one 16 (.one 17 (.one 18 .nil)))) (.one 8 (.one 16 (.one 17 (.one 18 .nil)))))) (.two 3 14 (.one 14 (.one 15 (.one 16 (.one 17 (.one 18 .nil))))) (.two 3 15 (.one 15 (.one 16 (.one 17 (.one 18 .nil)))) (.two 3 16 (.one 16 (.one 17 (.one 18 .nil))) (.one 3 (.one 17 (.one 18 .nil)))))) (.three 3 8 15 (.two 8 15 (.one 15 (.one 16 (.one 17 (.one 18 .nil)))) (.one 8 (.one 16 (.one 17 (.one 18 .nil))))) (.two 3 15 (.one 15 (.one 16 (.one 17 (.one 18 .nil)))) (.two 3 16 (.one 16 (.one 17 (.one 18 .nil))) (.one 3 (.one 17 (.one 18 .nil))))) (.two 3 8 (.one 8 (.one 16 (.one 17 (.one 18 .nil)))) (.two 3 16 (.one 16 (.one 17 (.one 18 .nil))) (.one 3 (.one 17 (.one 18 .nil))))))) (.three 3 5 15 (.two 5 15 (.two 8 15 (.one 15 (.one 16 (.one 17 (.one 18 .nil)))) (.one 8 (.one 16 (.one 17 (.one 18 .nil))))) (.one 5 (.one 8 (.one 16 (.one 17 (.one 18 .nil)))))) (.three 3 8 15 (.two 8 15 (.one 15 (.one 16 (.one 17 (.one 18 .nil)))) (.one 8 (.one 16 (.one 17 (.one 18 .nil))))) (.two 3 15 (.one 15 (.one 16 (.one 17 (.one 18 .nil)))) (.two 3 16 (.one 16 (.one 17 (.one 18 .nil))) (.one 3 (.one 17 (.one 18 .nil))))) (.two 3 8 (.one 8 (.one 16 (.one 17 (.one 18 .nil)))) (.two 3 16 (.one 16 (.one 17 (.one 18 .nil))) (.one 3 (.one 17 (.one 18 .nil)))))) (.two 3 5 (.one 5 (.one 8 (.one 16 (.one 17 (.one 18 .nil))))) (.two 3 8 (.one 8 (.one 16 (.one 17 (.one 18 .nil)))) (.two 3 16 (.one 16 (.one 17 (.one 18 .nil))) (.one 3 (.one 17 (.one 18 .nil)))))))) (.three 3 5 9 (.two 5 9 (.two 8 9 (.one 9 (.one 15 (.one 16 (.one 17 (.one 18 .nil))))) (.two 8 15 (.one 15 (.one 16 (.one 17 (.one 18 .nil)))) (.one 8 (.one 16 (.one 17 (.one 18 .nil)))))) (.two 5 15 (.two 8 15 (.one 15 (.one 16 (.one 17 (.one 18 .nil)))) (.one 8 (.one 16 (.one 17 (.one 18 .nil))))) (.one 5 (.one 8 (.one 16 (.one 17 (.one 18 .nil))))))) (.three 3 8 9 (.two 8 9 (.one 9 (.one 15 (.one 16 (.one 17 (.one 18 .nil))))) (.two 8 15 (.one 15 (.one 16 (.one 17 (.one 18 .nil)))) (.one 8 (.one 16 (.one 17 (.one 18 .nil)))))) (.two 3 9 (.one 9 (.one 15 (.one 16 (.one 17 (.one 18 .nil))))) (.two 3 15 (.one 15 (.one 16 (.one 17 (.one 18 .nil)))) (.two 3 16 (.one 16 (.one 17 (.one 18 .nil))) (.one 3 (.one 17 (.one 18 .nil)))))) (.three 3 8 15 (.two 8 15 (.one 15 (.one 16 (.one 17 (.one 18 .nil)))) (.one 8 (.one 16 (.one 17 (.one 18 .nil))))) (.two 3 15 (.one 15 (.one 16 (.one 17 (.one 18 .nil)))) (.two 3 16 (.one 16 (.one 17 (.one 18 .nil))) (.one 3 (.one 17 (.one 18 .nil))))) (.two 3 8 (.one 8 (.one 16 (.one 17 (.one 18 .nil)))) (.two 3 16 (.one 16 (.one 17 (.one 18 .nil))) (.one 3 (.one 17 (.one 18 .nil))))))) (.three 3 5 15 (.two 5 15 (.two 8 15 (.one 15 (.one 16 (.one 17 (.one 18 .nil)))) (.one 8 (.one 16 (.one 17 (.one 18 .nil))))) (.one 5 (.one 8 (.one 16 (.one 17 (.one 18 .nil)))))) (.three 3 8 15 (.two 8 15 (.one 15 (.one 16 (.one 17 (.one 18 .nil)))) (.one 8 (.one 16 (.one 17 (.one 18 .nil))))) (.two 3 15 (.one 15 (.one 16 (.one 17 (.one 18 .nil)))) (.two 3 16 (.one 16 (.one 17 (.one 18 .nil))) (.one 3 (.one 17 (.one 18 .nil))))) (.two 3 8 (.one 8 (.one 16 (.one 17 (.one 18 .nil)))) (.two 3 16 (.one 16 (.one 17 (.one 18 .nil))) (.one 3 (.one 17 (.one 18 .nil)))))) (.two 3 5 (.one 5 (.one 8 (.one 16 (.one 17 (.one 18 .nil))))) (.two 3 8 (.one 8 (.one 16 (.one 17 (.one 18 .nil)))) (.two 3 16 (.one 16 (.one 17 (.one 18 .nil))) (.one 3 (.one 17 (.one 18 .nil)))))))))))))))))))
def Yo:Qi:=(.pure 0 (.pure 1 (.pure 2 (.pure 4 (.pure 6 (.pure 7 (.pure 8 (.pure 10 (.three 3 5 9 (.two 5 9 (.one 9 (.one 11 (.pure 12 (.one 13 (.one 14 (.one 15 (.pure 16 (.one 17 .nil)))))))) (.two 5 11 (.one 11 (.pure 12 (.one 13 (.one 14 (.one 15 (.pure 16 (.one 17 .nil))))))) (.pure 12 (.two 5 13 (.one 13 (.one 14 (.one 15 (.pure 16 (.one 17 .nil))))) (.one 5 (.one 14 (.one 15 (.pure 16 (.one 17 .nil))))))))) (.two 3 9 (.one 9 (.one 11 (.pure 12 (.one 13 (.one 14 (.one 15 (.pure 16 (.one 17 .nil)))))))) (.two 3 11 (.one 11 (.pure 12 (.one 13 (.one 14 (.one 15 (.pure 16 (.one 17 .nil))))))) (.pure 12 (.two 3 13 (.one 13 (.one 14 (.one 15 (.pure 16 (.one 17 .nil))))) (.two 3 14 (.one 14 (.one 15 (.pure 16 (.one 17 .nil)))) (.one 3 (.one 15 (.pure 16 (.one 17 .nil))))))))) (.three 3 5 11 (.two 5 11 (.one 11 (.pure 12 (.one 13 (.one 14 (.one 15 (.pure 16 (.one 17 .nil))))))) (.pure 12 (.two 5 13 (.one 13 (.one 14 (.one 15 (.pure 16 (.one 17 .nil))))) (.one 5 (.one 14 (.one 15 (.pure 16 (.one 17 .nil)))))))) (.two 3 11 (.one 11 (.pure 12 (.one 13 (.one 14 (.one 15 (.pure 16 (.one 17 .nil))))))) (.pure 12 (.two 3 13 (.one 13 (.one 14 (.one 15 (.pure 16 (.one 17 .nil))))) (.two 3 14 (.one 14 (.one 15 (.pure 16 (.one 17 .nil)))) (.one 3 (.one 15 (.pure 16 (.one 17 .nil)))))))) (.pure 12 (.three 3 5 13 (.two 5 13 (.one 13 (.one 14 (.one 15 (.pure 16 (.one 17 .nil))))) (.one 5 (.one 14 (.one 15 (.pure 16 (.one 17 .nil)))))) (.two 3 13 (.one 13 (.one 14 (.one 15 (.pure 16 (.one 17 .nil))))) (.two 3 14 (.one 14 (.one 15 (.pure 16 (.one 17 .nil)))) (.one 3 (.one 15 (.pure 16 (.one 17 .nil)))))) (.two 3 5 (.one 5 (.one 14 (.one 15 (.pure 16 (.one 17 .nil))))) (.two 3 14 (.one 14 (.one 15 (.pure 16 (.one 17 .nil)))) (.one 3 (.one 15 (.pure 16 (.one 17 .nil))))))))))))))))))
theorem Ka.fz{h' h2:Hp}{z:Nat}{es:List SV}{v:SV}{ob:DA}(H:Ka z es v ob)(a:∀e∈es,e.B=true/\e.cells.length=z)(c:BF ob h')(b:∀k∈AJ ob,h2 k=none):Jd h' h2 [v] [.y z es false]:=
 Lb H rfl a c b λcs sub g _ _=>by
  obtain⟨rfl,rfl⟩:=g;refine⟨Bq a,0,λK _=>?_⟩;generalize es.flatMap SV.cells=l
  induction l with
  | nil=>trivial
  | cons x l ih=>exact⟨Or,ih⟩
theorem fV{E:BZ}{N:Nat}{a:Code}{Q:CT}{sa:SA}{h:Hp}{n:Nat}(H:Hw h n->SP E N a Q sa h n):SP E N a Q sa h n:=
 λhd c b I R F A=>H (λo x e=>Gk F (R.obj o x e)) hd c b I R F A
theorem Fe{z:Nat}:∀{es:List SV},(∀e∈es,e.cells.length=z)->(es.flatMap SV.cells).length=es.length*z
 | [],_=>by simp
 | e::es,h=>by rw[va,ql,h e mr,Fe λx a=>h x (by simp[a]),qo,wi];omega
theorem VD(l:List Di):((l.map Di.h).flatMap SV.cells).length=l.length*2:=by
 induction l with
 | nil=>rfl
 | cons a l ih=>simp only[qi,va,ql,ih,qo];simp[Di.h,SV.cells];omega
def I76(x:AG)(H:Hp)(n:Nat)(a:SV×SV×DA×DA×Hp)(m:Nat):Prop:=n+2<=m/\Ka 2 (x.Y.map Di.h) a.1 a.2.2.1/\Ka 4 (x.Z.map A3.h) a.2.1 a.2.2.2.1/\(AJ (a.2.2.1++a.2.2.2.1)).Nodup/\(∀k∈AJ (a.2.2.1++a.2.2.2.1),n+2<=k/\k<m)/\BF (a.2.2.1++a.2.2.2.1) a.2.2.2.2/\a.2.2.2.2 n=some (.cells [AO x.Q,AA x.I,AA x.move,a.1,a.2.1])/\a.2.2.2.2 (n+1)=some (.cells [.y 0 [] true,AA 0,AA 0,.y 0 [] true,.y 0 [] true])/\∀j y,H j=some y->a.2.2.2.2 j=some y
theorem w76(x:AG)(hs:x.l)(mv:List ((Int×Int)×Int))(G:List (Int×Int)){H:Hp}{n p1 p2 k1 V:Nat}(h1:H p1=some (.cells [.map k1]))(h2:H p2=some (.cells [.map V]))(N:H k1=some (.map (EW mv)))(h4:H V=some (.map (EB G))):
 BP prog 76 [x.h,.ptr p1 0,.ptr p2 0] H n (λv h' n'=>v=(L7 mv G x).h/\h'=H/\n'=n):=by
 refine FF func76 rfl λho=>?_;have l1:=(ho p1 _ h1).1;have l2:=(ho p2 _ h2).1;have l3:=(ho k1 _ N).1;have l4:=(ho V _ h4).1;have T:=ho.lt;obtain⟨X,hX⟩:∃X:Hp,X=h_ (h_ H n (some (.cells [AO x.Q,AA x.I,AA x.move,AX x.Y,AN x.Z]))) (n+1) (some (.cells [.y 0 [] true,AA 0,AA 0,.y 0 [] true,.y 0 [] true])):=⟨_,rfl⟩
 refine Bc 0 [(1,.ptr p1 0),(2,.ptr p2 0),(3,.ptr n 0),(4,.ptr (n+1) 0)] X (λm=>n+2=m) ?_ (λm hm=>?_);rw[hX];simp[go_sem,AG.h,AG.j,qq,Or,SV.cells];subst hm;have hx:X n=some (.cells [AO x.Q,AA x.I,AA x.move,AX x.Y,AN x.Z]):=by rw[hX,AD _ _ mq,AE]
 have hy:X (n+1)=some (.cells [.y 0 [] true,AA 0,AA 0,.y 0 [] true,.y 0 [] true]):=by rw[hX,AE]
 have hXo:∀j y,H j=some y->X j=some y:=λj y e=>by have:=T j y e;rw[hX,AD _ _ mq,AD _ _ mq];exact e
 clear hX;have hnn:n+1≠n:=by omega
 refine DH 0 (α:=SV×SV×DA×DA×Hp) (λ_=>[(1,.ptr p1 0),(2,.ptr p2 0),(3,.ptr n 0),(4,.ptr (n+1) 0)]) (λa=>a.2.2.2.2)
  (λa m=>I76 x H n a m) ?_ (λa m hm=>?_)
 simp[go_sem,hx];refine wL (by simpa[AG.h,AG.j]using n30 x hs) ?_;rintro v h' n' ⟨hn1,ob,⟨vd,o1,vl,o2,rfl,rfl,hD,hL⟩,hnd,u,hh⟩;have hx1:=wg (_L:=Ha []) (_v:=vd) u hh (show n<n+2 by omega) hx;have hy1:=wg (_L:=Ha []) (_v:=vd) u hh (show n+1<n+2 by omega) hy;have hD':IN 2 _ _ vd o1:=hD;have hL':IN 4 _ _ vl o2:=hL;obtain⟨s1,s2⟩:=hD'.st;obtain⟨s3,s4⟩:=hL'.st;unfold SV.B at s1 s3;unfold SV.cells at s2 s4;simp[go_sem,hx1];refine⟨vd,vl,o1,o2,_,⟨hn1,hD,hL,hnd,u,λp hp=>?_,AE _ _ _,by dsimp only;rw[AD _ _ hnn];exact hy1,λj y e=>?_⟩,AC⟩;have:=u p.1 (qa.2 ⟨p,hp,rfl⟩);dsimp only at hp ⊢;rw[AD _ _ mq];exact JP hnd hh p hp;have:=T j y e;dsimp only;rw[AD _ _ mq];exact wg (_L:=Ha []) (_v:=vd) u hh mq (hXo j y e);obtain⟨vd,vl,o1,o2,hh⟩:=a;obtain⟨hnm,hD,hL,hnd,u,hob,hx1,hy1,BA⟩:=hm;dsimp only at hnm hD hL hnd u hob hx1 hy1 BA ⊢;refine Al 0 [(1,.ptr p1 0),(2,.ptr p2 0),(3,.ptr n 0),(4,.ptr (n+1) 0),(5,.ptr n 1)] hh m ?_ (λm' A=>?_);simp[go_sem,Or];subst A;have g1:=BA _ _ h1;have g2:=BA _ _ h2;have g3:=BA _ _ N;have g4:=BA _ _ h4;refine AV 0 (α:=Unit) (λ_=>[(1,.ptr p1 0),(2,.ptr p2 0),(3,.ptr n 0),(4,.ptr (n+1) 0),(5,.ptr n 1)]) (λ_=>h_ hh n (some (.cells [AO x.Q,AA x.I,AA (FK mv (x.I,x.move)),vd,vl]))) (λ_ m'=>m=m') (PV bg rfl mu mu ?_) (λ_ m' A=>?_)
 . obtain⟨r,f1,f2⟩:=La x.I x.move mv 0;simp[go_sem,bg,hx1,g1,BQ]
   repeat' (with_reducible refine And.intro ?_ ?_)
   all_goals
    refine Es (q:=k1) (a:=x.I) (b:=x.move) rfl ms g3 ms (v:=AA (FK mv (x.I,x.move))) (by cases r<;>exact f2) f1 ?_;simp[go_sem,hx1,Or]
 subst A;have nk:∀j,j<n->∀y,h_ hh n y j=hh j:=λj hj y=>AD _ _ mq;refine AV 0 (α:=Unit) (λ_=>[(1,.ptr p1 0),(2,.ptr p2 0),(3,.ptr n 0),(4,.ptr (n+1) 0),(5,.ptr n 1)]) (λ_=>h_ hh n (some (.cells [AO x.Q,AA (Cj G x.I),AA (FK mv (x.I,x.move)),vd,vl]))) (λ_ m'=>m=m') (PV Yl rfl mu mu ?_) (λ_ m' A=>?_);rcases GY x.I G with⟨f1,f2⟩|⟨j,f1⟩
 simp[go_sem,Yl,Or,AE,Ad,nk _ l2,nk _ l4,g2,g4,f1,f2,BQ];simp[go_sem,Yl,Or,AE,Ad,nk _ l2,nk _ l4,g2,g4,f1,BQ];subst A;obtain⟨B,hB⟩:∃B:Hp,B=h_ hh n (some (.cells [AO x.Q,AA (Cj G x.I),AA (FK mv (x.I,x.move)),vd,vl])):=⟨_,rfl⟩
 have Bn:B n=some (.cells [AO x.Q,AA (Cj G x.I),AA (FK mv (x.I,x.move)),vd,vl]):=by rw[hB,AE]
 have Bo:∀j,j≠n->B j=hh j:=λj hj=>by rw[hB,AD _ _ hj]
 rw[<-hB];obtain⟨J,hfd⟩:∃J:Di->Di,J=λd=>{ d with rev:=Cj G d.rev,move:=FK mv (d.rev,d.move) }:=⟨_,rfl⟩
 refine AV 0 (α:=Hp) (λ_=>[(1,.ptr p1 0),(2,.ptr p2 0),(3,.ptr n 0),(4,.ptr (n+1) 0),(5,.ptr n 1)]) (λh2=>h2) (λh2 m'=>m<=m'/\(∃s,AJ s=AJ o1/\Ka 2 ((x.Y.map J).map Di.h) vd s/\BF s h2)/\∀j,j∉AJ o1->h2 j=B j) ?_ (λh2 m' A=>?_)
 . rcases hD with⟨hd0,⟨z',full,rfl⟩,rfl⟩|⟨f,full,cs,sub,rfl,rfl,rfl,rfl⟩
   have hd0':x.Y=[]:=by simpa using hd0
   refine Al 0 [(1,.ptr p1 0),(2,.ptr p2 0),(3,.ptr n 0),(4,.ptr (n+1) 0),(5,.ptr n 1),(39,AA 0),(40,AA 0)] B m ?_ (λm' A=>?_);simp[go_sem,Bn,Or];subst A;refine AP (Aq 0 (α:=Unit) (λ_=>[(1,.ptr p1 0),(2,.ptr p2 0),(3,.ptr n 0),(4,.ptr (n+1) 0),(5,.ptr n 1),(39,AA 0),(40,AA 0)]) (λ_=>B) (λ_ m'=>m=m') (λ_=>0) () rfl (by simp[look,Or]) AC ?_);rintro _ m' rfl;refine AK ?_;simp[go_sem];exact⟨B,⟨⟨by rw[hd0'];exact .inl ⟨rfl,⟨_,_,rfl⟩,rfl⟩,λp hp=>by cases hp⟩,λ_=>rfl⟩,AC⟩
   . have hjd:=u f (by simp[AJ]);have hjb:f≠n:=by omega
     have hBj:B f=some (.cells ((x.Y.map Di.h).flatMap SV.cells)):=by rw[Bo _ hjb];exact hob (f,_) mr
     obtain⟨W,hW⟩:∃W:Nat->Hp,∀i,W i=h_ B f (some (.cells ((((x.Y.take i).map J++x.Y.drop i).map Di.h).flatMap SV.cells))):=⟨_,λ_=>rfl⟩
     have Wj:∀i,W i f=some (.cells ((((x.Y.take i).map J++x.Y.drop i).map Di.h).flatMap SV.cells)):=λi=>by rw[hW,AE]
     have Wo:∀i j,j≠f->W i j=B j:=λi j hj=>by rw[hW,AD _ _ hj]
     have W0:W 0=B:=by rw[hW];simp only[vk,vN,qI,vT];funext j;simp only[h_];grind
     rw[qf];refine Al 0 [(1,.ptr p1 0),(2,.ptr p2 0),(3,.ptr n 0),(4,.ptr (n+1) 0),(5,.ptr n 1),(38,.sl f 0 2 x.Y.length full),(39,AA x.Y.length),(40,AA 0)] (W 0) m ?_ (λm' A=>?_);rw[W0];rw[qf]at Bn;simp[go_sem,Bn,Or];subst A;refine AP (Aq 0 (α:=Nat) (λi=>[(1,.ptr p1 0),(2,.ptr p2 0),(3,.ptr n 0),(4,.ptr (n+1) 0),(5,.ptr n 1),(38,.sl f 0 2 x.Y.length full),(39,AA x.Y.length),(40,AA i)]) W (λi m'=>i<=x.Y.length/\m<=m') (λi=>x.Y.length-i) 0 ⟨qj _,IO _⟩ ?_ AC ?_);simp[go_sem,look,Or];rintro i m' ⟨hi,hmm⟩;by_cases t:i<x.Y.length
     . have hsd:=hs.Y;have w1:=wS i mq;obtain⟨d,hd⟩:∃d,x.Y[i]=d:=⟨_,rfl⟩
       refine Al 0 [(1,.ptr p1 0),(2,.ptr p2 0),(3,.ptr n 0),(4,.ptr (n+1) 0),(5,.ptr n 1),(38,.sl f 0 2 x.Y.length full),(39,AA x.Y.length),(40,AA i),(41,.bool true)] (W i) m' ?_ (λC o=>?_);simp[go_sem,Or,t];subst o;refine Al 0 [(1,.ptr p1 0),(2,.ptr p2 0),(3,.ptr n 0),(4,.ptr (n+1) 0),(5,.ptr n 1),(38,.sl f 0 2 x.Y.length full),(39,AA x.Y.length),(40,AA i)] (W i) m' ?_ (λC o=>?_);simp[go_sem,Or];subst o;refine AV 0 (α:=Unit) (λ_=>[(1,.ptr p1 0),(2,.ptr p2 0),(3,.ptr n 0),(4,.ptr (n+1) 0),(5,.ptr n 1),(38,.sl f 0 2 x.Y.length full),(39,AA x.Y.length),(40,AA i)]) (λ_=>W (i+1)) (λ_ C=>m'<=C) (AP ?_) (λ_ C o=>?_)
       . have hjp1:f≠p1:=by omega
         have hjp2:f≠p2:=by omega
         have hjk1:f≠k1:=by omega
         have hjk2:f≠V:=by omega
         have Wn:W i n=_:=(Wo i n hjb.symm).trans Bn;have Wp1:W i p1=_:=(Wo i p1 hjp1.symm).trans ((Bo p1 mq).trans g1);have M:W i p2=_:=(Wo i p2 hjp2.symm).trans ((Bo p2 mq).trans g2);have R:W i k1=_:=(Wo i k1 hjk1.symm).trans ((Bo k1 mq).trans g3);have K:W i V=_:=(Wo i V hjk2.symm).trans ((Bo V mq).trans g4);obtain⟨P,hP⟩:∃P:List SV,P=((((x.Y.take i).map J)).map Di.h).flatMap SV.cells:=⟨_,rfl⟩
         obtain⟨S,hS⟩:∃S:List SV,S=((x.Y.drop (i+1)).map Di.h).flatMap SV.cells:=⟨_,rfl⟩
         have c:P.length=i*2:=by rw[hP,VD,qf,vu,vF hi]
         have e1:(((x.Y.take i).map J++x.Y.drop i).map Di.h).flatMap SV.cells=P++(AA d.rev::AA d.move::S):=by
          rw[qA t,hd,hP,hS,qc,qH];rfl
         have e2:(((x.Y.take (i+1)).map J++x.Y.drop (i+1)).map Di.h).flatMap SV.cells=P++(AA (J d).rev::AA (J d).move::S):=by
          rw[qb t,hd,hP,hS,qc,qc,qH,qc,qH,qr];rfl
         have Wi:=Wj i;rw[e1]at Wi;have Wi1:W (i+1)=h_ (W i) f (some (.cells (P++(AA (J d).rev::AA (J d).move::S)))):=by
          rw[hW (i+1),hW i,e2,Ad]
         refine fV λhoW=>?_;have hWb:∀j y,W i j=some y->j<m':=λj y e=>(hoW j y e).1;have w:(i:Int)<x.Y.length:=by omega
         refine As 2 [(1,.ptr p1 0),(2,.ptr p2 0),(3,.ptr n 0),(4,.ptr (n+1) 0),(5,.ptr n 1),(6,AA i),(7,.q [AA d.rev,AA d.move]),(38,.sl f 0 2 x.Y.length full),(39,AA x.Y.length),(40,AA i)] (W i) m' ?_ (λC o=>?_);simp[go_sem,Wi,w,Am c,c,Or,AE];exact⟨Ap (Ai hWb (IO _)) (AE _ _ _),AW hWb (AW hWb AC)⟩;rw[Wi1];refine b9 Ym rfl mu mu ?_;obtain⟨r,f1,f2⟩:=La d.rev d.move mv 0;have fdd:J d={ d with rev:=Cj G d.rev,move:=FK mv (d.rev,d.move) }:=by rw[hfd]
         rw[fdd];rcases GY d.rev G with⟨q1,q2⟩|⟨j,q1⟩
         . simp[go_sem,Ym,Wn,Wp1,M,K,BQ,q1,q2]
           repeat' (with_reducible refine And.intro ?_ ?_)
           all_goals
            refine Es (q:=k1) (a:=d.rev) (b:=d.move) rfl ms R ms (v:=AA (FK mv (d.rev,d.move))) (by cases r<;>exact f2) f1 ?_;simp[go_sem,Or,Wn,M,K,Wi,BQ,q1,w,Av c,An c,c,o]
         . simp[go_sem,Ym,Wn,Wp1,M,K,BQ,q1]
           repeat' (with_reducible refine And.intro ?_ ?_)
           all_goals
            refine Es (q:=k1) (a:=d.rev) (b:=d.move) rfl ms R ms (v:=AA (FK mv (d.rev,d.move))) (by cases r<;>exact f2) f1 ?_;simp[go_sem,Or,Wn,M,K,Wi,BQ,q1,w,Av c,An c,c,o]
       refine AK ?_;simp[go_sem,w1,Or,-Int.natCast_add];exact⟨i+1,by omega,⟨by omega,by omega⟩,Or,AC⟩
     have:i=x.Y.length:=by omega
     subst this;refine AK ?_;have hfin:m<=m'/\(∃s,AJ s=AJ [(f,A9.cells ((x.Y.map Di.h).flatMap SV.cells))]/\Ka 2 ((x.Y.map J).map Di.h) (.sl f 0 2 x.Y.length full) s/\BF s (W x.Y.length))/\∀j,j∉AJ [(f,A9.cells ((x.Y.map Di.h).flatMap SV.cells))]->W x.Y.length j=B j:=by
      refine⟨hmm,⟨[(f,.cells (((x.Y.map J).map Di.h).flatMap SV.cells))],rfl,.inr ⟨f,full,_,[],by simp,rfl,rfl,rfl⟩,λp hp=>?_⟩,λj hj=>Wo _ j (λe=>hj (by simp[AJ,e]))⟩;rw[qw]at hp;subst hp;show W _ f=_;rw[Wj,qp,vH,qV]
     simp[go_sem];exact⟨W x.Y.length,by simpa using hfin,AC⟩
 obtain⟨hmm,⟨s,hk1,hD',ho1'⟩,D⟩:=A;have nin:∀j,j<n+2->j∉AJ o1:=λj hj g=>by have:=u j (by rw[Ac];exact qz _ g);omega
 have Gn:h2 n=_:=(D n (nin n mq)).trans Bn;have Gn1:h2 (n+1)=_:=(D _ (nin _ mq)).trans ((Bo _ hnn).trans hy1);have Gp2:h2 p2=_:=(D p2 (nin _ mq)).trans ((Bo p2 mq).trans g2);have Gk2:h2 V=_:=(D V (nin _ mq)).trans ((Bo V mq).trans g4);have Gold:∀j y,H j=some y->h2 j=some y:=λj y e=>by have:=T j y e;rw[D j (nin j mq),Bo j mq];exact BA j y e
 have hnd2:=hnd;rw[Ac,qu]at hnd2;have ho2:BF o2 h2:=λp hp=>by
  have hk:p.1∈AJ o2:=qa.2 ⟨p,hp,rfl⟩;have:=u p.1 (by rw[Ac];exact qx _ hk);rw[D p.1 (λg=>hnd2.2.2 _ g _ hk rfl),Bo p.1 mq];exact hob p (qx _ hp)
 obtain⟨fl,hfl⟩:∃fl:A3->A3,fl=λy=>{ y with rev:=Cj G y.rev }:=⟨_,rfl⟩
 have O:∀k∈AJ o2,n+2<=k/\k<m:=λk hk=>u k (by rw[Ac];exact qx _ hk);refine AV 0 (α:=Hp) (λ_=>[(1,.ptr p1 0),(2,.ptr p2 0),(3,.ptr n 0),(4,.ptr (n+1) 0),(5,.ptr n 1)]) (λN=>N) (λN C=>m'<=C/\(∃o2',AJ o2'=AJ o2/\Ka 4 ((x.Z.map fl).map A3.h) vl o2'/\BF o2' N)/\∀j,j∉AJ o2->N j=h2 j) ?_ (λN C o=>?_);rcases hL with⟨hd0,⟨z',full,rfl⟩,rfl⟩|⟨f,full,cs,sub,rfl,rfl,rfl,rfl⟩
 have hd0':x.Z=[]:=by simpa using hd0
 refine Al 0 [(1,.ptr p1 0),(2,.ptr p2 0),(3,.ptr n 0),(4,.ptr (n+1) 0),(5,.ptr n 1),(68,AA 0),(69,AA 0)] h2 m' ?_ (λC o=>?_);simp[go_sem,Gn,Or];subst o;refine AP (Aq 0 (α:=Unit) (λ_=>[(1,.ptr p1 0),(2,.ptr p2 0),(3,.ptr n 0),(4,.ptr (n+1) 0),(5,.ptr n 1),(68,AA 0),(69,AA 0)]) (λ_=>h2) (λ_ C=>m'=C) (λ_=>0) () rfl (by simp[look,Or]) AC ?_);rintro _ C rfl;refine AK ?_;simp[go_sem];exact⟨h2,⟨⟨by rw[hd0'];exact .inl ⟨rfl,⟨_,_,rfl⟩,rfl⟩,λp hp=>by cases hp⟩,λ_=>rfl⟩,AC⟩;have hjd:=O f (by simp[AJ]);have hjb:f≠n:=by omega
 have hBj:h2 f=some (.cells ((x.Z.map A3.h).flatMap SV.cells)):=ho2 (f,_) mr;obtain⟨W,hW⟩:∃W:Nat->Hp,∀i,W i=h_ h2 f (some (.cells ((((x.Z.take i).map fl++x.Z.drop i).map A3.h).flatMap SV.cells))):=⟨_,λ_=>rfl⟩
 have Wj:∀i,W i f=some (.cells ((((x.Z.take i).map fl++x.Z.drop i).map A3.h).flatMap SV.cells)):=λi=>by rw[hW,AE]
 have Wo:∀i j,j≠f->W i j=h2 j:=λi j hj=>by rw[hW,AD _ _ hj]
 have W0:W 0=h2:=by rw[hW];simp only[vk,vN,qI,vT];funext j;simp only[h_];grind
 rw[qf];refine Al 0 [(1,.ptr p1 0),(2,.ptr p2 0),(3,.ptr n 0),(4,.ptr (n+1) 0),(5,.ptr n 1),(68,AA x.Z.length),(69,AA 0)] (W 0) m' ?_ (λC o=>?_);rw[W0];rw[qf]at Gn;simp[go_sem,Gn,Or];subst o;refine AP (Aq 0 (α:=Nat) (λi=>[(1,.ptr p1 0),(2,.ptr p2 0),(3,.ptr n 0),(4,.ptr (n+1) 0),(5,.ptr n 1),(68,AA x.Z.length),(69,AA i)]) W (λi C=>i<=x.Z.length/\m'<=C) (λi=>x.Z.length-i) 0 ⟨qj _,IO _⟩ ?_ AC ?_);simp[go_sem,look,Or];rintro i C ⟨hi,o⟩;by_cases t:i<x.Z.length;have hsd:=hs.Z;have w1:=wS i mq;obtain⟨d,hd⟩:∃d,x.Z[i]=d:=⟨_,rfl⟩
 refine Al 0 [(1,.ptr p1 0),(2,.ptr p2 0),(3,.ptr n 0),(4,.ptr (n+1) 0),(5,.ptr n 1),(68,AA x.Z.length),(69,AA i),(70,.bool true)] (W i) C ?_ (λm4 U=>?_);simp[go_sem,Or,t];subst U;refine Al 0 [(1,.ptr p1 0),(2,.ptr p2 0),(3,.ptr n 0),(4,.ptr (n+1) 0),(5,.ptr n 1),(68,AA x.Z.length),(69,AA i)] (W i) C ?_ (λm4 U=>?_);simp[go_sem,Or];subst U;refine AV 0 (α:=Unit) (λ_=>[(1,.ptr p1 0),(2,.ptr p2 0),(3,.ptr n 0),(4,.ptr (n+1) 0),(5,.ptr n 1),(68,AA x.Z.length),(69,AA i)]) (λ_=>W (i+1)) (λ_ m4=>C<=m4) (AP ?_) (λ_ m4 U=>?_);have hjp2:f≠p2:=by omega
 have hjk2:f≠V:=by omega
 have Wn:W i n=_:=(Wo i n hjb.symm).trans Gn;have M:W i p2=_:=(Wo i p2 hjp2.symm).trans Gp2;have K:W i V=_:=(Wo i V hjk2.symm).trans Gk2;obtain⟨P,hP⟩:∃P:List SV,P=((((x.Z.take i).map fl)).map A3.h).flatMap SV.cells:=⟨_,rfl⟩
 obtain⟨S,hS⟩:∃S:List SV,S=((x.Z.drop (i+1)).map A3.h).flatMap SV.cells:=⟨_,rfl⟩
 have c:P.length=i*4:=by rw[hP,Fe (z:=4) (λe he=>by obtain⟨y,_,rfl⟩:=qa.1 he;rfl),qf,qf,vu,vF hi]
 have e1:(((x.Z.take i).map fl++x.Z.drop i).map A3.h).flatMap SV.cells=P++(AA d.rev::AA d.key::AA d.before::.bool d.had::S):=by
  rw[qA t,hd,hP,hS,qc,qH];rfl
 have e2:(((x.Z.take (i+1)).map fl++x.Z.drop (i+1)).map A3.h).flatMap SV.cells=P++(AA (Cj G d.rev)::AA d.key::AA d.before::.bool d.had::S):=by
  rw[qb t,hd,hP,hS,qc,qc,qH,qc,qH,qr,hfl];rfl
 have Wi:=Wj i;rw[e1]at Wi;have Wi1:W (i+1)=h_ (W i) f (some (.cells (P++(AA (Cj G d.rev)::AA d.key::AA d.before::.bool d.had::S)))):=by
  rw[hW (i+1),hW i,e2,Ad]
 have w:(i:Int)<x.Z.length:=by omega
 refine Al 0 [(1,.ptr p1 0),(2,.ptr p2 0),(3,.ptr n 0),(4,.ptr (n+1) 0),(5,.ptr n 1),(8,AA i),(68,AA x.Z.length),(69,AA i)] (W i) C ?_ (λm4 U=>?_);simp[go_sem,Or];subst U;rw[Wi1];refine PV Yo rfl mu mu ?_;rcases GY d.rev G with⟨q1,q2⟩|⟨j,q1⟩
 simp[go_sem,Yo,Or,Wn,M,K,Wi,BQ,q1,q2,w,Av c,Am c,An c,c];simp[go_sem,Yo,Or,Wn,M,K,Wi,BQ,q1,w,Av c,Am c,An c,c];refine AK ?_;simp[go_sem,w1,Or,-Int.natCast_add];exact⟨i+1,by omega,⟨by omega,by omega⟩,Or,AC⟩;have:i=x.Z.length:=by omega
 subst this;refine AK ?_;have hfin:m'<=C/\(∃s,AJ s=AJ [(f,A9.cells ((x.Z.map A3.h).flatMap SV.cells))]/\Ka 4 ((x.Z.map fl).map A3.h) (.sl f 0 4 x.Z.length full) s/\BF s (W x.Z.length))/\∀j,j∉AJ [(f,A9.cells ((x.Z.map A3.h).flatMap SV.cells))]->W x.Z.length j=h2 j:=by
  refine⟨o,⟨[(f,.cells (((x.Z.map fl).map A3.h).flatMap SV.cells))],rfl,.inr ⟨f,full,_,[],by simp,rfl,rfl,rfl⟩,λp hp=>?_⟩,λj hj=>Wo _ j (λe=>hj (by simp[AJ,e]))⟩;rw[qw]at hp;subst hp;show W _ f=_;rw[Wj,qp,vH,qV]
 simp[go_sem];exact⟨W x.Z.length,by simpa using hfin,AC⟩;obtain⟨hmm3,⟨o2',hk2,hL',ho2'⟩,F⟩:=o;have nin2:∀j,j<n+2->j∉AJ o2:=λj hj g=>by have:=O j g;omega
 have Yn:N n=_:=(F n (nin2 n mq)).trans Gn;have Yn1:N (n+1)=_:=(F _ (nin2 _ mq)).trans Gn1;have ho13:BF s N:=λp hp=>by
  have hk:p.1∈AJ o1:=by rw[<-hk1];exact qa.2 ⟨p,hp,rfl⟩
  rw[F p.1 (λg=>hnd2.2.2 _ hk _ g rfl)];exact ho1' p hp
 have Yold:∀j y,H j=some y->N j=some y:=λj y e=>by have:=T j y e;rw[F j (nin2 j mq)];exact Gold j y e
 have hD2:IN 2 _ _ vd s:=hD';have hL2:IN 4 _ _ vl o2':=hL';obtain⟨s1,s2⟩:=hD2.st;obtain⟨s3,s4⟩:=hL2.st;unfold SV.B at s1 s3;unfold SV.cells at s2 s4;have hnone:∀k,n+2<=k->H k=none:=λk hk=>by
  cases e:H k with
  | none=>rfl
  | some y=>have:=T k y e;omega
 obtain⟨Y,hY⟩:∃Y:Hp,Y=h_ N (n+1) (some (.cells [AO x.Q,AA (Cj G x.I),AA (FK mv (x.I,x.move)),vd,vl])):=⟨_,rfl⟩
 have Yk:∀k,k≠n+1->Y k=N k:=λk hk=>by rw[hY,AD _ _ hk]
 have ho13y:BF s Y:=λp hp=>by
  have hk:p.1∈AJ o1:=by rw[<-hk1];exact qa.2 ⟨p,hp,rfl⟩
  have:=u p.1 (by rw[Ac];exact qz _ hk);rw[Yk _ mq];exact ho13 p hp
 have ho2y:BF o2' Y:=λp hp=>by
  have hk:p.1∈AJ o2:=by rw[<-hk2];exact qa.2 ⟨p,hp,rfl⟩
  have:=O p.1 hk;rw[Yk _ mq];exact ho2' p hp
 obtain⟨K1,f1⟩:=hD'.fz (h2:=H) (by intro e he;obtain⟨y,_,rfl⟩:=qa.1 he;exact⟨rfl,rfl⟩) ho13y (λk hk=>hnone k (u k (by rw[Ac];rw[hk1]at hk;exact qz _ hk)).1);obtain⟨K2,f2⟩:=hL'.fz (h2:=H) (by intro e he;obtain⟨y,_,rfl⟩:=qa.1 he;exact⟨rfl,rfl⟩) ho2y (λk hk=>hnone k (O k (by rw[hk2]at hk;exact hk)).1);refine AK ?_;simp[go_sem,Yn,Yn1,AE];rw[<-hY];have hen:(L7 mv G x).h=.agg [AO x.Q,AA (Cj G x.I),AA (FK mv (x.I,x.move)),.y 2 ((x.Y.map J).map Di.h) false,.y 4 ((x.Z.map fl).map A3.h) false]:=by
  rw[hfd,hfl];rfl
 refine .inr ⟨max K1 K2+1,(L7 mv G x).h,H,?_,?_,λj y e=>⟨?_,ho j y e⟩,rfl,rfl,rfl⟩;rw[hen];exact .inr ⟨Or,Or,Or,(f1 _ mq).1,(f2 _ mq).1,trivial⟩;simp[AG.h,AG.j,C_,c_,Fp.E.c_,Di.E.c_,A3.E.c_];have:=T j y e;rw[Yk j mq];exact Yold j y e
structure Mx where
 m:Nat
 r:Nat
 pr:Nat
 pm:Nat
 kc:Nat
 kb:Nat
 pc:Nat
 pb:Nat
def Mx.keys(O:Mx):List Nat:=[O.kc,O.kb,O.m,O.r,O.pr,O.pm,O.pc,O.pb]
def Lw(O:Mx)(mv:List ((Int×Int)×Int))(rv:List (Int×Int))(s:List (Int×Int)×List (Int×Int))(o:Nat):Option A9:=
 if o=O.kc then some (.map (EB s.1))else if o=O.kb then some (.map (EB s.2))else if o=O.m then some (.map (EB rv))else if o=O.r then some (.map (EW mv))else
 if o=O.pr then some (.cells [.map O.m])else if o=O.pm then some (.cells [.map O.r])else if o=O.pc then some (.cells [.map O.kc])else if o=O.pb then some (.cells [.map O.kb])else none
theorem eK{O:Mx}{mv:List ((Int×Int)×Int)}{k:List (Int×Int)}{s0:List (Int×Int)×List (Int×Int)}{H:Hp}(l:Sw (Lw O mv k) s0 H)(s:List (Int×Int)×List (Int×Int))(hk:O.kb≠O.kc):
 Az (Lw O mv k) s H=h_ (h_ H O.kb (some (.map (EB s.2)))) O.kc (some (.map (EB s.1))):=by
 funext j;have h:=l j;simp only[Az,Lw,h_]at h ⊢;by_cases f:j=O.kc;simp[f];by_cases g:j=O.kb;subst g;simp[hk];simp only[f,g,if_false]at h ⊢;by_cases a:j=O.m;subst a;simp only[if_true]at h ⊢;exact(h _ rfl).symm;by_cases b:j=O.r;subst b;simp only[a,if_true,if_false]at h ⊢;exact(h _ rfl).symm;by_cases c:j=O.pr;subst c;simp only[a,b,if_true,if_false]at h ⊢;exact(h _ rfl).symm;by_cases d:j=O.pm;subst d;simp only[a,b,c,if_true,if_false]at h ⊢;exact(h _ rfl).symm;by_cases e:j=O.pc;subst e;simp only[a,b,c,d,if_true,if_false]at h ⊢;exact(h _ rfl).symm;by_cases i:j=O.pb;subst i;simp only[a,b,c,d,e,if_true,if_false]at h ⊢;exact(h _ rfl).symm;simp[a,b,c,d,e,i]
theorem OB{O:Mx}{mv:List ((Int×Int)×Int)}{j:List (Int×Int)}{s:List (Int×Int)×List (Int×Int)}{o:Nat}:Lw O mv j s o=none↔o∉O.keys:=by
 simp only[Lw,Mx.keys,qe,vG,or_false,not_or];by_cases a:o=O.kc;rw[my a];exact⟨λh=>(by cases h),λh=>(by simp[a]at h)⟩;by_cases b:o=O.kb;rw[mw a,my b];exact⟨λh=>(by cases h),λh=>(by simp[b]at h)⟩;by_cases c:o=O.m;rw[mw a,mw b,my c];exact⟨λh=>(by cases h),λh=>(by simp[c]at h)⟩;by_cases d:o=O.r;rw[mw a,mw b,mw c,my d];exact⟨λh=>(by cases h),λh=>(by simp[d]at h)⟩;by_cases e:o=O.pr;rw[mw a,mw b,mw c,mw d,my e];exact⟨λh=>(by cases h),λh=>(by simp[e]at h)⟩;by_cases f:o=O.pm;rw[mw a,mw b,mw c,mw d,mw e,my f];exact⟨λh=>(by cases h),λh=>(by simp[f]at h)⟩;by_cases g:o=O.pc;rw[mw a,mw b,mw c,mw d,mw e,mw f,my g];exact⟨λh=>(by cases h),λh=>(by simp[g]at h)⟩;by_cases i:o=O.pb;rw[mw a,mw b,mw c,mw d,mw e,mw f,mw g,my i];exact⟨λh=>(by cases h),λh=>(by simp[i]at h)⟩;rw[mw a,mw b,mw c,mw d,mw e,mw f,mw g,mw i];exact⟨λ_=>⟨a,b,c,d,e,f,g,i⟩,λ_=>rfl⟩
theorem S6(n:Nat)(l:List (Int×Int)):BH n (.map (EB l))=true:=by
 simp only[BH,qG,EB,qg];intro p hp;obtain⟨x,_,rfl⟩:=qa.1 hp;exact⟨by simp[C_],by simp[C_]⟩
theorem Z8(n:Nat)(l:List ((Int×Int)×Int)):BH n (.map (EW l))=true:=by
 simp only[BH,qG,EW,qg];intro p hp;obtain⟨x,_,rfl⟩:=qa.1 hp;exact⟨by simp[Ba,C_,c_],by simp[C_]⟩
theorem VW(l:List (Int×Int))(x v:Int):l.length<=(EP l x v).length:=by
 have:∀l:List (Int×Int),l.length<=(DQ l x v).length:=by
  intro l
  induction l with
  | nil=>simp[DQ]
  | cons p l ih=>
   obtain⟨a,b⟩:=p;rw[DQ];split;simp;simp;exact ih
 unfold EP;split;exact this l;exact IO _
theorem Od(x:AB)(s:List (Int×Int)×List (Int×Int)):s.2.length<=(DD x s).2.2.length:=by
 unfold DD;split;split;exact IO _;exact VW _ _ _;exact IO _
theorem WS(x:AB)(s:List (Int×Int)×List (Int×Int)):∃i,(DD x s).1=G0 x i:=by
 unfold DD;split;split;exact⟨_,rfl⟩;exact⟨_,rfl⟩;exact⟨x.id,by cases x;rfl⟩
theorem kr{O:Mx}{n0 K:Nat}(mv:List ((Int×Int)×Int))(g:List (Int×Int))(t:∀k∈O.keys,k<n0)(d:O.keys.Nodup)(hK:K<=1048576):
 ak (Lw O mv g) n0 113 76 77 [] [.ptr O.pm 0,.ptr O.pr 0] [.ptr O.pb 0,.ptr O.pc 0] (MS mv g) (lim AG.l K) (RJ AG.l K) AG.l (λs=>s.2.length) 1099511627776:=by
 have f:O.kb≠O.kc:=λe=>by simp[Mx.keys,e]at d
 have q:∀k∈O.keys,k<n0:=t;simp only[Mx.keys,qe,vG,or_false,forall_eq_or_imp,forall_eq]at t;obtain⟨a1,a2,a3,a4,a5,a6,a7,a8⟩:=t;simp only[Mx.keys,qU,qe,vG,or_false,not_or,not_false_eq_true,List.nodup_nil,and_true]at d;obtain⟨⟨b1,z,A,B,C,D,E⟩,⟨F,G,I,J,L,M⟩,⟨P,Q,S,T,U⟩,⟨V,X,Y,Z⟩,⟨f5,f6,f7⟩,⟨g6,g7⟩,h7⟩:=d;refine { up:=⟨λ_ _ _=>IO _,λ_ _=>IO _,λx s=>Od x s⟩,lt:=λs o h=>?_,dom:=λs s' o h=>?_,cl:=λs o y h=>?_,zero:=λl h=>h,W:=λN id l s H n u ht d a=>?_,H:=λx s H n b _ d a=>?_,item:=λN x s H n _ ht d a=>?_,flow_ok:=λN id l s u=>?_,item_ok:=λN x s b _=>?_ };simp only[Lw];rw[mw mq,mw mq,mw mq,mw mq,mw mq,mw mq,mw mq,mw mq];exact OB.2 (OB.1 h);simp only[Lw]at h;split at h;cases h;exact S6 _ _;split at h;cases h;exact S6 _ _;split at h;cases h;exact S6 _ _;split at h;cases h;exact Z8 _ _;split at h;cases h;simpa[BH,C_,c_]using a3;split at h;cases h;simpa[BH,C_,c_]using a4;split at h;cases h;simpa[BH,C_,c_]using a1;split at h;cases h;simpa[BH,C_,c_]using a2;cases h;refine ww (eY id l H n) ?_;rintro v h' n' ⟨rfl,rfl,rfl⟩;exact⟨rfl,(DF s _ a).symm,rfl⟩;have h1:H O.pm=some (.cells [.map O.r]):=a _ _ (by simp[Lw,Ne.symm C,Ne.symm J,Ne.symm S,Ne.symm X,Ne.symm f5]);have h2:H O.pr=some (.cells [.map O.m]):=a _ _ (by simp[Lw,Ne.symm B,Ne.symm I,Ne.symm Q,Ne.symm V]);have j:H O.r=some (.map (EW mv)):=a _ _ (by simp[Lw,Ne.symm A,Ne.symm G,Ne.symm P]);have p:H O.m=some (.map (EB g)):=a _ _ (by simp[Lw,Ne.symm z,Ne.symm F]);refine ww (w76 x b mv g h1 h2 j p) ?_;rintro v h' n' ⟨rfl,rfl,rfl⟩;exact⟨rfl,(DF s _ a).symm,rfl⟩;have h1:H O.pb=some (.cells [.map O.kb]):=a _ _ (by simp[Lw,Ne.symm E,Ne.symm M,Ne.symm U,Ne.symm Z,Ne.symm f7,Ne.symm g7,Ne.symm h7]);have h2:H O.pc=some (.cells [.map O.kc]):=a _ _ (by simp[Lw,Ne.symm D,Ne.symm L,Ne.symm T,Ne.symm Y,Ne.symm f6,Ne.symm g6]);have j:H O.kb=some (.map (EB s.2)):=a _ _ (by simp[Lw,Ne.symm b1]);have p:H O.kc=some (.map (EB s.1)):=a _ _ (by simp[Lw]);have w:s.2.length<=1099511627776:=qC (Od x s) ht;refine ww (w77 x s.2 s.1 w h1 h2 j p f) ?_;rintro v h' n' ⟨rfl,rfl,rfl⟩;exact⟨rfl,(eK a _ f).symm,rfl⟩;exact⟨by have:=(Ca.1 u).1;simp only[MS];omega,(Ca.1 u).2.2⟩;obtain⟨i,e⟩:=WS x s;show gk _ _ N (DD x s).1;rw[e];exact⟨b.1,λ_=>b.2.1,λ_=>⟨by have:=b.2.2.1;show x.R.length<=_;omega,λr hr=>⟨(b.2.2.2 r hr).1,by have:=(b.2.2.2 r hr).2.1;omega,λc hc=>(b.2.2.2 r hr).2.2 c hc⟩⟩⟩
end Go.Proofs.YthinbkgpjmjfeaaGreatDoor.Sh
