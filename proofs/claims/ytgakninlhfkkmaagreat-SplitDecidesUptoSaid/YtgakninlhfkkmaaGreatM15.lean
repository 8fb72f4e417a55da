/- A part of the proof (part 15 of 17). -/
import Derived.Test.YtgakninlhfkkmaaGreatM14
namespace Go.Proofs.YtgakninlhfkkmaaGreat.Sh
open Proofs
set_option maxRecDepth 10000
def MX (l:List A7) (x:A7):Bool:=(decide (x.base≠0) && !SD l x.kind x.base)||(decide (x.next≠0)&&(decide (x.kind=2) || !SD l 1 x.next))
def Xp {α:Type} (p:α->Bool) (l:List α) (i:Nat):Prop:=(l.take i).any p=false
theorem Ra {α:Type} (p:α->Bool) (l:List α):Xp p l 0:=rfl
theorem RZ {α:Type} {p:α->Bool} {l:List α} {i:Nat} (hi:i<l.length) (h:Xp p l i) (g:p l[i]=false):Xp p l (i+1):=by
 unfold Xp at h ⊢;rw[qb hi,List.any_append,h];simp[g]
theorem UT {α:Type} {p:α->Bool} {l:List α} (h:Xp p l l.length):¬l.any p=true:=by
 unfold Xp at h;rw[qm]at h;rw[h];simp
theorem Tx {α:Type} {p:α->Bool} {l:List α} {i:Nat} (hi:i<l.length) (h:p l[i]=true):l.any p=true:=vo.2 ⟨_,qi hi,h⟩
set_option maxHeartbeats 4000000 in
theorem Z4 (l:List A7) (hl:l.length<=1048576) (hs:∀x∈l,x.props.length<=1048576):EC 146 [Aj l]:=by
 obtain⟨F,hF⟩:=EC.fam (A:=λi=>[Aj l,AA i]) (N:=l.length) (λi hi=>iy l hl hs i hi);obtain⟨V,hV⟩:∃V:Int,V=if(128:Int)<l.length then 9 else if CD F l.length≠0 then CD F l.length else if l.any (MX l)then 25 else if l.any (λx=>Qg l l.length x.id)then 16 else 0:=⟨_,rfl⟩
 refine⟨V,?_⟩;intro h n;refine cm Tryz.func146 rfl (by kernel_rfl) (by kernel_rfl) (by simp[go_sem]) λho B=>?_;have hHb:=ho.lt;obtain⟨G,hG⟩:∃G:Int->Hp,∀e,G e=hset h (n+1) (some (.cells [AA e])):=⟨_,λ_=>rfl⟩
 have hGa:∀e,G e (n+1)=some (.cells [AA e]):=λe=>by rw[hG,AD]
 have hGs:∀e e',hset (G e) (n+1) (some (.cells [AA e']))=G e':=λe e'=>by rw[hG,hG,Ah]
 have hGk:∀e j y,h j=some y->G e j=some y:=λe j y g=>by rw[hG,AE _ _ (by have:=hHb j y g;omega)];exact g
 have hGb:∀e j y,G e j=some y->j<n+2:=λe j y g=>by
  rw[hG]at g;simp only[hset]at g;split at g;omega;have:=hHb j y g;omega
 have out:∀(e:Int) (m:Nat),V=e->CO n (G e) m (AA e) (Is (AA V) h n):=λe m he=>On (T:=λv=>v=AA V) ho (hGk e) (by simp[closed]) (by rw[he]);refine By 1 [(1,.iptr [Aj l]),(2,.ptr (n+1) 0)] (G 0) (λm=>n+1<m) ?_ (λm hm=>?_);rw[hG];simp[go_sem,IO];refine⟨AZ (by simp[hset];exact AS hHb (qa _)) (by simp[hset]),λj y=>?_⟩;have:=hHb j y;simp only[hset];grind;refine Bg 0 [(1,.iptr [Aj l]),(2,.ptr (n+1) 0)] (G 0) (λm=>n+1<m/\¬(128:Int)<l.length) (AJ ?_) (λm hm=>?_);by_cases a1:(128:Int)<l.length;simp[go_sem,a1,hGa,hGs];exact out _ _ (by rw[hV,if_pos a1]);simp[go_sem,a1,IO,hm];obtain⟨hm,a1⟩:=hm;rw[if_neg a1]at hV;refine Bg 0 [(1,.iptr [Aj l]),(2,.ptr (n+1) 0)] (G 0) (λm=>n+1<m/\CD F l.length=0) ?_ (λm hm=>?_);refine By 0 [(1,.iptr [Aj l]),(2,.ptr (n+1) 0),(14,AA l.length),(15,AA 0)] (G 0) (λm=>n+1<m) ?_ (λm hm=>?_);simp[go_sem,IO,hm];refine AY (BT 0 (α:=Nat) (λi=>[(1,.iptr [Aj l]),(2,.ptr (n+1) 0),(14,AA l.length),(15,AA i)]) (λ_=>G 0) (λi m=>i<=l.length/\n+1<m/\CD F i=0) (λi=>l.length-i) 0 ⟨qg _,hm,rfl⟩ ?_ AC ?_);simp[go_sem,Ao,IO];rintro i m ⟨hi,hm,hI⟩;by_cases hlt:i<l.length;have w1:=wS i (by omega);refine AJ ?_;simp[go_sem,hlt];refine qz (hF i hlt) ?_;obtain⟨e,he⟩:∃e,F i=e:=⟨_,rfl⟩
 rw[he];by_cases e0:e=0;simp[go_sem,e0,w1,IO,-Int.natCast_add];exact⟨i+1,by omega,⟨by omega,hm,by rw[CD,if_pos hI,he,e0]⟩,rfl⟩;have e1:(e !=0)=true:=by simpa using e0
 have hne:F i≠0:=by rw[he];exact e0
 have ha:CD F l.length=e:=by rw[EM F hlt hI hne,he]
 simp[go_sem,e1,hGa,hGs];exact out _ _ (by rw[hV,if_pos (by rw[ha];exact e0),ha]);refine AJ ?_;have e:i=l.length:=by omega
 subst e;simp[go_sem,IO,hm,hI];obtain⟨hm,a2⟩:=hm;rw[if_neg (by rw[a2];simp)]at hV;refine Bg 0 [(1,.iptr [Aj l]),(2,.ptr (n+1) 0)] (G 0) (λm=>n+1<m/\Xp (MX l) l l.length) ?_ (λm hm=>?_)
 . refine By 0 [(1,.iptr [Aj l]),(2,.ptr (n+1) 0),(25,Aj l),(26,AA l.length),(27,AA 0)] (G 0) (λm=>n+1<m) ?_ (λm hm=>?_);simp[go_sem,IO,hm];refine AY (BT 0 (α:=Nat) (λi=>[(1,.iptr [Aj l]),(2,.ptr (n+1) 0),(25,Aj l),(26,AA l.length),(27,AA i)]) (λ_=>G 0) (λi m=>i<=l.length/\n+1<m/\Xp (MX l) l i) (λi=>l.length-i) 0 ⟨qg _,hm,Ra _ _⟩ ?_ AC ?_);simp[go_sem,Ao,IO];rintro i m ⟨hi,hm,hI⟩;by_cases hlt:i<l.length
   . have w1:=wS i (by omega);obtain⟨x,hx⟩:∃x,l[i]=x:=⟨_,rfl⟩
     obtain⟨X,hX⟩:∃X:SV,X=.iptr [AA x.id,AA x.kind,.str x.name,AA x.base,AA x.next,AU x.props]:=⟨_,rfl⟩
     refine By 0 [(1,.iptr [Aj l]),(2,.ptr (n+1) 0),(25,Aj l),(26,AA l.length),(27,AA i),(28,.bool true)] (G 0) (λm=>n+1<m) ?_ (λm hm=>?_);simp[go_sem,IO,hm,hlt];refine By 0 [(1,.iptr [Aj l]),(2,.ptr (n+1) 0),(25,Aj l),(26,AA l.length),(27,AA i)] (G 0) (λm=>n+1<m) ?_ (λm hm=>?_);simp[go_sem,IO,hm];refine AX 0 (α:=Unit) (λ_=>[(1,.iptr [Aj l]),(2,.ptr (n+1) 0),(25,Aj l),(26,AA l.length),(27,AA i)]) (λ_=>G 0) (λ_ m=>n+1<m/\MX l x=false) (AY ?_) (λ_ m hm=>?_)
     . refine By 1 [(1,.iptr [Aj l]),(2,.ptr (n+1) 0),(25,Aj l),(26,AA l.length),(27,AA i),(6,X)] (G 0) (λm=>n+1<m) ?_ (λm hm=>?_);have hHm:∀j y,G 0 j=some y->j<m:=λj y e=>by have:=hGb 0 j y e;omega
       rw[hX];simp[go_sem,IO,hlt,hx,A7.enc,AD];exact⟨by omega,AZ (AS hHm (qa _)) (AD _ _ _),AL hHm (AL hHm AC)⟩;refine By 0 [(1,.iptr [Aj l]),(2,.ptr (n+1) 0),(25,Aj l),(26,AA l.length),(27,AA i),(59,.bool (MX l x))] (G 0) (λm=>n+1<m) ?_ (λm hm=>?_)
       . rw[hX];obtain⟨q1,hq1⟩:∃q,SD l x.kind x.base=q:=⟨_,rfl⟩
         obtain⟨q2,hq2⟩:∃q,SD l 1 x.next=q:=⟨_,rfl⟩
         have hbad:MX l x=((decide (x.base≠0) && !q1)||(decide (x.next≠0)&&(decide (x.kind=2) || !q2))):=by rw[MX,hq1,hq2]
         have e208:∀(kd id:Int) (q:Bool),SD l kd id=q->∀{m:Nat} {K:SV->Hp->Nat->Prop},K (.bool q) (G 0) m->Ap (CC.plain.call true B) Tryz.prog 208 [Aj l,AA kd,AA id] (G 0) m K:=λkd id q e m K hK=>qz (fe l kd id hl) (by rw[e];exact hK);have second:x.next=0\/(x.next≠0/\x.kind=2)\/(x.next≠0/\x.kind≠2):=by
          by_cases c1:x.next=0;exact .inl c1;by_cases c2:x.kind=2;exact .inr (.inl ⟨c1,c2⟩);exact .inr (.inr ⟨c1,c2⟩)
         by_cases b0:x.base=0
         . rcases second with c1|⟨c1,c2⟩|⟨c1,c2⟩
           simp[go_sem,b0,c1,hbad,IO,hm]
           . have c1':(x.next !=0)=true:=by simpa using c1
             simp[go_sem,b0,c1,c1',c2,hbad,IO,hm]
           . have c1':(x.next !=0)=true:=by simpa using c1
             have c2':(x.kind==2)=false:=by simpa using c2
             simp[go_sem,b0,c1',c2'];refine e208 _ _ _ hq2 ?_;cases q2<;>simp[go_sem,b0,c1,c2,hbad,IO,hm]
         . have b0':(x.base !=0)=true:=by simpa using b0
           simp[go_sem,b0'];refine e208 _ _ _ hq1 ?_;cases q1 with
           | false=>simp[go_sem,b0,hbad,IO,hm]
           | true=>
            rcases second with c1|⟨c1,c2⟩|⟨c1,c2⟩
            simp[go_sem,b0,c1,hbad,IO,hm]
            . have c1':(x.next !=0)=true:=by simpa using c1
              simp[go_sem,b0,c1,c1',c2,hbad,IO,hm]
            . have c1':(x.next !=0)=true:=by simpa using c1
              have c2':(x.kind==2)=false:=by simpa using c2
              simp[go_sem,c1',c2'];refine e208 _ _ _ hq2 ?_;cases q2<;>simp[go_sem,b0,c1,c2,hbad,IO,hm]
       obtain⟨b,hb⟩:∃b,MX l x=b:=⟨_,rfl⟩
       rw[hb];refine AJ ?_;cases b with
       | true=>simp[go_sem,hGa,hGs];exact out _ _ (by rw[hV,if_pos (Tx hlt (by rw[hx];exact hb))])
       | false=>simp[go_sem,IO,hm]
     refine AJ ?_;simp[go_sem,w1,IO,-Int.natCast_add];exact⟨i+1,by omega,⟨by omega,hm.1,RZ hlt hI (by rw[hx];exact hm.2)⟩,rfl⟩
   refine AJ ?_;have e:i=l.length:=by omega
   subst e;simp[go_sem,IO,hm,hI]
 obtain⟨hm,a3⟩:=hm;rw[if_neg (UT a3)]at hV;refine Bg 0 [(2,.ptr (n+1) 0)] (G 0) (λm=>n+1<m/\Xp (λx=>Qg l l.length x.id) l l.length) ?_ (λm hm=>?_)
 . refine By 0 [(1,.iptr [Aj l]),(2,.ptr (n+1) 0),(61,Aj l),(62,AA l.length),(63,AA 0)] (G 0) (λm=>n+1<m) ?_ (λm hm=>?_);simp[go_sem,IO,hm];refine AY (BT 0 (α:=Nat) (λi=>[(1,.iptr [Aj l]),(2,.ptr (n+1) 0),(61,Aj l),(62,AA l.length),(63,AA i)]) (λ_=>G 0) (λi m=>i<=l.length/\n+1<m/\Xp (λx=>Qg l l.length x.id) l i) (λi=>l.length-i) 0 ⟨qg _,hm,Ra _ _⟩ ?_ AC ?_);simp[go_sem,Ao,IO];rintro i m ⟨hi,hm,hI⟩;by_cases hlt:i<l.length
   . have w1:=wS i (by omega);obtain⟨x,hx⟩:∃x,l[i]=x:=⟨_,rfl⟩
     refine By 0 [(1,.iptr [Aj l]),(2,.ptr (n+1) 0),(61,Aj l),(62,AA l.length),(63,AA i),(64,.bool true)] (G 0) (λm=>n+1<m) ?_ (λm hm=>?_);simp[go_sem,IO,hm,hlt];refine By 0 [(1,.iptr [Aj l]),(2,.ptr (n+1) 0),(61,Aj l),(62,AA l.length),(63,AA i)] (G 0) (λm=>n+1<m) ?_ (λm hm=>?_);simp[go_sem,IO,hm];refine AX 0 (α:=Unit) (λ_=>[(1,.iptr [Aj l]),(2,.ptr (n+1) 0),(61,Aj l),(62,AA l.length),(63,AA i)]) (λ_=>G 0) (λ_ m=>n+1<m/\Qg l l.length x.id=false) (AY ?_) (λ_ m hm=>?_)
     . refine By 1 [(1,.iptr [Aj l]),(2,.ptr (n+1) 0),(61,Aj l),(62,AA l.length),(63,AA i),(8,.iptr [AA x.id,AA x.kind,.str x.name,AA x.base,AA x.next,AU x.props])] (G 0) (λm=>n+1<m) ?_ (λm hm=>?_);have hHm:∀j y,G 0 j=some y->j<m:=λj y e=>by have:=hGb 0 j y e;omega
       simp[go_sem,IO,hlt,hx,A7.enc,AD];exact⟨by omega,AZ (AS hHm (qa _)) (AD _ _ _),AL hHm (AL hHm AC)⟩;refine By 0 [(1,.iptr [Aj l]),(2,.ptr (n+1) 0),(61,Aj l),(62,AA l.length),(63,AA i),(8,.iptr [AA x.id,AA x.kind,.str x.name,AA x.base,AA x.next,AU x.props]),(9,.ptr m 0)] (hset (G 0) m (some (.cells [AA 0]))) (λm2=>m<m2) ?_ (λm2 hm2=>?_);simp[go_sem,IO,AD,Ah];refine B8 0 (α:=Hp×Nat) (λz=>[(1,.iptr [Aj l]),(2,.ptr (n+1) 0),(61,Aj l),(62,AA l.length),(63,AA i),(9,.ptr m 0),(70,.fn (.func 270) [] [.iptr [Aj l],.ptr z.2 0])]) (λz=>z.1) (λz m3=>m2<=z.2/\z.2<m3/\z.1 z.2=some (.cells [AA x.id])/\∀o y,hset (G 0) m (some (.cells [AA 0])) o=some y->z.1 o=some y) ?_ (λz m3 hm3=>?_);simp[go_sem];refine qP (iU l x.id) ?_;rintro v H' n' ⟨k,rfl,g1,g2,g3,g4⟩;simp[go_sem,IO];exact⟨H',k,⟨g1,g2,g3,g4⟩,rfl,AC⟩;obtain⟨z,k⟩:=z;obtain⟨k1,k2,k3,k4⟩:=hm3;dsimp only at k1 k2 k3 k4 ⊢;refine AY ?_;refine Et rfl rfl rfl λE1 yl R hY=>?_;have za:z (n+1)=some (.cells [AA 0]):=k4 _ _ (by rw[AE _ _ (by omega)];exact hGa 0);have zm:z m=some (.cells [AA 0]):=k4 _ _ (AD _ _ _);let D:Nat->Prop:=λo=>o=n+1\/o=m\/o=m3;let J:Nat->Hp->Nat->Prop:=λc hh mm=>m3<mm/\c<=l.length/\hh (n+1)=some (.cells [AA 0])/\hh m=some (.cells [AA c])/\hh m3=some (.loop (R .ready none));let Jx:Hp->Nat->Prop:=λhh mm=>m3<mm/\hh (n+1)=some (.cells [AA 16])/\hh m3=some (.loop (R .done (some .ret)));have Y:YX E1 yl l.length J Jx D:=by
        refine⟨λc y hh mm hJ=>?_,?_,?_⟩;obtain⟨g0,gc,g1,g2,g3⟩:=hJ;have q1:n+1≠mm:=by omega
        have q2:m≠mm:=by omega
        have q3:m3≠mm:=by omega
        have q3':=q3.symm;have q4:m≠m3:=by omega
        have q5:n+1≠m3:=by omega
        have q6:n+1≠m:=by omega
        have w2:=wS c (by omega);refine hY _ _ _ _ g3 rfl (Je ?_);by_cases hc:c+1<=l.length;have hc':¬(((l.length:Nat):Int)<((c+1:Nat):Int)):=by omega
        simp[go_sem,J0,A7.enc,AD,AE,g2,g3,q4,w2,hc',Hg,-Int.natCast_add];refine⟨by rw[AE _ _ q4.symm,AD],λo g1 g2=>?_,hc,?_⟩;have e1:o≠m:=λe=>g1 (.inr (.inl e));have e2:o≠m3:=λe=>g1 (.inr (.inr e));have e3:o≠mm:=by omega
        simp[hset,e1,e2];exact⟨by omega,hc,by simp[hset,q5,q6,g1],by simp[hset,q4],by simp[hset]⟩;have hc':(((l.length:Nat):Int)<((c+1:Nat):Int)):=by omega
        simp[go_sem,J0,A7.enc,AD,AE,g1,g2,g3,q4,q5,q6,w2,hc',Hg,-Int.natCast_add];refine⟨by rw[AE _ _ q5.symm,AE _ _ q4.symm,AD],λo g1 g2=>?_,?_⟩;have e0:o≠n+1:=λe=>g1 (.inl e);have e1:o≠m:=λe=>g1 (.inr (.inl e));have e2:o≠m3:=λe=>g1 (.inr (.inr e));have e3:o≠mm:=by omega
        simp[hset,e0,e1,e2];exact⟨by omega,by omega,by simp[hset,q5],by simp[hset]⟩;rintro c hh mm h' m' ⟨g0,gc,g1,g2,g3⟩ hmm hD;exact⟨by omega,gc,by rw[hD _ (.inl rfl)];exact g1,by rw[hD _ (.inr (.inl rfl))];exact g2,by rw[hD _ (.inr (.inr rfl))];exact g3⟩;rintro c hh mm ⟨g0,gc,g1,g2,g3⟩ o (rfl|rfl|rfl)<;>omega
       have hkm3:k≠m3:=by omega
       refine we (cK Y l hl (id:=x.id) (k:=k) (by rw[AE _ _ hkm3];exact k3) (by rintro(g|g|g)<;>omega) ⟨by omega,qg _,by rw[AE _ _ (by omega)];exact za,by rw[AE _ _ (by omega)];exact zm,AD _ _ _⟩) ?_;rintro v h' m' ⟨hm',hfr,⟨hch,c,g0,gc,g1,g2,g3⟩|⟨hch,g0,g1,g3⟩⟩;refine⟨_,_,g3,by simp,?_⟩;simp[go_sem];refine⟨⟨by omega,hch⟩,λo y e=>?_⟩;have o1:o<n+2:=hGb 0 o y e;by_cases o2:o=n+1;subst o2;rw[AE _ _ (by omega),g1,<-e,hGa];rw[AE _ _ (by omega),hfr o (by rintro(g|g|g)<;>omega) (by omega) (by omega),AE _ _ (by omega)];exact k4 _ _ ((AE _ _ (by omega)).trans e);refine⟨_,_,g3,by simp,?_⟩;simp[go_sem];rw[AE _ _ (by omega:n+1≠m3),g1];refine⟨_,rfl,On (T:=λv=>v=AA V) ho (λo y e=>?_) (by simp[closed]) (by rw[hV,if_pos (Tx hlt (by rw[hx];exact hch))])⟩;have o1:o<n:=hHb o y e;rw[AE _ _ (by omega),hfr o (by rintro(g|g|g)<;>omega) (by omega) (by omega),AE _ _ (by omega)];exact k4 _ _ ((AE _ _ (by omega)).trans (hGk 0 _ _ e))
     refine AJ ?_;simp[go_sem,w1,IO,-Int.natCast_add];exact⟨i+1,by omega,⟨by omega,hm.1,RZ hlt hI (by rw[hx];exact hm.2)⟩,rfl⟩
   refine AJ ?_;have e:i=l.length:=by omega
   subst e;simp[go_sem,IO,hm,hI]
 obtain⟨hm,a4⟩:=hm;rw[if_neg (UT a4)]at hV;refine AJ ?_;simp[go_sem,hGa,hGs];exact out _ _ hV
theorem jA (s:AI) (a:s.sizedT):EC 83 [s.enc]:=
 e83 s (Z4 _ a.styles a.props)
  (iu _ a.lists λi hi=>iz _ a.lists i hi (i6 _ (a.levels _ (qi hi)) λx b k=>⟨_,gU x.template (a.tpl _ (qi hi) x b) k⟩))
  (iv _ a.comments λi hi=>i7 _ a.comments a.com i hi)
  (iw _ a.vars λi hi=>i8 _ a.vars a.var i hi)
section
variable {K K' : Ck} (h0 : K.m0 = K'.m0) (h1 : K.m1 = K'.m1) (h2 : K.m2 = K'.m2)
include h0 h1
theorem LF:Gg K=Gg K':=by funext a b;unfold Gg;rw[h0,h1]
include h2
theorem Li:EV K=EV K':=by
 have d:Ia K=Ia K':=by funext a b;unfold Ia;rw[LF h0 h1]
 have e:Fc K=Fc K':=by funext a;unfold Fc;rw[h2]
 have f:Jq K=Jq K':=by funext a b;unfold Jq;rw[h2]
 have g:Jr K=Jr K':=by funext a b c;unfold Jr;rw[h2,LF h0 h1]
 funext a b;unfold EV;rw[d,e,f,g]
theorem S9:∀(N:Nat) (a:BN) (l:List AB),gN K N a l↔gN K' N a l
 | 0,_,_=>Iff.rfl
 | N+1,a,l=>by
  have e:=Li h0 h1 h2;have g:=S9 N;simp only[gN,e,g]
end
noncomputable def av (s:AI):Int:=open Classical in if h:∃e:Int,PC 83 [s.enc] (AA e)then h.choose else 0
theorem Vp {s:AI} (h:EC 83 [s.enc]):PC 83 [s.enc] (AA (av s)):=by
 have h':∃e:Int,PC 83 [s.enc] (AA e):=h;unfold av;rw[dif_pos h'];exact h'.choose_spec
def Kd (d:AG):Ck:=⟨0,0,0,0,0,0,HV d.settings.styles d.settings.styles.length,BU [] (d.settings.lists.map (·.id)),BU [] (d.revs.map (·.id))⟩
structure DU (N:Nat) (d:AG):Prop where
 settings:av d.settings=0
 revs:El d.revs=0
 endH:EV (Kd d) 3 d.«end» = 0
 endI:d.«end».ins=0
 endM:d.«end».move=0
 endD:d.«end».dels=[]
 flow:gN (Kd d) N ⟨true,false,0⟩ d.flow
 ids:CX [] (GU N d.flow)
 units:IntKind.i64.wrap (Oz N d.flow)<=16384
def Ze (T:Prop) (v:SV):Prop:=∃e:Int,v=AA e/\(e=0↔T)
theorem GH {a b:Int}:Bc [a,b]=0↔a=0/\b=0:=by
 simp only[Bc];by_cases c:a=0<;>by_cases hb:b=0<;>simp[c,hb]
set_option maxHeartbeats 2000000 in
theorem jr (d:AG) {B N:Nat} (hB:B<=1048576) (hl:Dq AF.sized B N d.flow) (he:d.«end».sized) (h1:d.settings.styles.length<=1048576) (h2:d.settings.lists.length<=1048576) (h3:d.revs.length<=1048576) (h4:∀r∈d.revs,r.author.size<=1048576)
 (h83:EC 83 [d.settings.enc]):TC 24 [d.enc] (Ze (DU N d)):=by
 intro h n;refine DO Tryz.func24 rfl λho=>?_;have hHb:=ho.lt;obtain⟨X,hX⟩:∃X:SV,X=.iptr ([AK d.flow]++d.«end».flat++[BE d.revs]++d.settings.flat):=⟨_,rfl⟩
 obtain⟨T,hT⟩:∃T:Prop,T=DU N d:=⟨_,rfl⟩
 rw[<-hT];have no:∀(e:Int) (H2:Hp) (m:Nat),e≠0->¬T->(∀j y,h j=some y->H2 j=some y)->CO n H2 m (AA e) (λv h' n'=>Ze T v/\h'=h/\n'=n):=λe H2 m he hb hh=>On ho hh (by simp[closed]) ⟨e,rfl,λg=>absurd g he,λg=>absurd g hb⟩;refine Aa 1 [(1,X)] h n ?_ (λm hm=>?_);rw[hX];simp[go_sem,AG.enc,AF.flat,AI.flat];exact⟨AZ (AS hHb (qa _)) (AD _ _ _),AL hHb AC⟩;refine Bg 0 [(1,X)] h (λm=>n<=m/\av d.settings=0/\El d.revs=0) ?_ (λm hm=>?_)
 . refine AX 0 (α:=Int) (λe=>[(1,X),(3,AA e)]) (λ_=>h) (λe m=>n<=m/\e=Bc [av d.settings,El d.revs]) (CK dQ rfl (by kernel_rfl) (by kernel_rfl) ?_) (λe m hm=>?_);have hHm:∀j y,h j=some y->j<m:=λj y e=>by have:=hHb j y e;omega
   rw[hX];simp[go_sem,dQ,AF.flat,AI.flat];refine qz (by simpa[AI.enc,AI.flat]using Vp h83) ?_;generalize av d.settings=e;simp[go_sem];refine(c84 d.revs h3 h4).use ?_;generalize El d.revs=e2;simp[go_sem];refine wn (bs:=[.imm 1 ([e,e2].map AA) false]) (h2:=h) 1 (AL hHm AC) ⟨?_,trivial⟩ ?_;exact Cz (es:=[AA e,AA e2]) (AS hHm (qa _)) (by simp) (by rw[AD];simp[SV.cells]) (by simp[SV.storable,SV.cells]);refine(Sa _ (by simp)).use ?_;generalize Bc [e,e2]=ef;simp[go_sem,IO]
   first|exact⟨ef,⟨by omega,rfl⟩,IO⟩|exact⟨by omega,IO⟩|(trace_state;omega)
   obtain⟨hm,hef⟩:=hm;by_cases e0:e=0
   case neg=>exact AJ (by simp[go_sem,e0];exact no e _ _ e0 (λg=>e0 (by rw[hT]at g;rw[hef];exact GH.2 ⟨g.settings,g.revs⟩)) AC)
   have hrv:=GH.1 (hef▸e0);rw[e0];exact AJ (by simp[go_sem,IO,hm,hrv])
 obtain⟨hm,h8,hrv⟩:=hm;refine B8 0 (α:=Ck) (λq=>[(1,X),(4,.ptr q.p 0)]) (λq=>BD q.st ([],0) h) (λq m=>n<=m/\q.ok m/\q.m2=(Kd d).m2/\q.m0=(Kd d).m0/\q.m1=(Kd d).m1/\∀o y,q.st ([],0) o=some y->n<=o) ?_ (λK n1 hq=>?_);rw[hX];simp[go_sem,AF.flat,AI.flat];refine qP (by simpa[AG.enc,AF.flat,AI.flat]using iq d h1 h2 h3 (h:=h) (n:=m)) ?_;rintro v H' n' ⟨K,a1,a2,rfl,a4,a5,b0,b1,a6,a7⟩;simp[go_sem,IO];refine⟨K,⟨by omega,a1,a5,b0,b1,λo y e=>by have:=a7 o y e;omega⟩,IO,λo y e=>?_⟩;simp only[BD]at e;cases c:K.st ([],0) o with
 | some z=>rw[c]at e;cases e;exact a4 o y c
 | none=>rw[c]at e;exact a6 o y e
 obtain⟨hn1,hK,hm2,hm0,hm1,hlo⟩:=hq;have D:=hK.clo;have hlos:∀s' o y,K.st s' o=some y->n<=o:=λs' o y e=>by
  cases c:K.st ([],0) o with
  | some z=>exact hlo o z c
  | none=>rw[D.dom ([],0) s' o c]at e;cases e
 have BV:∀s',∀j y,h j=some y->BD K.st s' h j=some y:=λs' j y e=>by
  simp only[BD];cases c:K.st s' j with
  | some z=>have:=hlos s' j z c;have:=hHb j y e;omega
  | none=>exact e
 have hUb:∀s' j y,BD K.st s' h j=some y->j<n1:=λs' j y e=>(D.old s' (qa _) (λj y e=>⟨by have:=hHb j y e;omega,H8 hn1 (ho j y e).2⟩) j y e).1;have hps:∀s',BD K.st s' h K.p=some (.cells [.map K.s0,.map K.s1,.map K.s2,.map K.s3,.map K.s4,AA s'.2]):=λs'=>(hK.has (s:=s') Cl).p;refine Aa 1 [(1,X),(4,.ptr K.p 0),(5,.iptr [AA d.«end».ins,AA d.«end».move,Ax d.«end».dels,Ai d.«end».layers])] (BD K.st ([],0) h) n1 ?_ (λm hm=>?_);rw[hX];simp[go_sem,IO,AF.flat,AI.flat,AD];exact⟨AZ (AS (hUb _) (qa _)) (AD _ _ _),AL (hUb _) (AL (hUb _) AC)⟩;refine Bg 0 [(1,X),(4,.ptr K.p 0)] (BD K.st ([],0) h) (λm=>n1<=m/\EV K 3 d.«end» = 0/\d.«end».ins=0/\d.«end».move=0/\d.«end».dels=[]) ?_ (λm hm=>?_)
 . have hd:=YG hK ([],0) 3 d.«end» he (H:=BD K.st ([],0) h) (n:=m) hm Cl;obtain⟨eh,heh⟩:∃eh,EV K 3 d.«end» = eh:=⟨_,rfl⟩
   rw[heh]at hd ⊢;refine AX 0 (α:=Int) (λe=>[(1,X),(4,.ptr K.p 0),(6,AA e)]) (λ_=>BD K.st ([],0) h) (λe m=>n1<=m/\(e=0↔eh=0/\d.«end».ins=0/\d.«end».move=0/\d.«end».dels=[])) (CK Yz rfl (by kernel_rfl) (by kernel_rfl) ?_) (λe8 m hm=>?_);rw[hX];have fin:∀(e ea:Int) (m1:Nat) (KK:SV->Hp->Nat->Prop),n1<=m1->KK (AA (Bc [e,ea])) (BD K.st ([],0) h) (m1+1)->Ap (CC.plain.call false 0) Tryz.prog 82 [.sl m1 0 1 2 true] (hset (BD K.st ([],0) h) m1 (some (.cells [AA e,AA ea]))) (m1+1) KK:=λe ea m1 KK hm1 hk=>by
    refine wn (bs:=[.imm 1 ([e,ea].map AA) false]) (h2:=BD K.st ([],0) h) 1 (AL (λj z e=>by have:=hUb ([],0) j z e;omega) AC) ⟨?_,trivial⟩ ?_;exact Cz (es:=[AA e,AA ea]) (AS (hUb ([],0)) hm1) (by simp) (by rw[AD];simp[SV.cells]) (by simp[SV.storable,SV.cells]);exact(Sa _ (by simp)).use hk
   have hd':∀KK:SV->Hp->Nat->Prop,KK (AA eh) (BD K.st ([],0) h) m->Ap (CC.plain.call false 0) Tryz.prog 86 [.ptr K.p 0,AA 3,.agg [AU d.«end».props,AA d.«end».ins,AA d.«end».move,Ax d.«end».dels,Ai d.«end».layers]] (BD K.st ([],0) h) m KK:=λKK hk=>by
    refine qP (by simpa[AF.enc,AF.flat]using hd) ?_;rintro v H' n' ⟨rfl,rfl,rfl⟩;exact hk
   clear hd heh;generalize hin:d.«end».ins=ins at hd' ⊢;generalize hmv:d.«end».move=mv at hd' ⊢;by_cases i0:ins=0;subst i0;by_cases m0:mv=0;subst m0;simp[go_sem,Yz,AF.flat,hin,hmv];refine hd' _ ?_;simp[go_sem];refine(Ki _ _).use ?_;simp[go_sem];refine fin _ _ _ _ hm ?_;generalize hf:Bc [eh,_]=ef;simp[go_sem,IO];refine⟨ef,⟨by omega,?_⟩,IO⟩;rw[<-hf,GH];by_cases dl:d.«end».dels=[]<;>simp[dl];simp[go_sem,Yz,AF.flat,hin,hmv,m0];refine hd' _ ?_;simp[go_sem,m0];refine(Ki _ _).use ?_;simp[go_sem];refine fin _ _ _ _ hm ?_;generalize hf:Bc [eh,_]=ef;simp[go_sem,IO];have hne:¬ef=0:=by rw[<-hf,GH];simp
   exact⟨ef,⟨by omega,hne⟩,IO⟩;simp[go_sem,Yz,AF.flat,hin,hmv,i0];refine hd' _ ?_;simp[go_sem,i0];refine(Ki _ _).use ?_;simp[go_sem];refine fin _ _ _ _ hm ?_;generalize hf:Bc [eh,_]=ef;simp[go_sem,IO];have hne:¬ef=0:=by rw[<-hf,GH];simp
   exact⟨ef,⟨by omega,hne⟩,IO⟩;obtain⟨hm,hz⟩:=hm;have hE:=Li hm0 hm1 hm2;by_cases e80:e8=0
   case neg=>exact AJ (by simp[go_sem,e80];exact no e8 _ _ e80 (λg=>e80 (by rw[hT]at g;exact hz.2 ⟨by rw[<-heh,hE];exact g.endH,g.endI,g.endM,g.endD⟩)) (BV _))
   have hhd:=hz.1 e80;rw[e80];exact AJ (by simp[go_sem,IO,hm,hhd])
 obtain⟨hm,hhd⟩:=hm;refine AX 0 (α:=GR) (λ_=>[(4,.ptr K.p 0)]) (λq=>BD K.st q h) (λq m=>n1<=m/\Dh ([],0) (GU N d.flow) (Oz N d.flow) q/\CX [] (GU N d.flow)/\gN K N ⟨true,false,0⟩ d.flow) (AJ ?_) (λq m hm=>?_);rw[hX];simp[go_sem,AF.flat,AI.flat];refine qP (by simpa[BN.enc]using Pu hK hB N d.flow hl ([],0) ⟨true,false,0⟩ (BD K.st ([],0) h) m hm Cl) ?_;rintro v H' n' ⟨e,s2,rfl,hT2,rfl,rfl⟩;rw[D.up2];by_cases e0:e=0;obtain⟨b1,b2,b3⟩:=hT2.1 e0;simp[go_sem,e0,IO];exact⟨s2.1,s2.2,⟨hm,b3,b2,b1⟩,AC⟩;simp[go_sem,e0];exact no e _ _ e0 (λg=>by rw[hT]at g;exact hT2.2 e0 ⟨(S9 hm0 hm1 hm2 ..).2 g.flow,g.ids⟩) (BV _);obtain⟨_,hnx,hfr,hgn⟩:=hm;have hun:IntKind.i64.wrap (Oz N d.flow)=q.2:=by
  have h1:=hnx.rg (by simp only[IntKind.wrap_i64];rfl);have h2:=hnx.un;rw[h1]at h2;rw[h2];simp
 have hE:=Li hm0 hm1 hm2;have hTT:T↔q.2<=16384:=by
  rw[hT];exact⟨λg=>by rw[<-hun];exact g.units,λg=>⟨h8,hrv,by rw[<-hE];exact hhd.1,hhd.2.1,hhd.2.2.1,hhd.2.2.2,(S9 hm0 hm1 hm2 ..).1 hgn,hfr,by rw[hun];exact g⟩⟩
 refine AJ ?_;simp[go_sem,hps];refine(Ki _ _).use ?_;simp[go_sem];refine On ho (BV _) (by simp[closed]) ⟨_,rfl,?_⟩;rw[hTT];by_cases c:16384<q.2
 . simp[c];try omega
 . simp[c];try omega
theorem G1 {F:Nat->Int} {n:Nat}:CD F n=0↔∀k,k<n->F k=0:=
 ⟨λh=>JK h,λh=>by
  induction n with
  | zero=>rfl
  | succ n ih=>rw[CD,if_pos (ih λk hk=>h k (by omega))];exact h n (by omega)⟩
structure In (K:Ck) (el:Int) (h:AF):Prop where
 props:CY el h.props=0
 refs:∀j,j<h.props.length->Ia K h.props j=0
 ins:Fc K h=false
 mv:It h=false
 dlen:h.dels.length<=16
 dels:∀j,j<h.dels.length->Jq K h.dels j=0
 llen:h.layers.length<=64
 layers:∀j,j<h.layers.length->Jr K el h.layers j=0
theorem D8 {K:Ck} {el:Int} {h:AF}:EV K el h=0↔In K el h:=by
 unfold EV;constructor
 . intro g;by_cases a1:CY el h.props=0
   case neg=>rw[if_pos a1]at g;exact absurd g a1
   rw[if_neg (by rw[a1];simp)]at g;by_cases a2:CD (Ia K h.props) h.props.length=0
   case neg=>rw[if_pos a2]at g;exact absurd g a2
   rw[if_neg (by rw[a2];simp)]at g;cases a3:Fc K h with
   | true=>rw[a3]at g;simp at g
   | false=>
   cases a4:It h with
   | true=>rw[a3,a4]at g;simp at g
   | false=>
   rw[a3,a4]at g;simp only[qn,if_false]at g;by_cases a5:16<h.dels.length
   case pos=>rw[if_pos a5]at g;cases g
   rw[if_neg a5]at g;by_cases a6:CD (Jq K h.dels) h.dels.length=0
   case neg=>rw[if_pos a6]at g;exact absurd g a6
   rw[if_neg (by rw[a6];simp)]at g;by_cases a7:64<h.layers.length
   case pos=>rw[if_pos a7]at g;cases g
   rw[if_neg a7]at g;exact⟨a1,G1.1 a2,a3,a4,by omega,G1.1 a6,by omega,G1.1 g⟩
 rintro⟨a1,a2,a3,a4,a5,a6,a7,a8⟩;rw[if_neg (by rw[a1];simp),if_neg (by rw[G1.2 a2];simp),a3,a4,if_neg (by simp),if_neg (by simp),if_neg (by omega),if_neg (by rw[G1.2 a6];simp),if_neg (by omega)];exact G1.2 a8
theorem G6 {K:Ck} {l:List Bs} {j:Nat} (a:j<l.length):Jq K l j=0↔l[j].rev∈K.m2/\(0<j->l[j-1].rev<l[j].rev)/\0<=l[j].move/\l[j].move<=1073741824:=by
 rw[Jq,qe a];dsimp only;by_cases a1:l[j].rev∈K.m2<;>by_cases a2:0<j<;>by_cases a3:0<=l[j].move/\l[j].move<=1073741824
 all_goals first
  | (by_cases a4:l[j].rev<=l[j-1].rev<;>simp[a1,a2,a3,List.getD,show j-1<l.length by omega,a4]<;>omega)
  | (simp[a1,a2,a3])
theorem In.ok {K:Ck} {el:Int} {h:AF} (g:In K el h):Hd K.m2 h where
 ins:=by
  have:=g.ins;by_cases a:h.ins=0;exact .inl a;right;simpa[Fc,a]using this
 dlen:=g.dlen
 dels x hx:=by obtain⟨j,b,rfl⟩:=kY hx;exact((G6 b).1 (g.dels j b)).1
 llen:=g.llen
 layers x hx:=by
  obtain⟨j,b,rfl⟩:=kY hx;have:=g.layers j b;rw[Jr,qe b]at this;dsimp only at this;by_cases a:h.layers[j].rev∈K.m2;exact a;simp[a]at this
 inc i hi h0:=((G6 hi).1 (g.dels i hi)).2.1 h0
 mv:=by
  have:=g.mv;simp only[It,Bool.or_eq_false_iff,Bool.not_eq_false',decide_eq_true_eq]at this;exact this.1.1
 dmv x hx:=by obtain⟨j,b,rfl⟩:=kY hx;exact((G6 b).1 (g.dels j b)).2.2.1
theorem Kx {x:AB} (h:G7 x=0):Wb x:=by
 unfold G7 at h;cases a1:P6 x with
 | true=>rw[a1]at h;simp at h
 | false=>
 cases a2:Ni x with
 | true=>rw[a1,a2]at h;simp at h
 | false=>
 cases a3:A5 x.text with
 | false=>rw[a1,a2,a3]at h;simp at h
 | true=>
 simp only[Ni,Bool.or_eq_false_iff,Bool.and_eq_false_imp,decide_eq_true_eq,decide_eq_false_iff_not]at a2;exact⟨λk=>List.length_eq_zero_iff.1 (by have:=a2.1.2 k;omega),λk=>List.length_eq_zero_iff.1 (by have:=a2.2 k;omega),a3⟩
theorem Wd {K:Ck}:∀(N:Nat) (e:BN) (l:List AB),gN K N e l->Xr K.m2 N l
 | 0,_,_,_=>trivial
 | N+1,e,l,h=>λx j=>by
  obtain⟨g,_,_,_,_,g6,g7,g8⟩:=h x j;have a:=Kx g;refine⟨a,(D8.1 g6).ok,?_,λk=>(g8 k).1,λr b=>?_⟩;by_cases k:x.kind=6;exact Wd N _ _ (g7 k);rw[a.1 k];exact Yh _ _;by_cases k:x.kind=7;obtain⟨_,_,i⟩:=g8 k;obtain⟨b1,f,_,d⟩:=i r b;exact⟨⟨(D8.1 b1).ok,f⟩,λc hc=>⟨(D8.1 (d c hc).1).ok,Wd N _ _ (d c hc).2⟩⟩;rw[a.2.1 k]at b;cases b
theorem DU.ok {N:Nat} {d:AG} (g:DU N d):Re N d where
 flow:=Wd N _ _ g.flow
 ids i hi:=⟨(g.ids.1 i hi).1,(g.ids.1 i hi).2.1⟩
 nodup:=g.ids.2
 revs:=g.revs
 «end»:=(D8.1 g.endH).ok
 endI:=g.endI
def Te (T:Prop) (N:Nat) (d:AG) (v:SV):Prop:=∃b,v=.bool b/\(b=true->T/\Og N d.flow/\Tm N d.flow<=150)
set_option maxHeartbeats 4000000 in
theorem jq (T:Prop) (d:AG) {B N:Nat} (hB:B<=1048576) (hl:Dq AF.sized B N d.flow) (hc:TC 24 [d.enc] (Zd T)):TC 12 [d.enc] (Te T N d):=by
 intro h n;refine DO Tryz.func12 rfl λho=>?_;have hHb:=ho.lt;have fin:∀(b:Bool) (c:Bb) (m:Nat),(b=true->T/\Og N d.flow/\Tm N d.flow<=150)->CO n (hset h (n+1) (some c)) m (.bool b) (λv h' n'=>Te T N d v/\h'=h/\n'=n):=λb c m hb=>On ho (AL (λj z e=>by have:=hHb j z e;omega) AC) (by simp[closed]) ⟨b,rfl,hb⟩;refine By 1 [(1,.iptr ([AK d.flow]++d.«end».flat++[BE d.revs]++d.settings.flat))] h (λm=>n+1=m) ?_ (λm hm=>?_);simp[go_sem,AG.enc,AF.flat,AI.flat];exact⟨AZ (AS hHb (qa _)) (AD _ _ _),AL hHb AC⟩;subst hm;refine By 0 [(1,.iptr ([AK d.flow]++d.«end».flat++[BE d.revs]++d.settings.flat)),(3,.ptr (n+1) 0)] (hset h (n+1) (some (.cells [AA 150]))) (λm=>n+2=m) ?_ (λm hm=>?_);simp[go_sem,IO,AD,Ah];subst hm;have hGb:∀j y,hset h (n+1) (some (.cells [AA 150])) j=some y->j<n+2:=λj y e=>by
  simp only[hset]at e;split at e;omega;have:=hHb j y e;omega
 refine By 1 [(1,.iptr ([AK d.flow]++d.«end».flat++[BE d.revs]++d.settings.flat)),(3,.ptr (n+1) 0),(4,.iptr d.settings.flat)] (hset h (n+1) (some (.cells [AA 150]))) (λm=>n+2<=m) ?_ (λm hm=>?_);simp[go_sem,IO,AF.flat,AI.flat,AD];exact⟨AZ (AS hGb (qa _)) (AD _ _ _),AL hGb (AL hGb AC)⟩;refine AJ ?_;have no:=λc m=>fin false c m (by simp);by_cases a1:(d.settings.comments.length:Int)<=30
 case neg=>simp[go_sem,AF.flat,AI.flat,a1];exact no _ _
 by_cases a2:(d.settings.styles.length:Int)<=30
 case neg=>simp[go_sem,AF.flat,AI.flat,a1,a2];exact no _ _
 by_cases a3:(d.settings.lists.length:Int)<=30
 case neg=>simp[go_sem,AF.flat,AI.flat,a1,a2,a3];exact no _ _
 by_cases a4:(d.settings.vars.length:Int)<=30
 case neg=>simp[go_sem,AF.flat,AI.flat,a1,a2,a3,a4];exact no _ _
 by_cases a5:(d.revs.length:Int)<=30
 case neg=>simp[go_sem,AF.flat,AI.flat,a1,a2,a3,a4,a5];exact no _ _
 simp[go_sem,AF.flat,AI.flat,a1,a2,a3,a4,a5];refine qP (Zw hB N d.flow hl 12 (n+1) 150 (hset h (n+1) (some (.cells [AA 150]))) m (AD _ _ _)) ?_;rintro v H' n' ⟨b,c,rfl,rfl,rfl,hfew⟩;rw[Ah];cases b with
 | false=>simp[go_sem];exact no _ _
 | true=>
 simp[go_sem];refine TC.use (by simpa[AG.enc,AF.flat,AI.flat]using hc) ?_;rintro v ⟨e,rfl,hT⟩;simp[go_sem];obtain⟨f1,f2,f3⟩:=hfew rfl ⟨by omega,by omega⟩;exact fin _ _ _ λg=>⟨hT (by simpa using g),f3,by omega⟩
theorem ZY (d:AG) {B N:Nat} (b:B<=1048576) (a:d.sizedT B N):TC 24 [d.enc] (Ze (DU N d)):=
 jr d b a.flow a.end a.settings.styles a.settings.lists a.revs a.authors (jA _ a.settings)
theorem dL (d:AG) {B N:Nat} (a:B<=1048576) (b:d.sizedT B N):TC 12 [d.enc] (Te (DU N d) N d):=
 jq _ d a b.flow ((ZY d a b).mono λ_ ⟨e,h,g⟩=>⟨e,h,g.1⟩)
theorem iE (l:List Bi) (hl:l.length<=1048576) (t:SV) (g:FuncId) (a b:List SV) (c:Nat->Int) (hc:∀(i:Nat) (h:i<l.length),PC g (a++[Bi.enc l[i],t]++b) (AA (c i))):
 PC 322 [.imm 2 (l.map Bi.enc) false,t,.fn (.func g) a b] (.tup [AA (Az c l.length).1,.bool (Az c l.length).2]):=by
 intro h n;refine gq Tryz.func322 rfl λs=>?_;simp[go_sem];refine Av 1 (α:=Nat×Nat) (λq=>[(0,.imm 2 (l.map Bi.enc) false),(1,t),(2,.fn (.func g) a b),(8,AA l.length),(9,AA q.1),(10,AA q.2)]) (λ_=>h) (λq m=>q.1<=q.2/\q.2<=l.length/\n<=m/\EI c 0 l.length=EI c q.1 q.2) (λq=>q.2-q.1) (0,l.length) ?_ ?_ AC ?_;simp;simp[Ao];rintro⟨i,j⟩ m ⟨o,p,k,f⟩;dsimp only at o p f;by_cases d:i<j;have r:(i+j) / 2<l.length:=by omega
 have w1:IntKind.i64.wrap ((i:Int)+j)=((i+j:Nat):Int):=by rw[DA]<;>omega
 have w2:IntKind.u64.wrap ((i+j:Nat):Int)=((i+j:Nat):Int):=by rw[Un]<;>omega
 have w3:(((i+j:Nat):Int)).fdiv 2=(((i+j) / 2:Nat):Int):=by rw[Int.fdiv_eq_ediv_of_nonneg _ (by omega)];omega
 have u:IntKind.i64.wrap (((i+j) / 2:Nat):Int)=(((i+j) / 2:Nat):Int):=by rw[DA]<;>omega
 have v:IntKind.i64.wrap ((((i+j) / 2:Nat):Int)+1)=(((i+j) / 2+1:Nat):Int):=by rw[DA]<;>omega
 have H:=hc _ r;simp only[qj,qx,qE]at H;rw[EI.eq_def c i j]at f;simp[go_sem,d,w1,w2,w3,u,r,Bi.enc,-Int.natCast_add,-Int.natCast_ediv];refine qz (by simpa[Bi.enc]using H) ?_;by_cases hb:c ((i+j) / 2)<0;simp[d,hb]at f;simp[go_sem,hb,v,-Int.natCast_add,-Int.natCast_ediv];exact⟨(i+j) / 2+1,j,by omega,⟨by omega,p,k,f⟩,IO,IO⟩;simp[d,hb]at f;simp[go_sem,hb,-Int.natCast_add,-Int.natCast_ediv];exact⟨i,(i+j) / 2,by omega,⟨by omega,by omega,k,f⟩,IO,IO⟩;have e:EI c 0 l.length=i:=by rw[f,EI.eq_def];simp[d]
 by_cases hi:i<l.length;have H:=hc i hi;simp only[qj,qx,qE]at H;simp[go_sem,d,hi,Bi.enc];refine qz (by simpa[Bi.enc]using H) ?_;simp[go_sem];exact As s rfl (by simp[Az,e,hi];by_cases h0:c i=0<;>simp[h0]);simp[go_sem,d,hi];exact As s rfl (by simp[Az,e,hi])
def Yi (l:List Bi) (k:Int) (i:Nat):Int:=match l[i]? with|some r=>GD r.key k|none=>0
theorem iF (r:Bi) (k:Int):PC 323 [r.enc,AA k] (AA (GD r.key k)):=by
 intro h n;refine gq Tryz.func323 rfl λa=>?_;simp[go_sem,Bi.enc,AD];refine(V4 r.key k).use ?_;simp[go_sem];exact A3 a (AR a (qa _) AC) rfl rfl
def QH (l:List Bi) (k:Int):Nat×Bool:=Az (Yi l k) l.length
theorem Zv (l:List Bi) (hl:l.length<=1048576) (k:Int):PC 308 [AU l,AA k] (.tup [AA (QH l k).1,.bool (QH l k).2]):=by
 intro h n;refine gq Tryz.func308 rfl λa=>?_;simp[go_sem];refine(iE l hl (AA k) 323 [] [] (Yi l k) λi hi=>by simpa[Yi,hi]using iF l[i] k).use ?_;simp[go_sem];exact As a rfl rfl
theorem TR {l:List Bi} {k:Int} (h:(QH l k).2=true):(QH l k).1<l.length:=Fw _ _ h
def Ix (l:List Bi) (k:Int):Int×Bool:=if(QH l k).2=true then(match l[(QH l k).1]? with|some p=>p.value|none=>0,true)else(0,false)
theorem gZ (l:List Bi) (hl:l.length<=1048576) (k:Int):PC 277 [AU l,AA k] (.tup [AA (Ix l k).1,.bool (Ix l k).2]):=by
 intro h n;refine gq Tryz.func277 rfl λb=>?_;simp[go_sem];refine(Zv l hl k).use ?_;unfold Ix;cases c:(QH l k).2 with
 | false=>
  simp[go_sem];exact As b rfl rfl
 | true=>
  have a:=TR c;simp[go_sem,a,Bi.enc];exact As b rfl rfl
theorem bn (l:List Bi) (hl:l.length<=1048576):PC 229 [AU l] (AU l):=by
 intro h n;refine gq Tryz.func229 rfl λa=>?_;simp[go_sem];refine(YC l hl).use ?_;simp[go_sem];exact As a (Bi.E.imm _ _ _ _) rfl
theorem c9 (l:List Bi) (hl:l.length<=1048576):LC 229 [AU l] 2 (l.map Bi.enc):=by
 intro h n;refine gq Tryz.func229 rfl λho=>?_;simp[go_sem];refine wq (cv l hl) ?_;intro v H' m W;simp[go_sem];exact .inl W
section
variable {E : CC} {evs : Operand → SV} {o : Oper} {h : Hp} {n : Nat} {K : SV → Hp → Nat → Prop}
theorem Oq {f x y:Operand} {ts:Array TypeId} {k j off len cap:Nat} {a b:SV} {full:Bool} {t:List SV} {ty ty':Option TypeId} (N:o.op=.call { callee:=.value f,args:=#[x,y],argTypes:=ts }) (Y:evs f=.fn (.func 324) [] [])
 (Z:evs x=.sl k 0 2 1 full) (hy:evs y=.slc j off 2 len cap) (z:k≠j) (M:h k=some (.cells [a,b] ty)) (L:h j=some (.cells t ty')) (u:t≠[]) (X:K (.bool false) h n):DS E Tryz.prog evs o h n K:=by
 refine⟨by rw[N];simp,λc ev _ _ R F G=>?_⟩;have g:=G f;have q:=G x;have r:=G y;rw[Y,V]at g;obtain⟨xs,ys,g,h1,h2⟩:=g;simp only[VL]at h1 h2;subst h1;subst h2;rw[Z,V]at q;rw[hy,V]at r;obtain⟨bk,J,l,hρk,D,_⟩:=q;obtain⟨s,I,hρj,C,_⟩:=r;obtain⟨b1,s1,m,U,vk,O,H,p3,p4,_⟩:=R.obj _ _ M;rw[hρk]at O;cases O;obtain⟨b2,s2,i,T,S,Q,q2,q3,q4,_⟩:=R.obj _ _ L;rw[hρj]at Q;cases Q;have hb:bk≠s:=by
  rintro rfl;exact z (R.inj k j _ _ bk J I M L hρk hρj)
 have v:i.size≠0:=by
  have hl:=q4.length;have:0<t.length:=qH.2 u;have h0:S[0]? = some S[0]:=qe (by omega);have:=(qp.1 (q3 _ _ h0)).1;omega
 obtain⟨i42,p,W⟩:=qN.1 (show(Tryz.prog.info? 193).map (·.size)=some 2 by kernel_rfl);have B:∀w,(Go.sizeOf 193).run Tryz.prog w=.ok 2 w:=λw=>by simp[sizeOf,typeInfo,p,W]
 have A:=Lib.run_overlaps_apart (P:=Tryz.prog) c.w 23 4 193 Tryz.underlying23 2 B ⟨bk,J+0,none⟩ ⟨s,I+off,none⟩ 1 l len cap hb U T m.size i.size (by simp[World.shape?,H]) (by simp[World.shape?,q2]) v (by simp[World.frozen?,H]) (by simp[World.frozen?,H]);have d:=run_callFunc_extern (P:=Tryz.prog) Tryz.func324 (by kernel_rfl) (by kernel_rfl) (by kernel_rfl) (e:=Extern.SlicesOverlaps.overlaps #[23,23] #[4]) (by kernel_rfl) #[.slice (some ⟨bk,J+0,none⟩) 1 l,.slice (some ⟨s,I+off,none⟩) len cap] c.w;rw[A]at d;refine⟨.bool false,.bool false,h,n,c,?_,by rw[V],R,F,vm n c,X⟩;simp only[Result.andThen_ok]at d;simp[execOp,N,resolve,Deferred.ofValue,g,invoke,D,C];simpa using d
end
def Bm (l:List Bi):List SV:=(l.map Bi.enc).flatMap SV.cells
theorem Ez (l:List Bi):(Bm l).length=l.length*2:=by
 have:=BO (z:=2) (Bi.E.size l);rw[qf]at this;exact this
theorem Jd (l:List Bi) (i:Nat) (hi:i<=l.length):(Bm l).take (i*2)=Bm (l.take i):=by
 have h1:Bm l=Bm (l.take i)++Bm (l.drop i):=by
  unfold Bm;rw[<-ko,<-qc,qM]
 have h2:=Ez (l.take i);rw[h1,vb (by rw[h2];simp;omega),qv (by rw[h2];simp;omega)]
theorem Lp (l:List Bi) (i:Nat) (hi:i<=l.length):(Bm l).drop (i*2)=Bm (l.drop i):=by
 have h1:Bm l=Bm (l.take i)++Bm (l.drop i):=by
  unfold Bm;rw[<-ko,<-qc,qM]
 have h2:=Ez (l.take i);rw[h1,vT (by rw[h2];simp;omega),kj (by rw[h2];simp;omega)];rfl
theorem N9 (a b:List Bi):Bm (a++b)=Bm a++Bm b:=by unfold Bm;rw[qc,ko]
def KQ (l:List Bi) (i:Nat) (r:Bi):List Bi:=l.take i++r::l.drop i
theorem RQ (l:List Bi) (i:Nat) (r:Bi) (hi:i<=l.length):(KQ l i r).length=l.length+1:=by unfold KQ;simp;omega
set_option maxHeartbeats 4000000 in
theorem cL (l:List Bi) (hl:l.length<=1048576) (i:Nat) (hi:i<l.length) (r:Bi) {H:Hp} {n o k cap:Nat} (G:l.length<=cap) (F:H o=some (.cells (Bm l))) (N:H k=some (.cells [AA r.key,AA r.value])) (J:k≠o):
 BL Tryz.prog 309 [.slc o 0 2 l.length cap,AA i,.sl k 0 2 1 true] H n (λv h' n'=>v=AU (KQ l i r)/\h'=hset H o none/\n'=n):=by
 refine DO Tryz.func309 rfl λI=>?_;have u:=I.lt;have ht:BA Tryz.prog 23=some 193:=by simp[go_sem]
 have f:Br Tryz.prog 193=2:=by simp[go_sem]
 have Y:(BK Tryz.prog 193).storable=true:=by simp[go_sem]
 have M:(BK Tryz.prog 193).cells.length=2:=by simp[go_sem]
 have hb:Bw Tryz.prog 193<=65536:=by simp[go_sem]
 have hti:L6 Tryz.prog 3=some .i64:=by simp[go_sem]
 have B:(BA Tryz.prog 23).isSome=true:=by rw[ht];rfl
 have hC:=Ez l;have K:=u o _ F;have hkn:=u k _ N;have w1:=wS i (by omega);have w2:IntKind.i64.wrap ((l.length:Int)+1)=((l.length+1:Nat):Int):=by rw[DA]<;>omega
 refine CG 0 [(0,.slc o 0 2 l.length cap),(1,AA i),(2,.sl k 0 2 1 true)] H n (AJ ?_) (λm a=>?_);simp[go_sem,IO];subst a;refine CG 0 [(0,.slc o 0 2 l.length cap),(1,AA i),(2,.sl k 0 2 1 true)] H n (AJ ?_) (λm a=>?_);simp[go_sem];refine Bl (j:=o) (off:=0) (z:=2) (len:=l.length) (cap:=cap) (l:=i) (m:=l.length) rfl ht f (by omega) (by simp[go_sem]) (.inr ⟨_,rfl,by simp[go_sem]⟩) (.inl ⟨rfl,rfl⟩) (by omega) G (by omega) ?_;simp[go_sem,IO];subst a;refine CG 0 [(0,.slc o 0 2 l.length cap),(1,AA i),(2,.sl k 0 2 1 true),(7,AA 1)] H n (AJ ?_) (λm a=>?_);simp[go_sem,IO];subst a;refine CG 0 [(0,.slc o 0 2 l.length cap),(1,AA i),(2,.sl k 0 2 1 true),(7,AA 1)] H n (AJ ?_) (λm a=>?_);simp[go_sem,IO];subst a;refine CG 0 [(0,.slc o 0 2 l.length cap),(1,AA i),(2,.sl k 0 2 1 true),(7,AA 1),(8,AA l.length)] H n (AJ ?_) (λm a=>?_);simp[go_sem];refine I9 (j:=o) (off:=0) (z:=2) (len:=l.length) (cap:=cap) rfl B (by simp[go_sem]) ?_;simp[go_sem,IO];subst a;refine CG 0 [(0,.slc o 0 2 l.length cap),(1,AA i),(2,.sl k 0 2 1 true),(7,AA 1),(8,AA l.length)] H n (AJ ?_) (λm a=>?_);have:((i:Int)==l.length)=false:=by simp;omega
 simp[go_sem,IO,this];subst a;have fin:∀(q:Nat) (full:Bool) (h':Hp) (n':Nat),n<=q\/q=o->h' q=some (.cells (Bm (KQ l i r)))->(∀j,j<n->j≠o->h' j=H j)->CO n h' n' (.sl q 0 2 (l.length+1) full) (λv h' n'=>v=AU (KQ l i r)/\h'=hset H o none/\n'=n):=λq full h' n' L hc hh=>by
  have hcs:=Ez (KQ l i r);have K:hset H o none q=none:=by
   rcases L with L|rfl;rw[AE _ _ (by omega)];exact I.none L;exact AD _ _ _
  refine .inr ⟨1,AU (KQ l i r),hset H o none,?_,Bi.E.imm _ _ _ _,λj y s=>?_,rfl,rfl,rfl⟩;have:=Cz (h':=h') (h:=hset H o none) (k:=0) (z:=2) (es:=(KQ l i r).map Bi.enc) (full:=full) (full':=false) (o:=q) K (by simp) hc (Bi.E.size _);rw[qf,RQ _ _ _ (by omega)]at this;exact this;by_cases C:j=o;subst C;rw[AD]at s;cases s;rw[AE _ _ C]at s;have:=u j y s;exact⟨by rw[hh j this C];exact s,I j y s⟩
 have w:Bm [r]=[AA r.key,AA r.value]:=by simp[Bm,Bi.enc,SV.cells]
 have t:Bm (KQ l i r)=Bm (l.take i)++(Bm [r]++Bm (l.drop i)):=by
  rw[<-N9,<-N9];rfl
 have X:(Bm (l.take i)).length=i*2:=by rw[Ez];simp;omega
 have W:(Bm (l.drop i)).length=(l.length-i)*2:=by rw[Ez];simp
 have hrl:(Bm [r]).length=2:=by rw[w];rfl
 by_cases hc:cap<l.length+1;refine Gz ?_;refine CG 0 [(0,.slc o 0 2 l.length cap),(1,AA i),(2,.sl k 0 2 1 true),(7,AA 1),(8,AA l.length),(31,.bool true)] H n (AJ ?_) (λm a=>?_);simp[go_sem,w2];refine LJ (j:=o) (off:=0) (z:=2) (len:=l.length) (cap:=cap) rfl B (by simp[go_sem]) ?_;have:(cap:Int)<(l.length:Int)+1:=by omega
 simp[go_sem,IO,this];subst a;refine Au (b:=true) (by simp[go_sem]) ?_;simp only[if_true];obtain⟨Z,hZ⟩:∃Z,Z=(List.replicate (l.length+1-i) (BK Tryz.prog 193).cells).flatten:=⟨_,rfl⟩
 have hZl:Z.length=(l.length+1-i)*2:=by rw[hZ,List.length_flatten];simp[M]
 refine Bg 1 [(0,.sl o 0 2 l.length false),(1,AA i),(2,.sl k 0 2 1 true),(7,AA 1),(9,.sl n 0 2 (l.length+1) false)] (hset H n (some (.cells (Bm (l.take i)++Z)))) (λm=>n+1=m) (AJ ?_) (λm a=>?_);simp[go_sem];refine Bl (j:=o) (off:=0) (z:=2) (len:=l.length) (cap:=cap) (l:=0) (m:=i) rfl ht f (by omega) (by simp[go_sem]) (.inl ⟨rfl,rfl⟩) (.inr ⟨_,rfl,by simp[go_sem]⟩) (by omega) (by omega) (by omega) ?_;have w3:IntKind.i64.wrap (((l.length+1:Nat):Int)-i)=((l.length+1-i:Nat):Int):=by rw[DA]<;>omega
 simp[go_sem,w2,w3,-Int.natCast_add];refine MU (j:=o) (off:=0) (z:=2) (len:=i) (cap:=cap) (k:=l.length+1-i) (e:=193) rfl ht hti f (by omega) Y M hb (by simp[go_sem]) (by simp[go_sem]) (by omega) (by omega) (by omega) F (by omega) ?_;rw[<-hZ];have C:((Bm l).drop 0).take (i*2)=Bm (l.take i):=by rw[vt];exact Jd l i (by omega)
 have s:i+(l.length+1-i)=l.length+1:=by omega
 rw[C,s];simp[go_sem,Fz];subst a;have p:¬((i:Int)=l.length+1):=by omega
 have d:(i:Int)<=l.length+1:=by omega
 have g:∀(y:Option Bb),hset H n y k=some (.cells [AA r.key,AA r.value]):=λy=>by rw[AE _ _ (by omega)];exact N
 have S:∀(y:Option Bb),hset H n y o=some (.cells (Bm l)):=λy=>by rw[AE _ _ (by omega)];exact F
 refine Bg 0 [(0,.sl o 0 2 l.length false),(1,AA i),(7,AA 1),(9,.sl n 0 2 (l.length+1) false)] (hset H n (some (.cells (Bm (l.take i)++(Bm [r]++Z.drop 2))))) (λm=>n+1=m) (AJ ?_) (λm a=>?_);have c:Nat.min 1 (l.length+1-i)=1:=kL (by omega);have h0:¬(l.length+1-i=0):=by omega
 have D:i*2+2<=i*2+Z.length:=by omega
 have T:(Bm (l.take i)).drop (i*2+2)=[]:=kj (by omega);simp[go_sem,p,d,g,AD,c,X,D,IO,Ah,List.drop_append,w,T];subst a;refine AX 0 (α:=Unit) (λ_=>[(9,.sl n 0 2 (l.length+1) false)]) (λ_=>hset H n (some (.cells (Bm (KQ l i r))))) (λ_ m=>n+1=m) (CK SO rfl (by kernel_rfl) (by kernel_rfl) ?_) (λ_ m a=>?_);have V:¬((i:Int)=l.length):=by omega
 have U:(i:Int)<=l.length:=by omega
 have O:(i:Int)+1<=l.length+1:=by omega
 have c:Nat.min (l.length-i) (l.length-i)=l.length-i:=Nat.min_self _;have h0:¬(l.length-i=0):=by omega
 have h1:((i:Int)+1).toNat=i+1:=by omega
 have h2:(0:Int)<=(i:Int)+1:=by omega
 have h3:((l.length:Int)+1-((i:Int)+1)).toNat=l.length-i:=by omega
 have h4:i*2+(l.length-i)*2<=(Bm l).length:=by omega
 have D:((Bm l).drop (i*2)).take ((l.length-i)*2)=Bm (l.drop i):=by rw[Lp l i (by omega)];exact qv (by omega)
 have P:(Bm (l.take i)++(Bm [r]++Z.drop 2)).take ((i+1)*2)=Bm (l.take i)++Bm [r]:=by
  rw[<-qj];exact List.take_left' (by rw[qq];omega)
 have R:(Bm (l.take i)++(Bm [r]++Z.drop 2)).drop ((i+1)*2+(l.length-i)*2)=[]:=kj (by simp only[qq,vf];omega);have h8:(i+1)*2+(l.length-i)*2<=(Bm (l.take i)++(Bm [r]++Z.drop 2)).length:=by simp only[qq,vf];omega
 have h9:(Bm (l.drop i)).take ((l.length-i)*2)=Bm (l.drop i):=qv (by omega);rw[t,<-qj];generalize(Bm (l.take i)++(Bm [r]++Z.drop 2))=A at *;simp[go_sem,SO,w1,V,U,O,h1,h2,h3,h4,D,P,R,h8,h9,S,AD,c,h0,W,IO,Ah];subst a;refine AJ ?_;simp[go_sem];exact fin n false _ _ (.inl (qa n)) (AD _ _ _) λj hj _=>AE _ _ (by omega);refine CG 0 [(0,.slc o 0 2 l.length cap),(1,AA i),(2,.sl k 0 2 1 true),(7,AA 1),(8,AA l.length)] H n ?_ (λm a=>?_);refine CG 0 [(0,.slc o 0 2 l.length cap),(1,AA i),(2,.sl k 0 2 1 true),(7,AA 1),(8,AA l.length),(31,.bool false)] H n (AJ ?_) (λm a=>?_);simp[go_sem,w2];refine LJ (j:=o) (off:=0) (z:=2) (len:=l.length) (cap:=cap) rfl B (by simp[go_sem]) ?_;have:¬((cap:Int)<(l.length:Int)+1):=by omega
 simp[go_sem,IO,this];subst a;refine AJ ?_;simp[go_sem,IO];subst a;refine CG 0 [(0,.slc o 0 2 (l.length+1) cap),(1,AA i),(2,.sl k 0 2 1 true),(7,AA 1),(8,AA l.length)] H n (AJ ?_) (λm a=>?_);simp[go_sem,w2,-Int.natCast_add];refine Bl (j:=o) (off:=0) (z:=2) (len:=l.length) (cap:=cap) (l:=0) (m:=l.length+1) rfl ht f (by omega) (by simp[go_sem]) (.inl ⟨rfl,rfl⟩) (.inr ⟨_,rfl,by simp[go_sem]⟩) (by omega) (by omega) (by omega) ?_;simp[go_sem,IO];subst a;refine Gz ?_;refine AX 0 (α:=Unit) (λ_=>[(0,.slc o 0 2 (l.length+1) cap),(1,AA i),(2,.sl k 0 2 1 true),(7,AA 1),(68,.bool true)]) (λ_=>H) (λ_ m=>n=m) (MC ?_) (λ_ m a=>?_);simp[go_sem,IY,aC,w1,-Int.natCast_add];refine Bl (j:=o) (off:=0) (z:=2) (len:=l.length+1) (cap:=cap) (l:=i+1) (m:=l.length+1) rfl ht f (by omega) (by simp[go_sem]) (.inr ⟨_,rfl,by simp[go_sem]⟩) (.inl ⟨rfl,rfl⟩) (by omega) (by omega) (by omega) ?_;simp[go_sem];refine Oq (k:=k) (j:=o) (off:=(i+1)*2) (len:=l.length-i) (cap:=cap-(i+1)) (full:=true) rfl (by simp[go_sem]) (by simp[go_sem]) (by simp[go_sem]) J N F (λe=>by rw[e]at hC;simp at hC;omega) ?_;simp[go_sem,IO];subst a;refine Au (b:=true) (by simp[go_sem]) ?_;simp only[if_true];have g1:(Bm l).take ((i+1)*2)=Bm (l.take (i+1)):=Jd l (i+1) (by omega);have g2:((Bm l).drop (i*2)).take ((l.length-i)*2)=Bm (l.drop i):=by rw[Lp l i (by omega)];exact qv (by omega)
 have A1:∀{evs:Operand->SV} {x y:Operand} {o':Oper} {Q:SV->Hp->Nat->Prop},o'.op=.call { callee:=.builtin .copy,args:=#[x,y],argTypes:=#[23,23] }->evs x=.slc o ((i+1)*2) 2 (l.length-i) (cap-(i+1))->evs y=.slc o (i*2) 2 (l.length+1-i) (cap-i)->Q (.int .i64 ↑(l.length-i)) (hset H o (some (.cells (Bm (l.take (i+1))++Bm (l.drop i))))) n->DS (CC.plain.call false 0) Tryz.prog evs o' H n Q:=λI hx hy L=>
  Pb (k:=l.length-i) I ht f (by omega) hx hy F (Nat.min_eq_right (by omega)) (by omega) (by omega) (by omega) (by rw[g1,g2];exact L)
 refine AX 1 (α:=Unit) (λ_=>[(0,.sl o 0 2 (l.length+1) false),(1,AA i),(2,.sl k 0 2 1 true)]) (λ_=>hset H o (some (.cells (Bm (l.take (i+1))++Bm (l.drop i))))) (λ_ m=>n=m) (CK SO rfl (by kernel_rfl) (by kernel_rfl) ?_) (λ_ m a=>?_);simp[go_sem,SO,w1,-Int.natCast_add];have C:l.length+1-(i+1)=l.length-i:=by omega
 refine⟨?_,?_⟩;refine Bl (j:=o) (off:=0) (z:=2) (len:=l.length+1) (cap:=cap) (l:=i+1) (m:=l.length+1) rfl ht f (by omega) (by simp[go_sem]) (.inr ⟨_,rfl,by simp[go_sem]⟩) (.inl ⟨rfl,rfl⟩) (by omega) (by omega) (by omega) ?_;simp[go_sem];refine Bl (j:=o) (off:=0) (z:=2) (len:=l.length+1) (cap:=cap) (l:=i) (m:=l.length+1) rfl ht f (by omega) (by simp[go_sem]) (.inr ⟨_,rfl,by simp[go_sem]⟩) (.inl ⟨rfl,rfl⟩) (by omega) (by omega) (by omega) ?_;simp[go_sem];refine A1 rfl (by simp[go_sem]) (by simp[go_sem]) ?_;simp[go_sem,Fz];refine Bl (j:=o) (off:=0) (z:=2) (len:=l.length+1) (cap:=cap) (l:=i) (m:=l.length+1) rfl ht f (by omega) (by simp[go_sem]) (.inr ⟨_,rfl,by simp[go_sem]⟩) (.inl ⟨rfl,rfl⟩) (by omega) (by omega) (by omega) ?_;simp[go_sem,-Int.natCast_add];refine Bl (j:=o) (off:=0) (z:=2) (len:=l.length+1) (cap:=cap) (l:=i+1) (m:=l.length+1) rfl ht f (by omega) (by simp[go_sem]) (.inr ⟨_,rfl,by simp[go_sem]⟩) (.inl ⟨rfl,rfl⟩) (by omega) (by omega) (by omega) ?_;simp[go_sem];refine A1 rfl (by simp[go_sem]) (by simp[go_sem]) ?_;simp[go_sem,Fz];subst a;have g3:(Bm (l.take (i+1))).length=(i+1)*2:=by rw[Ez];simp;omega
 refine CG 0 [(0,.sl o 0 2 (l.length+1) false)] (hset H o (some (.cells (Bm (KQ l i r))))) n (AJ ?_) (λm a=>?_);have p:¬((i:Int)=l.length+1):=by omega
 have d:(i:Int)<=l.length+1:=by omega
 have g:∀(y:Option Bb),hset H o y k=some (.cells [AA r.key,AA r.value]):=λy=>by rw[AE _ _ J];exact N
 have c:Nat.min 1 (l.length+1-i)=1:=kL (by omega);have h0:¬(l.length+1-i=0):=by omega
 have D:i*2+2<=(Bm (l.take (i+1))++Bm (l.drop i)).length:=by rw[qq];omega
 have O:(Bm (l.take (i+1))++Bm (l.drop i)).take (i*2)=Bm (l.take i):=by
  rw[vb (by omega),Jd _ _ (by simp;omega),List.take_take,kL (by omega)]
 have R:(Bm (l.take (i+1))++Bm (l.drop i)).drop (i*2+2)=Bm (l.drop i):=List.drop_left' (by omega);rw[t,w];generalize Bm (l.take (i+1))++Bm (l.drop i)=A at *;simp[go_sem,p,d,g,AD,c,D,O,R,IO,Ah];subst a;refine AJ ?_;simp[go_sem];exact fin o false _ _ (.inr rfl) (AD _ _ _) λj hj e=>AE _ _ e
set_option maxHeartbeats 2000000 in
theorem ib (l:List Bi) (d:l≠[]) (hl:l.length<=1048576) (r:Bi) {H:Hp} {n o k:Nat} {full:Bool} (u:H o=some (.cells ((l.map Bi.enc).flatMap SV.cells))) (A:H k=some (.cells [AA r.key,AA r.value])) (hok:o≠k):
 BL Tryz.prog 309 [.sl o 0 2 l.length full,AA l.length,.sl k 0 2 1 true] H n (λv h' n'=>v=AU (l++[r])/\h'=hset H o none/\n'=n):=by
 refine DO Tryz.func309 rfl λp=>?_;have b:=p.lt;have m:flat H (.sl o 0 2 l.length full)=some ((l.map Bi.enc).flatMap SV.cells):=by
  have:((l.map Bi.enc).flatMap SV.cells).length=l.length*2:=by rw[BO (z:=2) (Bi.E.size l)];simp
  simp[flat,u,Bz,<-this,-List.length_flatMap]
 have c:flat H (.sl k 0 2 1 true)=some [AA r.key,AA r.value]:=by simp[flat,A,Bz]
 have ht:BA Tryz.prog 23=some 193:=by simp[go_sem]
 have g:Al Tryz.prog H n .append [23,23] [.sl o 0 2 l.length full,.sl k 0 2 1 true]=some { val:=.sl n 0 2 (l.length+1) false,upd:=if full then none else some (o,none),new:=some (.cells ((l.map Bi.enc).flatMap SV.cells++[AA r.key,AA r.value])) }:=by
  have B:Br Tryz.prog 193=2:=by simp[go_sem]
  have s:(BK Tryz.prog 193).storable=true:=by simp[go_sem]
  have t:(BK Tryz.prog 193).cells.length=2:=by simp[go_sem]
  have hb:Bw Tryz.prog 193<=65536:=by simp[go_sem]
  have q:EF (l.length+1) (Bw Tryz.prog 193)=true:=by simp[EF,hb];omega
  simp[Al,ht,Ec,B,s,t,GW,m,c,LT,q,Hz,Ib]
 have fin:∀(h':Hp) (n':Nat),h'=hset (match(if full then none else some (o,(none:Option Bb)))with|some (j,x)=>hset H j x|none=>H) n (some (.cells ((l.map Bi.enc).flatMap SV.cells++[AA r.key,AA r.value])))->CO n h' n' (.sl n 0 2 (l.length+1) false) (λv h' n'=>v=AU (l++[r])/\h'=hset H o none/\n'=n):=λh' n' e=>by
  have hon:=b o _ u;have i:((l++[r]).map Bi.enc).flatMap SV.cells=(l.map Bi.enc).flatMap SV.cells++[AA r.key,AA r.value]:=by simp[Bi.enc,SV.cells]
  refine .inr ⟨1,AU (l++[r]),hset H o none,?_,Bi.E.imm _ _ _ _,λj y a=>?_,rfl,rfl,rfl⟩;have:=Cz (h':=h') (h:=hset H o none) (k:=0) (z:=2) (es:=(l++[r]).map Bi.enc) (full:=false) (full':=false) (o:=n) (by rw[AE _ _ (by omega)];exact p.none (qa n)) (by simp) (by rw[e,AD,i]) (Bi.E.size _);rw[qf,qq]at this;exact this;by_cases f:j=o;subst f;rw[AD]at a;cases a;rw[AE _ _ f]at a;refine⟨?_,p j y a⟩;have:=b j y a;rw[e,AE _ _ (by omega)];cases full;simp only[qn,if_false];rw[AE _ _ f];exact a;exact a
 refine AJ ?_;have w:¬l.length=0:=by simpa using d
 simp[go_sem,d];rw[g];cases full<;>simp[go_sem]<;>exact fin _ _ (by simp)
theorem Wr (l:List Bi) (r:Bi):KQ l l.length r=l++[r]:=by unfold KQ;simp
theorem cN (l:List Bi) (b:l≠[]) (hl:l.length<=1048576) (i:Nat) (hi:i<=l.length) (r:Bi) {H:Hp} {n o k:Nat} {full:Bool} (c:H o=some (.cells ((l.map Bi.enc).flatMap SV.cells))) (d:H k=some (.cells [AA r.key,AA r.value])) (a:o≠k):
 BL Tryz.prog 309 [.sl o 0 2 l.length full,AA i,.sl k 0 2 1 true] H n (λv h' n'=>v=AU (KQ l i r)/\h'=hset H o none/\n'=n):=by
 rcases kh i l.length with h|h;exact Ap.cap λcap hc=>cL l hl i h r hc c d a.symm;have:i=l.length:=by omega
 subst this;have:=ib l b hl r (full:=full) (n:=n) c d a;rw[Wr];exact this
theorem ix (h:Hp) (n:Nat):BL Tryz.prog 185 [.imm 2 [] false] h n (λv h' n'=>(∃z,v=.imm z [] true)/\h'=h/\n'=n):=by
 refine gq Tryz.func185 rfl λho=>?_;simp[go_sem];refine Cj rfl (by kernel_rfl) rfl (λe=>?_) ?_;simp[go_sem];exact .inl ⟨⟨_,rfl⟩,rfl,rfl⟩;simp[go_sem];refine DP (z:=2) rfl rfl (by kernel_rfl) ?_;simp[go_sem];exact .inl ⟨⟨_,rfl⟩,rfl,rfl⟩
theorem cM (z:Nat) (r:Bi) {H:Hp} {n k:Nat} (i:H k=some (.cells [AA r.key,AA r.value])):
 BL Tryz.prog 309 [.imm z [] true,AA 0,.sl k 0 2 1 true] H n (λv h' n'=>v=AU [r]/\h'=H/\n'=n):=by
 refine DO Tryz.func309 rfl λd=>?_;have b:=d.lt;have a:flat H (.sl k 0 2 1 true)=some [AA r.key,AA r.value]:=by simp[flat,i,Bz]
 have ht:BA Tryz.prog 23=some 193:=by simp[go_sem]
 have c:∀z,Al Tryz.prog H n .append [23,23] [.imm z [] true,.sl k 0 2 1 true]=some { val:=.sl n 0 2 1 false,new:=some (.cells [AA r.key,AA r.value]) }:=λz=>by
  have l:Br Tryz.prog 193=2:=by simp[go_sem]
  have g:(BK Tryz.prog 193).storable=true:=by simp[go_sem]
  have h:(BK Tryz.prog 193).cells.length=2:=by simp[go_sem]
  have hb:Bw Tryz.prog 193<=65536:=by simp[go_sem]
  have f:EF 1 (Bw Tryz.prog 193)=true:=by simp[EF,hb]
  simp[Al,ht,Ec,l,g,h,GW,a,LT,f,Ib]
 have fin:∀n',CO n (hset H n (some (.cells [AA r.key,AA r.value]))) n' (.sl n 0 2 1 false) (λv h' n'=>v=AU [r]/\h'=H/\n'=n):=λn'=>
  .inr ⟨1,AU [r],H,Cz (k:=0) (z:=2) (es:=[r].map Bi.enc) (full:=false) (full':=false) (o:=n) (d.none (qa n)) (by simp) (by rw[AD];simp[Bi.enc,SV.cells]) (Bi.E.size _),Bi.E.imm _ _ _ _,λj y e=>⟨AL b AC j y e,d j y e⟩,rfl,rfl,rfl⟩
 refine AJ ?_;simp[go_sem];rw[c];simp[go_sem];exact fin _
structure Lx where
 o:Nat
 full:Bool
theorem Yj (k:Int):QH [] k=(0,false):=by unfold QH Az;rw[EI];simp
theorem XB (l:List Bi) (k:Int):(QH l k).1<=l.length:=(Mu (Yi l k) 0 l.length (qg _)).2
theorem i9 (h:Hp) (n:Nat):BL Tryz.prog 229 [AU []] h n (λv h' n'=>(∃z,v=.imm z [] true)/\h'=h/\n'=n):=by
 refine gq Tryz.func229 rfl λho=>?_;simp[go_sem];refine qP (ix h n) ?_;rintro v H' m ⟨⟨z,rfl⟩,rfl,rfl⟩;simp[go_sem];exact .inl ⟨⟨_,rfl⟩,rfl,rfl⟩
def PX (l:List Bi) (k v:Int):List Bi:=if(QH l k).2=true then l.set (QH l k).1 ⟨(l.getD (QH l k).1 ⟨0,0⟩).key,v⟩else KQ l (QH l k).1 ⟨k,v⟩
set_option maxHeartbeats 2000000 in
theorem gd (l:List Bi) (hl:l.length<=1048576) (k v:Int):PC 278 [AU l,AA k,AA v] (AU (PX l k v)):=by
 intro h n;refine DO Tryz.func278 rfl λH=>?_;have a:=H.lt;obtain⟨i,b,d⟩:∃i b,QH l k=(i,b):=⟨_,_,rfl⟩
 have c:=Zv l hl k;have f:=XB l k;have M:b=true->i<l.length:=λe=>by have:=TR (l:=l) (k:=k);rw[d]at this;exact this e
 unfold PX;rw[d]at c f ⊢;dsimp only at c f ⊢;refine CW 0 [(0,AU l),(1,AA k),(2,AA v)] h n (AJ ?_) (λm r=>?_);simp[go_sem,IO];refine CW 0 [(0,AU l),(1,AA k),(2,AA v),(7,AA i),(8,.bool b)] h n (AJ ?_) (λm r=>?_);simp[go_sem];refine qz c ?_;simp[go_sem,IO,r];by_cases e:l=[];subst e;rw[Yj]at d;cases d;refine AX 0 (α:=Nat) (λz=>[(1,AA k),(2,AA v),(7,AA 0),(8,.bool false),(9,.imm z [] true)]) (λ_=>h) (λ_ m=>n<=m) (AJ ?_) (λz m r=>?_);simp[go_sem];refine qP (i9 _ _) ?_;rintro w I m' ⟨⟨z,rfl⟩,rfl,rfl⟩;simp[go_sem,IO,r];exact⟨z,IO⟩;have A:∀j y,h j=some y->j<m:=λj y e=>by have:=a j y e;omega
 refine CW 0 [(1,AA k),(2,AA v),(7,AA 0),(9,.imm z [] true)] h n (AJ ?_) (λm r=>?_);simp[go_sem,IO,r];have A:∀j y,h j=some y->j<m:=λj y e=>by have:=a j y e;omega
 refine AJ ?_;simp[go_sem];refine qP (cM z ⟨k,v⟩ (AD _ _ _)) ?_;rintro w I m' ⟨rfl,rfl,rfl⟩;simp[go_sem];exact A3 H (AL A AC) rfl (Bi.E.imm _ _ _ _);refine AX 0 (α:=Lx) (λq=>[(1,AA k),(2,AA v),(7,AA i),(8,.bool b),(9,.sl q.o 0 2 l.length q.full)]) (λq=>hset h q.o (some (.cells ((l.map Bi.enc).flatMap SV.cells)))) (λq m'=>n<=q.o/\q.o<m') (AJ ?_) (λq m' N=>?_);simp[go_sem];refine wq (c9 l hl) ?_;rintro w I m' ⟨w1,w2,w3⟩;rcases w3 with⟨w3,_⟩|⟨o,full,h1,h2,rfl,P⟩
 exact absurd (by simpa using w3) e;simp[go_sem,IO];refine⟨⟨o,full⟩,⟨by show n<=o;omega,h2⟩,IO,λj y g=>?_⟩;simp only[hset]at g;split at g;rename_i c;rw[c,<-g];exact P;exact w2 j y g;obtain⟨o,full⟩:=q;dsimp only at N ⊢;obtain⟨C,s⟩:∃C:List Bi->List SV,∀x,C x=(x.map Bi.enc).flatMap SV.cells:=⟨_,λ_=>rfl⟩
 rw[<-s];obtain⟨G,F⟩:∃G:List Bi->Hp,∀x,G x=hset h o (some (.cells (C x))):=⟨_,λ_=>rfl⟩
 rw[<-F];have u:∀x,G x o=some (.cells (C x)):=λx=>by rw[F,AD]
 have t:∀x j y,h j=some y->G x j=some y:=λx j y g=>by have:=a j y g;rw[F,AE _ _ (by omega)];exact g
 cases b with
 | true =>
  have hi:=M rfl;obtain⟨p,hp⟩:∃p,l[i]=p:=⟨_,rfl⟩
  obtain⟨L,J⟩:∃L,L=l.set i ⟨p.key,v⟩:=⟨_,rfl⟩
  have B:(l.map Bi.enc)[i]? = some p.enc:=by simp[hi,hp]
  have Q:(C l).take (i*2+1)++AA v::(C l).drop (i*2+1+1)=C L:=by
   rw[s,s,NP (e':=(⟨p.key,v⟩:Bi).enc) (Bi.E.size l) B (by omega) (by simp[Bi.enc,SV.cells]),J,List.map_set]
  have hCl:(C l).length=l.length*2:=by rw[s];exact Ez l
  have K:l.getD i ⟨0,0⟩=p:=by simp[List.getD,hi,hp]
  have D:L.length=l.length:=by rw[J,List.length_set]
  rw[if_pos rfl,K,<-J];refine AJ ?_;have hb:i*2+1+1<=(C l).length:=by omega
  simp[go_sem,u,hi,Q,hb];have O:=Cz (h':=hset (G l) o (some (.cells (C L)))) (h:=h) (k:=0) (z:=2) (es:=L.map Bi.enc) (full:=full) (full':=false) (o:=o) (AS a N.1) (by simp) (by rw[AD,s]) (Bi.E.size L);rw[qf,D]at O;exact Dj 1 H (λj y g=>by have:=a j y g;rw[AE _ _ (by omega)];exact t l j y g) O (Bi.E.imm _ _ _ _)
 | false =>
  refine Bg 0 [(1,AA k),(2,AA v),(7,AA i),(9,.sl o 0 2 l.length full)] (G l) (λm=>o<m) (AJ ?_) (λm r=>?_);simp[go_sem,IO,N];have hGm:∀j y,G l j=some y->j<m:=λj y g=>by
   rw[F]at g;simp only[hset]at g;split at g;omega;have:=a j y g;omega
  refine AJ ?_;simp[go_sem];refine qP (cN l e hl i f ⟨k,v⟩ (by rw[AE _ _ (by omega),u,s]) (AD _ _ _) (by omega)) ?_;rintro w I m' ⟨rfl,rfl,rfl⟩;simp[go_sem];refine A3 H (λj y g=>?_) rfl (Bi.E.imm _ _ _ _);have:=a j y g;rw[AE _ _ (by omega),AE _ _ (by omega)];exact t l j y g
theorem gX (l:List Bs) (hl:l.length<=1048576) (g:FuncId) (a b:List SV) (p:Nat->Bool) (hp:∀(i:Nat) (h:i<l.length),PC g (a++[l[i].enc]++b) (.bool (p i))):
 PC 275 [.imm 2 (l.map Bs.enc) false,.fn (.func g) a b] (AA (BI p l.length 0)):=by
 intro h n;refine gq Tryz.func275 rfl λf=>?_;simp[go_sem];refine Av 1 (α:=Nat) (λk=>[(0,.imm 2 (l.map Bs.enc) false),(1,.fn (.func g) a b),(7,AA l.length),(8,AA k)]) (λ_=>h) (λk m=>k<=l.length/\n<=m/\BI p l.length 0=BI p l.length k) (λk=>l.length-k) 0 ?_ ?_ AC ?_;simp;simp[Ao];rintro k m ⟨hk,e,d⟩;rw[BI.eq_def _ _ k]at d;by_cases c:k<l.length;have w1:=wS k (by omega);have H:=hp k c;simp only[qj,qx,qE]at H;simp[go_sem,c,Bs.enc];refine qz (by simpa[Bs.enc]using H) ?_;by_cases h0:p k=true;simp[go_sem,h0];exact As f rfl (by rw[d];simp[c,h0]);simp[go_sem,h0,w1,-Int.natCast_add];exact⟨k+1,by omega,⟨by omega,e,by rw[d];simp[c,h0]⟩,IO⟩;simp[go_sem,c];exact As f rfl (by rw[d];simp[c])
theorem fo (l:List Bs) (hl:l.length<=1048576) (g:FuncId) (a b:List SV) (p:Nat->Bool) (hp:∀(i:Nat) (h:i<l.length),PC g (a++[l[i].enc]++b) (.bool (p i))):
 PC 227 [.imm 2 (l.map Bs.enc) false,.fn (.func g) a b] (.bool (Jo p l.length)):=by
 intro h n;refine gq Tryz.func227 rfl λc=>?_;simp[go_sem];refine(gX l hl g a b p hp).use ?_;simp[go_sem];exact As c rfl rfl
theorem gj (l:List Int) (hl:l.length<=1048576) (g:FuncId) (a b:List SV) (p:Nat->Bool) (hp:∀(i:Nat) (h:i<l.length),PC g (a++[AA l[i]]++b) (.bool (p i))):
 PC 298 [.imm 1 (l.map AA) false,.fn (.func g) a b] (AA (BI p l.length 0)):=by
 intro h n;refine gq Tryz.func298 rfl λf=>?_;simp[go_sem];refine Av 1 (α:=Nat) (λk=>[(0,.imm 1 (l.map AA) false),(1,.fn (.func g) a b),(7,AA l.length),(8,AA k)]) (λ_=>h) (λk m=>k<=l.length/\n<=m/\BI p l.length 0=BI p l.length k) (λk=>l.length-k) 0 ?_ ?_ AC ?_;simp;simp[Ao];rintro k m ⟨hk,e,d⟩;rw[BI.eq_def _ _ k]at d;by_cases c:k<l.length;have w1:=wS k (by omega);have H:=hp k c;simp only[qj,qx,qE]at H;simp[go_sem,c];refine qz (by simpa using H) ?_;by_cases h0:p k=true;simp[go_sem,h0];exact As f rfl (by rw[d];simp[c,h0]);simp[go_sem,h0,w1,-Int.natCast_add];exact⟨k+1,by omega,⟨by omega,e,by rw[d];simp[c,h0]⟩,IO⟩;simp[go_sem,c];exact As f rfl (by rw[d];simp[c])
theorem gK (l:List Int) (hl:l.length<=1048576) (g:FuncId) (a b:List SV) (p:Nat->Bool) (hp:∀(i:Nat) (h:i<l.length),PC g (a++[AA l[i]]++b) (.bool (p i))):
 PC 262 [.imm 1 (l.map AA) false,.fn (.func g) a b] (.bool (Jo p l.length)):=by
 intro h n;refine gq Tryz.func262 rfl λc=>?_;simp[go_sem];refine(gj l hl g a b p hp).use ?_;simp[go_sem];exact As c rfl rfl
def Dw (l:List Int) (x:Int):Bool:=(Az (Js l x) l.length).2
theorem gM (l:List Int) (x:Int) (hl:l.length<=1048576):PC 264 [.imm 1 (l.map AA) false,AA x] (.bool (Dw l x)):=by
 intro h n;refine gq Tryz.func264 rfl λa=>?_;simp[go_sem];refine(c78 l x hl).use ?_;simp[go_sem];exact As a rfl rfl
def VC (g:FuncId) (a b:List SV) (acc rej:Int->Bool):Prop:=∀x:Int,PC g (a++[AA x]++b) (.tup [.bool (acc x),.bool (rej x)])
theorem js:VC 163 [] [] (λ_=>false) (λ_=>true):=λx=>by
 intro h n;refine gq Tryz.func163 rfl λa=>?_;simp[go_sem];exact As a rfl rfl
theorem jt:VC 165 [] [] (λ_=>true) (λ_=>false):=λx=>by
 intro h n;refine gq Tryz.func165 rfl λa=>?_;simp[go_sem];exact As a rfl rfl
def trV:Tr:=.pure 0<|.pure 1<|.pure 2<|.pure 4<|.pure 5<|.pure 6<|.one 3<|.one 7<|.one 8<|.one 9 .nil
theorem bi {g:FuncId} {a b:List SV} {acc rej:Int->Bool} (d:VC g a b acc rej) (x:Int):PC 225 [AA x,.iptr [.fn (.func g) a b]] (.bool (acc x)):=by
 intro h n;refine gq Tryz.func225 rfl λc=>?_;have H:=d x;simp only[qj,qx,qE]at H;simp[go_sem];refine H.use ?_;simp[go_sem];exact As c rfl rfl
theorem fk {g:FuncId} {a b:List SV} {acc rej:Int->Bool} (d:VC g a b acc rej) (x:Int):PC 226 [AA x,.iptr [.fn (.func g) a b]] (.bool (rej x)):=by
 intro h n;refine gq Tryz.func226 rfl λc=>?_;have H:=d x;simp only[qj,qx,qE]at H;simp[go_sem];refine H.use ?_;simp[go_sem];exact As c rfl rfl
theorem fp {g:FuncId} {a b:List SV} {acc rej:Int->Bool} (d:VC g a b acc rej) (x:Bs):PC 228 [x.enc,.iptr [.fn (.func 225) [] [.iptr [.fn (.func g) a b]]]] (.bool (acc x.rev)):=by
 intro h n;refine gq Tryz.func228 rfl λc=>?_;simp[go_sem,Bs.enc,AD];refine(bi d x.rev).use ?_;simp[go_sem];exact On (T:=λv=>v=.bool (acc x.rev)) c (λj y e=>by have:=(c j y e).1;simp only[hset];grind) (by simp[closed]) rfl
theorem fu (y:AM):PC 231 [y.enc] (.agg [AA y.before,.bool y.had]):=by
 intro h n;refine gq Tryz.func231 rfl λa=>?_;simp[go_sem,AM.enc,AD,AE];exact On (T:=λv=>v=.agg [AA y.before,.bool y.had]) a (λj y e=>by have:=(a j y e).1;simp only[hset];grind) (by simp[closed,closedL]) rfl
theorem fx (y:AM) (v:Int) (s:Bool):PC 233 [y.enc,.agg [AA v,.bool s]] (AM.enc ⟨y.rev,y.key,v,s⟩):=by
 intro h n;refine DO Tryz.func233 rfl λk=>?_;have c:=k.lt;obtain⟨G,a⟩:∃G:Int->Bool->Hp,∀b q,G b q=hset (hset (hset h n (some (.cells [AA y.rev,AA y.key,AA b,.bool q]))) (n+1) (some (.cells [AA v,.bool s]))) (n+2) (some (.cells [AA 0,AA 0,AA 0,.bool false])):=⟨_,λ_ _=>rfl⟩
 have g:∀b q,G b q n=some (.cells [AA y.rev,AA y.key,AA b,.bool q]):=λb q=>by rw[a];simp[hset]
 have l:∀b q,G b q (n+1)=some (.cells [AA v,.bool s]):=λb q=>by rw[a];simp[hset]
 have o:∀b q,G b q (n+2)=some (.cells [AA 0,AA 0,AA 0,.bool false]):=λb q=>by rw[a];simp[hset]
 have r:∀b q d f,hset (G b q) n (some (.cells [AA y.rev,AA y.key,AA d,.bool f]))=G d f:=λb q d f=>by
  rw[a,a];funext j;simp only[hset];grind
 have p:∀b q j z,h j=some z->G b q j=some z:=λb q j z e=>by
  have:=c j z e;rw[a];simp only[hset];grind
 refine By 0 [(2,.ptr n 0),(3,.ptr (n+1) 0),(4,.ptr (n+2) 0)] (G y.before y.had) (λm=>n+2<m) ?_ (λm i=>?_);rw[a];simp[go_sem,IO,AM.enc,qu];refine By 0 [(2,.ptr n 0),(4,.ptr (n+2) 0)] (G v s) (λm=>n+2<m) ?_ (λm i=>?_)
 . simp[go_sem,IO,g,l,r,i]
   repeat first|refine nd (by simp[Bo,DZ,CU,Aq,Region.binds]<;>omega) ?_|refine sq ?_|refine aq ?_
   first|(simp[Bo,DZ,CU,Aq,Region.binds];done)|(simp[Bo,DZ,CU,Aq,Region.binds];omega)|exact(sd (by kernel_rfl) trivial).1
 refine AJ ?_;simp[go_sem,g,o,AD];refine On (T:=λw=>w=AM.enc ⟨y.rev,y.key,v,s⟩) k (λj z e=>?_) (by simp[closed,closedL]) rfl;have:=c j z e;rw[AE _ _ (by omega)];exact p _ _ _ _ e
theorem fw (l:List Bi) (hl:l.length<=1048576) (a b c d:SV) (k:Int):PC 232 [.agg [AU l,a,b,c,d],AA k] (.agg [AA (Ix l k).1,.bool (Ix l k).2]):=by
 intro h n;refine DO Tryz.func232 rfl λg=>?_;have f:=g.lt;refine By 1 [(1,AA k),(2,.iptr [AU l,a,b,c,d]),(4,.ptr (n+1) 0)] (hset h (n+1) (some (.cells [AA 0,.bool false]))) (λm=>n+1<m) ?_ (λm hm=>?_);simp[go_sem,IO];refine⟨AZ (by simp[hset];exact AS f (qa _)) (by simp[hset]),λj y=>?_⟩;have:=f j y;simp only[hset];grind;refine AJ ?_;simp[go_sem];refine(gZ l hl k).use ?_;simp[go_sem,AD];refine On (T:=λw=>w=.agg [AA (Ix l k).1,.bool (Ix l k).2]) g (λj z e=>?_) (by simp[closed,closedL]) rfl;have:=f j z e;simp only[hset];grind
inductive IL:SV->List Int->Prop
 | some (l:List Int) (h:l.length<=1048576):IL (.imm 1 (l.map AA) false) l
 | nil:IL (.imm 0 [] true) []
theorem iL (x:Int):PC 78 [.imm 0 [] true,AA x] (.tup [AA 0,.bool false]):=by
 intro h n;refine gq Tryz.func78 rfl λa=>?_;simp[go_sem];refine Av 1 (α:=Unit) (λ_=>[(0,.imm 0 [] true),(1,AA x),(6,AA 0),(7,AA 0),(8,AA 0)]) (λ_=>h) (λ_ m=>n<=m) (λ_=>0) () ?_ ?_ AC ?_;simp;simp[Ao];rintro _ m hm;simp[go_sem];exact As a rfl rfl
theorem V5 {v:SV} {l:List Int} (hl:IL v l) (x:Int):PC 264 [v,AA x] (.bool (Dw l x)):=by
 cases hl with
 | some _ h=>exact gM l x h
 | nil=>
  intro h n;refine gq Tryz.func264 rfl λa=>?_;simp[go_sem];refine(iL x).use ?_;simp[go_sem];exact As a rfl rfl
theorem bx (g:FuncId) (a b:List SV):PC 298 [.imm 0 [] true,.fn (.func g) a b] (AA (-1)):=by
 intro h n;refine gq Tryz.func298 rfl λc=>?_;simp[go_sem];refine Av 1 (α:=Unit) (λ_=>[(0,.imm 0 [] true),(1,.fn (.func g) a b),(7,AA 0),(8,AA 0)]) (λ_=>h) (λ_ m=>n<=m) (λ_=>0) () ?_ ?_ AC ?_;simp;simp[Ao];rintro _ m hm;simp[go_sem];exact As c rfl rfl
def Vw (p:Int->Bool) (l:List Int):Bool:=Jo (λi=>match l[i]? with|some x=>p x|none=>false) l.length
theorem Si {p:Int->Bool} {l:List Int} (h:∀x∈l,p x=false):Vw p l=false:=by
 unfold Vw Jo;rcases Ei (λi=>match l[i]? with|some x=>p x|none=>false) l.length 0 with e|⟨i,_,h2,_,a⟩
 rw[e];rfl;rw[qe h2]at a;dsimp only at a;rw[h _ (qi h2)]at a;cases a
theorem bu {v:SV} {l:List Int} (hl:IL v l) (g:FuncId) (a b:List SV) (p:Int->Bool) (hp:∀x,PC g (a++[AA x]++b) (.bool (p x))):PC 262 [v,.fn (.func g) a b] (.bool (Vw p l)):=by
 cases hl with
 | some _ h=>exact gK l h g a b _ λi hi=>by rw[qe hi];exact hp _
 | nil=>
  intro h n;refine gq Tryz.func262 rfl λc=>?_;simp[go_sem];refine(bx g a b).use ?_;simp[go_sem];exact As c rfl (by simp[Vw,Jo,BI])
theorem de {a b:SV} {A R:List Int} (d:IL a A) (e:IL b R):VC 265 [] [.iptr [a,b]] (Dw A) (Dw R):=λx=>by
 intro h n;refine DO Tryz.func265 rfl λf=>?_;refine Aa 0 [(0,AA x),(1,.iptr [a,b])] h n ?_ (λm c=>?_);simp[go_sem,IO];refine AX 0 (α:=Unit) (λ_=>[(3,.bool (Dw A x)),(4,.bool (Dw R x))]) (λ_=>h) (λ_ m=>n<=m) (CK trV rfl (by kernel_rfl) (by kernel_rfl) ?_) (λ_ m c=>?_);simp[go_sem,trV];refine(V5 d x).use ?_;simp[go_sem];refine(V5 e x).use ?_;simp[go_sem,IO,c];refine AJ ?_;simp[go_sem];exact As f rfl rfl
theorem bv {d a:SV} {R:List Int} (b:IL a R) (x:Int):PC 263 [AA x,.iptr [d,a]] (.bool (Dw R x)):=by
 intro h n;refine gq Tryz.func263 rfl λc=>?_;simp[go_sem];refine(V5 b x).use ?_;simp[go_sem];exact As c rfl rfl
def Xq (l:List Int):Prop:=∀i (h:i<l.length),(1<=l[i]/\l[i]<=1073741824)/\(0<i->l[i-1]<l[i])
theorem UV:Xq []:=λi h=>by simp at h
theorem RN (x:Int):Dw [] x=false:=by simp[Dw,Az,EI]
set_option maxHeartbeats 2000000 in
theorem fa {a b:SV} {A R:List Int} (r:IL a A) (s:IL b R) (F:Xq A) (aA:Xq R) (H:A=[]\/R=[]):PC 204 [.agg [a,b]] (AA 0):=by
 intro h n;refine DO Tryz.func204 rfl λz=>?_;have p:=z.lt;refine Aa 1 [(1,.iptr [a,b])] h n ?_ (λm c=>?_)
 . cases r<;>cases s<;>simp[go_sem]
   all_goals exact⟨AZ (AS p (qa _)) (AD _ _ _),AL p AC⟩
 refine CW 0 [(1,.iptr [a,b])] h n ?_ (λm c=>?_)
 . have d:∀j y,h j=some y->j<m:=λj y e=>by have:=p j y e;omega
   refine Aa 1 [(1,.iptr [a,b]),(11,.imm 1 [a,b] false),(12,AA 2),(13,AA 0)] h n ?_ (λm c=>?_)
   . cases r<;>cases s<;>simp[go_sem,IO]
     all_goals first|exact⟨by omega,Cz (es:=[.imm 1 (A.map AA) false,.imm 1 (R.map AA) false]) (AS d (qa _)) (by simp) (by rw[AD];simp[SV.cells]) (by simp[SV.storable,SV.cells]),AL d AC⟩|exact⟨by omega,Cz (es:=[.imm 1 (A.map AA) false,.imm 0 [] true]) (AS d (qa _)) (by simp) (by rw[AD];simp[SV.cells]) (by simp[SV.storable,SV.cells]),AL d AC⟩|exact⟨by omega,Cz (es:=[.imm 0 [] true,.imm 1 (R.map AA) false]) (AS d (qa _)) (by simp) (by rw[AD];simp[SV.cells]) (by simp[SV.storable,SV.cells]),AL d AC⟩|exact⟨by omega,Cz (es:=[.imm 0 [] true,.imm 0 [] true]) (AS d (qa _)) (by simp) (by rw[AD];simp[SV.cells]) (by simp[SV.storable,SV.cells]),AL d AC⟩
   refine AY (BT 0 (α:=Nat) (λi=>[(1,.iptr [a,b]),(11,.imm 1 [a,b] false),(12,AA 2),(13,AA i)]) (λ_=>h) (λi m=>i<=2/\n<=m) (λi=>2-i) 0 ⟨qg _,c⟩ ?_ AC ?_);simp[go_sem,Ao,IO];rintro i m ⟨hi,c⟩;by_cases o:i<2;have w1:=wS i (by omega);have f:(i:Int)<2:=by omega
   obtain⟨v,l,hl,G,B⟩:∃v l,IL v l/\Xq l/\[a,b][i]? = some v:=by
    rcases(by omega:i=0\/i=1)with e|e<;>subst e;exact⟨a,A,r,F,rfl⟩;exact⟨b,R,s,aA,rfl⟩
   refine Aa 0 [(1,.iptr [a,b]),(11,.imm 1 [a,b] false),(12,AA 2),(13,AA i),(14,.bool true)] h n ?_ (λm c=>?_);simp[go_sem,IO,c,f];refine Aa 0 [(1,.iptr [a,b]),(11,.imm 1 [a,b] false),(12,AA 2),(13,AA i)] h n ?_ (λm c=>?_);simp[go_sem,IO,c];refine AX 0 (α:=Unit) (λ_=>[(1,.iptr [a,b]),(11,.imm 1 [a,b] false),(12,AA 2),(13,AA i)]) (λ_=>h) (λ_ m=>n<=m) (AY ?_) (λ_ m c=>?_);have q:[a,b][i]'(by simpa using o)=v:=by rw[qe (by simpa using o)]at B;exact Option.some.inj B
   cases hl with
   | nil=>
    refine Aa 0 [(1,.iptr [a,b]),(11,.imm 1 [a,b] false),(12,AA 2),(13,AA i),(4,.imm 0 [] true)] h n ?_ (λm c=>?_);simp[go_sem,IO,c,o,q];refine Aa 0 [(1,.iptr [a,b]),(11,.imm 1 [a,b] false),(12,AA 2),(13,AA i),(17,.imm 0 [] true),(18,AA 0),(19,AA 0)] h n ?_ (λm c=>?_);simp[go_sem,IO,c];refine AY (BT 0 (α:=Unit) (λ_=>[(1,.iptr [a,b]),(11,.imm 1 [a,b] false),(12,AA 2),(13,AA i),(17,.imm 0 [] true),(18,AA 0),(19,AA 0)]) (λ_=>h) (λ_ m=>n<=m) (λ_=>0) () c ?_ AC ?_);simp[go_sem,Ao,IO];rintro _ m c;refine AJ ?_;simp[go_sem,IO,c]
   | some l hlen=>
    refine Aa 0 [(1,.iptr [a,b]),(11,.imm 1 [a,b] false),(12,AA 2),(13,AA i),(4,.imm 1 (l.map AA) false)] h n ?_ (λm c=>?_);simp[go_sem,IO,c,o,q];refine Aa 0 [(1,.iptr [a,b]),(11,.imm 1 [a,b] false),(12,AA 2),(13,AA i),(4,.imm 1 (l.map AA) false),(17,.imm 1 (l.map AA) false),(18,AA l.length),(19,AA 0)] h n ?_ (λm c=>?_);simp[go_sem,IO,c];refine AY (BT 0 (α:=Nat) (λk=>[(1,.iptr [a,b]),(11,.imm 1 [a,b] false),(12,AA 2),(13,AA i),(4,.imm 1 (l.map AA) false),(17,.imm 1 (l.map AA) false),(18,AA l.length),(19,AA k)]) (λ_=>h) (λk m=>k<=l.length/\n<=m) (λk=>l.length-k) 0 ⟨qg _,c⟩ ?_ AC ?_);simp[go_sem,Ao,IO];rintro k m ⟨hk,c⟩;refine AJ ?_;by_cases g:k<l.length;have w2:=wS k (by omega);obtain⟨⟨g1,g2⟩,g3⟩:=G k g;have b1:¬l[k]<1:=by omega
    have w:¬(1073741824:Int)<l[k]:=by omega
    by_cases u:0<k;have t:k-1<l.length:=by omega
    have w3:IntKind.i64.wrap ((k:Int)-1)=((k-1:Nat):Int):=by rw[DA]<;>omega
    have g4:=g3 u;have C:(l[k]==l[k-1])=false:=by rw[beq_eq_false_iff_ne];omega
    have D:¬l[k]<l[k-1]:=by omega
    have E:¬l[k]=l[k-1]:=by omega
    simp[go_sem,g,b1,w,u,t,w3,C,D,w2,IO,-Int.natCast_add];exact⟨k+1,by omega,⟨by omega,c⟩,rfl⟩;simp[go_sem,g,b1,w,u,w2,IO,-Int.natCast_add];exact⟨k+1,by omega,⟨by omega,c⟩,rfl⟩;simp[go_sem,g,IO,c]
   refine AJ ?_;simp[go_sem,w1,IO,-Int.natCast_add];exact⟨i+1,by omega,⟨by omega,c⟩,rfl⟩;refine AJ ?_;have f:¬(i:Int)<2:=by omega
   simp[go_sem,f,IO,c]
 refine AJ ?_;have e:Vw (Dw R) A=false:=Si λx c=>by
  rcases H with e|e;subst e;cases c;subst e;exact RN x
 simp[go_sem];refine(bu r 263 [] [.iptr [a,b]] (Dw R) (λx=>bv s x)).use ?_;simp[go_sem,e];exact As z rfl rfl
def C8:Nat->List AM->List (List AM)
 | 0,_=>[]
 | _,[]=>[]
 | f+1,y::l=>(y::l.takeWhile λz=>decide (z.key=y.key))::C8 f (l.dropWhile λz=>decide (z.key=y.key))
def Fe (acc:Int->Bool):List AM->List AM
 | []=>[]
 | y::l=>if l.any (λz=>acc z.rev)then Fe acc l else if acc y.rev then l else y::l
def KZ (p:Int×Bool):List AM->Int×Bool
 | []=>p
 | y::_=>(y.before,y.had)
def GZ (rej:Int->Bool) (p:Int×Bool):List AM->Int×Bool->List AM×(Int×Bool)
 | [],now=>([],now)
 | y::l,now=>if rej y.rev then GZ rej p l now else
  let r:=GZ rej p l (KZ p l)
  (⟨y.rev,y.key,now.1,now.2⟩::r.1,r.2)
def Du (acc rej:Int->Bool) (p:Int×Bool) (l:List AM):List AM×(Int×Bool):=GZ rej p (Fe acc l) (KZ p (Fe acc l))
def Jc (l:List Bi) (k:Int):List Bi:=if(QH l k).2=true then l.eraseIdx (QH l k).1 else l
def Hf (l:List Bi) (k:Int) (s:Int×Bool):List Bi:=if s.2=true then PX l k s.1 else Jc l k
def CM (acc rej:Int->Bool) (ps:List Bi) (o:List Bi×List AM) (g:List AM):List Bi×List AM:=
 let k:=(g.headD ⟨0,0,0,false⟩).key
 let r:=Du acc rej (Ix ps k) g
 (Hf o.1 k r.2,o.2++r.1)
def CE (acc rej:Int->Bool) (h:AF):Option AF:=
 if(decide (h.ins≠0)&&rej h.ins)||h.dels.any (λx=>acc x.rev)then none else
  let i:=decide (h.ins≠0)&&acc h.ins
  let o:=(C8 h.layers.length h.layers).foldl (CM acc rej h.props) (h.props,[])
  some { h with props:=o.1,ins:=if i then 0 else h.ins,move:=if i then 0 else h.move,dels:=h.dels.filter (λx=>!rej x.rev),layers:=o.2 }
section
variable {P : Program} {E : CC} {evs : Operand → SV} {o : Oper} {h : Hp} {n : Nat} {K : SV → Hp → Nat → Prop}
theorem W8 {c:Cx} {q off:Nat} {cs xs:List SV} {ty:Option TypeId} {us:List Value} {b st:Nat} (R:CF h c) (p:h q=some (.cells cs ty)) (m:c.ρ q=some (b,st))
 (hle:off<=cs.length) (d:st+off+us.length<=rm c.w b) (a:Ag (V c) xs us) (h1:∀x∈us,x.oneCell'=true):
 ∃w',(storeCells ⟨b,st+off,none⟩ us).run P c.w=.ok () w'/\CF (hset h q (some (.cells (cs.take off++xs) ty))) { c with w:=w' }/\EH c { c with w:=w' }:=by
 obtain⟨r,st',arr,e,vs,n,j,g3,o,u,g6⟩:=R.obj _ _ p;rw[m]at n;cases n;have hl:=a.length;have hl2:=o.length;have l:rm c.w b=arr.size:=by simp[rm,j]
 rw[l]at d;have g:=run_storeCells_at (P:=P) b (st+off) e us 0 arr c.w j (by simpa using d) h1;simp only[kP]at g;refine⟨_,g,?_⟩;have f:=setRow_heap c.w b arr (arr.toList.take (st+off)++us++arr.toList.drop (st+off+us.length)).toArray e (0,0) j;refine R.write p m (GN _ _ _) (λr k=>Fi _ _ _ k) ?_ rfl rfl (λE=>?_);simp only[rm,j,f];simp;omega;refine⟨b,st,_,e,vs.take off++us,m,f,λi x a=>?_,wa E (vh (o.take off) a),λx a=>?_,g6⟩;simp only[List.getElem?_toArray,qj];have s:(arr.toList.take (st+off)).length=st+off:=by simp;omega
 have t:(vs.take off).length=off:=by simp;omega
 by_cases hi:i<off;rw[qZ (by omega)]at a ⊢;rw[jz,if_pos (by omega)]at a ⊢;simpa using g3 i x a;rw[qT (by omega),t]at a;have hi2:=(qh.1 a).1;rw[qT (by omega),s,qZ (by omega),show st+i-(st+off)=i-off by omega];exact a;rcases qd.1 a with a|a;exact u x (qS a);exact h1 x a
theorem W6 {c:Cx} {q off:Nat} {cs:List SV} {ty:Option TypeId} {us:List Value} {b st:Nat} (R:CF h c) (l:h q=some (.cells cs ty)) (n:c.ρ q=some (b,st))
 (hge:cs.length<=off) (a:st+off+us.length<=rm c.w b) (h1:∀x∈us,x.oneCell'=true):
 ∃w',(storeCells ⟨b,st+off,none⟩ us).run P c.w=.ok () w'/\CF h { c with w:=w' }/\EH c { c with w:=w' }:=by
 obtain⟨s,st',arr,e,vs,o,g,g3,p,t,g6⟩:=R.obj _ _ l;rw[n]at o;cases o;have hl2:=p.length;have m:rm c.w b=arr.size:=by simp[rm,g]
 rw[m]at a;have f:=run_storeCells_at (P:=P) b (st+off) e us 0 arr c.w g (by simpa using a) h1;simp only[kP]at f;refine⟨_,f,?_⟩;have d:=setRow_heap c.w b arr (arr.toList.take (st+off)++us++arr.toList.drop (st+off+us.length)).toArray e (0,0) g;have u:hset h q (some (.cells cs ty))=h:=by
  funext j;simp only[hset];split;subst_vars;exact l.symm;rfl
 have key:=R.write (y:=.cells cs ty) l n (GN c.w b _) (λs k=>Fi _ _ _ k) (by simp only[rm,g,d];simp;omega) rfl rfl (λE=>⟨b,st,_,e,vs,n,d,λi x r=>by
  simp only[List.getElem?_toArray,qj];have hi2:=(qh.1 r).1;have eA:(arr.toList.take (st+off)).length=st+off:=by simp;omega
  rw[qZ (by omega),jz,if_pos (by omega)];simpa using g3 i x r,wa E p,t,g6⟩)
 rw[u]at key;exact key
theorem VK {t t2 e e2:TypeId} {x y:Operand} {j z a l f d g B:Nat} {cs:List SV} {ty:Option TypeId} (Z:o.op=.call { callee:=.builtin .append,args:=#[x,y],argTypes:=#[t,t2] }) (ht:BA P t=some e) (O:BA P t2=some e2)
 (hz:Br P e=z) (hz0:z≠0) (s:evs x=.slc j a z l f) (hy:evs y=.slc j d z g B) (Y:h j=some (.cells cs ty)) (M:a+l*z<=cs.length) (hi2:d+g*z<=cs.length) (m:l+g<=f)
 (hK:K (.slc j a z (l+g) f) (hset h j (some (.cells (cs.take (a+l*z)++(cs.drop d).take (g*z)) ty))) n):DS E P evs o h n K:=by
 refine⟨by rw[Z];simp,λc ev _ _ R F hv=>?_⟩;have H:=hv x;have I:=hv y;rw[s,V]at H;rw[hy,V]at I;obtain⟨b,st,hρ,hu,hcap,v⟩:=H;obtain⟨b',T,hρ',Q,hcap',hroom'⟩:=I;rw[hρ]at hρ';cases hρ';obtain⟨u,L,N⟩:=Dy (P:=P) (e:=e) (by omega);have r:u.size=z:=N.symm.trans hz;obtain⟨b',T,arr,e',vs,U,J,g3,W,g5,g6⟩:=R.obj _ _ Y;rw[hρ]at U;cases U;have hvl:=W.length;have A:((vs.drop d).take (g*z)).length=g*z:=by simp;omega
 have p:∀x∈(vs.drop d).take (g*z),x.oneCell'=true:=λx s=>g5 x (kb (qS s));have hmul:l*z+g*z<=f*z:=by rw[<-kN];exact kw _ m
 obtain⟨w',G,R',X⟩:=W8 (P:=P) (off:=a+l*z) R Y hρ M (by rw[A];omega) ((W.drop d).take (g*z)) p;have hrm:rm c.w b=arr.size:=by simp[rm,J]
 have S:Src P u.size t2 (ev y) g ((vs.drop d).take (g*z)) c.w:=by
  rw[r];refine XT (Ay O) Q A p c.w ⟨λ_=>rfl,λi x s=>?_⟩;rw[jz]at s;split at s;rw[ki]at s;have:=g3 _ _ s;simp only[World.cell?,J,qu];simpa using this;cases s
 have C:∀k,k<((vs.drop d).take (g*z)).length->(c.w.cell? ⟨b,st+a+l*u.size+k,none⟩).isSome=true:=λk hk=>by
  rw[A]at hk;have:st+a+l*z+k<arr.size:=by omega
  rw[r];simp only[World.cell?,J];simp[this]
 have D:∀k,k<((vs.drop d).take (g*z)).length->c.w.frozen? ⟨b,st+a+l*u.size+k,none⟩=false:=λk _=>by simp[World.frozen?,J]
 have hr:=run_append_room_src (P:=P) c.w t t2 o.type e u (Ay ht) L b (st+a) l f (ev y) g _ S m C D;have q:=run_storeCells_cells (P:=P) b (st+a+l*u.size) ((vs.drop d).take (g*z)) 0 c.w (by simpa using C) (by simpa using D) p;simp only[kP]at q;have hw:w'=c.w.setCells b (st+a+l*u.size) ((vs.drop d).take (g*z)):=by
  rw[show st+(a+l*z)=st+a+l*u.size by rw[r];omega]at G;rw[G]at q;exact(Result.ok.inj q).2
 rw[<-hw,<-hu]at hr;refine⟨.slice (some ⟨b,st+a,none⟩) (l+g) f,.slc j a z (l+g) f,_,n,_,BY (P:=P) (ev:=ev) Z _ _ _ λc2=>?_,?_,R',F,⟨X,qa _,λ_ _=>rfl⟩,hK⟩;simp only[builtin,Sem.run_bind,List.map_toArray,qr,kE];rw[hr];rfl;rw[V];exact⟨b,st,hρ,rfl,m,qI v (X.room b)⟩
theorem Tb {t e:TypeId} {x:Operand} {j off z k cap:Nat} {cs:List SV} {ty:Option TypeId} (y:o.op=.call { callee:=.builtin .clear,args:=#[x],argTypes:=#[t] }) (ht:BA P t=some e)
 (_hz:Br P e=z) (hz0:z≠0) (f:(BK P e).storable=true) (hzl:(BK P e).cells.length=z) (L:evs x=.slc j off z k cap) (I:h j=some (.cells cs ty)) (v:cs.length<=off)
 (C:K (.tup []) h n):DS E P evs o h n K:=by
 refine⟨by rw[y];simp,λc ev _ _ R F J=>?_⟩;have s:=J x;rw[L,V]at s;obtain⟨b,st,hρ,D,l,hroom⟩:=s;have r:=Ay ht;obtain⟨i,u,hi,B,A⟩:=CB f;have g:=C3 c u;rw[<-A]at g;have a:u.cells.size=z:=by have:=(g.cells f).1.length;simp at this;omega
 obtain⟨zr,M⟩:=Gy g f k;have d:=EX u.cells (by omega) k;have p:((List.replicate k u.cells.toList).flatten).length=k*z:=by rw[List.length_flatten,List.map_replicate,List.sum_replicate_nat];simp[a]
 have hmul:k*z<=cap*z:=kw _ l;obtain⟨w',q,G,X⟩:=W6 (P:=P) (off:=off) R I hρ v (by rw[p];omega) M;by_cases m:k=0;subst m;have h0:(Builtin.clear_ #[t] o.type #[.slice (some ⟨b,st+off,none⟩) 0 cap]).run P c.w=.ok (.tuple #[]) c.w:=by simp[Builtin.clear_,AN r]
 refine⟨.tuple #[],.tup [],h,n,c,BY (P:=P) (ev:=ev) y _ _ _ λH=>?_,by simp[V,VL],R,F,vm n c,C⟩;simp only[builtin,Sem.run_bind,List.map_toArray,qr,kE,D,h0,Result.andThen_ok,Sem.run_pure];have h0:(Builtin.clear_ #[t] o.type #[.slice (some ⟨b,st+off,none⟩) k cap]).run P c.w=.ok (.tuple #[]) w':=by
  simp only[Builtin.clear_];cases k with
  | zero=>exact absurd rfl m
  | succ n=>
   simp[AN r,zeroValue,typeInfo,hi,B,Builtin.zeroCells]at *;simp[d,q]
 refine⟨.tuple #[],.tup [],h,n,{ c with w:=w' },BY (P:=P) (ev:=ev) y _ _ _ λH=>?_,by simp[V,VL],G,F,⟨X,qa _,λ_ _=>rfl⟩,C⟩;simp only[builtin,Sem.run_bind,List.map_toArray,qr,kE,D,h0,Result.andThen_ok,Sem.run_pure]
theorem VH {isS:Bool} {len cap l m u:Nat} {i j k:IntKind} (h1:l<=m) (h2:m<=u) (h3:u<=cap) (w:World):(Instr.sliceBounds isS len cap (some (.int i l)) (some (.int j m)) (some (.int k u))).run P w=.ok (l,m,u) w:=by
 have hb:=λ(code:BoundsCode) (i:IntKind)=>EA (P:=P) (i:=i) (n:=(l:Int)) (y:=m) (code:=code) (by omega) (by omega) w;have F8:=λ(code:BoundsCode) (i:IntKind)=>EA (P:=P) (i:=i) (n:=(m:Int)) (y:=u) (code:=code) (by omega) (by omega) w;have KL:=λ(code:BoundsCode) (i:IntKind)=>EA (P:=P) (i:=i) (n:=(u:Int)) (y:=cap) (code:=code) (by omega) (by omega) w;simp only[Int.toNat_natCast]at hb F8 KL;simp[Instr.sliceBounds,hb,F8,KL]
theorem Ru {t e:TypeId} {x lo hi mx:Operand} {j off z len cap l m u:Nat} (B:o.op=.slice t x (some lo) (some hi) (some mx)) (ht:BA P t=some e) (I:Br P e=z) (hz0:z≠0) (H:evs x=.slc j off z len cap)
 (s:evs lo=.int .i64 l) (q:evs hi=.int .i64 m) (v:evs mx=.int .i64 u) (h1:l<=m) (h2:m<=u) (A:u<=cap) (h4:l<u)
 (D:K (.slc j (off+l*z) z (m-l) (u-l)) h n):DS E P evs o h n K:=by
 refine⟨by rw[B];simp,λc ev _ _ R F p=>?_⟩;have a:=p x;rw[H,V]at a;obtain⟨b,st,hρ,G,hcap,hroom⟩:=a;obtain⟨J,r,y⟩:=Dy (P:=P) (e:=e) (by omega);have d:=p lo;have f:=p hi;have g:=p mx;rw[s]at d;rw[q]at f;rw[v]at g;have d:=DF d;have f:=DF f;have g:=DF g;have C:=FO (P:=P) (Ay ht) ⟨J,r,y.symm.trans I⟩ (some ⟨b,st+off,none⟩) len cap l m u (VH (isS:=true) (len:=len) (i:=.i64) (j:=.i64) (k:=.i64) h1 h2 A c.w);rw[<-G,<-d,<-f,<-g]at C;refine⟨_,.slc j (off+l*z) z (m-l) (u-l),h,n,c,by simp[execOp,B,C];rfl,?_,R,F,vm n c,D⟩;rw[V];refine⟨b,st,hρ,?_,by omega,?_⟩;rw[if_neg (by omega)];simp[FY,qu];have:l*z+(u-l)*z=u*z:=by rw[<-kN];congr 1;omega
 have:u*z<=cap*z:=kw _ A;omega
theorem QP {t e:TypeId} {x lo:Operand} {j off z len:Nat} (k:o.op=.slice t x (some lo) none none) (ht:BA P t=some e) (s:Br P e=z) (hz0:z≠0) (r:evs x=.slc j off z len len)
 (g:evs lo=.int .i64 len) (p:K (.slc j off z 0 0) h n):DS E P evs o h n K:=by
 refine⟨by rw[k];simp,λc ev _ _ R F m=>?_⟩;have a:=m x;rw[r,V]at a;obtain⟨b,st,hρ,q,hcap,hroom⟩:=a;obtain⟨u,f,i⟩:=Dy (P:=P) (e:=e) (by omega);have d:=m lo;rw[g]at d;have d:=DF d;have l:=FO (P:=P) (Ay ht) ⟨u,f,i.symm.trans s⟩ (some ⟨b,st+off,none⟩) len len len len len (MR (isS:=true) (lo:=some (.int .i64 len)) (hi:=none) (.inr ⟨.i64,rfl⟩) (.inl ⟨rfl,rfl⟩) (qa _) (qa _) c.w);rw[<-q,<-d]at l;refine⟨_,.slc j off z 0 0,h,n,c,by simp[execOp,k,l];rfl,?_,R,F,vm n c,p⟩;rw[V];exact⟨b,st,hρ,by simp,by omega,by omega⟩
end
def dN:Tr:=.pure 0<|.pure 1<|.pure 3<|.pure 4<|.two 2 5 (.one 5<|.one 6<|.pure 7 .nil) (.one 2<|.one 6<|.pure 7 .nil)
set_option maxHeartbeats 4000000 in
theorem ic (l:List Bi) (hl:l.length<=1048576) (i:Nat) (hi:i<l.length) {H:Hp} {n o cap:Nat} (e:l.length<=cap) (L:H o=some (.cells (Bm l))):
 BL Tryz.prog 310 [.slc o 0 2 l.length cap,AA i,AA ((i+1:Nat):Int)] H n (λv h' n'=>v=AU (l.eraseIdx i)/\h'=hset H o none/\n'=n):=by
 refine DO Tryz.func310 rfl λA=>?_;have F:=A.lt;have ht:BA Tryz.prog 23=some 193:=by simp[go_sem]
 have f:Br Tryz.prog 193=2:=by simp[go_sem]
 have J:(BK Tryz.prog 193).storable=true:=by simp[go_sem]
 have K:(BK Tryz.prog 193).cells.length=2:=by simp[go_sem]
 have g:(BA Tryz.prog 23).isSome=true:=by rw[ht];rfl
 have hC:=Ez l;have hon:=F o _ L;have I:(l.eraseIdx i).length=l.length-1:=List.length_eraseIdx_of_lt hi;have N:Bm (l.eraseIdx i)=(Bm l).take (i*2)++(Bm l).drop ((i+1)*2):=by
  rw[Jd l i (by omega),Lp l (i+1) (by omega),<-N9,List.eraseIdx_eq_take_drop_succ]
 have hEl:=Ez (l.eraseIdx i);refine CG 0 [(0,.slc o 0 2 l.length cap),(1,AA i),(2,AA ((i+1:Nat):Int))] H n (AJ ?_) (λm b=>?_);simp[go_sem,IO,-Int.natCast_add];subst b;refine CG 0 [(0,.slc o 0 2 l.length cap),(1,AA i),(2,AA ((i+1:Nat):Int))] H n (AJ ?_) (λm b=>?_);simp[go_sem,-Int.natCast_add];refine I9 (j:=o) (off:=0) (z:=2) (len:=l.length) (cap:=cap) rfl g (by simp[go_sem]) ?_;simp[go_sem,-Int.natCast_add];refine Ru (j:=o) (off:=0) (z:=2) (len:=l.length) (cap:=cap) (l:=i) (m:=i+1) (u:=l.length) rfl ht f (by omega) (by simp[go_sem]) (by simp[go_sem]) (by simp[go_sem]) (by simp[go_sem]) (by omega) (by omega) e hi ?_;simp[go_sem,IO,-Int.natCast_add];subst b;refine CG 0 [(0,.slc o 0 2 l.length cap),(1,AA i),(2,AA ((i+1:Nat):Int))] H n (AJ ?_) (λm b=>?_);have:((i:Int)==((i+1:Nat):Int))=false:=by simp;omega
 simp[go_sem,IO,this,-Int.natCast_add];subst b;refine CG 0 [(0,.slc o 0 2 l.length cap),(1,AA i),(2,AA ((i+1:Nat):Int)),(7,AA l.length)] H n (AJ ?_) (λm b=>?_);simp[go_sem,-Int.natCast_add];refine I9 (j:=o) (off:=0) (z:=2) (len:=l.length) (cap:=cap) rfl g (by simp[go_sem]) ?_;simp[go_sem,IO,-Int.natCast_add];subst b;obtain⟨a,d,hb,O,s⟩:∃a d,a+(l.length-(i+1))*2<=(Bm l).length/\((Bm l).drop a).take ((l.length-(i+1))*2)=(Bm l).drop ((i+1)*2)/\∀{evs:Operand->SV} {x lo:Operand} {t:Oper} {Q:SV->Hp->Nat->Prop},t.op=.slice 23 x (some lo) none none->evs x=.slc o 0 2 l.length cap->evs lo=AA ((i+1:Nat):Int)->Q (.slc o a 2 (l.length-(i+1)) d) H n->DS (CC.plain.call false 0) Tryz.prog evs t H n Q:=by
  by_cases c:i+1=l.length/\cap=l.length;obtain⟨c1,M⟩:=c;refine⟨0,0,by omega,?_,λh1 h2 w q=>?_⟩;rw[c1,vU,Nat.zero_mul,vE];exact(kj (by omega)).symm;rw[c1]at w q;rw[vU]at q;exact QP h1 ht f (by omega) (M▸h2) w q;refine⟨(i+1)*2,cap-(i+1),by omega,qv (by rw[vf];omega),λh1 h2 w q=>?_⟩;exact Bl (l:=i+1) (m:=l.length) h1 ht f (by omega) h2 (.inr ⟨_,rfl,w⟩) (.inl ⟨rfl,rfl⟩) (by omega) e (by omega) (by rw[qU];exact q)
 have B:∀{evs:Operand->SV} {x y:Operand} {t:Oper} {Q:SV->Hp->Nat->Prop},t.op=.call { callee:=.builtin .append,args:=#[x,y],argTypes:=#[23,23] }->evs x=.slc o 0 2 i cap->evs y=.slc o a 2 (l.length-(i+1)) d->Q (.slc o 0 2 (l.length-1) cap) (hset H o (some (.cells (Bm (l.eraseIdx i))))) n->DS (CC.plain.call false 0) Tryz.prog evs t H n Q:=λA R S P=>
  VK A ht ht f (by omega) R S L (by omega) hb (by omega) (by
   rw[qU,O,<-N,show i+(l.length-(i+1))=l.length-1 by omega];exact P)
 obtain⟨G,D⟩:∃G:Hp,G=hset H o (some (.cells (Bm (l.eraseIdx i)))):=⟨_,rfl⟩
 rw[<-D]at B;have r:G o=some (.cells (Bm (l.eraseIdx i))):=by rw[D,AD]
 refine AX 0 (α:=Unit) (λ_=>[(0,.slc o 0 2 (l.length-1) cap),(7,AA l.length)]) (λ_=>G) (λ_ m=>n=m) (CK dN rfl (by kernel_rfl) (by kernel_rfl) ?_) (λ_ m b=>?_);simp[go_sem,dN,-Int.natCast_add];refine⟨?_,?_⟩;refine Bl (j:=o) (off:=0) (z:=2) (len:=l.length) (cap:=cap) (l:=0) (m:=i) rfl ht f (by omega) (by simp[go_sem]) (.inl ⟨rfl,rfl⟩) (.inr ⟨_,rfl,by simp[go_sem]⟩) (by omega) (by omega) (by omega) ?_;simp[go_sem,-Int.natCast_add];refine s rfl (by simp[go_sem]) (by simp[go_sem]) ?_;simp[go_sem,-Int.natCast_add];refine B rfl (by simp[go_sem]) (by simp[go_sem]) ?_;simp[go_sem,IO];refine s rfl (by simp[go_sem]) (by simp[go_sem]) ?_;simp[go_sem,-Int.natCast_add];refine Bl (j:=o) (off:=0) (z:=2) (len:=l.length) (cap:=cap) (l:=0) (m:=i) rfl ht f (by omega) (by simp[go_sem]) (.inl ⟨rfl,rfl⟩) (.inr ⟨_,rfl,by simp[go_sem]⟩) (by omega) (by omega) (by omega) ?_;simp[go_sem,-Int.natCast_add];refine B rfl (by simp[go_sem]) (by simp[go_sem]) ?_;simp[go_sem,IO];subst b;refine CG 0 [(0,.slc o 0 2 (l.length-1) cap)] G n (AJ ?_) (λm b=>?_);simp[go_sem];refine I9 (j:=o) (off:=0) (z:=2) (len:=l.length-1) (cap:=cap) rfl g (by simp[go_sem]) ?_;simp[go_sem];refine Bl (j:=o) (off:=0) (z:=2) (len:=l.length-1) (cap:=cap) (l:=l.length-1) (m:=l.length) rfl ht f (by omega) (by simp[go_sem]) (.inr ⟨_,rfl,by simp[go_sem]⟩) (.inr ⟨_,rfl,by simp[go_sem]⟩) (by omega) (by omega) (by omega) ?_;simp[go_sem];refine Tb (j:=o) (off:=(l.length-1)*2) (z:=2) (k:=l.length-(l.length-1)) (cap:=cap-(l.length-1)) rfl ht f (by omega) J K (by simp[go_sem]) r (by omega) ?_;simp[go_sem,IO];subst b;refine CG 1 [(6,.sl o 0 2 (l.length-1) false)] G n ?_ (λm b=>?_);refine AJ ?_;simp[go_sem,Fz];subst b;refine AJ ?_;simp[go_sem];refine .inr ⟨1,AU (l.eraseIdx i),hset H o none,?_,Bi.E.imm _ _ _ _,λj y p=>?_,rfl,rfl,rfl⟩;have:=Cz (h':=G) (h:=hset H o none) (k:=0) (z:=2) (es:=(l.eraseIdx i).map Bi.enc) (full:=false) (full':=false) (o:=o) (AD _ _ _) (by simp) r (Bi.E.size _);rw[qf,I]at this;exact this;by_cases C:j=o;subst C;rw[AD]at p;cases p;rw[AE _ _ C]at p;exact⟨by rw[D,AE _ _ C];exact p,A j y p⟩
set_option maxHeartbeats 2000000 in
theorem ge (l:List Bi) (hl:l.length<=1048576) (k:Int):PC 279 [AU l,AA k] (AU (Jc l k)):=by
 intro h n;refine DO Tryz.func279 rfl λr=>?_;have f:=r.lt;obtain⟨i,b,d⟩:∃i b,QH l k=(i,b):=⟨_,_,rfl⟩
 have c:=Zv l hl k;have p:b=true->i<l.length:=λe=>by have:=TR (l:=l) (k:=k);rw[d]at this;exact this e
 unfold Jc;rw[d]at c ⊢;dsimp only at c ⊢;refine CW 0 [(0,AU l),(1,AA k)] h n (AJ ?_) (λm s=>?_);simp[go_sem,IO];refine CW 0 [(0,AU l),(5,AA i),(6,.bool b)] h n (AJ ?_) (λm s=>?_);simp[go_sem];refine qz c ?_;simp[go_sem,IO,s];cases b with
 | false=>
  rw[if_neg (by decide)];refine AJ ?_;simp[go_sem];refine qz (bn l hl) ?_;simp[go_sem];exact As r (Bi.E.imm _ _ _ _) rfl
 | true=>
  rw[if_pos rfl];have hi:=p rfl;have w1:=wS i (by omega);refine AX 0 (α:=Lx) (λq=>[(5,AA i),(6,.bool true),(7,.sl q.o 0 2 l.length q.full)]) (λq=>hset h q.o (some (.cells (Bm l)))) (λq m'=>n<=q.o/\q.o<m') (AJ ?_) (λq m' v=>?_);simp[go_sem];refine wq (c9 l hl) ?_;rintro w t m' ⟨w1,w2,w3⟩;rcases w3 with⟨w3,_⟩|⟨o,full,h1,h2,rfl,u⟩
  have:l=[]:=by simpa using w3
  rw[this]at hi;simp at hi;simp[go_sem,IO];refine⟨⟨o,full⟩,⟨by show n<=o;omega,h2⟩,IO,λj y g=>?_⟩;simp only[hset]at g;split at g;rename_i c;rw[c,<-g];exact u;exact w2 j y g;obtain⟨o,full⟩:=q;dsimp only at v ⊢;refine AJ ?_;simp[go_sem,w1,-Int.natCast_add];refine Ap.cap λcap a=>?_;refine qP (ic l hl i hi a (AD _ _ _)) ?_;rintro w t m2 ⟨rfl,rfl,rfl⟩;simp[go_sem];refine A3 r (λj y g=>?_) rfl (Bi.E.imm _ _ _ _);have:=f j y g;rw[AE _ _ (by omega),AE _ _ (by omega)];exact g
set_option maxHeartbeats 2000000 in
theorem iV (l:List Bi) (hl:l.length<=1048576) (a b c d:SV) (k v:Int) (s:Bool) {h:Hp} {n:Nat}:BL Tryz.prog 234 [.agg [AU l,a,b,c,d],AA k,.agg [AA v,.bool s]] h n (λw h' n'=>n<=n'/\(∀o y,h o=some y->h' o=some y)/\(∀o,o<n->h' o=h o)/\w=.agg [AU (Hf l k (v,s)),a,b,c,d]):=by
 refine DO Tryz.func234 rfl λC=>?_;have g:=C.lt;obtain⟨G,f⟩:∃G:List Bi->List SV->Hp,∀q z,G q z=hset (hset h n (some (.cells [AU q,a,b,c,d]))) (n+2) (some (.cells z)):=⟨_,λ_ _=>rfl⟩
 have i:∀q z,G q z n=some (.cells [AU q,a,b,c,d]):=λq z=>by rw[f,AE _ _ (by omega),AD]
 have A:∀q z,G q z (n+2)=some (.cells z):=λq z=>by rw[f,AD]
 have x:∀q z t,hset (G q z) n (some (.cells [AU t,a,b,c,d]))=G t z:=λq z t=>by
  rw[f,f];funext j;simp only[hset];grind
 have B:∀q z u,hset (G q z) (n+2) (some (.cells u))=G q u:=λq z u=>by rw[f,f,Ah]
 obtain⟨z0,p⟩:∃z0:List SV,z0=[.imm 0 [] true,AA 0,AA 0,.imm 0 [] true,.imm 0 [] true]:=⟨_,rfl⟩
 refine By 1 [(1,AA k),(3,.ptr n 0),(5,.iptr [AA v,.bool s]),(6,.ptr (n+2) 0)] (G l z0) (λm=>n+2<m) ?_ (λm r=>?_);rw[f,p];simp[go_sem,IO,qu];refine⟨AZ (by simp only[hset];rw[if_neg (by omega),if_neg (by omega)];exact AS g (by omega)) (by simp[hset]),λj y=>?_⟩;have:=g j y;simp only[hset];grind;refine Bg 0 [(3,.ptr n 0),(6,.ptr (n+2) 0)] (G (Hf l k (v,s)) z0) (λm=>n+2<m) (AJ ?_) (λm r=>?_);cases s with
 | true=>
  have e:Hf l k (v,true)=PX l k v:=rfl;rw[e];simp[go_sem,i];refine qz (gd l hl k v) ?_;generalize PX l k v=q;simp[go_sem,i,x,IO,r]
 | false=>
  have e:Hf l k (v,false)=Jc l k:=rfl;rw[e];simp[go_sem,i];refine qz (ge l hl k) ?_;generalize Jc l k=q;simp[go_sem,i,x,IO,r]
 refine AJ ?_;generalize Hf l k (v,s)=q;subst p;simp[go_sem,i,A,B,SV.cells];refine .inl ⟨by omega,λo y e=>?_,λo e=>?_,rfl⟩;have:=g o y e;rw[f,AE _ _ (by omega),AE _ _ (by omega)];exact e;rw[f,AE _ _ (by omega),AE _ _ (by omega)]
theorem Jv {α:Type} {p q:α->Bool}:∀{l:List α},(∀x∈l,p x=q x)->l.any p=l.any q
 | [],_=>rfl
 | x::l,h=>by rw[List.any_cons,List.any_cons,h x (qV ..),Jv λy a=>h y (qC _ a)]
def Qi (σ:Int->Int) (y:AM):AM:=⟨σ y.rev,y.key,y.before,y.had⟩
structure Jn (σ:Int->Int) (acc rej acc' rej':Int->Bool) (x:Int):Prop where
 a:acc' (σ x)=acc x
 r:rej' (σ x)=rej x
 n:acc x=false->rej x=false->σ x=x
section
variable {σ : Int → Int} {acc rej acc' rej' : Int → Bool}
theorem Ug (p:Int×Bool) (l:List AM):KZ p (l.map (Qi σ))=KZ p l:=by cases l<;>rfl
theorem HW {y:AM}:∀{l:List AM},y∈Fe acc l->y∈l/\acc y.rev=false
 | [],h=>by cases h
 | x::l,h=>by
  rw[Fe]at h;by_cases c:l.any (λz=>acc z.rev)=true;rw[if_pos c]at h;obtain⟨h1,h2⟩:=HW h;exact⟨qC _ h1,h2⟩;rw[if_neg c]at h;have a:∀z∈l,acc z.rev=false:=λz b=>by
   cases g:acc z.rev with
   | false=>rfl
   | true=>exact absurd (vo.2 ⟨z,b,g⟩) c
  by_cases d:acc x.rev=true;rw[if_pos d]at h;exact⟨qC _ h,a y h⟩;rw[if_neg d]at h;refine⟨h,?_⟩;rcases qt.1 h with e|e;rw[e];simpa using d;exact a y e
theorem Nx:∀{l:List AM},(∀y∈l,Jn σ acc rej acc' rej' y.rev)->Fe acc' (l.map (Qi σ))=(Fe acc l).map (Qi σ)
 | [],_=>rfl
 | x :: l, h => by
  have hl:∀y∈l,Jn σ acc rej acc' rej' y.rev:=λy d=>h y (qC _ d);have b:(l.map (Qi σ)).any (λz=>acc' z.rev)=l.any (λz=>acc z.rev):=by
   rw[List.any_map];exact Jv λz e=>(hl z e).a
  have c:acc' (Qi σ x).rev=acc x.rev:=(h x (qV ..)).a;rw[qr,Fe,Fe,b,c,Nx hl];split;rfl;split<;>rfl
theorem NW {p:Int×Bool}:∀{l:List AM} {now:Int×Bool},(∀y∈l,Jn σ acc rej acc' rej' y.rev/\acc y.rev=false)->GZ rej' p (l.map (Qi σ)) now=GZ rej p l now
 | [],_,_=>rfl
 | x::l,now,h=>by
  have hl:∀y∈l,Jn σ acc rej acc' rej' y.rev/\acc y.rev=false:=λy b=>h y (qC _ b);obtain⟨g,a0⟩:=h x (qV ..);have a:rej' (Qi σ x).rev=rej x.rev:=g.r;rw[qr,GZ,GZ,a,NW hl,Ug,NW hl];by_cases c:rej x.rev=true;rw[if_pos c,if_pos c];rw[if_neg c,if_neg c];have:(Qi σ x).rev=x.rev:=g.n a0 (by simpa using c);rw[this];rfl
theorem Uv {p:Int×Bool} {l:List AM} (h:∀y∈l,Jn σ acc rej acc' rej' y.rev):Du acc' rej' p (l.map (Qi σ))=Du acc rej p l:=by
 unfold Du;rw[Nx h,Ug];exact NW λy a=>⟨h y (HW a).1,(HW a).2⟩
theorem UM:∀(f:Nat) (l:List AM),C8 f (l.map (Qi σ))=(C8 f l).map (List.map (Qi σ))
 | 0,_=>rfl
 | _+1,[]=>rfl
 | f+1,y::l=>by
  have e:(λz:AM=>decide (z.key=(Qi σ y).key)) ∘ Qi σ=λz=>decide (z.key=y.key):=rfl;rw[qr,C8,C8,List.takeWhile_map,List.dropWhile_map,e,UM];rfl
end
theorem K0 {y:AM} {g:List AM}:∀{f:Nat} {l:List AM},g∈C8 f l->y∈g->y∈l
 | 0,_,h,_=>by simp[C8]at h
 | _+1,[],h,_=>by simp[C8]at h
 | f+1,x::l,h,hy=>by
  rw[C8]at h;rcases qt.1 h with e|e;subst e;rcases qt.1 hy with e|e;rw[e];exact qV ..;exact qC _ ((List.takeWhile_sublist _).subset e);exact qC _ ((List.dropWhile_sublist _).subset (K0 e hy))
section
variable {σ : Int → Int} {acc rej acc' rej' : Int → Bool}
theorem Sw (ps:List Bi) (o:List Bi×List AM) {g:List AM} (h:∀y∈g,Jn σ acc rej acc' rej' y.rev):CM acc' rej' ps o (g.map (Qi σ))=CM acc rej ps o g:=by
 have e:((g.map (Qi σ)).headD ⟨0,0,0,false⟩).key=(g.headD ⟨0,0,0,false⟩).key:=by cases g<;>rfl
 simp only[CM];rw[e,Uv h]
theorem NV (ps:List Bi):∀(G:List (List AM)) (o:List Bi×List AM),(∀g∈G,∀y∈g,Jn σ acc rej acc' rej' y.rev)->(G.map (List.map (Qi σ))).foldl (CM acc' rej' ps) o=G.foldl (CM acc rej ps) o
 | [],_,_=>rfl
 | g::G,o,h=>by
  rw[qr,jy,jy,Sw ps o (h g (qV ..))];exact NV ps G _ λk a=>h k (qC _ a)
theorem Uw (ps:List Bi) (o:List Bi×List AM) (f:Nat) (l:List AM) (h:∀y∈l,Jn σ acc rej acc' rej' y.rev):(C8 f (l.map (Qi σ))).foldl (CM acc' rej' ps) o=(C8 f l).foldl (CM acc rej ps) o:=by
 rw[UM];exact NV ps _ o λg hg y a=>h y (K0 hg a)
end
end Go.Proofs.YtgakninlhfkkmaaGreat.Sh
