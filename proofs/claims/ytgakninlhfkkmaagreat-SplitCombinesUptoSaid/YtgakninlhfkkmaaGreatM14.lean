/- A part of the proof (part 14 of 17). -/
import Derived.Test.YtgakninlhfkkmaaGreatM13
import Derived.Sort.Grow
import Derived.Deep.Draws
import Derived.Shelf.SlSortCmp.WholeK
import Derived.Test.YtgakninlhfkkmaaGreatProg
import Derived.Sort.LotA
namespace Go.Proofs.YtgakninlhfkkmaaGreat.Sh
abbrev kE:=@Rd.zero
abbrev kT:=@Ct.nil
abbrev kY:=@Ct.rd
abbrev qN:=@Ct.cons
open Proofs
set_option maxRecDepth 10000
def Fx (rev:Int) (l:List (Int×Int)):List Int:=(l.filter λp=>p.1==rev).map Prod.snd
theorem PN (rev:Int) (a b:List (Int×Int)):Fx rev (a++b)=Fx rev a++Fx rev b:=by unfold Fx;rw[qI,qc]
theorem PO (rev:Int) (l:List (Int×Int)):(Fx rev l).length<=l.length:=by unfold Fx;rw[qd];exact qU _ _
theorem Ss {H:Hp} {n m k p:Nat} {es:List SV} {x:Int} {o:Option Nat} (hA:Ar n m 1 o es) (hl:es.length<=1073741823) (h1:H k=some (.cells [AA x])) (h2:∀j,o=some j->H j=some (.cells (es.flatMap SV.cells))):
 AU Tryz.prog H p .append [61,61] [AM 1 o es,.sl k 0 1 1 true]=some { val:=.sl p 0 1 (es.length+1) false,upd:=o.map λj=>(j,none),new:=some (.cells (es.flatMap SV.cells++[AA x])) }:=by
 have:=Dp (P:=Tryz.prog) (H:=H) (t:=61) (t2:=61) (el:=3) (z:=1) (by simp[go_sem]) (by simp[go_sem]) (by simp[go_sem]) (by simp) (by simp[go_sem]) (by simp[go_sem]) (by simp[go_sem]) (by omega) hA (e:=AA x) rfl h1 h2 p;exact this
set_option maxHeartbeats 2000000 in
theorem c51 (x:AF) (hs:x.sized) (rev:Int):PC 51 [x.enc,AA rev] (.imm 1 ((Fx rev x.moves).map AA) false):=by
 intro h n;refine Db Tryz.func51 rfl λho=>?_;have hHb:=ho.lt;refine AY 1 [(1,AA rev),(2,.iptr x.flat)] h n ?_ (λm hm=>?_);simp[go_sem,AF.enc,AF.flat,IO];exact⟨AV (AW hHb (qa _)) (AC _ _ _),AJ hHb AB⟩;obtain⟨M,hM⟩:∃M:Nat->List SV,∀i,M i=(Fx rev (x.mv0++Hg (x.dels.take i))).map AA:=⟨_,λ_=>rfl⟩
 have hM0:(Fx rev x.mv0).map AA=M 0:=by rw[hM];simp[Hg]
 have hMs:∀i x',(hi:i<x.dels.length)->x.dels[i]=x'->M (i+1)=M i++if x'.rev=rev/\x'.move≠0 then[AA x'.move]else[]:=λi x' hi e=>by
  rw[hM,hM,LM _ _ hi,e,<-qn,PN,qc];congr 1;by_cases e0:x'.move=0;simp[e0,Fx];by_cases e1:x'.rev=rev<;>simp[e0,e1,Fx]
 have hMl:M x.dels.length=(Fx rev x.moves).map AA:=by rw[hM,qi];rfl
 have hMn:∀i,(M i).length<=1+i:=λi=>by
  rw[hM,qd];have h0:=PO rev (x.mv0++Hg (x.dels.take i));rw[qt]at h0;have h1:=IY (x.dels.take i);have h2:x.mv0.length<=1:=by unfold AF.mv0;split<;>simp
  have h3:=ki i x.dels;omega
 have hM0':M 0=if x.ins=rev/\x.move≠0 then[AA x.move]else[]:=by
  rw[<-hM0];unfold AF.mv0 Fx;by_cases e0:x.move=0;simp[e0];by_cases e1:x.ins=rev<;>simp[e0,e1]
 refine AY 0 [(1,AA rev),(2,.iptr x.flat),(5,.imm 0 [] true)] h n ?_ (λm hm=>?_);simp[go_sem,IO,hm];refine AT 0 (α:=Option Nat) (λo=>[(1,AA rev),(2,.iptr x.flat),(5,AM 1 o (M 0))]) (λo=>AN o (M 0) h) (λo m=>n<=m/\Ar n m 1 o (M 0)) (AH ?_) (λo m hm=>?_);rw[hM0'];by_cases e1:x.ins=rev;by_cases e0:x.move=0;simp[go_sem,AF.flat,e0,e1,IO,AM,AN];exact⟨none,⟨hm,jK _ _ _⟩,rfl,AB⟩;have hap:=λ(H:Hp) (k p:Nat) (h1:H k=some (.cells [AA x.move]))=>Ss (H:=H) (k:=k) (p:=p) (es:=[]) (x:=x.move) (jK 0 0 1) (by simp) h1 (by simp);simp only[jI,kh,jY,qE,AM]at hap;have hm0:(x.move !=0)=true:=by simpa using e0
 simp[go_sem,AF.flat,e0,e1,hm0,IO];rw[hap _ _ _ (by simp[AC])];simp[go_sem];have hpush:=(jK n (m+1) 1).push (j:=m+1) (m':=m+1+1) (e:=AA x.move) rfl rfl (by omega) (by omega);have hvv:AM 1 (some (m+1)) [AA x.move]=.sl (m+1) 0 1 1 false:=by simp[AM]
 refine⟨some (m+1),⟨by omega,by simpa using hpush⟩,hvv.symm,λj y=>?_⟩;have:=hHb j y;simp only[AN,hset,SV.cells,qK,jY,jq];grind;simp[go_sem,AF.flat,e1,IO,AM,AN];exact⟨none,⟨hm,jK _ _ _⟩,rfl,AB⟩;obtain⟨hm,hA⟩:=hm;have hsd:=hs.dels;refine AT 0 (α:=Option Nat) (λo=>[(5,AM 1 o (M x.dels.length))]) (λo=>AN o (M x.dels.length) h) (λo m=>n<=m/\Ar n m 1 o (M x.dels.length)) ?_ (λo m hm=>?_);refine AY 0 [(1,AA rev),(2,.iptr x.flat),(5,AM 1 o (M 0)),(6,AA 0)] (AN o (M 0) h) m ?_ (λm2 hm2=>?_);simp[go_sem,IO];refine AR (BG 0 (α:=Nat×Option Nat) (λq=>[(1,AA rev),(2,.iptr x.flat),(5,AM 1 q.2 (M q.1)),(6,AA q.1)]) (λq=>AN q.2 (M q.1) h)
  (λq m=>q.1<=x.dels.length/\n<=m/\Ar n m 1 q.2 (M q.1)) (λq=>x.dels.length-q.1) (0,o) ⟨qg _,by omega,hA.mono hm2⟩ ?_ AB ?_)
 simp[go_sem,Ai,IO];clear hA hm hm2 m2 m o;rintro⟨i,o⟩ m ⟨hi,hnm,hA⟩;dsimp only at hi hA ⊢;have hEn:=hMn i;by_cases hlt:i<x.dels.length;have w1:=wS i (by omega);obtain⟨y,hy⟩:∃y,x.dels[i]=y:=⟨_,rfl⟩
 have hst:=hMs i y hlt hy;generalize hE:M i=E at hA hEn hst;have hXb:∀j y,AN o E h j=some y->j<m:=Dm hHb hnm hA;refine Bp 0 [(1,AA rev),(2,.iptr x.flat),(5,AM 1 o E),(6,AA i)] (AN o E h) m ?_ (λm2 hm2=>?_);simp[go_sem,IO,hlt,AF.flat];subst hm2;refine AT 0 (α:=Option Nat) (λo=>[(1,AA rev),(2,.iptr x.flat),(5,AM 1 o (M (i+1))),(6,AA i)]) (λo=>AN o (M (i+1)) h) (λo m=>n<=m/\Ar n m 1 o (M (i+1))) (AR ?_) (λo m hm=>?_);refine AY 1 [(1,AA rev),(2,.iptr x.flat),(5,AM 1 o E),(6,AA i),(7,.iptr [AA y.rev,AA y.move])] (AN o E h) m ?_ (λm2 hm2=>?_);simp[go_sem,IO,AF.flat,hlt,hy,Az.enc,AC];exact⟨AV (AW hXb (qa _)) (AC _ _ _),AJ hXb (AJ hXb AB)⟩;rw[hst];refine AH ?_;by_cases e1:y.rev=rev;by_cases m0:y.move=0;simp[go_sem,e1,m0,IO];exact⟨o,⟨by omega,hA.mono hm2⟩,rfl,AB⟩;have hm0:(y.move !=0)=true:=by simpa using m0
 simp[go_sem,e1,m0,hm0];rw[Ss (x:=y.move) hA (by omega) (by simp[AC]) (by
  intro j e;have:=(hA.lt j e).2;rw[AD _ _ (by omega)];exact Cu j e)]
 have hpush:=hA.push (j:=m2+1) (m':=m2+1+1) (e:=AA y.move) rfl rfl (by omega) (by omega);have hlive:=CY (p:=m2+1) (v:=.sl (m2+1) 0 1 (E.length+1) false) (e:=AA y.move) hHb (by omega) hA (H:=hset (AN o E h) m2 (some (.cells [AA y.move]))) (AJ (λj z e=>by have:=hHb j z e;omega) (Be hHb hA));have hvv:AM 1 (some (m2+1)) (E++[AA y.move])=.sl (m2+1) 0 1 (E.length+1) false:=by simp[AM]
 simp[go_sem];exact⟨some (m2+1),⟨by omega,hpush⟩,hvv.symm,by simpa[Cs.app,SV.cells]using hlive⟩;simp[go_sem,e1,IO];exact⟨o,⟨by omega,hA.mono hm2⟩,rfl,AB⟩;refine AH ?_;simp[go_sem,w1,IO,-Int.natCast_add];exact⟨i+1,by omega,o,⟨by omega,hm.1,hm.2⟩,⟨IO,IO⟩,AB⟩;have:i=x.dels.length:=by omega
 subst this;refine AH ?_;simp[go_sem,AF.flat];exact⟨o,⟨hnm,hA⟩,rfl,AB⟩;refine AH ?_;simp[go_sem];rw[hMl]at hm ⊢;exact GR ho hm.2 (λe he=>by obtain⟨p,_,rfl⟩:=qy.1 he;simp[closed])
theorem c52 (l:List Int) (hl:l.length<=1073741824) (x:Int):PC 52 [.imm 1 (l.map AA) false,AA x] (.bool (decide (x∈l))):=by
 intro h n;refine gq Tryz.func52 rfl λho=>?_;simp[go_sem];refine An 1 (α:=Nat) (λk=>[(0,.imm 1 (l.map AA) false),(1,AA x),(5,AA k)]) (λ_=>h) (λk m=>k<=l.length/\n<=m/\x∉l.take k) (λk=>l.length-k) 0 ?_ ?_ AB ?_;simp;simp[Ai];rintro k m ⟨hk,hnm,hf⟩;by_cases hlt:k<l.length;have w1:=wS k (by omega);obtain⟨y,hy⟩:∃y,l[k]=y:=⟨_,rfl⟩
 by_cases e:y=x;simp[go_sem,hlt,hy,e];exact As ho rfl (by rw[decide_eq_true (show x∈l from by rw[<-e,<-hy];exact ql hlt)]);simp[go_sem,hlt,hy,e,w1,-Int.natCast_add];refine⟨k+1,by omega,⟨by omega,hnm,?_⟩,IO⟩;rw[qb hlt,hy];simp[hf];exact λh=>e h.symm;simp[go_sem,hlt];rw[qB (by omega)]at hf;exact As ho rfl (by simp[hf])
section
variable {E : B6} {P : Program} {N : Nat} {code : Code} {Q : Ce} {sa : SA} {h h' : Hp} {n n' : Nat} {c : Cx}
theorem IT (hn:n<=n') (hg:∀c,Bn h c->Fr n c->∃c':Cx,c'.w=c.w/\DZ c c'/\Bn h' c'/\Fr n' c'/\∀j,j<n->c'.ρ j=c.ρ j) (H:Fs E P N code Q sa h' n'):Fs E P N code Q sa h n:=by
 intro hd c a I R F A;obtain⟨c',hw,X,R',F',hρ⟩:=hg c R F;rw[<-hw];refine wpIn_mono (H hd c' a (E.ext X I) R' F' (A.ext X)) ?_;rintro e a' w' ⟨sa',h2,n2,c2,q,hw2,R2,Fr2,A2,X2⟩;exact⟨sa',h2,n2,c2,q,hw2,R2,Fr2,A2,⟨X.trans X2.ext,qr hn X2.le,λj hj=>(X2.same j (by omega)).trans (hρ j hj)⟩⟩
theorem Bn.pack {p q z:Nat} {es:List SV} {full:Bool} {ty ty2:Option TypeId} (R:Bn h c) (hp:h p=some (.cells [.sl q 0 z es.length full] ty)) (hq:h q=some (.cells (es.flatMap SV.cells) ty2)) (hne:es≠[]) (hpq:p≠q):
 ∃c':Cx,c'.w=c.w/\c'.ρ=c.ρ/\DZ c c'/\Bn (hset (hset h p (some (.list z es))) q none) c':=by
 obtain⟨b,st,arr,e,vs,a1,a2,a3,a4,a5,_⟩:=R.obj p _ hp;obtain⟨B,sB,arr2,e2,us,b1,b2,b3,b4,b5,_⟩:=R.obj q _ hq;obtain⟨v,rfl,hv⟩:=a4.single;rw[V]at hv;obtain⟨B',st',cap,c1,c2,c3,_,c5⟩:=hv;rw[b1]at c1;cases c1;have hrm:rm c.w B=arr2.size:=by simp[rm,b2]
 rw[hrm]at c5;obtain⟨c',hc'⟩:∃c':Cx,c'={ c with bk:=λj=>if j=p then some B else c.bk j }:=⟨_,rfl⟩
 have kw:c'.w=c.w:=by rw[hc']
 have kr:c'.ρ=c.ρ:=by rw[hc']
 have ko:c'.own=c.own:=by rw[hc']
 have kb:∀j,c'.bk j=if j=p then some B else c.bk j:=λj=>by rw[hc']
 have X:DZ c c':=⟨λ_ _ e=>by rw[kr];exact e,by rw[kw];exact qa _,λb _ ho=>⟨by rw[ko];exact ho,by rw[kw]⟩,λ_=>by rw[kw];exact qa _,by rw[kw],by rw[kw],by rw[kw];exact⟨rfl,qa _⟩⟩
 have get:∀j y,hset (hset h p (some (.list z es))) q none j=some y->(j=p/\y=.list z es)\/(j≠p/\j≠q/\h j=some y):=λj y e=>by
  simp only[hset]at e;split at e;cases e;split at e;cases e;exact .inl ⟨by assumption,rfl⟩;exact .inr ⟨by assumption,by assumption,e⟩
 have hne':∀j y b',j≠p->BE c' j y b'->BE c j y b':=λj y b' hj H=>by
  simp only[BE,kr,kb,hj,if_false]at H;exact H
 have hat:∀b',BE c' p (.list z es) b'->b'=b\/b'=B:=λb' H=>by
  rcases H with⟨s,H⟩|⟨_,H⟩
  rw[kr,a1]at H;cases H;exact .inl rfl;rw[kb,if_pos rfl]at H;cases H;exact .inr rfl
 have alone:∀j y b',j≠p->j≠q->h j=some y->BE c j y b'->b'≠b/\b'≠B:=λj y b' h1 h2 e H=>
  ⟨λg=>h1 (R.inj2 j p y _ b' e hp H (.inl ⟨st,by rw[g];exact a1⟩)),λg=>h2 (R.inj2 j q y _ b' e hq H (.inl ⟨sB,by rw[g];exact b1⟩))⟩
 refine⟨c',kw,kr,X,⟨λj y e0=>?_,λi j y y' b' e1 e2 e3 e4=>?_,λb'=>?_⟩⟩;rcases get j y e0 with⟨rfl,rfl⟩|⟨hj,_,e0⟩
 refine⟨b,st,arr,e,v,by rw[kr];exact a1,by rw[kw];exact a2,by simpa using a3 0 v rfl,a5 v (by simp),.inr ⟨B,sB+0,arr2,e2,us,cap,hne,λg=>hpq (R.inj j q _ _ b st sB hp hq a1 (by rw[<-g];exact b1)),by rw[kb,if_pos rfl],by rw[kw];exact b2,c2,c3,by omega,λi x hx=>by simpa using b3 i x hx,kL X b4,b5⟩⟩;exact(R.obj j y e0).mono X (λ_ _=>by rw[kw]) (by rw[kb,if_neg hj]);rcases get i y e1 with⟨rfl,rfl⟩|⟨hi,hiq,f1⟩
 rcases get j y' e2 with⟨rfl,rfl⟩|⟨hj,hjq,f2⟩
 rfl;obtain⟨n1,n2⟩:=alone j y' b' hj hjq f2 (hne' j y' b' hj e4);rcases hat b' e3 with g|g;exact absurd g n1;exact absurd g n2;rcases get j y' e2 with⟨rfl,rfl⟩|⟨hj,hjq,f2⟩
 obtain⟨n1,n2⟩:=alone i y b' hi hiq f1 (hne' i y b' hi e3);rcases hat b' e4 with g|g;exact absurd g n1;exact absurd g n2;exact R.inj2 i j y y' b' f1 f2 (hne' i y b' hi e3) (hne' j y' b' hj e4);rw[ko,R.own2 b'];constructor;rintro⟨j,y,e1,e2⟩;by_cases hj:j=p;subst hj;rw[hp]at e1;cases e1;rcases e2 with⟨s,e2⟩|⟨e2,_⟩
 exact⟨j,.list z es,by simp[hset,hpq],.inl ⟨s,by rw[kr];exact e2⟩⟩;cases e2;by_cases hjq:j=q;subst hjq;rw[hq]at e1;cases e1;rcases e2 with⟨s,e2⟩|⟨e2,_⟩
 rw[b1]at e2;cases e2;exact⟨p,.list z es,by simp[hset,hpq],.inr ⟨rfl,by rw[kb,if_pos rfl]⟩⟩;cases e2;exact⟨j,y,by simp[hset,hj,hjq,e1],by simpa only[BE,kr,kb,hj,if_false]using e2⟩;rintro⟨j,y,e1,e2⟩;rcases get j y e1 with⟨rfl,rfl⟩|⟨hj,_,e1⟩
 rcases hat b' e2 with rfl|rfl;exact⟨j,_,hp,.inl ⟨st,a1⟩⟩;exact⟨q,_,hq,.inl ⟨sB,b1⟩⟩;exact⟨j,y,e1,hne' j y b' hj e2⟩
theorem Bn.unpack {p k z:Nat} {es:List SV} (R:Bn h c) (hk:c.ρ k=none) (hp:h p=some (.list z es)) (hne:es≠[]):
 ∃c':Cx,c'.w=c.w/\(∀j,j≠k->c'.ρ j=c.ρ j)/\DZ c c'/\Bn (hset (hset h p (some (.cells [.sl k 0 z es.length false]))) k (some (.cells (es.flatMap SV.cells)))) c':=by
 have hkn:=R.none_of hk;have hpk:p≠k:=by rintro rfl;rw[hp]at hkn;cases hkn
 obtain⟨b,st,arr,e,v,a1,a2,a3,a4,⟨g,_⟩|⟨B,sB,arr2,e2,us,cap,_,hbB,b1,b2,c2,c3,c5,b3,b4,b5⟩⟩:=R.obj p _ hp;exact absurd g hne;obtain⟨c',hc'⟩:∃c':Cx,c'={ c with ρ:=λj=>if j=k then some (B,sB)else c.ρ j,bk:=λj=>if j=p then none else c.bk j }:=⟨_,rfl⟩
 have kw:c'.w=c.w:=by rw[hc']
 have kr:∀j,c'.ρ j=if j=k then some (B,sB)else c.ρ j:=λj=>by rw[hc']
 have ko:c'.own=c.own:=by rw[hc']
 have kb:∀j,c'.bk j=if j=p then none else c.bk j:=λj=>by rw[hc']
 have X:DZ c c':=⟨λj q e=>by rw[kr];split;(subst_vars;rw[hk]at e;cases e);exact e,by rw[kw];exact qa _,λb _ ho=>⟨by rw[ko];exact ho,by rw[kw]⟩,λ_=>by rw[kw];exact qa _,by rw[kw],by rw[kw],by rw[kw];exact⟨rfl,qa _⟩⟩
 have hrm:rm c'.w B=arr2.size:=by rw[kw];simp[rm,b2]
 have get:∀j y,hset (hset h p (some (.cells [.sl k 0 z es.length false]))) k (some (.cells (es.flatMap SV.cells))) j=some y->(j=k/\y=.cells (es.flatMap SV.cells))\/(j=p/\y=.cells [.sl k 0 z es.length false])\/(j≠p/\j≠k/\h j=some y):=λj y e=>by
  simp only[hset]at e;split at e;cases e;exact .inl ⟨by assumption,rfl⟩;split at e;cases e;exact .inr (.inl ⟨by assumption,rfl⟩);exact .inr (.inr ⟨by assumption,by assumption,e⟩)
 have hne':∀j y b',j≠p->j≠k->BE c' j y b'->BE c j y b':=λj y b' hj hk H=>by
  simp only[BE,kr,kb,hj,hk,if_false]at H;exact H
 have hatk:∀b',BE c' k (.cells (es.flatMap SV.cells)) b'->BE c p (.list z es) b'/\b'=B:=λb' H=>by
  rcases H with⟨s,H⟩|⟨H,_⟩
  rw[kr,if_pos rfl]at H;cases H;exact⟨.inr ⟨rfl,b1⟩,rfl⟩;cases H
 have hatp:∀b',BE c' p (.cells [.sl k 0 z es.length false]) b'->BE c p (.list z es) b'/\b'=b:=λb' H=>by
  rcases H with⟨s,H⟩|⟨H,_⟩
  rw[kr,if_neg hpk,a1]at H;cases H;exact⟨.inl ⟨st,a1⟩,rfl⟩;cases H
 have eqp:∀j y b',h j=some y->BE c p (.list z es) b'->BE c j y b'->j=p:=λj y b' e H1 H2=>R.inj2 j p y _ b' e hp H2 H1;refine⟨c',kw,λj hj=>by rw[kr,if_neg hj],X,⟨λj y e0=>?_,λi j y y' b' e1 e2 e3 e4=>?_,λb'=>?_⟩⟩;rcases get j y e0 with⟨rfl,rfl⟩|⟨rfl,rfl⟩|⟨hj,hjk,e0⟩
 exact⟨B,sB,arr2,e2,us,by rw[kr,if_pos rfl],by rw[kw];exact b2,b3,kL X b4,b5,λt h=>by cases h⟩;refine⟨b,st,arr,e,[v],by rw[kr,if_neg hpk];exact a1,by rw[kw];exact a2,λi x hx=>?_,⟨?_,trivial⟩,λx hx=>?_,λt h=>by cases h⟩;cases i with
 | zero=>cases hx;exact a3
 | succ i=>simp at hx
 rw[V];exact⟨B,sB,cap,by rw[kr,if_pos rfl],c2,c3,by simp,by rw[hrm];omega⟩;rw[qv.1 hx];exact a4;exact(R.obj j y e0).mono X (λ_ _=>by rw[kw]) (by rw[kb,if_neg hj]);rcases get i y e1 with⟨rfl,rfl⟩|⟨rfl,rfl⟩|⟨hi,hik,f1⟩
 obtain⟨H1,g1⟩:=hatk b' e3;rcases get j y' e2 with⟨rfl,rfl⟩|⟨rfl,rfl⟩|⟨hj,hjk,f2⟩
 rfl;exact absurd ((hatp b' e4).2.symm.trans g1).symm hbB;exact absurd (eqp j y' b' f2 H1 (hne' j y' b' hj hjk e4)) hj;obtain⟨H1,g1⟩:=hatp b' e3;rcases get j y' e2 with⟨rfl,rfl⟩|⟨rfl,rfl⟩|⟨hj,hjk,f2⟩
 exact absurd ((hatk b' e4).2.symm.trans g1) hbB;rfl;exact absurd (eqp j y' b' f2 H1 (hne' j y' b' hj hjk e4)) hj;rcases get j y' e2 with⟨rfl,rfl⟩|⟨rfl,rfl⟩|⟨hj,hjk,f2⟩
 exact absurd (eqp i y b' f1 (hatk b' e4).1 (hne' i y b' hi hik e3)) hi;exact absurd (eqp i y b' f1 (hatp b' e4).1 (hne' i y b' hi hik e3)) hi;exact R.inj2 i j y y' b' f1 f2 (hne' i y b' hi hik e3) (hne' j y' b' hj hjk e4);rw[ko,R.own2 b'];constructor;rintro⟨j,y,e1,e2⟩;have hjk:j≠k:=by rintro rfl;rw[hkn]at e1;cases e1
 by_cases hj:j=p;subst hj;rw[hp]at e1;cases e1;rcases e2 with⟨s,e2⟩|⟨_,e2⟩
 exact⟨j,_,by simp only[hset,hjk,if_false,if_true];rfl,.inl ⟨s,by rw[kr,if_neg hjk];exact e2⟩⟩;rw[b1]at e2;cases e2;exact⟨k,_,by simp only[hset,if_true];rfl,.inl ⟨sB,by rw[kr,if_pos rfl]⟩⟩;exact⟨j,y,by simp[hset,hj,hjk,e1],by simpa only[BE,kr,kb,hj,hjk,if_false]using e2⟩;rintro⟨j,y,e1,e2⟩;rcases get j y e1 with⟨rfl,rfl⟩|⟨rfl,rfl⟩|⟨hj,hjk,e1⟩
 exact⟨p,_,hp,(hatk b' e2).1⟩;exact⟨j,_,hp,(hatp b' e2).1⟩;exact⟨j,y,e1,hne' j y b' hj hjk e2⟩
theorem Bn.swap0 {p:Nat} {x y:BT} (R:Bn h c) (hp:h p=some x) (hx:∀b,BE c p x b->∃st,c.ρ p=some (b,st)) (H:∀c':Cx,c'.w=c.w->c'.ρ=c.ρ->c'.bk p=none->DZ c c'->Dl c' p y):
 ∃c':Cx,c'.w=c.w/\c'.ρ=c.ρ/\DZ c c'/\Bn (hset h p (some y)) c':=by
 obtain⟨c',hc'⟩:∃c':Cx,c'={ c with bk:=λj=>if j=p then none else c.bk j }:=⟨_,rfl⟩
 have kw:c'.w=c.w:=by rw[hc']
 have kr:c'.ρ=c.ρ:=by rw[hc']
 have ko:c'.own=c.own:=by rw[hc']
 have kb:∀j,c'.bk j=if j=p then none else c.bk j:=λj=>by rw[hc']
 have X:DZ c c':=⟨λ_ _ e=>by rw[kr];exact e,by rw[kw];exact qa _,λb _ ho=>⟨by rw[ko];exact ho,by rw[kw]⟩,λ_=>by rw[kw];exact qa _,by rw[kw],by rw[kw],by rw[kw];exact⟨rfl,qa _⟩⟩
 have get:∀j z,hset h p (some y) j=some z->∃z0,h j=some z0/\(∀b,BE c' j z b->BE c j z0 b)/\(j=p/\z=y\/j≠p/\z=z0):=λj z e=>by
  simp only[hset]at e;split at e;rename_i hj;cases e;subst hj;refine⟨x,hp,λb H=>?_,.inl ⟨rfl,rfl⟩⟩;rcases H with⟨s,H⟩|⟨_,H⟩
  exact .inl ⟨s,by rw[<-kr];exact H⟩;rw[kb,if_pos rfl]at H;cases H;rename_i hj;exact⟨z,e,λb H=>by simpa only[BE,kr,kb,hj,if_false]using H,.inr ⟨hj,rfl⟩⟩
 refine⟨c',kw,kr,X,⟨λj z e=>?_,λi j z z' b e1 e2 e3 e4=>?_,λb=>?_⟩⟩;obtain⟨z0,g1,_,⟨rfl,rfl⟩|⟨hj,rfl⟩⟩:=get j z e;exact H c' kw kr (by rw[kb,if_pos rfl]) X;exact(R.obj j z g1).mono X (λ_ _=>by rw[kw]) (by rw[kb,if_neg hj]);obtain⟨z0,g1,k1,_⟩:=get i z e1;obtain⟨z1,g2,k2,_⟩:=get j z' e2;exact R.inj2 i j z0 z1 b g1 g2 (k1 b e3) (k2 b e4);rw[ko,R.own2 b];constructor;rintro⟨j,z,e1,e2⟩;by_cases hj:j=p;subst hj;rw[hp]at e1;cases e1;obtain⟨s,e3⟩:=hx b e2;exact⟨j,y,by simp[hset],.inl ⟨s,by rw[kr];exact e3⟩⟩;exact⟨j,z,by simp[hset,hj,e1],by simpa only[BE,kr,kb,hj,if_false]using e2⟩;rintro⟨j,z,e1,e2⟩;obtain⟨z0,g1,k1,_⟩:=get j z e1;exact⟨j,z0,g1,k1 b e2⟩
theorem Bn.pack0 {p z:Nat} {ty:Option TypeId} (R:Bn h c) (hp:h p=some (.cells [.imm 0 [] true] ty)):∃c':Cx,c'.w=c.w/\c'.ρ=c.ρ/\DZ c c'/\Bn (hset h p (some (.list z []))) c':=by
 refine R.swap0 hp (λb H=>H.elim id λg=>by cases g.1) λc' kw kr kb X=>?_;obtain⟨b,st,arr,e,vs,a1,a2,a3,a4,a5,_⟩:=R.obj p _ hp;obtain⟨v,rfl,hv⟩:=a4.single;exact⟨b,st,arr,e,v,by rw[kr];exact a1,by rw[kw];exact a2,by simpa using a3 0 v rfl,a5 v (by simp),.inl ⟨rfl,kb,hv.mono X⟩⟩
theorem Bn.unpack0 {p z:Nat} (R:Bn h c) (hp:h p=some (.list z [])):∃c':Cx,c'.w=c.w/\c'.ρ=c.ρ/\DZ c c'/\Bn (hset h p (some (.cells [.imm 0 [] true]))) c':=by
 obtain⟨b,st,arr,e,v,a1,a2,a3,a4,⟨_,b1,b2⟩|⟨B,sB,arr2,e2,us,cap,g,_⟩⟩:=R.obj p _ hp;refine R.swap0 hp (λb H=>H.elim id λg=>by rw[b1]at g;cases g.2) λc' kw kr kb X=>?_;refine⟨b,st,arr,e,[v],by rw[kr];exact a1,by rw[kw];exact a2,λi x hx=>?_,⟨b2.mono X,trivial⟩,λx hx=>?_,λt h=>by cases h⟩;cases i with
 | zero=>cases hx;exact a3
 | succ i=>simp at hx
 rw[qv.1 hx];exact a4;exact absurd rfl g
theorem So (p q z:Nat) (es:List SV) (full:Bool) (ty ty2:Option TypeId) (hp:h p=some (.cells [.sl q 0 z es.length full] ty)) (hq:h q=some (.cells (es.flatMap SV.cells) ty2)) (hne:es≠[]) (hpq:p≠q)
 (H:Fs E P N code Q sa (hset (hset h p (some (.list z es))) q none) n):Fs E P N code Q sa h n:=
 IT (qa _) (λ_ R F=>let⟨c',e1,e2,X,R'⟩:=R.pack hp hq hne hpq;⟨c',e1,X,R',λj hj=>by rw[e2];exact F j hj,λj _=>by rw[e2]⟩) H
theorem Jt (p z:Nat) (ty:Option TypeId) (hp:h p=some (.cells [.imm 0 [] true] ty)) (H:Fs E P N code Q sa (hset h p (some (.list z []))) n):Fs E P N code Q sa h n:=
 IT (qa _) (λ_ R F=>let⟨c',e1,e2,X,R'⟩:=R.pack0 hp;⟨c',e1,X,R',λj hj=>by rw[e2];exact F j hj,λj _=>by rw[e2]⟩) H
theorem OS (p z:Nat) (hp:h p=some (.list z [])) (H:Fs E P N code Q sa (hset h p (some (.cells [.imm 0 [] true]))) n):Fs E P N code Q sa h n:=
 IT (qa _) (λ_ R F=>let⟨c',e1,e2,X,R'⟩:=R.unpack0 hp;⟨c',e1,X,R',λj hj=>by rw[e2];exact F j hj,λj _=>by rw[e2]⟩) H
theorem P0 (p z:Nat) (es:List SV) (hp:h p=some (.list z es)) (hne:es≠[]) (H:Fs E P N code Q sa (hset (hset h p (some (.cells [.sl n 0 z es.length false]))) n (some (.cells (es.flatMap SV.cells)))) (n+1)):Fs E P N code Q sa h n:=
 IT (je _) (λ_ R F=>let⟨c',e1,e2,X,R'⟩:=R.unpack (F n (qa _)) hp hne;⟨c',e1,X,R',λj hj=>by rw[e2 j (by omega)];exact F j (by omega),λj hj=>e2 j (by omega)⟩) H
end
section
variable {E : B6} {P : Program} {N : Nat} {code : Code} {Q : Ce} {sa : SA} {G : Hp} {n m p z : Nat} {es : List SV}
theorem Kt (p:Nat) (hs:∀e∈es,e.storable=true/\e.cells.length=z) (hp:G p=some (.list z es)) (H:∀o m,n<=m->Ar n m z o es->(es=[]->o=none)->Fs E P N code Q sa (AN o es (hset G p (some (.cells [AM z o es])))) m):Fs E P N code Q sa G n:=by
 by_cases he:es=[];subst he;refine OS p z hp ?_;exact H none n (qa _) (jK _ _ _) λ_=>rfl;refine P0 p z es hp he ?_;exact H (some n) (n+1) (je _) ⟨by simp,λj e=>by cases e;omega,hs⟩ λg=>absurd g he
theorem UT (p:Nat) {o:Option Nat} {k m':Nat} (hA:Ar k m' z o es) (hG:∀j y,G j=some y->j<k) (hpk:p<k) (ho:es=[]->o=none) (H:Fs E P N code Q sa (hset G p (some (.list z es))) n):Fs E P N code Q sa (AN o es (hset G p (some (.cells [AM z o es])))) n:=by
 cases o with
 | none=>
  have he:=hA.none rfl;subst he;refine Jt p z none (AC _ _ _) ?_;simpa[AN,AS]using H
 | some j =>
  have hj:=(hA.lt j rfl).1;have hne:es≠[]:=λg=>by cases ho g
  have hpj:p≠j:=by omega
  refine So p j z es false none none (by simp only[AN];rw[AD _ _ hpj,AC];rfl) (AC _ _ _) hne hpj ?_;have:hset (hset (AN (some j) es (hset G p (some (.cells [AM z (some j) es])))) p (some (.list z es))) j none=hset G p (some (.list z es)):=by
   funext q;have hq:=hG q;simp only[AN,hset];by_cases h1:q=j;have hp:q≠p:=by omega
   rw[if_pos h1,if_neg hp];cases hGq:G q with
   | none=>rfl
   | some y=>have:=hq y hGq;omega
   rw[if_neg h1,if_neg h1];by_cases h2:q=p;rw[if_pos h2,if_pos h2];rw[if_neg h2,if_neg h2,if_neg h2]
  rw[this];exact H
end
theorem St {X:Hp} {n m:Nat} {o:Option Nat} {es:List SV} (H:Ar n m 1 o es) (hX:∀j,o=some j->X j=some (.cells (es.flatMap SV.cells))) (xs:List Int) (hroom:es.length+xs.length<=1073741824) (p:Nat):
 (xs=[]/\AU Tryz.prog X p .append [61,61] [AM 1 o es,.imm 1 (xs.map AA) false]=some { val:=AM 1 o es })\/
 (xs≠[]/\AU Tryz.prog X p .append [61,61] [AM 1 o es,.imm 1 (xs.map AA) false]=some { val:=.sl p 0 1 (es.length+xs.length) false,upd:=o.map λj=>(j,none),new:=some (.cells (es.flatMap SV.cells++(xs.map AA).flatMap SV.cells)) }):=by
 have e1:A9 Tryz.prog 61=some 3:=by simp[go_sem]
 have e2:Bh Tryz.prog 3=1:=by simp[go_sem]
 have e3:(BH Tryz.prog 3).storable=true:=by simp[go_sem]
 have e4:(BH Tryz.prog 3).cells.length=1:=by simp[go_sem]
 have e5:BY Tryz.prog 3<=65536:=by simp[go_sem]
 have e6:Gq 3=none:=by rfl
 by_cases hx:xs=[];subst hx;refine .inl ⟨rfl,?_⟩;simp only[AU,e1,jE,if_true,Cm,e2,e3,e4];cases o<;>simp[AM,Hd,Dw,flat,EH];refine .inr ⟨hx,?_⟩;have hxl:xs.length≠0:=by cases xs<;>simp at hx ⊢
 have hr:C4 (es.length+xs.length) (BY Tryz.prog 3)=true:=by simp only[C4,qq,decide_eq_true_eq];exact⟨by omega,e5⟩
 simp only[AU,e1,jE,if_true,Cm,e2,e3,e4];cases o with
 | none=>
  have he:=H.none rfl;subst he;simp only[jI,jc]at hr;simp[AM,Hd,Dw,flat,hxl,hr,e6]
 | some j=>
  have hj:=hX j rfl;have hl:=A7 H.size;simp[AM,Hd,Dw,flat,hj,hxl,hr,GX e6,Bg,hl];rw[qB (by omega)]
def UG:Tr:=.pure 1<|.pure 2<|.two 0 3 (.one 3<|.one 4<|.one 5 .nil) (.one 0<|.one 4<|.one 5 .nil)
theorem Qi {α:Type} {f g:α->Nat}:∀{l:List α},(∀x∈l,f x<=g x)->(l.map f).sum<=(l.map g).sum
 | [],_=>by simp
 | a::l,h=>by
  have h1:=h a (by simp);have h2:=Qi (l:=l) λx hx=>h x (by simp[hx]);simp only[qu,kK];omega
theorem OF {α:Type} (f:α->Nat):∀l:List α,2*(l.map f).sum=(l.map λx=>2*f x).sum
 | []=>rfl
 | a::l=>by
  have:=OF f l;simp only[qu,kK];omega
def wN:Nat->List AE->Nat
 | 0,_=>0
 | N+1,l=>(l.map λx=>1+wN N x.flow+(x.rows.map λr=>1+(r.cells.map λc=>1+wN N c.flow).sum).sum).sum
def wC (N:Nat) (c:Cell):Nat:=1+wN N c.flow
def wR (N:Nat) (r:Aa):Nat:=1+(r.cells.map (wC N)).sum
def wI (N:Nat) (x:AE):Nat:=1+wN N x.flow+(x.rows.map (wR N)).sum
theorem RZ (N:Nat) (l:List AE):wN (N+1) l=(l.map (wI N)).sum:=rfl
theorem UJ {hp:AF->Prop} {T:Int->Prop}:∀{N:Nat} {l:List AE},wf hp T N l->wN N l<=2*MK N l
 | 0,_,h=>h.elim
 | N + 1, l, H => by
  have H:=OG.1 H;have e:2*MK (N+1) l=(l.map λx=>2*(1+MK N x.flow+Kp N x.rows)).sum:=OF _ l;rw[e,RZ];refine Qi λx hx=>?_;have hx:=H x hx;have h1:=UJ hx.flow;have h2:(x.rows.map (wR N)).sum<=2*Kp N x.rows:=by
   have e2:2*Kp N x.rows=(x.rows.map λr=>2*MB N r.cells).sum:=OF _ x.rows;rw[e2];refine Qi λr hr=>?_;obtain⟨_,u,v⟩:=hx.rows r hr;have e3:∀l:List Cell,(∀c∈l,wN N c.flow<=2*MK N c.flow)->(l.map (wC N)).sum+l.length<=2*MB N l:=λl=>by
    induction l with
    | nil=>intro _;simp[MB]
    | cons a l ih=>
     intro h;have i1:=ih λc hc=>h c (by simp[hc]);have i2:=h a (by simp);simp only[MB,qu,kK,qF,wC]at i1 ⊢;omega
   have:=e3 r.cells λc hc=>UJ (v c hc).2.2;have:r.cells.length≠0:=λg=>u (kD g);unfold wR;omega
  unfold wI;omega
section
variable {hp : AF → Prop} {T : Int → Prop} {σ : Type} {f : σ → BW → AF × Bool × σ} {rk : σ → Nat} {c : Nat}
theorem K2 {α β:Type} {G:β×σ->α->β×σ} {v:α->Nat} {k:Nat}:∀(l:List α) (q:β×σ),(∀x∈l,∀q,rk (G q x).2<=rk q.2+k*v x)->rk (l.foldl G q).2<=rk q.2+k*(l.map v).sum
 | [],_,_=>by simp
 | x::l,q,h=>by
  have h1:=K2 l (G q x) λy hy=>h y (by simp[hy]);have h2:=h x (by simp) q;simp only[qM,qu,kK,Nat.mul_add];omega
theorem Tg {fl:Int->List AE->Av->Bool->σ->List AE×σ} {sc:Av} {mid:Bool} {N k:Nat} {l:List AE} (hf:∀s p,hp p.head->rk (f s p).2.2<=rk s+k) (H:wf hp T (N+1) l)
 (hfl:∀id l,T id->wf hp T N l->∀s,rk (fl id l sc mid s).2<=rk s+k*wN N l) (s:σ):rk (Bq f fl sc mid l s).2<=rk s+k*wN (N+1) l:=by
 rw[RZ];refine K2 (G:=Dq f fl sc mid) l ([],s) λx hx q=>?_;obtain⟨a,_,_,_,e,g,q7⟩:=OG.1 H x hx;have h1:=hf q.2 ⟨x.head,mid,(A8 [x]).1⟩ a;have h2:∀s,rk (K3 fl sc mid x s).2<=rk s+k*wN N x.flow:=λs=>by
  unfold K3;split;rename_i k6;exact hfl _ _ (e k6) g s;exact Nat.le_add_right _ _
 have h3:∀s,rk (FH f fl sc mid x.rows s).2<=rk s+k*(x.rows.map (wR N)).sum:=λs=>by
  refine K2 (G:=CW f fl sc mid) x.rows ([],s) λr hr q=>?_;obtain⟨u,_,w⟩:=q7 r hr;have i1:=hf q.2 ⟨r.head,mid,1⟩ u;have i2:∀s,rk (Dh f fl sc mid r.cells s).2<=rk s+k*(r.cells.map (wC N)).sum:=λs=>by
   refine K2 (G:=CG f fl sc mid) r.cells ([],s) λd hd q=>?_;obtain⟨t,u,w⟩:=w d hd;have j1:=hf q.2 ⟨d.head,mid,1⟩ u;have j2:=hfl _ _ t w (f q.2 ⟨d.head,mid,1⟩).2.2;show rk (fl d.id d.flow sc mid (f q.2 ⟨d.head,mid,1⟩).2.2).2<=_;unfold wC;rw[Nat.mul_add];omega
  have i3:=i2 (f q.2 ⟨r.head,mid,1⟩).2.2;show rk (Dh f fl sc mid r.cells (f q.2 ⟨r.head,mid,1⟩).2.2).2<=_;unfold wR;rw[Nat.mul_add];omega
 have h4:=h2 (f q.2 ⟨x.head,mid,(A8 [x]).1⟩).2.2;have h5:=h3 (K3 fl sc mid x (f q.2 ⟨x.head,mid,(A8 [x]).1⟩).2.2).2;show rk (FH f fl sc mid x.rows (K3 fl sc mid x (f q.2 ⟨x.head,mid,(A8 [x]).1⟩).2.2).2).2<=_;unfold wI;rw[Nat.mul_add,Nat.mul_add];omega
theorem J9 {k:Nat} (hf:∀s p,hp p.head->rk (f s p).2.2<=rk s+k) (hT:∀i,T i->i ≠ -1):∀(N:Nat) (id:Int) (l:List AE) (mid:Bool) (s:σ),wf hp T N l->(mid=true\/id ≠ -1)->rk (Aw f N id l AX mid s).2<=rk s+k*wN N l
 | 0,_,_,_,_,h,_=>h.elim
 | N+1,id,l,mid,s,H,hid=>by
  have n2:¬(id=AX.id/\mid=false):=by rcases hid with rfl|h<;>simp[AX, *]
  rw[Aw,if_neg n2];exact Tg hf H (λid l t w s=>J9 hf hT N id l mid s w (.inr (hT _ t))) s
end
theorem AZ.pre {α β:Type} {R:α->β->Prop}:∀{l t:List α} {m:List β},AZ R (l++t) m->AZ R l (m.take l.length)
 | [],_,_,_=>trivial
 | _a::_l,_t,[],h=>h.elim
 | _a::_l,_t,_b::_m,h=>⟨h.1,AZ.pre h.2⟩
section
variable {E : B6} {P : Program} {N : Nat} {code : Code} {Q : Ce} {sa : SA} {h : Hp} {n : Nat}
end
def bN (w:World):Cx:=⟨λ_=>none,λ_=>False,w,λ_=>none⟩
theorem ch (W:World):Bn (λ_=>none) (bN W):=⟨λ_ _ h=>(by cases h),λ_ _ _ _ _ h=>(by cases h),λb=>⟨λh=>h.elim,λ⟨_,_,h,_⟩=>(by cases h)⟩⟩
theorem TS {W W':World} (hs:W.heap.size<=W'.heap.size) (hk:∀b,b<W.heap.size->W'.heap[b]? = W.heap[b]?) (ho:W'.os=W.os) (hp:W'.output=W.output) (ht:Td W W'):∃q os,W'=Go.Sort.grow (W.drewN q) os:=by
 refine⟨W'.drawn-W.drawn,W'.heap.extract W.heap.size W'.heap.size,?_⟩;obtain⟨h1,h2⟩:=ht;have e:W'.heap=W.heap++W'.heap.extract W.heap.size W'.heap.size:=by
  apply Array.ext_getElem?;intro i;by_cases hi:i<W.heap.size;rw[jp hi,hk i hi];rw[Array.getElem?_append_right (by omega)];by_cases hi2:i<W'.heap.size;rw[jd hi2,jd (by simp;omega)];simp only[Array.getElem_extract];congr 2;omega;rw[jg (by omega),jg (by simp;omega)]
 cases W' with
 | mk heap tape drawn os output=>
  simp only at e h1 h2 ho hp ⊢;subst h1 ho hp;rw[e];simp only[Go.Sort.grow,World.drewN];congr 1;congr 1;rw[<-e];omega
theorem PC.grown {f:FuncId} {a:List SV} {v:SV} (h:PC f a v) {W:World} {vs:List Value} (hv:AZ (V (bN W)) a vs):Calls Tryz.prog f vs.toArray W λe W'=>(∃u c',e=.returned u/\V c' v u)/\∃q os,W'=Go.Sort.grow (W.drewN q) os:=by
 have:=(h (λ_=>none) 0).2 (bN W) vs trivial (ch W) (λ_ _=>rfl) hv;refine this.mono ?_;rintro e W' ⟨u,v',h',n',c',rfl,⟨rfl,_⟩,rfl,hV,_,_,hA⟩;exact⟨⟨u,c',rfl,hV⟩,TS hA.ext.size (λb hb=>(hA.ext.keep b hb (λg=>g)).2) hA.ext.os hA.ext.out hA.ext.td⟩
end Go.Proofs.YtgakninlhfkkmaaGreat.Sh
namespace Go.Proofs
open Go.Shelf
def Tryz.sortB_ren:Go.Shelf.Ren:=⟨fun|6=>97|15=>169|14=>168|28=>245|29=>246|20=>237|21=>238|22=>239|23=>240|24=>241|25=>242|26=>243|27=>244|46=>280|47=>281|48=>282|49=>283|50=>284|57=>311|n=>n,fun|22=>86|24=>89|25=>154|3=>3|39=>213|0=>0|53=>306|55=>308|4=>4|46=>300|45=>299|50=>123|5=>5|9=>9|66=>342|70=>72|76=>373|77=>374|n=>n,fun|n=>n⟩
theorem Tryz.sortB:Go.Proofs.SlLaysF0.n6 Tryz.prog Tryz.sortB_ren:={
 mixed:=by kernel_rfl
 f6:=⟨Tryz.f97.name,by decide,Tryz.func97.trans (congrArg some (by kernel_rfl))⟩
 f14:=⟨Tryz.f168.name,by decide,Tryz.func168.trans (congrArg some (by kernel_rfl))⟩
 f15:=Tryz.func169.trans (congrArg some (by kernel_rfl))
 f20:=⟨Tryz.f237.name,by decide,Tryz.func237.trans (congrArg some (by kernel_rfl))⟩
 f21:=⟨Tryz.f238.name,by decide,Tryz.func238.trans (congrArg some (by kernel_rfl))⟩
 f22:=⟨Tryz.f239.name,by decide,Tryz.func239.trans (congrArg some (by kernel_rfl))⟩
 f23:=⟨Tryz.f240.name,by decide,Tryz.func240.trans (congrArg some (by kernel_rfl))⟩
 f24:=⟨Tryz.f241.name,by decide,Tryz.func241.trans (congrArg some (by kernel_rfl))⟩
 f25:=⟨Tryz.f242.name,by decide,Tryz.func242.trans (congrArg some (by kernel_rfl))⟩
 f26:=⟨Tryz.f243.name,by decide,Tryz.func243.trans (congrArg some (by kernel_rfl))⟩
 f27:=⟨Tryz.f244.name,by decide,Tryz.func244.trans (congrArg some (by kernel_rfl))⟩
 f28:=Tryz.func245.trans (congrArg some (by kernel_rfl))
 f29:=Tryz.func246.trans (congrArg some (by kernel_rfl))
 f46:=⟨Tryz.f280.name,by decide,Tryz.func280.trans (congrArg some (by kernel_rfl))⟩
 f47:=Tryz.func281.trans (congrArg some (by kernel_rfl))
 f48:=Tryz.func282.trans (congrArg some (by kernel_rfl))
 f49:=⟨Tryz.f283.name,by decide,Tryz.func283.trans (congrArg some (by kernel_rfl))⟩
 f50:=⟨Tryz.f284.name,by decide,Tryz.func284.trans (congrArg some (by kernel_rfl))⟩
 f57:=⟨Tryz.f311.name,by decide,Tryz.func311.trans (congrArg some (by kernel_rfl))⟩
 t0:=Tryz.underlying0
 a0:=Tryz.isAgg0
 z0:=Tryz.sizeOf0
 v0:=Tryz.zeroValue0
 t3:=Tryz.underlying3
 a3:=Tryz.isAgg3
 z3:=Tryz.sizeOf3
 v3:=Tryz.zeroValue3
 t4:=Tryz.underlying4
 a4:=Tryz.isAgg4
 z4:=Tryz.sizeOf4
 v4:=Tryz.zeroValue4
 t5:=Tryz.underlying5
 a5:=Tryz.isAgg5
 z5:=Tryz.sizeOf5
 v5:=Tryz.zeroValue5
 t9:=Tryz.underlying9
 a9:=Tryz.isAgg9
 z9:=Tryz.sizeOf9
 v9:=Tryz.zeroValue9
 t22:=Tryz.underlying86
 a22:=Tryz.isAgg86
 z22:=Tryz.sizeOf86
 v22:=Tryz.zeroValue86
 t25:=Tryz.underlying154
 a25:=Tryz.isAgg154
 z25:=Tryz.sizeOf154
 v25:=Tryz.zeroValue154
 t39:=Tryz.underlying213
 a39:=Tryz.isAgg213
 z39:=Tryz.sizeOf213
 v39:=Tryz.zeroValue213
 t45:=Tryz.underlying299
 a45:=Tryz.isAgg299
 z45:=Tryz.sizeOf299
 v45:=Tryz.zeroValue299
 t46:=Tryz.underlying300
 a46:=Tryz.isAgg300
 z46:=Tryz.sizeOf300
 v46:=Tryz.zeroValue300
 t50:=Tryz.underlying123
 a50:=Tryz.isAgg123
 z50:=Tryz.sizeOf123
 v50:=Tryz.zeroValue123
 t53:=Tryz.underlying306
 a53:=Tryz.isAgg306
 z53:=Tryz.sizeOf306
 v53:=Tryz.zeroValue306
 t55:=Tryz.underlying308
 a55:=Tryz.isAgg308
 z55:=Tryz.sizeOf308
 v55:=Tryz.zeroValue308
 t66:=Tryz.underlying342
 a66:=Tryz.isAgg342
 z66:=Tryz.sizeOf342
 v66:=Tryz.zeroValue342
 t70:=Tryz.underlying72
 a70:=Tryz.isAgg72
 z70:=Tryz.sizeOf72
 v70:=Tryz.zeroValue72
 t76:=Tryz.underlying373
 a76:=Tryz.isAgg373
 z76:=Tryz.sizeOf373
 v76:=Tryz.zeroValue373
 t77:=Tryz.underlying374
 a77:=Tryz.isAgg374
 z77:=Tryz.sizeOf374
 v77:=Tryz.zeroValue374 }
end Go.Proofs
namespace Go.Proofs.YtgakninlhfkkmaaGreat.Sh
open Proofs
set_option maxRecDepth 10000
theorem aT (l:List Int) (hl:l.length<=1073741824) (x:Int) (full:Bool):PC 236 [.imm 1 (l.map AA) full,AA x] (AA (BD (λi=>l[i]? == some x) l.length 0)):=by
 intro h n;refine gq Tryz.func236 rfl λho=>?_;simp[go_sem];refine An 1 (α:=Nat) (λk=>[(0,.imm 1 (l.map AA) full),(1,AA x),(7,AA l.length),(8,AA k)]) (λ_=>h) (λk m=>k<=l.length/\n<=m/\BD (λi=>l[i]? == some x) l.length 0=BD (λi=>l[i]? == some x) l.length k) (λk=>l.length-k) 0 ?_ ?_ AB ?_;simp;simp[Ai];rintro k m ⟨hk,hnm,hf⟩;rw[BD.eq_def _ _ k]at hf;by_cases hlt:k<l.length;have w1:=wS k (by omega);obtain⟨y,hy⟩:∃y,l[k]=y:=⟨_,rfl⟩
 by_cases e:x=y;subst e;simp[go_sem,hlt,hy];exact As ho rfl (by rw[hf];simp[hlt,hy]);have e2:¬y=x:=λg=>e g.symm;simp[go_sem,hlt,hy,e,w1,-Int.natCast_add];exact⟨k+1,by omega,⟨by omega,hnm,by rw[hf];simp[hlt,hy,e2]⟩,IO⟩;simp[go_sem,hlt];exact As ho rfl (by rw[hf];simp[hlt])
theorem Ul (l:List Int) (x:Int):decide (0<=BD (λi=>l[i]? == some x) l.length 0)=decide (x∈l):=by
 rcases EA (λi=>l[i]? == some x) l.length 0 with e|⟨i0,_,hi0,e,hpi⟩
 rw[e];have:x∉l:=λhx=>by
  obtain⟨i,hi,h⟩:=jx hx;have:=Ff e i (qg _) hi;simp[hi,h]at this
 simp[this];rw[e];have hx:x∈l:=by
  simp only[beq_iff_eq]at hpi;exact jb hpi
 simp[hx]
theorem Z5 (l:List Int) (hl:l.length<=1073741824) (x:Int) (full:Bool):PC 166 [.imm 1 (l.map AA) full,AA x] (.bool (decide (x∈l))):=by
 intro h n;refine gq Tryz.func166 rfl λho=>?_;simp[go_sem];refine qw (aT l hl x full) ?_;simp[go_sem];exact As ho rfl (by rw[<-Ul])
def BV (l:List Int) (x:Int):Bool:=decide (x≠0)&&decide (x∈l)
theorem ZN (l:List Int) (hl:l.length<=1073741824) (x:Int) (full:Bool):PC 92 [.imm 1 (l.map AA) full,AA x] (.bool (BV l x)):=by
 intro h n;refine gq Tryz.func92 rfl λho=>?_;by_cases e:x=0;simp[go_sem,e];exact As ho rfl (by simp[BV]);simp[go_sem,e];refine qw (Z5 l hl x full) ?_;simp[go_sem];exact As ho rfl (by simp[BV,e])
def UQ:List Int->Int
 | []=>0
 | x::l=>if x≠0 then x else UQ l
theorem c99 (l:List Int) (hl:l.length<=1073741824) (full:Bool):PC 99 [.imm 1 (l.map AA) full] (AA (UQ l)):=by
 intro h n;refine gq Tryz.func99 rfl λho=>?_;simp[go_sem];refine An 1 (α:=Nat) (λk=>[(3,AA 0),(6,.imm 1 (l.map AA) full),(7,AA l.length),(8,AA k)]) (λ_=>h) (λk m=>k<=l.length/\n<=m/\UQ l=UQ (l.drop k)) (λk=>l.length-k) 0 ?_ ?_ AB ?_;simp;simp[Ai];rintro k m ⟨hk,hnm,hf⟩;by_cases hlt:k<l.length;have w1:=wS k (by omega);obtain⟨y,hy⟩:∃y,l[k]=y:=⟨_,rfl⟩
 have hd:l.drop k=y::l.drop (k+1):=by rw[qG hlt,hy]
 rw[hd,UQ]at hf;by_cases e:y=0;rw[if_neg (by simpa using e)]at hf;simp[go_sem,hlt,hy,e,w1,-Int.natCast_add];exact⟨k+1,by omega,⟨by omega,hnm,hf⟩,IO⟩;rw[if_pos e]at hf;simp[go_sem,hlt,hy,e];exact As ho rfl (by rw[hf]);rw[jF (by omega)]at hf;simp[go_sem,hlt];exact As ho rfl (by rw[hf];rfl)
def LJ (a b:Int×Int):Int:=UQ [Do a.1 b.1,Do a.2 b.2]
def Yq:Tr:=.pure 0<|.pure 1<|.pure 2<|.pure 3<|.pure 5<|.pure 6<|.pure 7<|.pure 8<|.one 4<|.one 9<|.one 10<|.one 11<|.one 12 .nil
theorem c98 (a b:Int×Int):PC 98 [B5 a,B5 b] (AA (LJ a b)):=by
 intro h n;refine Db Tryz.func98 rfl λho=>?_;have hHb:=ho.lt;refine AY 1 [(2,.iptr [AA a.1,AA a.2]),(3,.iptr [AA b.1,AA b.2])] h n ?_ (λm hm=>?_);simp[go_sem,B5];refine⟨by omega,⟨AV (ho.none (by omega)) (by simp[hset]),AV (ho.none (by omega)) (by simp[hset])⟩,λj y e=>by have:=hHb j y e;simp only[hset];grind⟩;have hHm:∀j y,h j=some y->j<m:=λj y e=>by have:=hHb j y e;omega
 refine AT 0 (α:=Unit) (λ_=>[(4,AA (LJ a b))]) (λ_=>h) (λ_ m=>n<=m) (BX Yq rfl (by kernel_rfl) (by kernel_rfl) ?_) (λ_ m hm=>?_);simp[go_sem,Yq];refine qw (Rg a.1 b.1) ?_;simp[go_sem];refine qw (Rg a.2 b.2) ?_;simp[go_sem];have hfz:Fz (hset h m (some (.cells [AA (Do a.1 b.1),AA (Do a.2 b.2)]))) h 1 (.sl m 0 1 2 true) (.imm 1 ([Do a.1 b.1,Do a.2 b.2].map AA) false):=
  DV (h':=hset h m (some (.cells [AA (Do a.1 b.1),AA (Do a.2 b.2)]))) (h:=h) (k:=0) (z:=1) (o:=m) (full:=true) (full':=false) (es:=[AA (Do a.1 b.1),AA (Do a.2 b.2)]) (AW hHm (qa _)) (by simp) (by rw[AC];simp[SV.cells]) (by simp[SV.storable,SV.cells])
 refine kU (bs:=[.imm 1 ([Do a.1 b.1,Do a.2 b.2].map AA) false]) (h2:=h) 1 (AJ hHm AB) ⟨hfz,trivial⟩ ((c99 [Do a.1 b.1,Do a.2 b.2] (by simp) false).use ?_);simp[go_sem,IO,LJ];omega;refine AH ?_;simp[go_sem];exact As ho rfl rfl
theorem H6 (x:Int×Int):B5 x=.agg [AA x.1,AA x.2]:=rfl
theorem Ux (x:Int×Int):(B5 x).cells.length=2:=rfl
theorem WW (x:Int×Int):(B5 x).storable=true:=rfl
theorem KC (n:Nat) (l:List (Int×Int)):closedL n ((l.map B5).flatMap SV.cells)=true:=by
 rw[BU];intro e he;obtain⟨x,hx,h2⟩:=jo.1 he;obtain⟨p,_,rfl⟩:=qy.1 hx;simp only[B5,SV.cells]at h2;rcases qk.1 h2 with rfl|h2;rfl;rw[qv.1 h2];rfl
def ZU (r:List (Int×Int)) (H:Hp) (o n:Nat):SV->Hp->Nat->Prop:=λv h' n'=>∃f2 t,v=.sl o 0 2 r.length f2/\h'=hset H o (some (.cells ((r.map B5).flatMap SV.cells++t)))/\n'=n
theorem c96 (l:List Int) (hl:l.length<=1073741824) (x:Int×Int) (full:Bool):PC 96 [B5 x,.iptr [.imm 1 (l.map AA) full]] (.bool (!BV l x.1)):=by
 intro h n;refine gq Tryz.func96 rfl λho=>?_;simp[go_sem,H6,AC];refine qw (ZN l hl x.1 full) ?_;simp[go_sem];exact Ay ho (AJ (λj y e=>(ho j y e).1) AB) rfl rfl
theorem Xa (l:List (Int×Int)) (hl:l.length<=1048576) (g:FuncId) (a b:List SV) (p:Nat->Bool) (hp:∀(i:Nat) (h:i<l.length),PC g (a++[B5 l[i]]++b) (.bool (p i))):
 PC 167 [.imm 2 (l.map B5) false,.fn (.func g) a b] (AA (BD p l.length 0)):=by
 intro h n;refine gq Tryz.func167 rfl λho=>?_;simp[go_sem];refine An 1 (α:=Nat) (λk=>[(0,.imm 2 (l.map B5) false),(1,.fn (.func g) a b),(7,AA l.length),(8,AA k)]) (λ_=>h) (λk m=>k<=l.length/\n<=m/\BD p l.length 0=BD p l.length k) (λk=>l.length-k) 0 ?_ ?_ AB ?_;simp;simp[Ai];rintro k m ⟨hk,hnm,hf⟩;rw[BD.eq_def _ _ k]at hf;by_cases hlt:k<l.length;have w1:=wS k (by omega);have H:=hp k hlt;simp only[qn,qz,qE]at H;simp[go_sem,hlt,H6];refine qw (by simpa[H6]using H) ?_;by_cases h0:p k=true;simp[go_sem,h0];exact As ho rfl (by rw[hf];simp[hlt,h0]);simp[go_sem,h0,w1,-Int.natCast_add];exact⟨k+1,by omega,⟨by omega,hnm,by rw[hf];simp[hlt,h0]⟩,IO⟩;simp[go_sem,hlt];exact As ho rfl (by rw[hf];simp[hlt])
set_option maxHeartbeats 1000000 in
theorem d95 (l:List (Int×Int)) (hl:l.length<=1048576) (g:FuncId) (a b:List SV) (p:(Int×Int)->Bool) (hp:∀x∈l,PC g (a++[(B5 x)]++b) (.bool (p x))) {H:Hp} {n o:Nat} {full:Bool} (hH:H o=some (.cells ((l.map B5).flatMap SV.cells))):
 BA Tryz.prog 95 [.sl o 0 2 l.length full,.fn (.func g) a b] H n (ZU (l.filter λx=>!p x) H o n):=by
 refine gq Tryz.func95 rfl λho=>?_;have hon:o<n:=(ho o _ hH).1;have hI:=Xa l hl g a b (λi=>match l[i]? with|some x=>p x|none=>false) (λi hi=>by simpa[hi]using hp l[i] (ql hi));have fin:∀(kp:List (Int×Int)) (h':Hp) (n':Nat) (cs t:List SV) (f2:Bool),(l.filter λx=>!p x)=kp->(∀j y,j≠o->H j=some y->h' j=some y)->h' o=some (.cells cs)->cs=(kp.map B5).flatMap SV.cells++t->closedL n t=true->
  B8 n h' n' (.sl o 0 2 kp.length f2) (ZU (l.filter λx=>!p x) H o n):=λkp h' n' cs t f2 hk hh hc h1 h2=>by
  refine .inr ⟨0,.sl o 0 2 kp.length f2,hset H o (some (.cells cs)),IO,by simpa[closed]using hon,λj y e=>?_,f2,t,by rw[hk],by rw[hk,h1],rfl⟩;by_cases e1:j=o;subst e1;rw[AC]at e;cases e;refine⟨hc,hon,?_⟩;show closedL n cs=true;rw[h1,BU];intro e he;rcases qe.1 he with he|he;exact BU.1 (KC n kp) e he;exact BU.1 h2 e he;rw[AD _ _ e1]at e;exact⟨hh j y e1 e,ho j y e⟩
 simp[go_sem];refine hI.lend 2 rfl ⟨?_,IO,trivial⟩ ?_;have:=DV (h':=H) (h:=λ_=>none) (k:=1) (z:=2) (es:=l.map B5) (full:=full) (full':=false) (o:=o) rfl (by simp) hH (E3 l);rw[qd]at this;exact this;rcases EA (λi=>match l[i]? with|some x=>p x|none=>false) l.length 0 with e|⟨i0,_,hi0,e,hpi⟩
 simp[go_sem,e];have hall:(l.filter λx=>!p x)=l:=jy.2 λx hx=>by
  obtain⟨i,hi,rfl⟩:=jx hx;have:=Ff e i (qg _) hi;simpa[hi]using this
 exact fin l H n _ [] full hall (λj y _ e=>e) hH (by simp) rfl;have w0:=wS i0 (by omega);have ne1:¬((i0:Int) = -1):=by omega
 simp[go_sem,e,w0,ne1,-Int.natCast_add];have hpi':p l[i0]=true:=by simpa[hi0]using hpi
 have hbefore:(l.take i0).filter (λx=>!p x)=l.take i0:=jy.2 λx hx=>by
  obtain⟨i,hi,rfl⟩:=jx hx;have hi2:i<i0:=by simp at hi;omega
  have:=Gd e i (qg _) hi2;simpa[show i<l.length by omega]using this
 refine An 1 (α:=Nat) (λi=>[(0,.sl o 0 2 l.length full),(1,.fn (.func g) a b),(5,AA ((l.take i).filter λx=>!p x).length),(6,AA i)]) (λi=>hset H o (some (.cells (((BJ p l i).map B5).flatMap SV.cells))))
  (λi m=>i0<i/\i<=l.length/\n<=m) (λi=>l.length-i) (i0+1) ?_ ?_ ?_ ?_
 exact⟨qP _,hi0,qa _⟩;have:((l.take (i0+1)).filter λx=>!p x).length=i0:=by
  rw[qb hi0,qI,hbefore];simp[hpi'];omega
 simp[Ai,this,-Int.natCast_add];have:BJ p l (i0+1)=l:=by
  unfold BJ;rw[qb hi0,qI,hbefore];simp[hpi',jO (kx hi0)]
 rw[this];intro j y e;simp only[hset]at e;split at e;rename_i h;subst h;rw[hH];exact e;exact e;rintro i m ⟨hi1,hi2,hnm⟩;have hkl:((l.take i).filter λx=>!p x).length<i:=by
  have h1:l.take i=l.take (i0+1)++(l.drop (i0+1)).take (i-(i0+1)):=by
   rw[<-List.take_add];congr 1;omega
  have h2:((l.take (i0+1)).filter λx=>!p x).length=i0:=by
   rw[qb hi0,qI,hbefore];simp[hpi'];omega
  rw[h1,qI,qt,h2];have:=qU (λx=>!p x) ((l.drop (i0+1)).take (i-(i0+1)));simp at this ⊢;omega
 have hkeep:(BJ p l i).length=l.length:=by unfold BJ;simp;omega
 generalize hkp:(l.take i).filter (λx=>!p x)=kp at hkl ⊢;have hne:o≠m:=by omega
 have hsz:=E3 (BJ p l i);by_cases hlt:i<l.length;have w1:=wS i (by omega);have w2:IntKind.i64.wrap ((kp.length:Int)+1)=((kp.length+1:Nat):Int):=by rw[Cl]<;>omega
 obtain⟨x,hx⟩:∃x,l[i]=x:=⟨_,rfl⟩
 have hget:(BJ p l i)[i]? = some x:=by
  unfold BJ;rw[hkp,qV (by omega),qY];have:kp.length+(i-kp.length)=i:=by omega
  rw[this,qf hlt,hx]
 obtain⟨g1,g2⟩:=JU hsz (i:=i) (e:=(B5 x)) (by simp[hget]);have hset':=LT hsz (j:=kp.length) (e:=(B5 x)) (by simp[hkeep];omega);have g3:kp.length*2+2<=(((BJ p l i).map B5).flatMap SV.cells).length:=by
  rw[A7 hsz,qd,hkeep];omega
 have hcl:=Ux x;generalize hF:((BJ p l i).map B5).flatMap SV.cells=F at g1 g2 g3 hset' ⊢;have H1:=hp x (by rw[<-hx];exact ql hlt);simp only[qn,qz,qE]at H1;have hpre:=WW x;simp[H6,SV.cells]at g2;simp[go_sem,hlt,AC,g1,g2];refine qw (by simpa[H6]using H1) ?_;by_cases hpx:p x=true;simp[go_sem,hpx,w1,-Int.natCast_add];have hk1:(l.take (i+1)).filter (λx=>!p x)=kp:=by rw[qb hlt,qI,hkp,hx];simp[hpx]
 have hk2:BJ p l (i+1)=BJ p l i:=by unfold BJ;rw[hk1,hkp]
 refine⟨i+1,by omega,⟨by omega,by omega,by omega⟩,⟨by rw[hk1];exact IO,IO⟩,λj y e=>?_⟩;rw[hk2,hF]at e;by_cases e1:j=o;subst e1;rw[AC]at e;rw[AD _ _ hne,AD _ _ hne,AC];exact e;rw[AD _ _ e1]at e;have:=(ho j y e).1;rw[AD _ _ (by omega),AD _ _ (by omega),AD _ _ e1];exact e;have hpx':p x=false:=by simpa using hpx
 have hkl':(kp.length:Int)<l.length:=by omega
 simp[H6,SV.cells]at hset';simp[go_sem,hpx',AC,AD,hne,hkl',g3,hset',w1,w2,-Int.natCast_add];have hk1:(l.take (i+1)).filter (λx=>!p x)=kp++[x]:=by rw[qb hlt,qI,hkp,hx];simp[hpx']
 have hk2:(BJ p l (i+1)).map B5=((BJ p l i).map B5).set kp.length (B5 x):=by
  have:BJ p l (i+1)=(BJ p l i).set kp.length x:=by
   unfold BJ;rw[hk1,hkp,jV _ _ (qa _),Nat.sub_self];simp;rw[qG (show kp.length<l.length by omega),List.set_cons_zero]
  rw[this,List.map_set]
 rw[H6]at hk2;refine⟨i+1,by omega,⟨by omega,by omega,by omega⟩,⟨by rw[hk1,qt];exact IO,IO⟩,λj y e=>?_⟩;rw[hk2]at e;by_cases e1:j=o;subst e1;rw[AC]at e ⊢;exact e;rw[AD _ _ e1]at e ⊢;have:=(ho j y e).1;rw[AD _ _ (by omega),AD _ _ (by omega),AD _ _ e1];exact e;have:i=l.length:=by omega
 subst this;have q1:kp.length<=l.length:=by omega
 have q2:¬((kp.length:Int)=l.length):=by omega
 have q3:¬(l.length-kp.length=0):=by omega
 rw[qi]at hkp;have hF:((BJ p l l.length).map B5).flatMap SV.cells=(kp.map B5).flatMap SV.cells++((l.drop kp.length).map B5).flatMap SV.cells:=by unfold BJ;rw[qi,hkp];simp
 have hlk:((kp.map B5).flatMap SV.cells).length=kp.length*2:=by rw[A7 (E3 kp),qd]
 have hFl:(((BJ p l l.length).map B5).flatMap SV.cells).length=l.length*2:=by rw[A7 hsz,qd,hkeep]
 have q4:kp.length*2+(l.length-kp.length)*2<=(((BJ p l l.length).map B5).flatMap SV.cells).length:=by rw[hFl,<-jB];apply jt;omega
 have htk:(((BJ p l l.length).map B5).flatMap SV.cells).take (kp.length*2)=(kp.map B5).flatMap SV.cells:=by rw[hF,<-hlk,kO]
 generalize((BJ p l l.length).map B5).flatMap SV.cells=F at q4 htk hFl ⊢;simp[go_sem,AC,q1,q2,q3,q4];refine fin kp _ _ _ _ _ hkp (λj y hj e=>by rw[AD _ _ hj,AD _ _ hj];exact e) (AC _ _ _) (by rw[htk]) ?_;simp[BU];rintro s (⟨_,⟨_,rfl⟩,hs⟩|hs);rcases qk.1 hs with rfl|hs;rfl;rw[qv.1 hs];rfl;rw[jF (by rw[hFl];omega)]at hs;cases hs
def Ip (l:List (Int×Int)):Nat->List (Int×Int)
 | 0=>[]
 | i+1=>if 0<i/\l[i]? = l[i-1]? then Ip l i else Ip l i++(l[i]?).toList
theorem Q3 (l:List (Int×Int)):∀i,(Ip l i).length<=i
 | 0=>qa _
 | i+1=>by
  have:=Q3 l i;rw[Ip];split;omega;rw[qt];cases l[i]? <;> simp<;>omega
theorem YC (a b:Int×Int):Bv Tryz.prog [AA a.1,AA a.2] [AA b.1,AA b.2] (Ba Tryz.prog 89)=some (a==b):=by
 rw[show Bv Tryz.prog [AA a.1,AA a.2] [AA b.1,AA b.2] (Ba Tryz.prog 89)=_ from WG a.1 a.2 b.1 b.2];congr 1
def Fw (l:List (Int×Int)):List SV:=(l.map B5).flatMap SV.cells
theorem F9 (l:List (Int×Int)):(Fw l).length=l.length*2:=by unfold Fw;rw[A7 (E3 l),qd]
theorem K4 (a b:List (Int×Int)):Fw (a++b)=Fw a++Fw b:=by simp[Fw]
theorem WV (l:List (Int×Int)) (t:List SV) {i:Nat} (hi:i<l.length):(Fw l++t).drop (i*2)=AA l[i].1::AA l[i].2::(Fw l++t).drop (i*2+2):=by
 have h:l=l.take i++l[i]::l.drop (i+1):=by rw[List.getElem_cons_drop,ja]
 have e:Fw l=Fw (l.take i)++(AA l[i].1::AA l[i].2::Fw (l.drop (i+1))):=by
  conv=>lhs;rw[h]
  rw[K4];rfl
 have n:(Fw (l.take i)).length=i*2:=by rw[F9,jr];omega
 rw[e,qn,<-n];generalize Fw (l.take i)=A;simp
theorem Uw (l:List (Int×Int)) (t:List SV) {i:Nat} (hi:i<l.length) (x:Int×Int):(Fw l++t).take (i*2)++(AA x.1::AA x.2::(Fw l++t).drop (i*2+2))=Fw (l.set i x)++t:=by
 have h:l=l.take i++l[i]::l.drop (i+1):=by rw[List.getElem_cons_drop,ja]
 have e:Fw l=Fw (l.take i)++(AA l[i].1::AA l[i].2::Fw (l.drop (i+1))):=by
  conv=>lhs;rw[h]
  rw[K4];rfl
 have n:(Fw (l.take i)).length=i*2:=by rw[F9,jr];omega
 have e2:l.set i x=l.take i++x::l.drop (i+1):=by rw[ku,if_pos hi]
 rw[e2,K4,e,qn,<-n];generalize Fw (l.take i)=A;simp[Fw,B5,SV.cells]
theorem LL (l:List (Int×Int)) {i:Nat} (h0:0<i) (h:i<l.length):Ip l (i+1)=if l[i]=l[i-1]then Ip l i else Ip l i++[l[i]]:=by
 rw[Ip,qf h,qf (by omega)];simp[h0]
theorem K5 (l:List (Int×Int)) (t:List SV) {i:Nat} (hi:i<l.length):i*2+2<=(Fw l++t).length/\((Fw l++t).drop (i*2)).take 2=[AA l[i].1,AA l[i].2]:=by
 refine⟨by rw[qt,F9];omega,?_⟩;rw[WV l t hi];rfl
set_option maxHeartbeats 2000000 in
theorem bO (l:List (Int×Int)) (hl:l.length<=1048576) {H:Hp} {n o:Nat} {full:Bool} {t:List SV} (hH:H o=some (.cells (Fw l++t))):
 BA Tryz.prog 101 [.sl o 0 2 l.length full] H n (ZU (Ip l l.length) H o n):=by
 refine gq Tryz.func101 rfl λho=>?_;have hon:o<n:=(ho o _ hH).1;have ht:closedL n t=true:=by
  have:=(ho o _ hH).2;change closedL n (Fw l++t)=true at this;rw[BU]at this ⊢;exact λe he=>this e (jN _ he)
 have fin:∀(kp:List (Int×Int)) (h':Hp) (n':Nat) (cs t:List SV) (f2:Bool),Ip l l.length=kp->(∀j y,j≠o->H j=some y->h' j=some y)->h' o=some (.cells cs)->cs=Fw kp++t->closedL n t=true->
  B8 n h' n' (.sl o 0 2 kp.length f2) (ZU (Ip l l.length) H o n):=λkp h' n' cs t f2 hk hh hc h1 h2=>by
  refine .inr ⟨0,.sl o 0 2 kp.length f2,hset H o (some (.cells cs)),IO,by simpa[closed]using hon,λj y e=>?_,f2,t,by rw[hk],by rw[hk,h1];rfl,rfl⟩;by_cases e1:j=o;subst e1;rw[AC]at e;cases e;refine⟨hc,hon,?_⟩;show closedL n cs=true;rw[h1,BU];intro e he;rcases qe.1 he with he|he;exact BU.1 (KC n kp) e he;exact BU.1 h2 e he;rw[AD _ _ e1]at e;exact⟨hh j y e1 e,ho j y e⟩
 by_cases h2:l.length<2;have h2':(l.length:Int)<2:=by omega
 have hd:Ip l l.length=l:=by
  rcases l with _|⟨a,_|⟨b,l⟩⟩
  rfl;rfl;simp at h2;omega
 simp[go_sem,h2'];exact fin l H n _ t full hd (λj y _ e=>e) hH rfl ht;have h2':¬(l.length:Int)<2:=by omega
 simp[go_sem,h2'];refine An 0 (α:=Nat) (λk=>[(0,.sl o 0 2 l.length full),(3,AA k)]) (λ_=>H) (λk m=>1<=k/\k<=l.length/\n<=m/\Ip l k=l.take k) (λk=>l.length-k) 1 ?_ ?_ AB ?_;refine⟨by omega,by omega,by omega,?_⟩;rcases l with _|⟨a,l⟩
 rfl;rfl;simp[Ai,IO];rintro k m ⟨hk1,hk2,hnm,hf⟩;by_cases hlt:k<l.length
 . have w1:=wS k (by omega);have w2:IntKind.i64.wrap ((k:Int)-1)=((k-1:Nat):Int):=by rw[Cl]<;>omega
   have b1:(k:Int)<l.length:=by omega
   have b2:((k-1:Nat):Int)<l.length:=by omega
   obtain⟨g1,g2⟩:=K5 l t hlt;obtain⟨g3,g4⟩:=K5 l t (show k-1<l.length by omega);have hst:=LL l (by omega) hlt;obtain⟨x,hx⟩:∃x,l[k]=x:=⟨_,rfl⟩
   obtain⟨y,hy⟩:∃y,l[k-1]=y:=⟨_,rfl⟩
   rw[hx,hy]at hst;rw[hx]at g2;rw[hy]at g4;generalize hF:Fw l++t=F at hH g1 g2 g3 g4;simp[go_sem,hH,g1,g2,g3,g4,w1,w2,b1,b2,-Int.natCast_add]
   repeat first|refine nq ?_|refine sq ?_|refine aq ?_
   refine⟨_,Cp rfl (.inl rfl) (by kernel_rfl) (by kernel_rfl) (by kernel_rfl) rfl rfl (YC x y),?_⟩;simp[go_sem]
   repeat first|refine nq ?_|refine sq ?_|refine aq ?_
   by_cases he:x=y
   . have hk3:k<=l.length:=by omega
     have ne:¬((k:Int)=l.length):=by omega
     rw[if_pos he]at hst;simp[go_sem,he,hk3,ne,-Int.natCast_add];refine An 0 (α:=Nat) (λj=>[(0,.sl o 0 2 l.length full),(3,AA (Ip l (k+j)).length),(4,.sl o (k*2) 2 (l.length-k) full),(5,AA j)]) (λj=>hset H o (some (.cells (Fw (Ip l (k+j)++l.drop (Ip l (k+j)).length)++t))))
      (λj m=>1<=j/\k+j<=l.length/\n<=m/\(Ip l (k+j)).length<k+j) (λj=>l.length-(k+j)) 1 ?_ ?_ ?_ ?_
     refine⟨by omega,by omega,by omega,?_⟩;rw[hst,hf,jr];omega;have:((Ip l (k+1)).length:Int)=k:=by rw[hst,hf,jr];omega
     simp[Ai,IO,this,-Int.natCast_add];have:Ip l (k+1)++l.drop (Ip l (k+1)).length=l:=by
      rw[hst,hf,jr,jO hk3,ja]
     rw[this,hF];intro j y e;simp only[hset]at e;split at e;rename_i h;subst h;rw[hH];exact e;exact e;rintro j m2 ⟨hj1,hj2,hnm2,hkl⟩;have hkj:k<=k+j:=by omega
     generalize hkp:Ip l (k+j)=kp at hkl ⊢;obtain⟨L,hL⟩:∃L,L=kp++l.drop kp.length:=⟨_,rfl⟩
     rw[<-hL];have hLl:L.length=l.length:=by rw[hL];simp;omega
     by_cases hlt2:k+j<l.length
     . have v1:=wS j (by omega);have v2:IntKind.i64.wrap ((j:Int)-1)=((j-1:Nat):Int):=by rw[Cl]<;>omega
       have v3:IntKind.i64.wrap ((kp.length:Int)+1)=((kp.length+1:Nat):Int):=by rw[Cl]<;>omega
       have c1:(j:Int)<(l.length-k:Nat):=by omega
       have c2:((j-1:Nat):Int)<(l.length-k:Nat):=by omega
       have c3:j<l.length-k:=by omega
       have c4:j-1<l.length-k:=by omega
       have c5:(kp.length:Int)<l.length:=by omega
       obtain⟨q1,q2⟩:=K5 L t (show k+j<L.length by omega);obtain⟨q3,q4⟩:=K5 L t (show k+j-1<L.length by omega);have hst2:=LL l (show 0<k+j by omega) hlt2;obtain⟨u,hu⟩:∃u,l[k+j]=u:=⟨_,rfl⟩
       obtain⟨w,hw⟩:∃w,l[k+j-1]=w:=⟨_,rfl⟩
       have e1:L[k+j]'(by omega)=u:=by rw[<-hu];simp only[hL];rw[List.getElem_append_right (by omega)];simp;congr 1;omega
       have e2:L[k+j-1]'(by omega)=w:=by rw[<-hw];simp only[hL];rw[List.getElem_append_right (by omega)];simp;congr 1;omega
       rw[hu,hw,hkp]at hst2;rw[e1]at q2;rw[e2]at q4;rw[jB]at q1 q2;rw[show(k+j-1)*2=k*2+(j-1)*2 by omega]at q3 q4;have q5:=Uw L t (show kp.length<L.length by omega) u;have q6:kp.length*2+2<=(Fw L++t).length:=by rw[qt,F9];omega
       generalize hFL:Fw L++t=FL at q1 q2 q3 q4 q5 q6 ⊢;simp[go_sem,AC,c1,c2,q1,q2,q3,q4,v1,v2,-Int.natCast_add]
       repeat first|refine nq ?_|refine sq ?_|refine aq ?_
       refine⟨_,Cp rfl (.inr rfl) (by kernel_rfl) (by kernel_rfl) (by kernel_rfl) rfl rfl (YC u w),?_⟩;simp[go_sem]
       repeat first|refine nq ?_|refine sq ?_|refine aq ?_
       by_cases he2:u=w;rw[if_pos he2];rw[if_pos he2]at hst2;have hk':Ip l (k+(j+1))=kp:=hst2;refine⟨j+1,by omega,⟨by omega,by omega,by omega,by rw[hk'];omega⟩,⟨by rw[hk'];exact IO,IO⟩,λi y e=>?_⟩;rw[hk',<-hL,hFL]at e;exact e;rw[if_neg he2];rw[if_neg he2]at hst2;have hk':Ip l (k+(j+1))=kp++[u]:=hst2;have hL2:kp++[u]++l.drop (kp++[u]).length=L.set kp.length u:=by
        rw[hL,jV _ _ (qa _),Nat.sub_self,qG (show kp.length<l.length by omega),List.set_cons_zero];simp
       have c6:kp.length<l.length:=by omega
       simp[go_sem,AC,c6,q5,q6,v3,-Int.natCast_add];have hsz2:(kp++[u]).length=kp.length+1:=by simp
       refine⟨j+1,by omega,⟨by omega,by omega,by omega,by rw[hk',hsz2];omega⟩,⟨by rw[hk',hsz2];exact IO,IO⟩,λi y e=>?_⟩;rw[hk',hL2]at e;simp only[hset]at e ⊢;split at e;rename_i h;rw[if_pos h];exact e;rename_i h;rw[if_neg h,if_neg h];exact e
     have:k+j=l.length:=by omega
     have d1:¬((j:Int)<(l.length-k:Nat)):=by omega
     have d2:kp.length<=l.length:=by omega
     have d3:¬((kp.length:Int)=l.length):=by omega
     have d4:¬(l.length-kp.length=0):=by omega
     have hFl:(Fw L).length=l.length*2:=by rw[F9,hLl]
     have htk:(Fw L++t).take (kp.length*2)=Fw kp:=by rw[hL,K4,<-F9 kp,qn,kO]
     have d5:kp.length*2+(l.length-kp.length)*2<=(Fw L++t).length:=by rw[qt,hFl];omega
     generalize hFL:Fw L++t=FL at htk d5 ⊢;simp[go_sem,AC,d1,d2,d3,d4,d5,-Int.natCast_add];refine fin kp _ _ _ _ _ (by rw[<-this];exact hkp) (λi y hi e=>by rw[AD _ _ hi,AD _ _ hi];exact e) (AC _ _ _) (by rw[htk]) ?_;rw[BU];intro s hs;rcases qe.1 hs with hs|hs;obtain⟨l1,h1,h3⟩:=List.mem_flatten.1 hs;rw[(List.mem_replicate.1 h1).2]at h3;rcases qk.1 h3 with rfl|h3;rfl;rw[qv.1 h3];rfl;rw[<-hFL,List.drop_append,jF (by rw[hFl];omega),qE]at hs;exact BU.1 ht s (qT hs)
   simp[go_sem,he,-Int.natCast_add];exact⟨k+1,by omega,⟨by omega,by omega,by omega,by rw[hst,if_neg he,hf,qb hlt,hx]⟩,IO⟩
 have:k=l.length:=by omega
 subst this;simp[go_sem];exact fin l H m _ t full (by rw[hf,qi]) (λj y _ e=>e) hH rfl ht
open Go.Sort (SWO)
def JR (x:Int×Int):List Value:=[.int .i64 x.1,.int .i64 x.2]
def OL (l:List (Int×Int)):List Int:=l.flatMap λx=>[x.1,x.2]
theorem Ic:∀l:List (Int×Int),(OL l).length=l.length*2
 | []=>rfl
 | x::l=>by have:=Ic l;simp only[OL,qK,qt,qF,jI]at *;omega
theorem Nq:∀l:List (Int×Int),Fw l=(OL l).map AA
 | []=>rfl
 | x::l=>by
  have:=Nq l;unfold Fw OL at *;simp only[qu,qK,qc,this];rfl
theorem Q8:∀(l:List (Int×Int)) (t:Nat) (h:t<l.length*2),((OL l).map (Value.int .i64))[t]? = (JR l[t / 2])[t % 2]?
 | [],t,h=>by simp at h
 | x::l,0,h=>rfl
 | x::l,1,h=>rfl
 | x::l,t+2,h=>by
  have e1:(t+2) / 2=t / 2+1:=by omega
  have e2:(t+2) % 2=t % 2:=by omega
  have h2:t<l.length*2:=by simp at h;omega
  have:=Q8 l t h2;simp only[e1,e2,ju];rw[<-this];rfl
theorem Va (l:List (Int×Int)):Go.Sort.flatK JR 2 l.toArray=((OL l).map (Value.int .i64)).toArray:=by
 refine Go.Sort.ext_get! (by simp[Ic]) λt ht=>?_;have ht':t<l.length*2:=by simpa using ht
 rw[Go.Sort.get_flatK _ _ _ _ (by simpa using ht')];have h1:=Q8 l t ht';have h2:t / 2<l.length:=by omega
 have h3:t % 2<2:=Nat.mod_lt _ (by omega);have e1:(l.toArray)[t / 2]! = l[t / 2]:=by rw[getElem!_pos _ _ (by simpa using h2)];simp
 rw[e1];have e2:t<((OL l).map (Value.int .i64)).length:=by rw[qd,Ic];exact ht'
 have e3:t % 2<(JR l[t / 2]).length:=h3;have e4:((OL l).map (Value.int .i64)).toArray[t]! = ((OL l).map (Value.int .i64))[t]:=by
  rw[getElem!_pos ((OL l).map (Value.int .i64)).toArray t (by simpa using e2)];simp
 rw[e4,getElem!_pos (JR l[t / 2]) (t % 2) e3];rw[qf e2,qf e3]at h1;exact(Option.some.inj h1).symm
theorem Ya (x y:Int×Int):ltOf LJ x y=decide (x.1<y.1\/(x.1=y.1/\x.2<y.2)):=by
 unfold ltOf LJ Do;by_cases h1:x.1<y.1;simp[h1,UQ];by_cases h2:y.1<x.1;have:¬x.1=y.1:=by omega
 simp[h1,h2,UQ,this];have:x.1=y.1:=by omega
 by_cases h3:x.2<y.2;simp[this,h3,UQ];by_cases h4:y.2<x.2<;>simp[this,h3,h4,UQ]
theorem Yo:SWO (ltOf LJ) where
 irrefl x:=by rw[Ya];simp
 trans x y z h1 h2:=by rw[Ya]at *;simp at *;omega
 ntrans x y z h1 h2:=by rw[Ya]at *;simp at *;omega
def De (l:List (Int×Int)):List (Int×Int):=l.mergeSort λx y=>!(ltOf LJ) y x
theorem VO (c:Cx) (x:Int×Int):V c (B5 x) (.agg (JR x).toArray):=by
 rw[H6,V];exact⟨JR x,rfl,BN.2 ⟨by simp[V],by simp[V],trivial⟩,λv hv=>by simp[JR]at hv;rcases hv with rfl|rfl<;>rfl⟩
theorem YX (blk off size:Nat) (w:World):CmpLays Tryz.prog 98 #[] JR 2 LJ blk off size w:=by
 intro m os dk _ x y;have:=(c98 x y).grown (W:=sortWorldK JR 2 w blk off m dk os) (vs:=[.agg (JR x).toArray,.agg (JR y).toArray]) ⟨VO _ x,VO _ y,trivial⟩;refine this.mono ?_;rintro e w' ⟨⟨u,c',rfl,hu⟩,q,os',rfl⟩;rw[C7 hu];exact⟨rfl,q,os',rfl⟩
theorem Yd:Kk Tryz.prog 97=true:=by unfold Kk;rw[Tryz.func97];kernel_rfl
theorem PM (c:Cx):∀l:List Int,AZ (V c) (l.map AA) (l.map (Value.int .i64))
 | []=>trivial
 | x::l=>⟨by simp[V],PM c l⟩
theorem d97 (l:List (Int×Int)) (hl:l.length<=1048576) {H:Hp} {n o:Nat} {full:Bool} {t:List SV} (hH:H o=some (.cells (Fw l++t))):
 BA Tryz.prog 97 [.sl o 0 2 l.length full,.fn (.func 98) [] []] H n (λv h' n'=>v=.tup []/\h'=hset H o (some (.cells (Fw (De l)++t)))/\n'=n):=by
 refine⟨Yd,λc vs _ R F A=>?_⟩;have⟨u,rs,ev,hv,A2⟩:∃u rs,vs=u::rs/\V c (.sl o 0 2 l.length full) u/\AZ (V c) [.fn (.func 98) [] []] rs:=by
  cases vs with
  | nil=>exact A.elim
  | cons u rs=>exact⟨u,rs,rfl,A.1,A.2⟩
 obtain⟨u2,rfl,hv2⟩:=A2.single;subst ev;simp only[V,VL]at hv hv2;obtain⟨xs,ys,rfl,hx,hy⟩:=hv2;subst hx hy;obtain⟨b,st,cap,hρ,rfl,hcap,_,hroom⟩:=hv;obtain⟨b',st',arr,e,vs,g1,g2,g3,g4,g5,_⟩:=R.obj o _ hH;rw[hρ]at g1;cases g1;have h4:=AZ.pre g4;rw[Nq,qd,Ic]at h4;have hvs:=Nt h4;have h5:=AZ.drop (l.length*2) g4;rw[List.drop_left' (by rw[F9])]at h5;have hblk:b<c.w.heap.size:=(qp.1 g2).1;have hget:∀j (x:Value),((OL l).map (Value.int .i64))[j]? = some x->arr[st+j]? = some x:=λj x e=>by
  rw[<-hvs]at e;exact g3 j x (by rw[jf]at e;split at e;exact e;cases e)
 have hHo:Go.Sort.HoldsK JR 2 c.w b (st+0) l.toArray:=by
  unfold Go.Sort.HoldsK;rw[Va];intro j hj;have hj':j<((OL l).map (Value.int .i64)).length:=by simpa using hj
  have e4:((OL l).map (Value.int .i64)).toArray[j]! = ((OL l).map (Value.int .i64))[j]:=by
   rw[getElem!_pos ((OL l).map (Value.int .i64)).toArray j hj];simp
  rw[e4];exact⟨by simp[World.cell?,g2,hget j _ (qf hj')],by simp[World.frozen?,g2]⟩
 have eg:∀args w,(callFunc 98 args).run Tryz.prog w=.ok (.enter 98 args) w:=enters_of Tryz.func98 (by kernel_rfl) rfl;have HC:=AnyQ.slices_SortFunc Tryz.sortB 2 Tryz.isAgg89 Tryz.sizeOf89 JR (λ_=>rfl) (λx v hv=>by simp[JR]at hv;rcases hv with rfl|rfl<;>rfl) LJ Yo 98 #[] b (st+0) cap l.toArray c.w eg (YX _ _ _ _) hHo hblk (by simp;omega);have HC':Calls Tryz.prog 97 #[.slice (some ⟨b,st+0,none⟩) l.length cap,.func (.func 98) #[] #[]] c.w λe w'=>e=.returned (.tuple #[])/\∃k os,w'=Go.Sort.grow (Go.Sort.putRow id (Go.Sort.ahead c.w k) b (st+0) ((OL (De l)).map (Value.int .i64)).toArray) os:=by
  refine HC.mono ?_;rintro e w' ⟨rfl,d',k,os,h1,h2,rfl⟩;refine⟨rfl,k,os,?_⟩;have h3:=Go.Sort.sorted_unique_holds Yo (λx y h1 h2=>by
   rw[Ya]at h1 h2;simp at h1 h2;exact Prod.ext (by omega) (by omega)) l.toArray d' h1 h2
  have h6:d'=(De l).toArray:=by rw[<-Array.toArray_toList (xs:=d'),h3];rfl
  unfold sortWorldK Go.Sort.putRowK;rw[h6,Va]
 refine HC'.mono ?_;rintro e w' ⟨rfl,k,os,rfl⟩;have hlen:(De l).length=l.length:=jW _;obtain⟨L,hL⟩:∃L,L=(OL (De l)).map (Value.int .i64):=⟨_,rfl⟩
 have hLl:L.length=l.length*2:=by rw[hL,qd,Ic,hlen]
 have hfl:((OL l).map (Value.int .i64)).length=l.length*2:=by rw[qd,Ic]
 rw[<-hL];have hsz:(Go.Sort.grow (Go.Sort.putRow id (Go.Sort.ahead c.w k) b (st+0) L.toArray) os).heap=(c.w.heap.modify b (Go.Sort.onCells (Go.Sort.putCells id (st+0) L.toArray)))++os:=rfl;have hnew:(Go.Sort.grow (Go.Sort.putRow id (Go.Sort.ahead c.w k) b (st+0) L.toArray) os).heap[b]? = some (.cells (Go.Sort.putCells id (st+0) L.toArray arr) e (0,0)):=by
  rw[hsz,jp (by simpa using hblk),jX,if_pos rfl,g2];rfl
 obtain⟨R',X'⟩:=R.write2 (w':=Go.Sort.grow (Go.Sort.putRow id (Go.Sort.ahead c.w k) b (st+0) L.toArray) os) (y:=.cells (Fw (De l)++t)) hH hρ
  (by rw[hsz];simp) (λb' hb hl'=>by rw[hsz,jp (by simpa using hl'),jX,if_neg (Ne.symm hb)])
  (by unfold rm; rw [hnew, g2]; simp [Go.Sort.putCells]) rfl rfl (fun X => by
    refine⟨b,st,_,e,L++vs.drop (l.length*2),hρ,hnew,λi x hi=>?_,?_,λx hx=>?_,Ty.none⟩;simp only[Go.Sort.putCells,Array.getElem?_mapIdx,jJ,List.size_toArray];by_cases hil:i<L.length;rw[jD hil]at hi;have hx:L[i]=x:=by rw[qf hil]at hi;exact Option.some.inj hi
    have h7:=hget i _ (qf (by omega));rw[h7,jk,if_pos ⟨by omega,by omega⟩,show st+i-st=i by omega];rw[getElem!_pos L.toArray i (by simpa using hil)];simp[hx];rw[qV (by omega),qY,show l.length*2+(i-L.length)=i by omega]at hi;rw[g3 i x hi,jk,if_neg (by omega)];rw[Nq];refine jS ?_ (kL X h5);rw[hL];exact PM _ _;rcases qe.1 hx with h|h;rw[hL]at h;obtain⟨z,_,rfl⟩:=qy.1 h;rfl;exact g5 x (qT h))
 exact⟨.tuple #[],.tup [],_,n,_,rfl,⟨rfl,rfl,rfl⟩,rfl,by simp[V,VL],R',F,⟨X',qa _,λ_ _=>rfl⟩⟩
end Go.Proofs.YtgakninlhfkkmaaGreat.Sh
namespace Go.Proofs.YtgakninlhfkkmaaGreat.Sh
open Proofs
set_option maxRecDepth 10000
def UP (rev:Int) (s:List Int) (x:BW):AF×Bool×List Int:=(Fo,true,s++Fx rev x.head.moves)
def UD (q:Nat) (s:List Int) (o:Nat):Option BT:=if o=q then some (.list 1 (s.map AA))else none
theorem RU {q n0:Nat} (hq:q<n0) (s:List Int) {H:Hp} {n:Nat} (hn:n0<=n) (ho:Es H n):Es (Aj (UD q) s H) n:=λo y e=>by
 have hc:BQ n (.list 1 (s.map AA))=true:=by
  rw[BQ,BU];intro e he;obtain⟨x,hx,hx2⟩:=jo.1 he;obtain⟨i,_,rfl⟩:=qy.1 hx;rw[qv.1 hx2];rfl
 simp only[Aj,UD]at e;by_cases e1:o=q;rw[if_pos e1]at e;cases e;exact⟨by omega,hc⟩;rw[if_neg e1]at e;exact ho o y e
def Ps:Tr:=.pure 1<|.pure 2<|.pure 3<|.pure 4<|.pure 5<|.two 0 6 (.one 6<|.one 7<|.one 8 .nil) (.one 0<|.one 7<|.one 8 .nil)
set_option maxHeartbeats 4000000 in
theorem dH {q n0:Nat} (hq:q<n0) (revs:List Int) (full:Bool) (i:Nat) (hi:i<revs.length):MN (UD q) n0 171 [] [.ptr q 0,.iptr [.imm 1 (revs.map AA) full],.iptr [AA i]] (UP revs[i]) (λh=>h.sized) (λs=>s.length) 1073741824 where
 up s x:=by simp only[UP,qt];omega
 lt s o h:=by simp only[UD];rw[if_neg (by omega)]
 dom s s' o h:=by
  simp only[UD]at h ⊢;by_cases e1:o=q;rw[if_pos e1]at h;cases h;rw[if_neg e1]
 cl s o y h:=by
  have:=RU hq s (H:=λ_=>none) (qa n0) (λ_ _ e=>by cases e) o y (by simp only[Aj,h]);exact this.2
 call s x H n hx ht hn hs:=by
  refine Db Tryz.func171 rfl λho=>?_;have hHb:=ho.lt;obtain⟨X,hX⟩:∃X:SV,X=.iptr x.head.flat:=⟨_,rfl⟩
  obtain⟨R,hR⟩:∃R:SV,R=.iptr [.imm 1 (revs.map AA) full]:=⟨_,rfl⟩
  obtain⟨rev,hrev⟩:∃rev,rev=revs[i]:=⟨_,rfl⟩
  rw[<-hR];rw[<-hrev]at ht ⊢;obtain⟨B,hB⟩:∃B:Hp,B=hset H (n+1) (some (.cells [.imm 0 [] true,AA 0,AA 0,.imm 0 [] true,.imm 0 [] true])):=⟨_,rfl⟩
  have hBb:∀j y,B j=some y->j<n+2:=λj y e=>by
   rw[hB]at e;by_cases h:j=n+1;omega;rw[AD _ _ h]at e;have:=hHb j y e;omega
  refine BP 1 [(3,.ptr q 0),(4,R),(5,.iptr [AA i]),(6,X),(9,.ptr (n+1) 0)] B (λm=>n+2=m) ?_ (λm hm=>?_);rw[hX,hB];simp[go_sem,AF.enc,AF.flat,IO];refine⟨AV (by rw[AD _ _ (by omega)];exact ho.none (qa n)) (by simp[hset]),λj y=>?_⟩;have:=ho j y;simp only[hset];grind;subst hm;obtain⟨A,hA0⟩:∃A:List SV,A=s.map AA:=⟨_,rfl⟩
  obtain⟨M,hM⟩:∃M:List Int,M=Fx rev x.head.moves:=⟨_,rfl⟩
  have hHq:H q=some (.list 1 (s.map AA)):=hs q _ (by simp[UD]);have hBq:B q=some (.list 1 A):=by rw[hB,AD _ _ (by omega),hA0];exact hHq
  have hlen:A.length+M.length<=1073741824:=by
   simp only[UP,qt]at ht;rw[hA0,hM,qd];omega
  refine AT 0 (α:=Option Nat) (λ_=>[(9,.ptr (n+1) 0)]) (λo=>AN o (A++M.map AA) (hset B q (some (.cells [AM 1 o (A++M.map AA)])))) (λo m=>n+2<=m/\Ar (n+2) m 1 o (A++M.map AA)/\(A++M.map AA=[]->o=none)) ?_ (λo m hm=>?_);refine Kt q (by rw[hA0];exact Hz.size _) hBq λo m hm hA hoe=>?_;have hc:=c51 x.head hx rev;rw[<-hM]at hc;have hpj:∀j,o=some j->q≠j:=λj e=>by have:=(hA.lt j e).1;omega
  have hri:(revs.map AA)[i]? = some (AA rev):=by simp[hi,hrev]
  refine BX Ps rfl (by kernel_rfl) (by kernel_rfl) ?_;rw[hX,hR];rcases St hA (X:=AN o A (hset B q (some (.cells [AM 1 o A])))) (λj e=>Cu j e) M hlen m with⟨hMe,b1⟩|⟨hMe,b1⟩
  cases o with
  | none=>
   simp only[AN,AM]at b1;simp[go_sem,Ps,AF.flat,AN,AM,AC,hi,<-hrev];refine⟨?_,?_⟩ <;>
   . refine qw (by simpa[AF.enc,AF.flat]using hc) ?_;simp[go_sem,b1,AC,AS];exact⟨none,⟨hm,by simpa[hMe]using hA,λ_ _=>rfl⟩,AB⟩
  | some j=>
   have hpj:=hpj j rfl;have hj:=(hA.lt j rfl).1;simp only[AN,AM]at b1;simp[go_sem,Ps,AF.flat,AN,AM,AC,AD _ _ hpj,hi,<-hrev];refine⟨?_,?_⟩ <;>
   . refine qw (by simpa[AF.enc,AF.flat]using hc) ?_;simp[go_sem,b1,AC,AD _ _ hpj];exact⟨some j,⟨hm,by simpa[hMe]using hA,λa _=>hoe a⟩,λq y e=>by simp only[hMe,jI,jJ,qS,jY,jq,hset]at e ⊢;grind⟩
  have hpm:q≠m:=by omega
  have hpush:Ar (n+2) (m+1) 1 (some m) (A++M.map AA):=⟨by simp,λj e=>by cases e;omega,λe he=>(qe.1 he).elim (hA.size e) (Hz.size M e)⟩
  cases o with
  | none=>
   simp only[AN,AM]at b1;simp[go_sem,Ps,AF.flat,AN,AM,AC,hi,<-hrev];refine⟨?_,?_⟩ <;>
   . refine qw (by simpa[AF.enc,AF.flat]using hc) ?_;simp[go_sem,b1,AC,AD _ _ hpm];exact⟨some m,⟨by omega,hpush,by simp[hMe]⟩,λq y e=>by have:=hBb q y;simp only[hset]at e ⊢;grind⟩
  | some j=>
   have hpj:=hpj j rfl;have hj:=(hA.lt j rfl).1;simp only[AN,AM]at b1;simp[go_sem,Ps,AF.flat,AN,AM,AC,AD _ _ hpj,hi,<-hrev];refine⟨?_,?_⟩ <;>
   . refine qw (by simpa[AF.enc,AF.flat]using hc) ?_;simp[go_sem,b1,AC,AS,AD _ _ hpm,AD _ _ hpj];exact⟨some m,⟨by omega,hpush,by simp[hMe]⟩,λq y e=>by have:=hBb q y;simp only[hset]at e ⊢;grind⟩
  obtain⟨hm,hA,hoe⟩:=hm;refine UT q hA hBb (by omega) hoe ?_;have n1:n+1≠q:=by omega
  rw[hB];refine AH ?_;simp[go_sem,AC,AD _ _ n1];have hd:UP rev s x=(Fo,true,s++M):=by rw[hM];rfl
  rw[hd];refine RQ (v:=.tup [.agg [.imm 0 [] true,AA 0,AA 0,.imm 0 [] true,.imm 0 [] true],.bool true]) (r:=.tup [Fo.enc,.bool true]) 3 (RU hq (s++M) hn ho)
   (.inr ⟨.inr ⟨BC (by simp),IO,IO,BC (by simp),BC (by simp),trivial⟩,IO,trivial⟩) (by simp[closed,closedL,AF.enc,AF.flat,Fo]) (λj y e=>?_)
  simp only[Aj,UD]at e;by_cases c1:j=q;subst c1;rw[if_pos rfl,qc,<-hA0]at e;rw[AD _ _ (by omega),AC];exact e;rw[if_neg c1]at e;have:=hHb j y e;rw[AD _ _ (by omega),AD _ _ c1,AD _ _ (by omega)];exact e
def DO (last:Int) (q:Int×Bool) (x:Int):Int×Bool:=if last<x/\(q.1=0\/x<q.1)then(x,true)else q
def Oa (A:List Int) (last:Int):Int×Bool:=A.foldl (DO last) (0,false)
theorem Sy (last:Int):∀(A:List Int) (q:Int×Bool),(A.foldl (DO last) q).2=true->(q.2=true/\(A.foldl (DO last) q).1=q.1)\/((A.foldl (DO last) q).1∈A/\last<(A.foldl (DO last) q).1)
 | [],q,h=>.inl ⟨h,rfl⟩
 | x::A,q,h=>by
  simp only[qM]at h ⊢;rcases Sy last A _ h with⟨h1,h2⟩|⟨h1,h2⟩
  rw[h2];unfold DO at h1 ⊢;split at h1;rename_i hc;rw[if_pos hc];exact .inr ⟨jP ..,hc.1⟩;rename_i hc;rw[if_neg hc];exact .inl ⟨h1,rfl⟩;exact .inr ⟨qL _ h1,h2⟩
theorem Qq {A:List Int} {last:Int} (h:(Oa A last).2=true):(Oa A last).1∈A/\last<(Oa A last).1:=by
 rcases Sy last A (0,false) h with⟨h1,_⟩|h1;cases h1;exact h1
theorem H5 {A:List Int} {last:Int} (h:(Oa A last).2=true):(A.filter λx=>decide ((Oa A last).1<x)).length<(A.filter λx=>decide (last<x)).length:=by
 obtain⟨h1,h2⟩:=Qq h;generalize(Oa A last).1=b at h1 h2 ⊢;clear h
 induction A with
 | nil=>cases h1
 | cons x A ih =>
  have le:∀B:List Int,(B.filter λx=>decide (b<x)).length<=(B.filter λx=>decide (last<x)).length:=λB=>by
   induction B with
   | nil=>simp
   | cons y B ih=>
    simp only[jZ];by_cases c1:b<y;have c2:last<y:=by omega
    simp[c1,c2];omega;by_cases c2:last<y;simp[c1,c2];omega;simp[c1,c2];omega
  rcases qk.1 h1 with h1|h1;subst h1;have:=le A;simp[h2];omega;have:=ih h1;simp only[jZ];by_cases c1:b<x;have c2:last<x:=by omega
  simp[c1,c2];omega;by_cases c2:last<x;simp[c1,c2];omega;simp[c1,c2];omega
def Fg (A:List Int) (last:Int):List Int:=if _h:(Oa A last).2=true then(Oa A last).1::Fg A (Oa A last).1 else[]
termination_by (A.filter λx=>decide (last<x)).length
decreasing_by exact H5 _h
theorem Lp (A:List Int) (last:Int):(Fg A last).length<=(A.filter λx=>decide (last<x)).length:=by
 rw[Fg];split;rename_i h;have:=Lp A (Oa A last).1;have:=H5 h;simp only[qF];omega;simp
termination_by (A.filter λx=>decide (last<x)).length
decreasing_by exact H5 (by assumption)
section
variable {hp : AF → Prop} {T : Int → Prop} (g : Bool → AF → AF)
end
theorem Nf {F:Nat->Int}:∀{n:Nat},(∀i,i<n->F i=0)->FK F n=0
 | 0,_=>rfl
 | n+1,h=>by rw[FK,if_pos (Nf λi hi=>h i (by omega))];exact h n (by omega)
theorem Un {F:Nat->Int} {i:Nat} (h:G1 F i=0):1<=F i/\F i<=1073741824/\(0<i->F (i-1)<F i):=by
 unfold G1 at h;by_cases c1:1<=F i/\F i<=1073741824;refine⟨c1.1,c1.2,λhi=>?_⟩;rw[if_neg (by simpa using c1)]at h;by_cases c2:F i=F (i-1);rw[if_pos ⟨hi,c2⟩]at h;cases h;rw[if_neg λg=>c2 g.2]at h;by_cases c3:F i<F (i-1);rw[if_pos ⟨hi,c3⟩]at h;cases h;omega;rw[if_pos c1]at h;cases h
theorem QZ {l:List Ax} (h:EY l=0):Cd l=0:=by
 have hlen:=Ka h;have h2:FK (I9 l) (min l.length 256)=0:=by
  have h9:=h;unfold EY at h9;have hl:¬(256:Int)<l.length:=by omega
  simp[CJ,hl]at h9;exact Classical.byContradiction λg=>g (h9 g)
 rw[Cd,if_neg (by omega)];refine Nf λi hi=>?_;have h3:=Jv h2 i (by omega);unfold I9 at h3;unfold E6;rw[qf hi]at h3 ⊢;dsimp only at h3 ⊢;have e1:=Dc h3;rw[CJ,if_pos e1]at h3;have e2:=Dc h3;rw[CJ,if_pos e2]at h3;have e3:=Dc h3;obtain⟨p1,p2,p3⟩:=Un e1
 try dsimp only at p1 p2 p3
 rw[qf hi]at p1 p2 p3
 try dsimp only at p1 p2 p3
 have ha:EN l[i].author=true:=by
  cases hA:EN l[i].author with
  | true=>rfl
  | false=>rw[hA]at e2;simp at e2
 have ht:0<=l[i].time/\l[i].time<=1099511627776:=by
  by_cases c:0<=l[i].time/\l[i].time<=1099511627776;exact c;simp[c]at e3
 simp only[EN,qq,decide_eq_true_eq]at ha;have hr:CL l[i]=0:=by
  unfold CL;rw[if_neg (by omega),if_neg (by omega),if_neg (by omega),if_neg (by rw[ha.2];decide),if_neg (by omega)]
 rw[if_pos hr];by_cases c:i=0;rw[if_pos c]
 . rw[if_neg c];have hi1:i-1<l.length:=by omega
   have p3:=p3 (by omega);rw[qf hi1]at p3 ⊢
   try dsimp only at p3 ⊢
   unfold Do;rw[if_neg (by omega),if_pos p3];simp;omega
def FS:List Az->Az->List Az
 | [],x=>[x]
 | y::l,x=>if y.rev<x.rev then y::FS l x else if y.rev=x.rev then y::l else x::y::l
def CC:List Az->Int->Nat
 | [],_=>0
 | y::l,r=>if y.rev<r then CC l r+1 else 0
def Cc (l:List Az):List Az:=l.foldl FS []
theorem Mv (r:Int):∀l,CC l r<=l.length
 | []=>qa _
 | y::l=>by
  have:=Mv r l;rw[CC];split<;>simp<;>omega
theorem Mw (r:Int):∀(l:List Az) (j:Nat) (h:j<l.length),j<CC l r->l[j].rev<r
 | [],_,h,_=>absurd h (by simp)
 | y::l,j,h,g=>by
  rw[CC]at g;split at g;rename_i e;cases j with
  | zero=>exact e
  | succ j=>exact Mw r l j (by simpa using h) (by omega)
  omega
theorem Mu (r:Int):∀(l:List Az) (h:CC l r<l.length),¬l[CC l r].rev<r
 | [],h=>absurd h (by simp)
 | y::l,h=>by
  by_cases e:y.rev<r;have h0:CC (y::l) r=CC l r+1:=by rw[CC,if_pos e]
  have h1:CC l r<l.length:=by simp at h;omega
  have:=Mu r l h1;simp only[h0,ju];exact this;have h0:CC (y::l) r=0:=by rw[CC,if_neg e]
  simp only[h0,List.getElem_cons_zero];exact e
theorem Mt:∀(l:List Az) (x:Az) (h:CC l x.rev<l.length),l[CC l x.rev].rev=x.rev->FS l x=l
 | [],_,h,_=>absurd h (by simp)
 | y::l,x,h,g=>by
  by_cases e:y.rev<x.rev;have h0:CC (y::l) x.rev=CC l x.rev+1:=by rw[CC,if_pos e]
  have h1:CC l x.rev<l.length:=by simp at h;omega
  simp only[h0,ju]at g;rw[FS,if_pos e,Mt l x h1 g];have h0:CC (y::l) x.rev=0:=by rw[CC,if_neg e]
  simp only[h0,List.getElem_cons_zero]at g;rw[FS,if_neg e,if_pos g]
theorem O6:∀(l:List Az) (x:Az),(∀h:CC l x.rev<l.length,l[CC l x.rev].rev≠x.rev)->FS l x=l.take (CC l x.rev)++x::l.drop (CC l x.rev)
 | [],_,_=>rfl
 | y::l,x,g=>by
  by_cases e:y.rev<x.rev;have h0:CC (y::l) x.rev=CC l x.rev+1:=by rw[CC,if_pos e]
  rw[FS,if_pos e,O6 l x (λh1=>by
   have:=g (by simp;omega);simpa only[h0,ju]using this),h0]
  rfl;have h0:CC (y::l) x.rev=0:=by rw[CC,if_neg e]
  have:=g (by rw[h0];simp);simp only[h0,List.getElem_cons_zero]at this;rw[FS,if_neg e,if_neg this,h0];rfl
theorem O4:∀(l:List Az) (x:Az),(FS l x).length<=l.length+1
 | [],_=>qa _
 | y::l,x=>by
  have:=O4 l x;rw[FS];split;simp;omega;split<;>simp
theorem J2:∀(l o:List Az),(l.foldl FS o).length<=o.length+l.length
 | [],o=>by simp
 | x::l,o=>by
  have h1:=J2 l (FS o x);have h2:=O4 o x;simp;omega
theorem PA (l:List Az):(Cc l).length<=l.length:=by have:=J2 l [];simpa[Cc]using this
section
variable {H : Hp} {p q : Nat} {a b : SV}
theorem dA0:AU Tryz.prog H p .append [24,24] [.sl q 0 2 1 true,.imm 2 [] false]=some { val:=.sl q 0 2 1 true }:=by
 have e1:A9 Tryz.prog 24=some 166:=by simp[go_sem]
 have e2:Bh Tryz.prog 166=2:=by simp[go_sem]
 have e3:(BH Tryz.prog 166).storable=true:=by simp[go_sem]
 have e4:(BH Tryz.prog 166).cells.length=2:=by simp[go_sem]
 simp only[AU,e1,jE,if_true,Cm,e2,e3,e4];simp[Hd,Dw,flat,EH]
theorem dA1 {D:List Az} (hD:D≠[]) (hl:D.length<=1048576) (h:H q=some (.cells [a,b])):AU Tryz.prog H p .append [24,24] [.sl q 0 2 1 true,.imm 2 (D.map Az.enc) false]=some { val:=.sl p 0 2 (1+D.length) false,new:=some (.cells ([a,b]++(D.map Az.enc).flatMap SV.cells)) }:=by
 have e1:A9 Tryz.prog 24=some 166:=by simp[go_sem]
 have e2:Bh Tryz.prog 166=2:=by simp[go_sem]
 have e3:(BH Tryz.prog 166).storable=true:=by simp[go_sem]
 have e4:(BH Tryz.prog 166).cells.length=2:=by simp[go_sem]
 have e5:BY Tryz.prog 166<=65536:=by simp[go_sem]
 have hr:C4 (1+D.length) (BY Tryz.prog 166)=true:=by simp[C4,e5];omega
 have e6:Bg [a,b] 0 (1*2)=some [a,b]:=rfl;simp only[AU,e1,jE,if_true,Cm,e2,e3,e4,flat,h,e6,Dw,qd,hr];simp[Hd,hD,HI,Gq]
theorem dA2 {T:List Az} {len:Nat} {f:Bool} {cs:List SV} (hl:T.length<=1048576) (hn:0<len) (hl2:len<=1048577) (hcs:cs.length=len*2) (h:H q=some (.cells cs)):AU Tryz.prog H p .append [24,24] [.imm 2 (T.map Az.enc) true,.sl q 0 2 len f]=some { val:=.sl p 0 2 (T.length+len) false,new:=some (.cells ((T.map Az.enc).flatMap SV.cells++cs)) }:=by
 have e1:A9 Tryz.prog 24=some 166:=by simp[go_sem]
 have e2:Bh Tryz.prog 166=2:=by simp[go_sem]
 have e3:(BH Tryz.prog 166).storable=true:=by simp[go_sem]
 have e4:(BH Tryz.prog 166).cells.length=2:=by simp[go_sem]
 have e5:BY Tryz.prog 166<=65536:=by simp[go_sem]
 have hr:C4 (T.length+len) (BY Tryz.prog 166)=true:=by simp[C4,e5];omega
 have e6:Bg cs 0 (len*2)=some cs:=by rw[<-hcs];simp[Bg]
 have h0:len≠0:=by omega
 simp only[AU,e1,jE,if_true,Cm,e2,e3,e4,flat,h,e6,Dw,qd,hr];simp[Hd,h0,Gq]
end
def MD:Tr:=.pure 0<|.pure 1<|.pure 2<|.pure 3<|.pure 4<|.pure 5<|.pure 6<|.pure 7<|.pure 9<|.pure 10<|.pure 11<|.one 8<|.one 12<|.one 13<|.one 14 .nil
set_option maxHeartbeats 2000000 in
theorem Zs (l:List Az) (hl:l.length<=1048576):PC 122 [AP l] (AP (Cc l)):=by
 intro h n;refine Db Tryz.func122 rfl λho=>?_;have hHb:=ho.lt;obtain⟨M,hM⟩:∃M:Nat->List Az,∀i,M i=(l.take i).foldl FS []:=⟨_,λ_=>rfl⟩
 have hM0:M 0=[]:=by rw[hM];rfl
 have hMs:∀i x,(hi:i<l.length)->l[i]=x->M (i+1)=FS (M i) x:=λi x hi e=>by
  rw[hM,hM,qb hi,kg,e];rfl
 have hMl:M l.length=Cc l:=by rw[hM,qi];rfl
 have hMn:∀i,(M i).length<=i:=λi=>by
  have h1:=J2 (l.take i) [];have h2:=ki i l;rw[hM];simp at h1 h2 ⊢;omega
 refine AY 0 [(0,AP l)] h n ?_ (λm hm=>?_);simp[go_sem,IO];refine AY 1 [(0,AP l),(3,AP (M 0))] h n ?_ (λm hm=>?_);rw[hM0];simp[go_sem,IO,hm];exact BC (by simp);refine Bc 0 [(3,AP (M l.length))] h n ?_ (λm hm=>?_)
 . refine AY 0 [(0,AP l),(3,AP (M 0)),(4,AA 0)] h n ?_ (λm hm=>?_);simp[go_sem,IO,hm];refine AR (BG 0 (α:=Nat) (λi=>[(0,AP l),(3,AP (M i)),(4,AA i)]) (λ_=>h) (λi m=>i<=l.length/\n<=m) (λi=>l.length-i) 0 ⟨qg _,by omega⟩ ?_ AB ?_);simp[go_sem,Ai,IO];rintro i m ⟨hi,hnm⟩;have hEn:=hMn i;by_cases hlt:i<l.length
   . have w1:=wS i (by omega);obtain⟨x,hx⟩:∃x,l[i]=x:=⟨_,rfl⟩
     have hst:=hMs i x hlt hx;generalize hE:M i=E at hEn hst;refine AY 0 [(0,AP l),(3,AP E),(4,AA i)] h n ?_ (λm2 hm2=>?_);simp[go_sem,IO,hlt,hnm];refine AT 1 (α:=Unit) (λ_=>[(0,AP l),(3,AP (M (i+1))),(4,AA i)]) (λ_=>h) (λ_ m=>n<=m) (AR ?_) (λ_ m hm=>?_)
     . refine AY 0 [(0,AP l),(3,AP E),(4,AA i),(5,AA 0)] h n ?_ (λm hm=>?_);simp[go_sem,IO,hm2];obtain⟨K,hK⟩:∃K,K=CC E x.rev:=⟨_,rfl⟩
       have hKl:K<=E.length:=by rw[hK];exact Mv _ _
       refine Bc 0 [(0,AP l),(3,AP E),(4,AA i),(5,AA K)] h n ?_ (λm hm=>?_)
       . refine AR (BG 0 (α:=Nat) (λk=>[(0,AP l),(3,AP E),(4,AA i),(5,AA k)]) (λ_=>h) (λk m=>k<=K/\n<=m) (λk=>K-k) 0 ⟨qg _,by omega⟩ ?_ AB ?_);simp[go_sem,Ai,IO];rintro k m ⟨hk,hnm⟩;by_cases hkK:k<K
         . have w2:=wS k (by omega);have hkl:k<E.length:=by omega
           have hlo:=Mw x.rev E k hkl (by omega);obtain⟨y,hy⟩:∃y,E[k]=y:=⟨_,rfl⟩
           rw[hy]at hlo;refine AY 0 [(0,AP l),(3,AP E),(4,AA i),(5,AA k),(28,.bool true)] h n ?_ (λm hm=>?_)
           . simp(maxSteps:=1000000) [go_sem,hkl,hlt,hy,hx,hlo,Az.enc,IO,hnm]
             repeat first|refine nq ?_|refine sq ?_
             show(_:Bool)=true;kernel_rfl
           refine AH ?_;simp[go_sem,w2,IO,-Int.natCast_add];exact⟨k+1,by omega,⟨by omega,hm⟩,IO⟩
         . have:k=K:=by omega
           subst this;refine GI ?_;by_cases hkl:k<E.length
           . have hge:=Mu x.rev E (by rw[<-hK];exact hkl);simp only[<-hK]at hge;obtain⟨y,hy⟩:∃y,E[k]=y:=⟨_,rfl⟩
             rw[hy]at hge;refine AH ?_;simp(maxSteps:=1000000) [go_sem,hkl,hlt,hy,hx,hge,Az.enc,IO,hnm]
             repeat first|refine nq ?_|refine sq ?_
             show(_:Bool)=true;kernel_rfl
           . refine AH ?_;simp(maxSteps:=1000000) [go_sem,hkl,IO,hnm]
             repeat first|refine nq ?_|refine sq ?_
             show(_:Bool)=true;kernel_rfl
       clear hm2;have hHm:∀j y,h j=some y->j<m:=λj y e=>by have:=hHb j y e;omega
       by_cases hsk:∃h:K<E.length,E[K].rev=x.rev
       . obtain⟨hkl,hre⟩:=hsk;rw[Mt E x (by omega) (by simp only[<-hK];exact hre)]at hst;rw[hst];obtain⟨y,hy⟩:∃y,E[K]=y:=⟨_,rfl⟩
         rw[hy]at hre;have hne:((K:Int)==(E.length:Int))=false:=by simp;omega
         refine Bp 0 [(0,AP l),(3,AP E),(4,AA i),(5,AA K),(47,.bool false)] h m ?_ (λm' hm'=>?_)
         . simp(maxSteps:=1000000) [go_sem,hkl,hne,hlt,hy,hx,hre,Az.enc,IO]
           repeat first|refine nq ?_|refine sq ?_
           show(_:Bool)=true;kernel_rfl
         subst hm';refine Ah (b:=false) (by simp[go_sem]) (AH ?_);simp[go_sem,IO,hm]
       have hput:M (i+1)=E.take K++x::E.drop K:=by
        rw[hst,O6 E x (λg e=>hsk ⟨by omega,by simp only[<-hK]at e;exact e⟩),hK]
       refine Bp 0 [(0,AP l),(3,AP E),(4,AA i),(5,AA K),(47,.bool true)] h m ?_ (λm' hm'=>?_)
       . by_cases hkl:K<E.length
         . obtain⟨y,hy⟩:∃y,E[K]=y:=⟨_,rfl⟩
           have hre:y.rev≠x.rev:=λe=>hsk ⟨hkl,by rw[hy];exact e⟩;have hre2:(y.rev !=x.rev)=true:=by simpa using hre
           have hne:((K:Int)==(E.length:Int))=false:=by simp;omega
           simp(maxSteps:=1000000) [go_sem,hkl,hne,hlt,hy,hx,hre2,Az.enc,IO]
           repeat first|refine nq ?_|refine sq ?_
           show(_:Bool)=true;kernel_rfl
         . have he:K=E.length:=by omega
           simp(maxSteps:=1000000) [go_sem,he,IO]
           repeat first|refine nq ?_|refine sq ?_
           show(_:Bool)=true;kernel_rfl
       subst hm';refine Ah (b:=true) (by simp[go_sem]) ?_;simp only[if_true];rw[hput];have sl1:List.drop K (List.take E.length (List.map Az.enc E))=(E.drop K).map Az.enc:=by rw[qB (by simp),List.map_drop]
       have sl2:List.take K (List.map Az.enc E)=(E.take K).map Az.enc:=by rw[kz]
       have hDl:=List.length_drop (i:=K) (l:=E);have hTl:=jr (i:=K) (l:=E);have k0:∀q,m<=q->h q=none:=λq hq=>AW hHm hq;have fin:∀(h':Hp) (q len:Nat) (cs:List SV) (R:List Az),m<=q->h' q=some (.cells cs)->cs=(R.map Az.enc).flatMap SV.cells->len=R.length->Fz h' h 1 (.sl q 0 2 len false) (AP R):=λh' q len cs R hq hh hc hn=>by
        subst hc hn;have:=DV (es:=R.map Az.enc) (k:=0) (z:=2) (full:=false) (full':=false) (k0 q hq) (by simp) hh (Az.E.size R)
        rwa [qd]at this
       refine BX MD rfl (by kernel_rfl) (by kernel_rfl) ?_;by_cases hD:E.drop K=[];simp(maxSteps:=1000000) [go_sem,MD,hlt,hx,Az.enc,hKl];rw[sl1,hD];rw[qS,dA0];simp[go_sem];rw[sl2,dA2 (T:=E.take K) (cs:=[AA x.rev,AA x.move]) (by omega) (by omega) (by omega) rfl (AC _ _ _)];simp[go_sem];refine⟨by omega,fin _ _ _ _ _ (by omega) (AC _ _ _) (by rw[sl2];simp[Az.enc,SV.cells]) (by simp),λj z e=>by have:=hHm j z e;rw[AD _ _ (by omega),AD _ _ (by omega)];exact e⟩;simp(maxSteps:=1000000) [go_sem,MD,hlt,hx,Az.enc,hKl];rw[sl1];rw[dA1 hD (by omega) (AC _ _ _)];simp[go_sem];rw[sl2,dA2 (T:=E.take K) (cs:=AA x.rev::AA x.move::((E.drop K).map Az.enc).flatMap SV.cells) (by omega) (by omega) (by omega) (by have:=A7 (z:=2) (Az.E.size (E.drop K));rw[qd]at this;simp only[qF,this];omega) (by rw[AC];simp)];simp[go_sem];refine⟨by omega,fin _ _ _ _ _ (by omega) (AC _ _ _) (by simp[Az.enc,SV.cells]) (by simp;omega),λj z e=>?_⟩;have:=hHm j z e;rw[AD _ _ (by omega),AD _ _ (by omega),AD _ _ (by omega)];exact e
     refine AH ?_;simp[go_sem,w1,IO,-Int.natCast_add];exact⟨i+1,by omega,⟨by omega,hm⟩,IO,IO⟩
   have:i=l.length:=by omega
   subst this;refine AH ?_;simp[go_sem,IO,hnm]
 rw[hMl];refine AH ?_;simp[go_sem];exact Ay ho AB rfl (by simp[closed,Az.E.closedL])
theorem c67:PC 67 [] AX.enc:=by
 intro h n;refine gq Tryz.func67 rfl λho=>?_;simp[go_sem,AC];exact Ay ho (by repeat(first|exact AB|refine AQ ho (by omega) ?_)) rfl rfl
theorem bH:PC 69 [] AX.enc:=by
 intro h n;refine gq Tryz.func69 rfl λho=>?_;simp[go_sem,AC];exact Ay ho (by repeat(first|exact AB|refine AQ ho (by omega) ?_)) rfl rfl
def IB (l:List Ax) (ids:List Int):List Ax:=l.filter λr=>!decide (r.id∈ids)
theorem Vw {H:Hp} {n m k p:Nat} {es:List SV} {x:Ax} {o:Option Nat} (hA:Ar n m 3 o es) (hl:es.length<=1073741823) (h1:H k=some (.cells [AA x.id,.str x.author,AA x.time])) (h2:∀j,o=some j->H j=some (.cells (es.flatMap SV.cells))):
 AU Tryz.prog H p .append [30,30] [AM 3 o es,.sl k 0 3 1 true]=some { val:=.sl p 0 3 (es.length+1) false,upd:=o.map λj=>(j,none),new:=some (.cells (es.flatMap SV.cells++[AA x.id,.str x.author,AA x.time])) }:=by
 have:=Dp (P:=Tryz.prog) (H:=H) (t:=30) (t2:=30) (el:=42) (z:=3) (by simp[go_sem]) (by simp[go_sem]) (by simp[go_sem]) (by simp) (by simp[go_sem]) (by simp[go_sem]) (by simp[go_sem]) (by omega) hA (e:=x.enc) rfl h1 h2 p;exact this
set_option maxHeartbeats 2000000 in
theorem c64 (l:List Ax) (hl:l.length<=1048576) (ids:List Int) (hi:ids.length<=1048576):PC 64 [Ao l,.imm 1 (ids.map AA) false] (Ao (IB l ids)):=by
 intro h n;refine Db Tryz.func64 rfl λho=>?_;have hHb:=ho.lt;obtain⟨I,hI⟩:∃I:SV,I=.imm 1 (ids.map AA) false:=⟨_,rfl⟩
 refine AY 0 [(0,Ao l),(1,I)] h n ?_ (λm hm=>?_);simp[go_sem,hI,IO];refine AY 0 [(0,Ao l),(1,I),(5,.imm 0 [] true)] h n ?_ (λm hm=>?_);simp[go_sem,IO,hm];obtain⟨M,hM⟩:∃M:Nat->List SV,∀i,M i=(IB (l.take i) ids).map Ax.enc:=⟨_,λ_=>rfl⟩
 have hM0:M 0=[]:=by rw[hM];rfl
 have hMs:∀i r,(hi:i<l.length)->l[i]=r->M (i+1)=M i++if r.id∈ids then[]else[r.enc]:=λi r hi e=>by
  rw[hM,hM,qb hi,e,IB,qI,qc];by_cases c:r.id∈ids<;>simp[c,IB]
 have hMl:M l.length=(IB l ids).map Ax.enc:=by rw[hM,qi]
 have hMn:∀i,(M i).length<=i:=λi=>by
  rw[hM,qd];exact qr (qU _ _) (ki i l)
 refine AT 0 (α:=Option Nat) (λo=>[(5,AM 3 o (M l.length))]) (λo=>AN o (M l.length) h) (λo m=>n<=m/\Ar n m 3 o (M l.length)) ?_ (λo m hm=>?_);refine AY 0 [(1,I),(5,AM 3 none (M 0)),(8,Ao l),(9,AA l.length),(10,AA 0)] (AN none (M 0) h) m ?_ (λm2 hm2=>?_);rw[hM0];simp[go_sem,IO,AM,AN];refine AR (BG 0 (α:=Nat×Option Nat) (λq=>[(1,I),(5,AM 3 q.2 (M q.1)),(8,Ao l),(9,AA l.length),(10,AA q.1)]) (λq=>AN q.2 (M q.1) h)
  (λq m=>q.1<=l.length/\n<=m/\Ar n m 3 q.2 (M q.1)) (λq=>l.length-q.1) (0,none) ⟨qg _,by omega,by rw[hM0];exact jK _ _ _⟩ ?_ AB ?_)
 simp[go_sem,Ai,IO];clear hm hm2 m2 m;rintro⟨i,o⟩ m ⟨hil,hnm,hA⟩;dsimp only at hil hA ⊢;have hEn:=hMn i;by_cases hlt:i<l.length;have w1:=wS i (by omega);obtain⟨r,hr⟩:∃r,l[i]=r:=⟨_,rfl⟩
 have hst:=hMs i r hlt hr;generalize hE:M i=E at hA hEn hst;have hXb:∀j y,AN o E h j=some y->j<m:=Dm hHb hnm hA;refine Bp 0 [(1,I),(5,AM 3 o E),(8,Ao l),(9,AA l.length),(10,AA i),(11,.bool true)] (AN o E h) m ?_ (λm2 hm2=>?_);simp[go_sem,IO,hlt];subst hm2;refine Bp 0 [(1,I),(5,AM 3 o E),(8,Ao l),(9,AA l.length),(10,AA i)] (AN o E h) m ?_ (λm2 hm2=>?_);simp[go_sem,IO];subst hm2;refine AT 0 (α:=Option Nat) (λo=>[(1,I),(5,AM 3 o (M (i+1))),(8,Ao l),(9,AA l.length),(10,AA i)]) (λo=>AN o (M (i+1)) h) (λo m=>n<=m/\Ar n m 3 o (M (i+1))) (AR ?_) (λo m hm=>?_);refine AY 1 [(1,I),(5,AM 3 o E),(8,Ao l),(9,AA l.length),(10,AA i),(7,.iptr [AA r.id,.str r.author,AA r.time])] (AN o E h) m ?_ (λm2 hm2=>?_);simp[go_sem,IO,hlt,hr,Ax.enc,AC];exact⟨AV (AW hXb (qa _)) (AC _ _ _),AJ hXb (AJ hXb AB)⟩;rw[hst,hI];refine AH ?_;simp[go_sem];refine(Vz ids r.id hi).use ?_;by_cases c:r.id∈ids;simp[go_sem,c,IO];exact⟨o,⟨by omega,hA.mono hm2⟩,rfl,AB⟩;simp[go_sem,c];rw[Vw (x:=r) hA (by omega) (by simp[AC]) (by
  intro j e;have:=(hA.lt j e).2;rw[AD _ _ (by omega)];exact Cu j e)]
 have hpush:=hA.push (j:=m2+1) (m':=m2+1+1) (e:=r.enc) rfl rfl (by omega) (by omega);have hlive:=CY (p:=m2+1) (v:=.sl (m2+1) 0 3 (E.length+1) false) (e:=r.enc) hHb (by omega) hA (H:=hset (AN o E h) m2 (some (.cells [AA r.id,.str r.author,AA r.time]))) (AJ (λj z e=>by have:=hHb j z e;omega) (Be hHb hA));have hvv:AM 3 (some (m2+1)) (E++[r.enc])=.sl (m2+1) 0 3 (E.length+1) false:=by simp[AM]
 simp[go_sem];exact⟨some (m2+1),⟨by omega,hpush⟩,hvv.symm,by simpa[Cs.app,SV.cells,Ax.enc]using hlive⟩;refine AH ?_;simp[go_sem,w1,IO,-Int.natCast_add];exact⟨i+1,by omega,o,⟨by omega,hm.1,hm.2⟩,⟨IO,IO⟩,AB⟩;have:i=l.length:=by omega
 subst this;refine AH ?_;simp[go_sem];exact⟨o,⟨hnm,hA⟩,rfl,AB⟩;refine AH ?_;simp[go_sem];rw[hMl]at hm ⊢;exact GR ho hm.2 (λe he=>by obtain⟨p,_,rfl⟩:=qy.1 he;simp[Ax.enc,closed,closedL])
def Px (l:List Ax):Prop:=l.length<=256/\(∀r∈l,CL r=0)/\l.Pairwise λa b=>a.id<b.id
theorem Wu {l:List Ax} (h:Cd l=0):Px l:=by
 have hl:¬256<l.length:=λg=>by rw[Cd,if_pos g]at h;cases h
 refine⟨by omega,λr hr=>?_,?_⟩;rw[Cd,if_neg hl]at h;obtain⟨i,hi,rfl⟩:=ky.1 hr;have:=Jv h i hi;unfold E6 at this;rw[qf hi]at this;dsimp only at this;by_cases e:CL l[i]=0;exact e;rw[if_neg e]at this;exact this;exact jC.2 λi j hi hj hij=>II h i j hij hj
theorem SX {l:List Ax} (h:Px l):Cd l=0:=by
 obtain⟨h1,h2,h3⟩:=h;rw[Cd,if_neg (by omega)];refine Nf λi hi=>?_;unfold E6;rw[qf hi];dsimp only;rw[if_pos (h2 _ (ql hi))];by_cases c:i=0;rw[if_pos c];rw[if_neg c];have hi1:i-1<l.length:=by omega
 rw[qf hi1];dsimp only;have:=jC.1 h3 (i-1) i hi1 hi (by omega);unfold Do;rw[if_neg (by omega),if_pos this];simp;omega
theorem Qj {l:List Ax} (h:Px l) (p:Ax->Bool):Px (l.filter p):=
 ⟨qr (qU _ _) h.1,λr hr=>h.2.1 r (qW.1 hr).1,h.2.2.sublist List.filter_sublist⟩
theorem S8:∀{l:List Ax},l.Pairwise (λa b=>a.id<b.id)->∀x:Int,∃k,k<=l.length/\(∀r∈l.take k,r.id<x)/\∀r∈l.drop k,x<=r.id
 | [],_,_=>⟨0,qa _,by simp,by simp⟩
 | a::l,h,x=>by
  obtain⟨h1,h2⟩:=qR.1 h;by_cases c:a.id<x;obtain⟨k,k1,k2,k3⟩:=S8 h2 x;refine⟨k+1,by simp;omega,λr hr=>?_,λr hr=>k3 r (by simpa using hr)⟩;rw[jl]at hr;rcases qk.1 hr with rfl|hr;exact c;exact k2 r hr;refine⟨0,qg _,by simp,λr hr=>?_⟩;rw[kn]at hr;rcases qk.1 hr with rfl|hr;omega;have:=h1 r hr;omega
def Ly (l:List Ax) (r:Ax):Nat:=(BI (Gr l r.id) l.length).1
theorem PJ {l:List Ax} {k:Nat} {r x:Ax}:x∈F7 l k r↔x=r\/x∈l:=by
 unfold F7
 conv=>rhs;rw[<-ja k l]
 simp only[qe,qk];exact⟨λh=>h.elim (λh=>.inr (.inl h)) λh=>h.elim .inl λh=>.inr (.inr h),λh=>h.elim (λh=>.inr (.inl h)) λh=>h.elim .inl λh=>.inr (.inr h)⟩
theorem RD {l:List Ax} (h:Px l) {r:Ax} (hn:∀x∈l,x.id≠r.id):BI (Gr l r.id) l.length=(Ly l r,false)/\Ly l r<=l.length/\(l.length<256->CL r=0->Px (F7 l (Ly l r) r)):=by
 obtain⟨k,k1,k2,k3⟩:=S8 h.2.2 r.id;have hc:∀m,(hm:m<l.length)->Gr l r.id m=Do l[m].id r.id:=λm hm=>by unfold Gr;rw[qf hm]
 have c1:∀m,m<k->Gr l r.id m<0:=λm hm=>by
  have:=k2 (l[m]'(by omega)) (ky.2 ⟨m,by rw[jr];omega,by rw[List.getElem_take]⟩);rw[hc m (by omega)];unfold Do;rw[if_pos this];omega
 have c2:∀m,k<=m->m<l.length->¬Gr l r.id m<0:=λm h1 hm=>by
  have:=k3 l[m] (ky.2 ⟨m-k,by rw[List.length_drop];omega,by rw[List.getElem_drop];congr 1;omega⟩);rw[hc m hm];unfold Do;rw[if_neg (by omega)];split<;>omega
 have e:Fd (Gr l r.id) 0 l.length=k:=K0 c1 c2 l.length 0 l.length (by omega) (qg _) k1 (qa _);have ep:Ly l r=k:=e;rw[ep];refine⟨?_,k1,λhl he=>⟨?_,λx hx=>?_,?_⟩⟩;unfold BI;rw[e];have:¬(k<l.length/\Gr l r.id k=0):=λ⟨u,v⟩=>by
  rw[hc k u]at v;have:=hn l[k] (ql u);unfold Do at v;split at v;omega;split at v;omega;omega
 rw[decide_eq_false this];rw[O7 _ _ _ k1];omega;rcases PJ.1 hx with rfl|hx;exact he;exact h.2.1 x hx;unfold F7;have hs:=h.2.2;rw[<-ja k l,List.pairwise_append]at hs;refine List.pairwise_append.2 ⟨hs.1,qR.2 ⟨λx hx=>?_,hs.2.1⟩,λx hx y hy=>?_⟩;have:=k3 x hx;have:=hn x (qT hx);omega;rcases qk.1 hy with rfl|hy;exact k2 x hx;exact hs.2.2 x hx y hy
theorem PK {l:List Ax} {ids:List Int} {x:Ax}:x∈IB l ids↔x∈l/\x.id∉ids:=by
 unfold IB;rw[qW];simp
theorem U6 {l:List Ax} {ids:List Int} {r:Ax} (hr:r∈l) (h:r.id∈ids):(IB l ids).length<l.length:=by
 unfold IB;rcases ji (l.filter λr=>!decide (r.id∈ids)).length l.length with g|g;exact g;have:=List.filter_sublist (p:=λr:Ax=>!decide (r.id∈ids)) (l:=l);have e:=this.eq_of_length_le g;rw[<-e]at hr;have:=(qW.1 hr).2;simp[h]at this
theorem bz (h:Hp) (n:Nat):BA Tryz.prog 76 [.imm 3 [] false] h n (λv h' n'=>(∃z,v=.imm z [] true)/\h'=h/\n'=n):=by
 refine gq Tryz.func76 rfl λho=>?_;simp[go_sem];refine CU rfl (by kernel_rfl) rfl (λe=>?_) ?_;simp[go_sem];exact .inl ⟨⟨_,rfl⟩,rfl,rfl⟩;simp[go_sem];refine DF (z:=3) rfl rfl (by kernel_rfl) ?_;simp[go_sem];exact .inl ⟨⟨_,rfl⟩,rfl,rfl⟩
theorem TD (z:Nat) (r:Ax) {H:Hp} {n k:Nat} (hk:H k=some (.cells [AA r.id,.str r.author,AA r.time])):
 BA Tryz.prog 117 [.imm z [] true,AA 0,.sl k 0 3 1 true] H n (λv h' n'=>v=Ao [r]/\h'=H/\n'=n):=by
 refine Db Tryz.func117 rfl λho=>?_;have hHb:=ho.lt;have hfl2:flat H (.sl k 0 3 1 true)=some [AA r.id,.str r.author,AA r.time]:=by simp[flat,hk,Bg]
 have ht:A9 Tryz.prog 30=some 42:=by simp[go_sem]
 have hap:∀z,AU Tryz.prog H n .append [30,30] [.imm z [] true,.sl k 0 3 1 true]=some { val:=.sl n 0 3 1 false,new:=some (.cells [AA r.id,.str r.author,AA r.time]) }:=λz=>by
  have hz:Bh Tryz.prog 42=3:=by simp[go_sem]
  have hst:(BH Tryz.prog 42).storable=true:=by simp[go_sem]
  have hzl:(BH Tryz.prog 42).cells.length=3:=by simp[go_sem]
  have hb:BY Tryz.prog 42<=65536:=by simp[go_sem]
  have hro:C4 1 (BY Tryz.prog 42)=true:=by simp[C4,hb]
  simp[AU,ht,Cm,hz,hst,hzl,Dw,hfl2,Hd,hro,Gq]
 have fin:∀n',B8 n (hset H n (some (.cells [AA r.id,.str r.author,AA r.time]))) n' (.sl n 0 3 1 false) (λv h' n'=>v=Ao [r]/\h'=H/\n'=n):=λn'=>
  .inr ⟨1,Ao [r],H,DV (k:=0) (z:=3) (es:=[r].map Ax.enc) (full:=false) (full':=false) (o:=n) (ho.none (qa n)) (by simp) (by rw[AC];simp[Ax.enc,SV.cells]) (Ax.E.size _),Ax.E.imm _ _ _ _,λj y e=>⟨AJ hHb AB j y e,ho j y e⟩,rfl,rfl,rfl⟩
 refine AH ?_;simp[go_sem];rw[hap];simp[go_sem];exact fin _
set_option maxHeartbeats 2000000 in
theorem bG (r:Ax) (h1:CL r=0):PC 45 [Ao [],r.enc] (.tup [Ao [r],AA 0]):=by
 intro h n;refine Db Tryz.func45 rfl λho=>?_;have hHb:=ho.lt;refine AY 1 [(0,Ao []),(3,.iptr [AA r.id,.str r.author,AA r.time])] h n ?_ (λm hm=>?_);simp[go_sem,Ax.enc,IO];exact⟨AV (AW hHb (qa _)) (AC _ _ _),AJ hHb AB⟩;refine Bc 0 [(0,Ao []),(3,.iptr [AA r.id,.str r.author,AA r.time])] h n (AH ?_) (λm hm=>?_);have c:=bI [] (by simp);rw[show Cd []=0 from rfl]at c;simp[go_sem];refine qw c ?_;simp[go_sem,IO,hm];refine Bc 0 [(0,Ao []),(3,.iptr [AA r.id,.str r.author,AA r.time])] h n (AH ?_) (λm hm=>?_);simp[go_sem];refine qw (by simpa[Ax.enc]using W9 r) ?_;rw[h1];simp[go_sem,IO,hm];refine AY 0 [(0,Ao []),(3,.iptr [AA r.id,.str r.author,AA r.time]),(8,AA 0),(9,.bool false)] h n ?_ (λm hm=>?_);have c:=bJ [] (by simp) r.id;rw[show BI (Gr [] r.id) [].length=(0,false)by unfold BI;rw[Fd];simp]at c;simp[go_sem];refine qw c ?_;simp[go_sem,IO,hm];refine Bc 0 [(0,Ao []),(3,.iptr [AA r.id,.str r.author,AA r.time]),(8,AA 0)] h n (AH ?_) (λm hm=>?_);simp[go_sem,IO,hm];refine AT 0 (α:=Unit) (λ_=>[(4,Ao [r]),(5,AA 0)]) (λ_=>h) (λ_ m=>n<=m) (BX VD rfl (by kernel_rfl) (by kernel_rfl) ?_) (λ_ m hm=>?_);have hHm:∀j y,h j=some y->j<m:=λj y e=>by have:=hHb j y e;omega
 simp[go_sem,VD];refine⟨?_,?_,?_⟩;refine qC (bz _ _) ?_;rintro v H' n' ⟨⟨z,rfl⟩,rfl,rfl⟩;simp[go_sem];refine qC (TD z r (AC _ _ _)) ?_;rintro v H2 n2 ⟨rfl,rfl,rfl⟩;simp[go_sem,IO];exact⟨by omega,AJ hHm AB⟩;refine qC (bz _ _) ?_;rintro v H' n' ⟨⟨z,rfl⟩,rfl,rfl⟩;simp[go_sem];refine qC (TD z r (AC _ _ _)) ?_;rintro v H2 n2 ⟨rfl,rfl,rfl⟩;simp[go_sem,IO];exact⟨by omega,AJ hHm AB⟩;refine qC (bz _ _) ?_;rintro v H' n' ⟨⟨z,rfl⟩,rfl,rfl⟩;simp[go_sem];refine qC (TD z r (AC _ _ _)) ?_;rintro v H2 n2 ⟨rfl,rfl,rfl⟩;simp[go_sem,IO];exact⟨by omega,AJ hHm AB⟩;refine AH ?_;simp[go_sem];exact Ay ho AB rfl (by rw[closed,closedL,closedL,Ax.E.imm _ _ [r]];rfl)
theorem Xl {l:List Ax} (h:Px l) (hl:l.length<256) {r:Ax} (h1:CL r=0) (hn:∀x∈l,x.id≠r.id):PC 45 [Ao l,r.enc] (.tup [Ao (F7 l (Ly l r) r),AA 0]):=by
 cases l with
 | nil=>
  have:F7 [] (Ly [] r) r=[r]:=by simp[F7]
  rw[this];exact bG r h1
 | cons a l=>
  obtain⟨e1,e2,_⟩:=RD h hn;exact Xm (a::l) (by simp) hl r (SX h) h1 _ e2 e1
end Go.Proofs.YtgakninlhfkkmaaGreat.Sh
