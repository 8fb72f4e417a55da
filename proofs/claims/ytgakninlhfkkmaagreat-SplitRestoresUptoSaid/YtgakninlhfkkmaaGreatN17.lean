/- A part of the proof (part 17 of 17). -/
import Derived.Test.YtgakninlhfkkmaaGreatN16
import Derived.Test.YtgakninlhfkkmaaGreatNF
namespace Go.Proofs.YtgakninlhfkkmaaGreat.Sh
open Proofs
set_option maxRecDepth 10000
def rV (o:Option Nat) (r:List (Int×Int)) (f:Bool):SV:=match o with|none=>.imm 0 [] true|some j=>.sl j 0 2 r.length f
def rH (o:Option Nat) (r:List (Int×Int)) (t:List SV) (H:Hp):Hp:=match o with|none=>H|some j=>hset H j (some (.cells (Fw r++t)))
theorem Wj (o:Option Nat) (r:List (Int×Int)):AM 2 o (r.map B5)=rV o r false:=by cases o<;>simp[AM,rV]
theorem Wa (o:Option Nat) (r:List (Int×Int)) (H:Hp):AN o (r.map B5) H=rH o r [] H:=by cases o<;>simp[AN,rH,Fw]
theorem RN {o:Option Nat} {r:List (Int×Int)} {t:List SV} {H:Hp}:∀j,o=some j->rH o r t H j=some (.cells (Fw r++t)):=by rintro j rfl;simp[rH,hset]
theorem NJ {o:Option Nat} {r:List (Int×Int)} {t:List SV} {H:Hp} {m:Nat} (h:o≠some m):rH o r t H m=H m:=by
 cases o with
 | none=>rfl
 | some j=>simp only[rH];rw[AD _ _ (λg=>h (by rw[g]))]
theorem Tw (o:Option Nat) (r a:List (Int×Int)) (t b:List SV) (H:Hp):rH o r t (rH o a b H)=rH o r t H:=by cases o<;>simp[rH,AS]
theorem Wb {o:Option Nat} {r:List (Int×Int)} {t:List SV} {H:Hp} {m:Nat} {y:Option BT} (h:o≠some m):hset (rH o r t H) m y=rH o r t (hset H m y):=by
 cases o with
 | none=>rfl
 | some j=>
  have:j≠m:=λg=>h (by rw[g]);simp only[rH];funext q;simp only[hset];by_cases a:q=m;have:¬q=j:=by omega
  simp[a];omega;simp[a]
variable {H : Hp} {n : Nat} {o : Option Nat} {f : Bool}
theorem u95 (l:List (Int×Int)) (hl:l.length<=1048576) (hn:o=none->l=[]) (g:FuncId) (a b:List SV) (p:(Int×Int)->Bool) (hp:∀x∈l,PC g (a++[(B5 x)]++b) (.bool (p x))) (c:∀j,o=some j->H j=some (.cells (Fw l))):
 BA Tryz.prog 95 [rV o l f,.fn (.func g) a b] H n (λv h' n'=>∃f2 t,v=rV o (l.filter λx=>!p x) f2/\h'=rH o (l.filter λx=>!p x) t H/\n'=n):=by
 cases o with
 | none=>
  refine((bL g a b) H n).mono ?_;rintro v h' n' ⟨rfl,rfl,rfl⟩;exact⟨true,[],rfl,rfl,rfl⟩
 | some j=>
  refine(d95 l hl g a b p hp (H:=H) (n:=n) (o:=j) (full:=f) (c j rfl)).mono ?_;rintro v h' n' ⟨f2,t,rfl,rfl,rfl⟩;exact⟨f2,t,rfl,rfl,rfl⟩
theorem u97 (l:List (Int×Int)) (hl:l.length<=1048576) (hn:o=none->l=[]) {t:List SV} (a:∀j,o=some j->H j=some (.cells (Fw l++t))):
 BA Tryz.prog 97 [rV o l f,.fn (.func 98) [] []] H n (λv h' n'=>v=.tup []/\h'=rH o (dZ l) t H/\n'=n):=by
 cases o with
 | none=>
  refine((lq 0 true) H n).mono ?_;rintro v h' n' ⟨rfl,rfl,rfl⟩;exact⟨rfl,rfl,rfl⟩
 | some j=>exact d97 l hl (H:=H) (n:=n) (o:=j) (full:=f) (t:=t) (a j rfl)
theorem dE (l:List (Int×Int)) (hl:l.length<=1048576) (hn:o=none->l=[]) {t:List SV} (a:∀j,o=some j->H j=some (.cells (Fw l++t))):
 BA Tryz.prog 101 [rV o l f] H n (λv h' n'=>∃f2 t,v=rV o (Ip l l.length) f2/\h'=rH o (Ip l l.length) t H/\n'=n):=by
 cases o with
 | none=>
  refine(XR H n).mono ?_;rintro v h' n' ⟨rfl,rfl,rfl⟩;exact⟨true,[],rfl,rfl,rfl⟩
 | some j=>
  refine(lr l hl (H:=H) (n:=n) (o:=j) (full:=f) (t:=t) (a j rfl)).mono ?_;rintro v h' n' ⟨f2,t,rfl,rfl,rfl⟩;exact⟨f2,t,rfl,rfl,rfl⟩
theorem Ym {h' h:Hp} {k:Nat} {r:List (Int×Int)} {t:List SV} (hn:o=none->r=[]) (c:∀j,o=some j->h j=none) (d:∀j,o=some j->h' j=some (.cells (Fw r++t))):Fz h' h (k+1) (rV o r f) (.imm 2 (r.map B5) false):=by
 cases o with
 | none=>rw[hn rfl];exact BC (by simp)
 | some j=>
  have b:r.length=(r.map B5).length:=by rw[qd]
  have e:=E3 r;simp only[rV];rw[b];refine .inr ⟨c j rfl,by simp,rfl,rfl,Fw r++t,Fw r,d j rfl,?_,e,?_⟩;simp only[Bg,jc,kn];rw[qd,if_pos (by rw[qt,F9];omega),List.take_left' (F9 r)];have:∀l:List SV,AZ (Fz h' h k) l l:=by
   intro l;induction l with
   | nil=>trivial
   | cons a l ih=>exact⟨IO,ih⟩
  exact this _
theorem NC (x:Int×Int):∀(L:List (Int×Int)) (k:Int) (i:Nat),x∉L->F3 Tryz.prog 89 [.int .i64 x.1,.int .i64 x.2] (Cy L k) i=some none
 | [],k,i,_=>rfl
 | y :: L, k, i, h => by
  have a:(x.1==y.1&&x.2==y.2)=false:=by
   cases b:(x.1==y.1)<;>cases h2:(x.2==y.2)<;>simp;exact h (qk.2 (.inl (Prod.ext (by simpa using b) (by simpa using h2))))
  simp only[Cy,F3,B5,WG];rw[a];exact NC x L (k+1) (i+1) λg=>h (qL _ g)
theorem PH:∀(a b:List (Int×Int)) (k:Int),Cy (a++b) k=Cy a k++Cy b (k+a.length)
 | [],b,k=>by simp[Cy]
 | x::a,b,k=>by
  simp only[qz,Cy,PH a b (k+1),qF];congr 3;push_cast;omega
theorem PI:∀(L:List (Int×Int)) (k:Int),∀p∈Cy L k,Vd p
 | [],_,p,h=>by cases h
 | x::L,k,p,h=>by
  rcases qk.1 h with rfl|h;exact⟨_,_,rfl⟩;exact PI L (k+1) p h
end Go.Proofs.YtgakninlhfkkmaaGreat.Sh
namespace Go.Proofs.YtgakninlhfkkmaaGreat.Sh
open Proofs
set_option maxRecDepth 10000
def Vl:Tr:=.pure 0<|.pure 2<|.one 1<|.one 3 .nil
set_option maxHeartbeats 8000000 in
theorem c27 (D:AI) (l:List Int) (hl:l.length<=1048576) (to:Ax) (w:Bool) (M:List (Int×Int)) (hM:M.length<=1048576) (R:AI) (hr:D.revs.length<=1048576) (ht:Px D.revs)
 (cF:EK D l to=0->∀(p q n0:Nat),p≠q->p<n0->q<n0->∀(H:Hp) (n:Nat),n0<=n->H p=some (.cells [.bool false])->H q=some (.list 2 [])->BA Tryz.prog 36 [D.enc,AX.enc,.fn (.func 93) [] [.ptr p 0,.iptr [.imm 1 (l.map AA) false],.ptr q 0]] H n (λv h' n'=>v=.tup []/\h'=Aj (KP p q) (w,M) H/\n'=n))
 (cG:EK D l to=0->w=false->∀(q n0:Nat),q<n0->∀(H:Hp) (n:Nat),n0<=n->H q=some (.map (Cy (WX l M) 0))->BA Tryz.prog 49 [.fn (.func 102) [] [.iptr [.imm 1 (l.map AA) false],.iptr [AA to.id,.str to.author,AA to.time],.iptr [.map q]],D.enc,AX.enc,Ao (OK D l to)] H n (λv h' n'=>v=R.enc/\h'=H/\n'=n)):
 PC 27 [D.enc,.imm 1 (l.map AA) false,to.enc] (.tup [(lc (Sz D l to w) R).enc,AA (Sz D l to w)]):=by
 intro h n;refine Db Tryz.func27 rfl λho=>?_;have S:=ho.lt;obtain⟨X,hX⟩:∃X:SV,X=.iptr ([AG D.flow]++D.«end».flat++[Ao D.revs]++D.settings.flat):=⟨_,rfl⟩
 obtain⟨V,hV⟩:∃V:SV,V=.iptr [AA to.id,.str to.author,AA to.time]:=⟨_,rfl⟩
 obtain⟨J,hJ⟩:∃J:SV,J=.imm 1 (l.map AA) false:=⟨_,rfl⟩
 obtain⟨G,hG⟩:∃G:Hp,G=hset h (n+2) (some (.cells C8)):=⟨_,rfl⟩
 have K:G (n+2)=some (.cells C8):=by rw[hG,AC]
 have u:∀j y,G j=some y->j<n+3:=λj y e=>by
  rw[hG]at e;simp only[hset]at e;split at e;omega;have:=S j y e;omega
 have hGk:∀j y,h j=some y->G j=some y:=λj y e=>by have:=S j y e;rw[hG,AD _ _ (by omega)];exact e
 obtain⟨A,hA⟩:∃A,A=Sz D l to w:=⟨_,rfl⟩
 rw[<-hA];have fin:∀(h':Hp) (n':Nat) (e:Int),(∀j y,h j=some y->h' j=some y)->A=e->e≠0->B8 n h' n' (.tup [.agg C8,AA e]) (Is (.tup [(lc A R).enc,AA A]) h n):=λh' n' e hh he hne=>by
  rw[lc,he,if_neg hne];refine Dy 3 ho hh (.inr ⟨.inr ?_,IO,trivial⟩) (HT n zD e);exact⟨BC (by simp),BC (by simp),IO,IO,BC (by simp),BC (by simp),BC (by simp),BC (by simp),BC (by simp),BC (by simp),BC (by simp),trivial⟩
 have keep:=AJ (m:=n+2) (y:=some (.cells C8)) (h:=h) (h':=G) (λj z e=>by have:=S j z e;omega) hGk;obtain⟨E,hE⟩:∃E,E=EK D l to:=⟨_,rfl⟩
 have hAE:E≠0->A=E:=λg=>by rw[hA];unfold Sz;rw[<-hE,if_pos g]
 refine BP 1 [(1,J),(3,X),(5,V),(6,.ptr (n+2) 0)] G (λm=>n+3<=m) ?_ (λm k=>?_);rw[hX,hV,hG,hJ];simp[go_sem,AI.enc,Ax.enc,AF.flat,AK.flat,IO,qD,C8];refine⟨⟨AV (by simp[hset];exact ho.none (by omega)) (by simp[hset]),AV (by simp[hset];exact ho.none (by omega)) (by simp[hset])⟩,λj y=>?_⟩;have:=S j y;simp only[hset];grind;refine Bo 0 [(1,J),(3,X),(5,V),(6,.ptr (n+2) 0)] G (λm=>n+3<=m/\l.length≠0) (AH ?_) (λm k=>?_);rw[hJ];by_cases e0:l.length=0;have:l=[]:=List.length_eq_zero_iff.1 e0;subst this;simp[go_sem,K,C8,AC];have e11:E=11:=by rw[hE];rfl
 exact fin _ _ 11 keep (by rw[hAE (by rw[e11];decide),e11]) (by decide);have e1:l≠[]:=λg=>e0 (by rw[g];rfl);simp[go_sem,IO,k,e1];obtain⟨k,hl0⟩:=k;have P:E=if C5 D.revs none l≠0 then C5 D.revs none l else if CL to≠0 then CL to else if(CA D.revs to.id).2=true/\to.id∉l then 7 else 0:=by rw[hE];unfold EK;rw[if_neg hl0]
 refine Bo 0 [(1,J),(3,X),(5,V),(6,.ptr (n+2) 0)] G (λm=>n+3<=m/\C5 D.revs none l=0) ?_ (λm k=>?_);refine BP 0 [(1,J),(3,X),(5,V),(6,.ptr (n+2) 0),(28,J),(29,AA l.length),(30,AA 0)] G (λm=>n+3<=m) ?_ (λm k=>?_);rw[hJ];simp[go_sem,IO,k];refine AR (BG 0 (α:=Nat) (λi=>[(1,J),(3,X),(5,V),(6,.ptr (n+2) 0),(28,J),(29,AA l.length),(30,AA i)]) (λ_=>G) (λi m=>i<=l.length/\n+3<=m/\C5 D.revs none l=C5 D.revs (F5 l i) (l.drop i)) (λi=>l.length-i) 0 ⟨by omega,k,rfl⟩ ?_ AB ?_);simp[go_sem,Ai,IO];rintro i m ⟨hi,k,h0⟩;by_cases B:i<l.length;have w1:=wS i (by omega);obtain⟨x,hx⟩:∃x,l[i]=x:=⟨_,rfl⟩
 have C:=NO (T:=D.revs) B hx;rw[<-h0]at C;have Z:∀(e:Int) (m:Nat) (h':Hp),(∀j y,h j=some y->h' j=some y)->C5 D.revs none l=e->e≠0->B8 n h' m (.tup [.agg C8,AA e]) (Is (.tup [(lc A R).enc,AA A]) h n):=λe m h' hh h1 h2=>fin _ _ e hh (by
  have:E=e:=by rw[P,h1,if_pos h2]
  rw[hAE (by rw[this];exact h2),this]) h2
 refine Bp 0 [(1,J),(3,X),(5,V),(6,.ptr (n+2) 0),(28,J),(29,AA l.length),(30,AA i),(31,.bool true)] G m ?_ (λm2 I=>?_);simp[go_sem,IO,B];subst I;refine Bp 0 [(1,J),(3,X),(5,V),(6,.ptr (n+2) 0),(28,J),(29,AA l.length),(30,AA i)] G m ?_ (λm2 I=>?_);simp[go_sem,IO];subst I;refine AT 0 (α:=Unit) (λ_=>[(1,J),(3,X),(5,V),(6,.ptr (n+2) 0),(28,J),(29,AA l.length),(30,AA i)]) (λ_=>G) (λ_ m=>n+3<=m/\C5 D.revs none l=C5 D.revs (F5 l (i+1)) (l.drop (i+1))) (AR ?_) (λ_ m k=>?_);refine Bp 0 [(1,J),(3,X),(5,V),(6,.ptr (n+2) 0),(28,J),(29,AA l.length),(30,AA i),(8,AA i),(9,AA x)] G m ?_ (λm2 I=>?_);rw[hJ];simp[go_sem,IO,B,hx];subst I;refine BP 0 [(1,J),(3,X),(5,V),(6,.ptr (n+2) 0),(28,J),(29,AA l.length),(30,AA i),(8,AA i),(9,AA x),(11,.bool (CA D.revs x).2)] G (λm2=>n+3<=m2) ?_ (λm2 I=>?_);rw[hX];simp[go_sem,AF.flat,AK.flat];refine qw (V4 D.revs hr x) ?_;simp[go_sem,IO,Ax.enc,AC,AS];exact⟨by omega,AJ (λj z e=>by have:=u j z e;omega) AB⟩;refine AR ?_;refine BP 0 [(1,J),(3,X),(5,V),(6,.ptr (n+2) 0),(28,J),(29,AA l.length),(30,AA i),(8,AA i),(9,AA x),(42,.bool (!(CA D.revs x).2))] G (λm=>n+3<=m) ?_ (λm k=>?_);simp[go_sem,IO,I];cases e:(CA D.revs x).2 with
 | false=>
  refine Ah (b:=true) (by simp[go_sem]) (AH ?_);simp[go_sem,K,C8,AC];exact Z 22 _ _ keep (by rw[C,e];rfl) (by decide)
 | true=>
  rw[e,if_neg (by decide)]at C;refine Ah (b:=false) (by simp[go_sem]) ?_;simp only[qj,if_false];by_cases i0:i=0;subst i0;refine BP 0 [(1,J),(3,X),(5,V),(6,.ptr (n+2) 0),(28,J),(29,AA l.length),(30,AA (0:Nat)),(8,AA (0:Nat)),(9,AA x),(46,.bool false)] G (λm=>n+3<=m) ?_ (λm k=>?_);simp[go_sem,IO,k];refine Ah (b:=false) (by simp[go_sem]) ?_;simp only[qj,if_false];refine BP 0 [(1,J),(3,X),(5,V),(6,.ptr (n+2) 0),(28,J),(29,AA l.length),(30,AA (0:Nat)),(8,AA (0:Nat)),(9,AA x),(59,.bool false)] G (λm=>n+3<=m) ?_ (λm k=>?_);simp[go_sem,IO,k];refine Ah (b:=false) (by simp[go_sem]) (AH ?_);simp[go_sem,IO,k];rw[C];simp[F5];have i1:0<i:=by omega
  have hi1:i-1<l.length:=by omega
  have w2:IntKind.i64.wrap ((i:Int)-1)=((i-1:Nat):Int):=by rw[Cl]<;>omega
  obtain⟨y,hy⟩:∃y,l[i-1]=y:=⟨_,rfl⟩
  have hp:F5 l i=some y:=by
   obtain⟨j,rfl⟩:∃j,i=j+1:=⟨i-1,by omega⟩
   rw[F5,qf (by omega)];simpa using hy
  rw[hp]at C;simp only at C;refine BP 0 [(1,J),(3,X),(5,V),(6,.ptr (n+2) 0),(28,J),(29,AA l.length),(30,AA i),(8,AA i),(9,AA x),(46,.bool (decide (x=y)))] G (λm=>n+3<=m) ?_ (λm k=>?_);rw[hJ];simp[go_sem,IO,k,i1,w2,hi1,hy];rw[show(x==y)=decide (x=y)from rfl];exact IO;by_cases exy:x=y;refine Ah (b:=true) (by simp[go_sem,exy]) (AH ?_);simp[go_sem,K,C8,AC];exact Z 7 _ _ keep (by rw[C,if_pos exy]) (by decide);rw[if_neg exy]at C;refine Ah (b:=false) (by simp[go_sem,exy]) ?_;simp only[qj,if_false];refine BP 0 [(1,J),(3,X),(5,V),(6,.ptr (n+2) 0),(28,J),(29,AA l.length),(30,AA i),(8,AA i),(9,AA x),(59,.bool (decide (x<y)))] G (λm=>n+3<=m) ?_ (λm k=>?_);rw[hJ];simp[go_sem,IO,k,i1,w2,hi1,hy];by_cases lxy:x<y;refine Ah (b:=true) (by simp[go_sem,lxy]) (AH ?_);simp[go_sem,K,C8,AC];exact Z 6 _ _ keep (by rw[C,if_pos lxy]) (by decide);rw[if_neg lxy]at C;refine Ah (b:=false) (by simp[go_sem,lxy]) (AH ?_);simp[go_sem,IO,k];exact C
 refine AH ?_;simp[go_sem,w1,IO,-Int.natCast_add];exact⟨i+1,by omega,⟨by omega,k.1,k.2⟩,IO⟩;refine AH ?_;rw[jF (by omega),C5]at h0;simp[go_sem,B,IO];exact⟨k,h0⟩;obtain⟨k,e1⟩:=k;rw[e1,if_neg (by decide)]at P;refine Bo 0 [(1,J),(3,X),(5,V),(6,.ptr (n+2) 0)] G (λm=>n+3<=m/\CL to=0) (AH ?_) (λm k=>?_);rw[hV];simp[go_sem];refine qw (by simpa[Ax.enc]using W9 to) ?_;by_cases e2:CL to=0;simp[go_sem,e2,IO,k];simp[go_sem,e2,K,C8,AC];have e3:E=CL to:=by rw[P,if_pos e2]
 exact fin _ _ _ keep (by rw[hAE (by rw[e3];exact e2),e3]) e2;obtain⟨k,e2⟩:=k;rw[e2,if_neg (by decide)]at P;obtain⟨N,hN⟩:∃N:SV,N=.iptr [.imm 1 (l.map AA) false]:=⟨_,rfl⟩
 refine BP 1 [(1,J),(3,X),(5,V),(6,.ptr (n+2) 0),(13,N)] G (λm=>n+3<=m) ?_ (λm k=>?_);have hGm:∀j y,G j=some y->j<m:=λj y e=>by have:=u j y e;omega
 rw[hN,hJ];simp[go_sem,IO,AC,AS];exact⟨by omega,AV (AW hGm (qa _)) (AC _ _ _),AJ hGm AB⟩;have hto:to.id≠0:=by have:=Pa e2;omega
 have hhas:BV l to.id=decide (to.id∈l):=by unfold BV;simp[hto]
 refine Bo 0 [(1,J),(3,X),(5,V),(6,.ptr (n+2) 0),(13,N)] G (λm=>n+3<=m/\E=0) (AH ?_) (λm k=>?_);have hGm:∀j y,G j=some y->j<m:=λj y e=>by have:=u j y e;omega
 rw[hX,hV,hN];simp[go_sem,AF.flat,AK.flat];refine qw (V4 D.revs hr to.id) ?_;cases e3:(CA D.revs to.id).2 with
 | false=>
  simp[go_sem,Ax.enc,AC,AS,IO];exact⟨⟨by omega,by rw[P,e3];simp⟩,AJ hGm AB⟩
 | true=>
  simp[go_sem,Ax.enc,AC,AS];refine qw (ZN l (by omega) to.id false) ?_;rw[hhas];by_cases e4:to.id∈l;simp[go_sem,e4,IO];exact⟨⟨by omega,by rw[P,e3];simp[e4]⟩,AJ hGm AB⟩;have hne:m≠n+2:=by omega
  simp[go_sem,e4,AD _ _ hne.symm,K,C8,AC];have e5:E=7:=by rw[P,e3,if_pos ⟨rfl,e4⟩]
  exact fin _ _ 7 (λj y e=>by have:=S j y e;rw[AD _ _ (by omega),AD _ _ (by omega)];exact hGk j y e) (by rw[hAE (by rw[e5];decide),e5]) (by decide)
 obtain⟨k,e3⟩:=k;have hz:EK D l to=0:=by rw[<-hE];exact e3
 have hA2:A=if w then 24 else 0:=by rw[hA];exact Od hz
 refine BP 0 [(1,J),(3,X),(5,V),(6,.ptr (n+2) 0),(13,N),(16,.ptr m 0)] (hset G m (some (.cells [.imm 0 [] true]))) (λm'=>m+1=m') ?_ (λm' hm'=>?_);simp[go_sem,IO];subst hm';have q1:m≠m+1:=by omega
 refine BP 0 [(1,J),(3,X),(5,V),(6,.ptr (n+2) 0),(13,N),(16,.ptr m 0),(17,.ptr (m+1) 0)] (hset (hset G m (some (.cells [.imm 0 [] true]))) (m+1) (some (.cells [.bool false]))) (λm'=>m+2=m') ?_ (λm' hm'=>?_);simp[go_sem,IO,AC,AS];subst hm';refine Jt m 2 none (by rw[AD _ _ q1,AC]) ?_;obtain⟨W,hW⟩:∃W:Bool×List (Int×Int)->Hp,∀s,W s=hset (hset G m (some (.list 2 (s.2.map B5)))) (m+1) (some (.cells [.bool s.1])):=⟨_,λ_=>rfl⟩
 have hW0:hset (hset (hset G m (some (.cells [.imm 0 [] true]))) (m+1) (some (.cells [.bool false]))) m (some (.list 2 []))=W (false,[]):=by
  rw[hW];funext j;simp only[hset,qS];grind
 have hWup:∀s s',Aj (KP (m+1) m) s' (W s)=W s':=λs s'=>by
  rw[hW,hW];funext j;simp only[Aj,KP,hset];grind
 have hWp:∀s,W s (m+1)=some (.cells [.bool s.1]):=λs=>by rw[hW,AC]
 have hWq:∀s,W s m=some (.list 2 (s.2.map B5)):=λs=>by rw[hW,AD _ _ q1,AC]
 have hWk:∀s j y,G j=some y->W s j=some y:=λs j y e=>by
  have:=u j y e;rw[hW,AD _ _ (by omega),AD _ _ (by omega)];exact e
 have hWb:∀s j y,W s j=some y->j<m+2:=λs j y e=>by
  rw[hW]at e;by_cases c1:j=m;omega;by_cases c2:j=m+1;omega;rw[AD _ _ c2,AD _ _ c1]at e;have:=u j y e;omega
 rw[hW0];have k36':=λ(m':Nat) (hm':m+2<=m')=>cF hz (m+1) m (m+2) q1.symm (by omega) (by omega) (W (false,[])) m' hm' (hWp _) (hWq _);simp only[hWup]at k36';refine AT 0 (α:=Unit) (λ_=>[(1,J),(3,X),(5,V),(6,.ptr (n+2) 0),(13,N),(16,.ptr m 0),(17,.ptr (m+1) 0)]) (λ_=>W (w,M)) (λ_ m'=>m+2<=m') (BX Vl rfl (by kernel_rfl) (by kernel_rfl) ?_) (λ_ m2 I=>?_);rw[hX];simp[go_sem,Vl,AF.flat,AK.flat];refine c67.use ?_;simp[go_sem];refine qC (by simpa[AI.enc,AF.flat,AK.flat,hN]using k36' (m+2) (qa _)) ?_;rintro v H' n' ⟨rfl,rfl,rfl⟩;simp[go_sem,IO];refine Bo 0 [(1,J),(3,X),(5,V),(6,.ptr (n+2) 0),(13,N),(16,.ptr m 0)] (W (w,M)) (λm'=>m+2<=m'/\w=false) (AH ?_) (λm3 hm3=>?_);cases hbd:w with
 | true=>
  rw[hbd]at hA2;have h1:W (true,M) (n+2)=some (.cells C8):=hWk _ _ _ K;simp[go_sem,hWp,h1,C8,AC];exact fin _ _ 24 (λj y e=>by have:=S j y e;rw[AD _ _ (by omega)];exact hWk _ _ _ (hGk j y e)) (by rw[hA2];rfl) (by decide)
 | false=>
  simp[go_sem,hWp,IO,I]
 obtain⟨hm3,hbd⟩:=hm3;have hA3:A=0:=by rw[hA2,hbd];rfl
 refine Kt m (E3 M) (hWq _) λo d hm4 hAc hoe=>?_;have hMn:o=none->M=[]:=λg=>J2.1 (hAc.none g);have hom:o≠some m:=λg=>by have:=(hAc.lt m g).1;omega
 rw[Wa,Wj];obtain⟨U,hU⟩:∃U:SV->Hp,∀v,U v=hset (W (w,M)) m (some (.cells [v])):=⟨_,λ_=>rfl⟩
 have hUs:∀v v',hset (U v) m (some (.cells [v']))=U v':=λv v'=>by rw[hU,hU,AS]
 have hUm:∀v,U v m=some (.cells [v]):=λv=>by rw[hU,AC]
 have hUk:∀v j y,G j=some y->U v j=some y:=λv j y e=>by
  have:=u j y e;rw[hU,AD _ _ (by omega)];exact hWk _ j y e
 rw[<-hU];obtain⟨r,hrr⟩:∃r,r=M.filter λx=>BV l x.1:=⟨_,rfl⟩
 have hrl:r.length<=1048576:=by rw[hrr];exact qr (qU _ _) hM
 have hrn:o=none->r=[]:=λg=>by rw[hrr,hMn g];rfl
 have r1:∀r t v,rH o r t (U v) m=some (.cells [v]):=λr t v=>by rw[NJ hom];exact hUm v
 have r2:∀r t v v',hset (rH o r t (U v)) m (some (.cells [v']))=rH o r t (U v'):=λr t v v'=>by rw[Wb hom,hUs]
 refine BM 0 (α:=Bx×List SV) (λq=>[(1,J),(3,X),(5,V),(6,.ptr (n+2) 0),(13,N),(16,.ptr m 0)]) (λq=>rH o r q.2 (U (rV o r q.1.b))) (λ_ m'=>d=m') ?_ (λq m5 hm5=>?_);simp[go_sem,r1];refine qC (u95 M hM hMn 96 [] [N] (λx=>!BV l x.1) (λx _=>by rw[hN];exact c96 l (by omega) x false) (f:=false) (H:=rH o M [] (U (rV o M false))) (n:=d) (λj e=>by have:=RN (r:=M) (t:=[]) (H:=U (rV o M false)) j e;simpa using this)) ?_;rintro v H' n' ⟨f2,t,rfl,rfl,rfl⟩;simp only[Bool.not_not,<-hrr,Tw];cases o with
 | none=>
  simp only[rV]at r1 r2 ⊢;simp[go_sem,r1,r2,IO];exact⟨⟨f2⟩,t,AB⟩
 | some j=>
  simp only[rV]at r1 r2 ⊢;simp[go_sem,r1,r2,IO];exact⟨⟨f2⟩,t,AB⟩
 obtain⟨⟨f2⟩,t⟩:=q;dsimp only;subst hm5;refine Bp 0 [(1,J),(3,X),(5,V),(6,.ptr (n+2) 0),(13,N),(16,.ptr m 0)] (rH o (dZ r) t (U (rV o r f2))) d ?_ (λm5 hm5=>?_);simp[go_sem,r1];refine qC (u97 r hrl hrn (f:=f2) (H:=rH o r t (U (rV o r f2))) (n:=d) (t:=t) (λj e=>RN j e)) ?_;rintro v H' n' ⟨rfl,rfl,rfl⟩;simp[go_sem,Tw,IO];subst hm5;have hsl:(dZ r).length=r.length:=jW _;have hrV:rV o r f2=rV o (dZ r) f2:=by cases o<;>simp[rV,hsl]
 rw[hrV];have hsn:o=none->dZ r=[]:=λg=>List.length_eq_zero_iff.1 (by rw[hsl,hrn g];rfl);have hol:∀j,o=some j->j<d:=λj e=>(hAc.lt j e).2;have hUb:∀r t v j y,rH o r t (U v) j=some y->j<d:=λr t v j y e=>by
  by_cases c:o=some j;exact hol j c;rw[NJ c,hU]at e;by_cases c2:j=m;omega;rw[AD _ _ c2]at e;have:=hWb _ j y e;omega
 refine BP 0 [(1,J),(3,X),(5,V),(6,.ptr (n+2) 0),(13,N),(16,.ptr m 0),(18,.ptr (d+1) 0)] (hset (hset (rH o (dZ r) t (U (rV o (dZ r) f2))) d (some (.map []))) (d+1) (some (.cells [.map d]))) (λm'=>d+2=m') ?_ (λm5 hm5=>?_);simp[go_sem,IO,AC,AS];subst hm5;obtain⟨L,hL⟩:∃L,L=WX l M:=⟨_,rfl⟩
 have hLd:Ip (dZ r) (dZ r).length=L:=by rw[hL,hrr];rfl
 have hLi:Rr L:=by rw[hL];exact RH l M
 have hLl:L.length<=1048576:=by rw[<-hLd];have:=Q3 (dZ r) (dZ r).length;omega
 have hLn:o=none->L=[]:=λg=>by rw[<-hLd,hsn g];rfl
 obtain⟨F,O⟩:∃F:List (SV×SV)->Hp,∀es,F es=hset (hset G d (some (.map es))) (d+1) (some (.cells [.map d])):=⟨_,λ_=>rfl⟩
 have hK1:∀es,F es (d+1)=some (.cells [.map d]):=λes=>by rw[O,AC]
 have hK0:∀es,F es d=some (.map es):=λes=>by rw[O,AD _ _ (by omega),AC]
 have hKs:∀es es',hset (F es) d (some (.map es'))=F es':=λes es'=>by rw[O,O];funext j;simp only[hset];grind
 have hKb:∀es j y,F es j=some y->j<d+2:=λes j y e=>by
  rw[O]at e;by_cases c1:j=d;omega;by_cases c2:j=d+1;omega;rw[AD _ _ c2,AD _ _ c1]at e;have:=u j y e;omega
 have hKk:∀es j y,G j=some y->F es j=some y:=λes j y e=>by
  have:=u j y e;rw[O,AD _ _ (by omega),AD _ _ (by omega)];exact e
 have hoj:∀j,o=some j->m3<=j/\j<d:=hAc.lt;refine Bo 0 [(1,J),(3,X),(5,V),(6,.ptr (n+2) 0),(13,N),(18,.ptr (d+1) 0)] (F (Cy L 0)) (λm'=>d+2<=m') ?_ (λm6 hm6=>?_);refine BP 1 [(1,J),(3,X),(5,V),(6,.ptr (n+2) 0),(13,N),(18,.ptr (d+1) 0),(110,.imm 2 (L.map B5) false),(111,AA L.length),(112,AA 0)] (F []) (λm'=>d+2<=m') ?_ (λm6 hm6=>?_);have y1:m≠d:=by omega
 have y2:m≠d+1:=by omega
 obtain⟨Y,hY⟩:∃Y:Hp,Y=hset (hset (rH o (dZ r) t (U (rV o (dZ r) f2))) d (some (.map []))) (d+1) (some (.cells [.map d])):=⟨_,rfl⟩
 have hYm:Y m=some (.cells [rV o (dZ r) f2]):=by rw[hY,AD _ _ y2,AD _ _ y1];exact r1 _ _ _
 have hYj:∀j,o=some j->Y j=some (.cells (Fw (dZ r)++t)):=λj e=>by
  have:=hoj j e;rw[hY,AD _ _ (by omega),AD _ _ (by omega)];exact RN j e
 have hYk:∀t j y,F [] j=some y->rH o L t Y j=some y:=λt j y e=>by
  by_cases c1:j=d;subst c1;rw[hK0]at e;rw[NJ (λg=>by have:=hoj _ g;omega),hY,AD _ _ (by omega),AC];exact e;by_cases c2:j=d+1;subst c2;rw[hK1]at e;rw[NJ (λg=>by have:=hoj _ g;omega),hY,AC];exact e;rw[O,AD _ _ c2,AD _ _ c1]at e;have:=u j y e;have c3:o≠some j:=λg=>by have:=hoj _ g;omega
  rw[NJ c3,hY,AD _ _ c2,AD _ _ c1,NJ c3];exact hUk _ j y e
 rw[<-hY];simp[go_sem,hYm];refine qC (dE (dZ r) (by omega) hsn (f:=f2) (H:=Y) (n:=d+2) (t:=t) hYj) ?_;rintro v H' n' ⟨f3,t3,rfl,rfl,rfl⟩;rw[hLd];have hfz:Fz (rH o L t3 Y) (F []) 1 (rV o L f3) (.imm 2 (L.map B5) false):=Ym hLn (λj e=>by
  have:=hoj j e;rw[O,AD _ _ (by omega),AD _ _ (by omega)];exact AW u (by omega)) (λj e=>RN j e)
 have hk:=hYk t3;generalize rH o L t3 Y=Y2 at hfz hk ⊢;cases o with
 | none=>
  have hL0:=hLn rfl;simp only[rV]at hfz ⊢;simp[go_sem,IO,hL0];exact⟨by simpa[hL0]using hfz,hk⟩
 | some j=>
  simp only[rV]at hfz ⊢;simp[go_sem,IO];exact⟨hfz,hk⟩
 refine AR (BG 0 (α:=Nat) (λi=>[(1,J),(3,X),(5,V),(6,.ptr (n+2) 0),(13,N),(18,.ptr (d+1) 0),(110,.imm 2 (L.map B5) false),(111,AA L.length),(112,AA i)]) (λi=>F (Cy (L.take i) 0)) (λi m=>i<=L.length/\d+2<=m) (λi=>L.length-i) 0 ⟨by omega,hm6⟩ ?_ (by rw[km];exact AB) ?_);simp[go_sem,Ai,IO];rintro i m7 ⟨hi,hm7⟩;by_cases B:i<L.length;have w1:=wS i (by omega);obtain⟨x,hx⟩:∃x,L[i]=x:=⟨_,rfl⟩
 have htk:L.take (i+1)=L.take i++[x]:=by rw[qb B,hx]
 have hnot:x∉L.take i:=λg=>by
  obtain⟨j,hj,e⟩:=List.mem_take_iff_getElem.1 g;have:=jC.1 hLi j i (by omega) B (by omega);exact Nx this (by rw[e,hx])
 refine Bp 0 [(1,J),(3,X),(5,V),(6,.ptr (n+2) 0),(13,N),(18,.ptr (d+1) 0),(110,.imm 2 (L.map B5) false),(111,AA L.length),(112,AA i),(113,.bool true)] (F (Cy (L.take i) 0)) m7 ?_ (λm k=>?_);simp[go_sem,IO,B];subst k;refine Bp 0 [(1,J),(3,X),(5,V),(6,.ptr (n+2) 0),(13,N),(18,.ptr (d+1) 0),(110,.imm 2 (L.map B5) false),(111,AA L.length),(112,AA i)] (F (Cy (L.take i) 0)) m7 ?_ (λm k=>?_);simp[go_sem,IO];subst k;refine AT 0 (α:=Unit) (λ_=>[(1,J),(3,X),(5,V),(6,.ptr (n+2) 0),(13,N),(18,.ptr (d+1) 0),(110,.imm 2 (L.map B5) false),(111,AA L.length),(112,AA i)]) (λ_=>F (Cy (L.take (i+1)) 0)) (λ_ m=>d+2<=m) (AR ?_) (λ_ m k=>?_);refine BP 1 [(1,J),(3,X),(5,V),(6,.ptr (n+2) 0),(13,N),(18,.ptr (d+1) 0),(110,.imm 2 (L.map B5) false),(111,AA L.length),(112,AA i),(19,AA i),(20,.iptr [AA x.1,AA x.2])] (F (Cy (L.take i) 0)) (λm=>d+2<=m) ?_ (λm k=>?_);have hKm:∀j y,F (Cy (L.take i) 0) j=some y->j<m7:=λj y e=>by have:=hKb _ j y e;omega
 simp[go_sem,IO,B,hx,B5,AC,AS];exact⟨by omega,AV (AW hKm (qa _)) (AC _ _ _),AJ hKm AB⟩;refine AH ?_;simp[go_sem,hK1,w1,-Int.natCast_add];refine KJ (q:=d) (a:=x.1) (b:=x.2) rfl (by simp[go_sem]) (hK0 _) (by simp[go_sem]) (PI _ _) (es2:=Cy (L.take (i+1)) 0) (r:=none) ?_ (NC x _ _ _ hnot) ?_;have hil:(L.take i).length=i:=by rw[jr];omega
 rw[htk,PH,hil];simp[go_sem,B5,Cy];simp[go_sem,hKs,IO,k];refine AH ?_;simp[go_sem,w1,IO,-Int.natCast_add];exact⟨i+1,by omega,⟨by omega,k⟩,IO,AB⟩;have:i=L.length:=by omega
 subst this;refine AH ?_;rw[qi];simp[go_sem,IO];exact hm7;obtain⟨t1,t2,t3,_,_⟩:=QB ht hz;obtain⟨Q,hQ⟩:∃Q:Hp,Q=hset G d (some (.map (Cy L 0))):=⟨_,rfl⟩
 have hKQ:∀j y,Q j=some y->F (Cy L 0) j=some y:=λj y e=>by
  by_cases c1:j=d;subst c1;rw[hQ,AC]at e;rw[hK0];exact e;rw[hQ,AD _ _ c1]at e;exact hKk _ j y e
 have hQ0:Q d=some (.map (Cy L 0)):=by rw[hQ,AC]
 have hQb:∀j y,Q j=some y->j<d+1:=λj y e=>by
  by_cases c1:j=d;omega;rw[hQ,AD _ _ c1]at e;have:=u j y e;omega
 have hQk:∀j y,G j=some y->Q j=some y:=λj y e=>by have:=u j y e;rw[hQ,AD _ _ (by omega)];exact e
 refine AT 1 (α:=Unit) (λ_=>[(3,X),(5,V),(6,.ptr (n+2) 0),(13,N),(18,.iptr [.map d]),(21,Ao (OK D l to)),(22,AA 0)]) (λ_=>Q) (λ_ m=>d+2<=m) (BX RW rfl (by kernel_rfl) (by kernel_rfl) ?_) (λ_ m8 hm8=>?_);rw[hX,hJ,hV];simp[go_sem,RW,AF.flat,AK.flat];refine qw (c64 D.revs hr l hl) ?_;simp[go_sem];refine qw (by simpa[Ax.enc]using Xl t2 t1 e2 t3) ?_;simp[go_sem,IO,OK,hm6];exact⟨AV (AW hQb (qa _)) (hK1 _),hKQ⟩;refine GI ?_;refine BP 0 [(3,X),(5,V),(6,.ptr (n+2) 0),(13,N),(18,.iptr [.map d]),(21,Ao (OK D l to)),(132,.bool false)] Q (λm=>d+2<=m) ?_ (λm9 hm9=>?_);simp[go_sem,IO,hm8];refine Ah (b:=false) (by simp[go_sem]) ?_;simp only[qj,if_false];refine Gv ?_;rw[FB];refine BP 0 [(3,X),(6,.ptr (n+2) 0),(21,Ao (OK D l to)),(23,.fn (.func 102) [] [N,V,.iptr [.map d]])] Q (λm=>d+2<=m) ?_ (λm10 hm10=>?_);simp[go_sem,IO,hm9];refine AT 0 (α:=Unit) (λ_=>[(6,.ptr (n+2) 0),(7,AA 0)]) (λ_=>hset Q (n+2) (some (.cells ([AG R.flow]++R.«end».flat++[Ao R.revs]++R.settings.flat)))) (λ_ m=>d+2<=m) (BX Yz rfl (by kernel_rfl) (by kernel_rfl) ?_) (λ_ m11 hm11=>?_);have hQz:Q (n+2)=some (.cells C8):=hQk _ _ K;have hk:=cG hz hbd d (d+1) (by omega) Q m10 (by omega) (by rw[hQ0,hL]);rw[<-hN,<-hV]at hk;rw[hX];simp[go_sem,Yz,AF.flat,AK.flat];refine c67.use ?_;simp[go_sem];refine qC (by simpa[AI.enc,AF.flat,AK.flat]using hk) ?_;rintro v H' n' ⟨rfl,rfl,rfl⟩;simp[go_sem,hQz,C8,IO,hm10];refine AH ?_;simp[go_sem,AF.flat,AK.flat,AC];rw[lc,hA3,if_pos rfl];exact Ay ho (AJ (λj z e=>by have:=S j z e;omega) (λj y e=>hQk j y (hGk j y e))) (by simp[AI.enc,AF.flat,AK.flat]) (HT n R 0)
theorem b9:(Ba Tryz.prog 42).map (λf=>(f.name == "_",f.type,f.offset))=[(false,3,0),(false,9,1),(false,3,2)]:=by kernel_rfl
theorem YB (x:Ax):Bv Tryz.prog [AA x.id,.str x.author,AA x.time] [AA x.id,.str x.author,AA x.time] (Ba Tryz.prog 42)=some true:=by
 rw[CT,b9];cases x;simp[DA,DP,go_sem]
theorem YF:(Ba Tryz.prog 115).map (λf=>(f.name == "_",f.type,f.offset))=[(false,3,0),(false,3,1),(false,9,2),(false,3,3),(false,9,4),(false,4,5)]:=by kernel_rfl
theorem WC (x:Au):Bv Tryz.prog [AA x.id,AA x.parent,.str x.author,AA x.time,.str x.text,.bool x.done] [AA x.id,AA x.parent,.str x.author,AA x.time,.str x.text,.bool x.done] (Ba Tryz.prog 115)=some true:=by
 rw[CT,YF];cases x;simp[DA,DP,go_sem]
theorem YG:(Ba Tryz.prog 118).map (λf=>(f.name == "_",f.type,f.offset))=[(false,9,0),(false,9,1)]:=by kernel_rfl
theorem WE (x:Ft):Bv Tryz.prog [.str x.name,.str x.value] [.str x.name,.str x.value] (Ba Tryz.prog 118)=some true:=by
 rw[CT,YG];cases x;simp[DA,DP,go_sem]
theorem YE:(Ba Tryz.prog 106).map (λf=>(f.name == "_",f.type,f.offset))=[(false,3,0),(false,3,1),(false,9,2),(false,3,3)]:=by kernel_rfl
theorem WB (x:CX):Bv Tryz.prog [AA x.format,AA x.start,.str x.template,AA x.restart] [AA x.format,AA x.start,.str x.template,AA x.restart] (Ba Tryz.prog 106)=some true:=by
 rw[CT,YE];cases x;simp[DA,DP,go_sem]
theorem q59 (l:List Ax) (hl:l.length<=1048576):PC 59 [.imm 3 (l.map Ax.enc) false,.imm 3 (l.map Ax.enc) false] (.bool true):=by
 intro h n;refine gq Tryz.func59 rfl λc=>?_;simp[go_sem];refine An 1 (α:=Nat) (λk=>[(0,.imm 3 (l.map Ax.enc) false),(1,.imm 3 (l.map Ax.enc) false),(12,AA l.length),(13,AA k)]) (λ_=>h) (λk m=>k<=l.length/\n<=m) (λk=>l.length-k) 0 ?_ ?_ AB ?_;simp;simp[Ai];rintro k m ⟨hk,b⟩;by_cases a:k<l.length
 . have w1:=wS k (by omega);obtain⟨x,d⟩:∃x,l[k]=x:=⟨_,rfl⟩
   simp[go_sem,a,d,Ax.enc]
   repeat first|refine nq ?_|refine sq ?_|refine aq ?_
   refine⟨_,Cp rfl (.inr rfl) (by kernel_rfl) (by kernel_rfl) (by kernel_rfl) rfl rfl (YB x),?_⟩;simp[go_sem]
   repeat first|refine nq ?_|refine sq ?_|refine aq ?_
   simp[go_sem,w1,-Int.natCast_add];exact⟨k+1,by omega,⟨by omega,b⟩,IO⟩
 simp[go_sem,a];exact As c rfl rfl
theorem q62 (l:List Au) (hl:l.length<=1048576):PC 62 [.imm 6 (l.map Au.enc) false,.imm 6 (l.map Au.enc) false] (.bool true):=by
 intro h n;refine gq Tryz.func62 rfl λc=>?_;simp[go_sem];refine An 1 (α:=Nat) (λk=>[(0,.imm 6 (l.map Au.enc) false),(1,.imm 6 (l.map Au.enc) false),(12,AA l.length),(13,AA k)]) (λ_=>h) (λk m=>k<=l.length/\n<=m) (λk=>l.length-k) 0 ?_ ?_ AB ?_;simp;simp[Ai];rintro k m ⟨hk,b⟩;by_cases a:k<l.length
 . have w1:=wS k (by omega);obtain⟨x,d⟩:∃x,l[k]=x:=⟨_,rfl⟩
   simp[go_sem,a,d,Au.enc]
   repeat first|refine nq ?_|refine sq ?_|refine aq ?_
   refine⟨_,Cp rfl (.inr rfl) (by kernel_rfl) (by kernel_rfl) (by kernel_rfl) rfl rfl (WC x),?_⟩;simp[go_sem]
   repeat first|refine nq ?_|refine sq ?_|refine aq ?_
   simp[go_sem,w1,-Int.natCast_add];exact⟨k+1,by omega,⟨by omega,b⟩,IO⟩
 simp[go_sem,a];exact As c rfl rfl
theorem q63 (l:List Ft) (hl:l.length<=1048576):PC 63 [.imm 2 (l.map Ft.enc) false,.imm 2 (l.map Ft.enc) false] (.bool true):=by
 intro h n;refine gq Tryz.func63 rfl λc=>?_;simp[go_sem];refine An 1 (α:=Nat) (λk=>[(0,.imm 2 (l.map Ft.enc) false),(1,.imm 2 (l.map Ft.enc) false),(12,AA l.length),(13,AA k)]) (λ_=>h) (λk m=>k<=l.length/\n<=m) (λk=>l.length-k) 0 ?_ ?_ AB ?_;simp;simp[Ai];rintro k m ⟨hk,b⟩;by_cases a:k<l.length
 . have w1:=wS k (by omega);obtain⟨x,d⟩:∃x,l[k]=x:=⟨_,rfl⟩
   simp[go_sem,a,d,Ft.enc]
   repeat first|refine nq ?_|refine sq ?_|refine aq ?_
   refine⟨_,Cp rfl (.inr rfl) (by kernel_rfl) (by kernel_rfl) (by kernel_rfl) rfl rfl (WE x),?_⟩;simp[go_sem]
   repeat first|refine nq ?_|refine sq ?_|refine aq ?_
   simp[go_sem,w1,-Int.natCast_add];exact⟨k+1,by omega,⟨by omega,b⟩,IO⟩
 simp[go_sem,a];exact As c rfl rfl
theorem q56 (l:List CX) (hl:l.length<=1048576):PC 56 [.imm 4 (l.map CX.enc) false,.imm 4 (l.map CX.enc) false] (.bool true):=by
 intro h n;refine gq Tryz.func56 rfl λc=>?_;simp[go_sem];refine An 1 (α:=Nat) (λk=>[(0,.imm 4 (l.map CX.enc) false),(1,.imm 4 (l.map CX.enc) false),(12,AA l.length),(13,AA k)]) (λ_=>h) (λk m=>k<=l.length/\n<=m) (λk=>l.length-k) 0 ?_ ?_ AB ?_;simp;simp[Ai];rintro k m ⟨hk,b⟩;by_cases a:k<l.length
 . have w1:=wS k (by omega);obtain⟨x,d⟩:∃x,l[k]=x:=⟨_,rfl⟩
   simp[go_sem,a,d,CX.enc]
   repeat first|refine nq ?_|refine sq ?_|refine aq ?_
   refine⟨_,Cp rfl (.inr rfl) (by kernel_rfl) (by kernel_rfl) (by kernel_rfl) rfl rfl (WB x),?_⟩;simp[go_sem]
   repeat first|refine nq ?_|refine sq ?_|refine aq ?_
   simp[go_sem,w1,-Int.natCast_add];exact⟨k+1,by omega,⟨by omega,b⟩,IO⟩
 simp[go_sem,a];exact As c rfl rfl
theorem q61 (l:List Fb) (hl:l.length<=1048576) (g:FuncId) (d:∀x∈l,PC g [x.enc,x.enc] (.bool true)):PC 61 [.imm 2 (l.map Fb.enc) false,.imm 2 (l.map Fb.enc) false,.fn (.func g) [] []] (.bool true):=by
 intro h n;refine gq Tryz.func61 rfl λb=>?_;simp[go_sem];refine An 1 (α:=Nat) (λk=>[(1,.imm 2 (l.map Fb.enc) false),(2,.fn (.func g) [] []),(15,.imm 2 (l.map Fb.enc) false),(16,AA l.length),(17,AA k)]) (λ_=>h) (λk m=>k<=l.length/\n<=m) (λk=>l.length-k) 0 ?_ ?_ AB ?_;simp;simp[Ai];rintro k m ⟨hk,hnm⟩;by_cases a:k<l.length
 . have w1:=wS k (by omega);obtain⟨x,c⟩:∃x,l[k]=x:=⟨_,rfl⟩
   have H:=d x (by rw[<-c];exact ql a);rw[Fb.enc]at H;simp[go_sem,a,c,Fb.enc,AC,AD];refine qw H ?_;simp[go_sem,w1,-Int.natCast_add];exact⟨k+1,by omega,⟨by omega,by omega⟩,IO,by repeat(first|exact AB|refine AQ b (by omega) ?_)⟩
 simp[go_sem,a];exact As b rfl rfl
theorem cT (l:List A6) (hl:l.length<=1048576) (g:FuncId) (d:∀x∈l,PC g [x.enc,x.enc] (.bool true)):PC 128 [.imm 6 (l.map A6.enc) false,.imm 6 (l.map A6.enc) false,.fn (.func g) [] []] (.bool true):=by
 intro h n;refine gq Tryz.func128 rfl λb=>?_;simp[go_sem];refine An 1 (α:=Nat) (λk=>[(1,.imm 6 (l.map A6.enc) false),(2,.fn (.func g) [] []),(15,.imm 6 (l.map A6.enc) false),(16,AA l.length),(17,AA k)]) (λ_=>h) (λk m=>k<=l.length/\n<=m) (λk=>l.length-k) 0 ?_ ?_ AB ?_;simp;simp[Ai];rintro k m ⟨hk,hnm⟩;by_cases a:k<l.length
 . have w1:=wS k (by omega);obtain⟨x,c⟩:∃x,l[k]=x:=⟨_,rfl⟩
   have H:=d x (by rw[<-c];exact ql a);rw[A6.enc]at H;simp[go_sem,a,c,A6.enc,AC,AD];refine qw H ?_;simp[go_sem,w1,-Int.natCast_add];exact⟨k+1,by omega,⟨by omega,by omega⟩,IO,by repeat(first|exact AB|refine AQ b (by omega) ?_)⟩
 simp[go_sem,a];exact As b rfl rfl
theorem cQ (l:List AE) (hl:l.length<=1048576) (g:FuncId) (d:∀x∈l,PC g [x.enc,x.enc] (.bool true)):PC 123 [.imm 11 (l.map AE.enc) false,.imm 11 (l.map AE.enc) false,.fn (.func g) [] []] (.bool true):=by
 intro h n;refine gq Tryz.func123 rfl λb=>?_;simp[go_sem];refine An 1 (α:=Nat) (λk=>[(1,.imm 11 (l.map AE.enc) false),(2,.fn (.func g) [] []),(15,.imm 11 (l.map AE.enc) false),(16,AA l.length),(17,AA k)]) (λ_=>h) (λk m=>k<=l.length/\n<=m) (λk=>l.length-k) 0 ?_ ?_ AB ?_;simp;simp[Ai];rintro k m ⟨hk,hnm⟩;by_cases a:k<l.length
 . have w1:=wS k (by omega);obtain⟨x,c⟩:∃x,l[k]=x:=⟨_,rfl⟩
   have H:=d x (by rw[<-c];exact ql a);rw[qx]at H;simp[go_sem,a,c,qx,AC,AD];refine qw H ?_;simp[go_sem,w1,-Int.natCast_add];exact⟨k+1,by omega,⟨by omega,by omega⟩,IO,by repeat(first|exact AB|refine AQ b (by omega) ?_)⟩
 simp[go_sem,a];exact As b rfl rfl
theorem cW (l:List Aa) (hl:l.length<=1048576) (g:FuncId) (d:∀x∈l,PC g [x.enc,x.enc] (.bool true)):PC 191 [.imm 6 (l.map Aa.enc) false,.imm 6 (l.map Aa.enc) false,.fn (.func g) [] []] (.bool true):=by
 intro h n;refine gq Tryz.func191 rfl λb=>?_;simp[go_sem];refine An 1 (α:=Nat) (λk=>[(1,.imm 6 (l.map Aa.enc) false),(2,.fn (.func g) [] []),(15,.imm 6 (l.map Aa.enc) false),(16,AA l.length),(17,AA k)]) (λ_=>h) (λk m=>k<=l.length/\n<=m) (λk=>l.length-k) 0 ?_ ?_ AB ?_;simp;simp[Ai];rintro k m ⟨hk,hnm⟩;by_cases a:k<l.length
 . have w1:=wS k (by omega);obtain⟨x,c⟩:∃x,l[k]=x:=⟨_,rfl⟩
   have H:=d x (by rw[<-c];exact ql a);rw[qQ]at H;simp[go_sem,a,c,qQ,AC,AD];refine qw H ?_;simp[go_sem,w1,-Int.natCast_add];exact⟨k+1,by omega,⟨by omega,by omega⟩,IO,by repeat(first|exact AB|refine AQ b (by omega) ?_)⟩
 simp[go_sem,a];exact As b rfl rfl
theorem cY (l:List Wl) (hl:l.length<=1048576) (g:FuncId) (d:∀x∈l,PC g [x.enc,x.enc] (.bool true)):PC 258 [.imm 7 (l.map Wl.enc) false,.imm 7 (l.map Wl.enc) false,.fn (.func g) [] []] (.bool true):=by
 intro h n;refine gq Tryz.func258 rfl λb=>?_;simp[go_sem];refine An 1 (α:=Nat) (λk=>[(1,.imm 7 (l.map Wl.enc) false),(2,.fn (.func g) [] []),(15,.imm 7 (l.map Wl.enc) false),(16,AA l.length),(17,AA k)]) (λ_=>h) (λk m=>k<=l.length/\n<=m) (λk=>l.length-k) 0 ?_ ?_ AB ?_;simp;simp[Ai];rintro k m ⟨hk,hnm⟩;by_cases a:k<l.length
 . have w1:=wS k (by omega);obtain⟨x,c⟩:∃x,l[k]=x:=⟨_,rfl⟩
   have H:=d x (by rw[<-c];exact ql a);rw[QS]at H;simp[go_sem,a,c,QS,AC,AD];refine qw H ?_;simp[go_sem,w1,-Int.natCast_add];exact⟨k+1,by omega,⟨by omega,by omega⟩,IO,by repeat(first|exact AB|refine AQ b (by omega) ?_)⟩
 simp[go_sem,a];exact As b rfl rfl
def AI.flat (d:AI):List SV:=[AG d.flow]++d.«end».flat++[Ao d.revs]++d.settings.flat
theorem ZV (x:AF) (a:x.sized):PC 58 [x.enc,x.enc] (.bool true):=by simpa using c58 x x a a
theorem cS (l:List Er) (hl:l.length<=1048576):PC 125 [Af l,Af l] (.bool true):=by simpa using XU l l hl hl
theorem cV (l:List Er) (hl:l.length<=1048576):PC 130 [Af l,Af l] (.bool true):=by
 intro h n;refine gq Tryz.func130 rfl λa=>?_;simp[go_sem];refine(cS l hl).use ?_;simp[go_sem];exact As a rfl rfl
theorem q55 (x:Fb) (c:x.levels.length<=1048576):PC 55 [x.enc,x.enc] (.bool true):=by
 intro h n;refine gq Tryz.func55 rfl λa=>?_;have b:∀y z,∀o x,h o=some x->hset (hset h n y) (n+1) z o=some x:=λy z=>by repeat(first|exact AB|refine AQ a (by omega) ?_)
 simp[go_sem,Fb.enc,AC,AD];refine(q56 _ c).use ?_;simp[go_sem];exact Ay a (b _ _) rfl rfl
theorem cU (x:A6) (c:x.props.length<=1048576):PC 129 [x.enc,x.enc] (.bool true):=by
 intro h n;refine gq Tryz.func129 rfl λa=>?_;have b:∀y z,∀o x,h o=some x->hset (hset h n y) (n+1) z o=some x:=λy z=>by repeat(first|exact AB|refine AQ a (by omega) ?_)
 simp[go_sem,A6.enc,AC,AD];refine(cV _ c).use ?_;simp[go_sem];exact Ay a (b _ _) rfl rfl
theorem q60 (l:List A6) (hl:l.length<=1048576) (hp:∀x∈l,x.props.length<=1048576):PC 60 [Ae l,Ae l] (.bool true):=by
 intro h n;refine gq Tryz.func60 rfl λa=>?_;simp[go_sem];refine(cT l hl 129 λx b=>cU x (hp x b)).use ?_;simp[go_sem];exact As a rfl rfl
theorem cZ (x:Wl) (d:x.head.sized) (b:PC 57 [AG x.flow,AG x.flow] (.bool true)):PC 259 [x.enc,x.enc] (.bool true):=by
 intro h n;refine gq Tryz.func259 rfl λa=>?_;have c:∀y z,∀o x,h o=some x->hset (hset h n y) (n+1) z o=some x:=λy z=>by repeat(first|exact AB|refine AQ a (by omega) ?_)
 have e:=ZV _ d;rw[AF.enc,AF.flat]at e;simp[go_sem,QS,AC,AD];refine e.use ?_;simp[go_sem,AC,AD];refine b.use ?_;simp[go_sem];exact Ay a (c _ _) rfl rfl
theorem cX (x:Aa) (f:x.head.sized) (hl:x.cells.length<=1048576) (b:∀c∈x.cells,PC 259 [c.enc,c.enc] (.bool true)):PC 192 [x.enc,x.enc] (.bool true):=by
 intro h n;refine gq Tryz.func192 rfl λa=>?_;have d:∀y z,∀o x,h o=some x->hset (hset h n y) (n+1) z o=some x:=λy z=>by repeat(first|exact AB|refine AQ a (by omega) ?_)
 have e:=ZV _ f;rw[AF.enc,AF.flat]at e;simp[go_sem,qQ,AC,AD];refine e.use ?_;simp[go_sem,AC,AD];refine(cY _ hl 259 b).use ?_;simp[go_sem];exact Ay a (d _ _) rfl rfl
theorem cR (x:AE) (f:x.head.sized) (b:PC 57 [AG x.flow,AG x.flow] (.bool true)) (hl:x.rows.length<=1048576) (d:∀r∈x.rows,PC 192 [r.enc,r.enc] (.bool true)):PC 124 [x.enc,x.enc] (.bool true):=by
 intro h n;refine gq Tryz.func124 rfl λa=>?_;have c:∀y z,∀o x,h o=some x->hset (hset h n y) (n+1) z o=some x:=λy z=>by repeat(first|exact AB|refine AQ a (by omega) ?_)
 have e:=ZV _ f;rw[AF.enc,AF.flat]at e;simp[go_sem,qx,AC,AD];refine e.use ?_;simp[go_sem,AC,AD];refine b.use ?_;simp[go_sem,AC,AD];refine(cW _ hl 192 d).use ?_;simp[go_sem];exact Ay a (c _ _) rfl rfl
theorem l9 {hp:AF->Prop} (f:∀x,hp x->x.sized) {K:Nat} (i:K<=1048576):∀(N:Nat) (l:List AE),Da hp K N l->PC 57 [AG l,AG l] (.bool true)
 | 0,_,H=>H.elim
 | N + 1, l, H => by
  obtain⟨h1,h2,k⟩:=dS.1 H;have hi:∀x∈l,PC 124 [x.enc,x.enc] (.bool true):=λx o=>by
   obtain⟨a,b,c,d⟩:=k x o;exact cR x (f _ a) (l9 f i N _ b) (by omega) λr g=>cX r (f _ (d r g).1) (by have:=(d r g).2.1;omega) λe j=>cZ e (f _ ((d r g).2.2 e j).1) (l9 f i N _ ((d r g).2.2 e j).2)
  intro h n;refine gq Tryz.func57 rfl λm=>?_;simp[go_sem];refine(cQ l (by omega) 124 hi).use ?_;simp[go_sem];exact As m rfl rfl
theorem cb (l:List Fb) (hl:l.length<=1048576) (hp:∀x∈l,x.levels.length<=1048576):PC 61 [Di l,Di l,.fn (.func 55) [] []] (.bool true):=q61 l hl 55 λx a=>q55 x (hp x a)
def Vn:Tr:=.pure 0<|.pure 1<|.pure 2<|.pure 3<|.two 4 5 (.one 5 (.one 6 (.one 7 .nil))) (.one 4 (.one 6 (.one 7 .nil)))
theorem q17 {hp:AF->Prop} (o:∀x,hp x->x.sized) {K:Nat} (k:K<=1048576) (N:Nat) (d:AI) (hl:Da hp K N d.flow) (l:d.«end».sized) (r:d.revs.length<=1048576) (a:d.settings.sized):PC 17 [d.enc,d.enc] (.bool true):=by
 intro h n;refine Db Tryz.func17 rfl λf=>?_;have b:=f.lt;obtain⟨X,i⟩:∃X:SV,X=.iptr ([AG d.flow]++d.«end».flat++[Ao d.revs]++d.settings.flat):=⟨_,rfl⟩
 refine AY 1 [(2,X),(3,X)] h n ?_ (λm p=>?_);rw[i];simp[go_sem,AI.enc,AF.flat,AK.flat];exact⟨by omega,⟨AV (f.none (by omega)) (by simp[hset]),AV (f.none (by omega)) (by simp[hset])⟩,λj y e=>by have:=b j y e;simp only[hset];grind⟩;have c:∀j y,h j=some y->j<m:=λj y e=>by have:=b j y e;omega
 refine AT 1 (α:=Unit) (λ_=>[(2,X),(3,X),(5,.iptr d.settings.flat),(6,.iptr d.settings.flat)]) (λ_=>h) (λ_ m=>n<=m) (BX Vn rfl (by kernel_rfl) (by kernel_rfl) ?_) (λ_ m p=>?_);rw[i];simp[go_sem,Vn,AF.flat,AK.flat,AC,AD];have g:∀q,m<=q->h q=none:=λq hq=>by cases e:h q with|none=>rfl|some y=>(have:=c q y e;omega)
 refine⟨⟨by omega,⟨AV (g _ (by omega)) (by simp[hset]),AV (g _ (by omega)) (by simp[hset])⟩,λj y e=>?_⟩,by omega,⟨AV (g _ (by omega)) (by simp[hset]),AV (g _ (by omega)) (by simp[hset])⟩,λj y e=>?_⟩ <;>
 . have:=c j y e;simp only[hset];grind
 have e:=ZV _ l;rw[AF.enc,AF.flat]at e;refine AH ?_;rw[i];simp[go_sem,AF.flat,AK.flat];refine(l9 o k N _ hl).use ?_;simp[go_sem];refine e.use ?_;simp[go_sem];refine(q59 _ r).use ?_;simp[go_sem];refine(q60 _ a.styles a.props).use ?_;simp[go_sem];refine(cb _ a.lists a.levels).use ?_;simp[go_sem];refine(q62 _ a.comments).use ?_;simp[go_sem];refine(q63 _ a.vars).use ?_;simp[go_sem];exact As f rfl rfl
theorem WZ {m2:List Int} {h:AF} (H:J5 m2 h) (rev:Int):(Fx rev h.moves).length<=17:=by
 refine qr (PO _ _) ?_;have a:=H.2.dlen;have b:=IY h.dels;unfold AF.moves AF.mv0;rw[qt];split<;>simp<;>omega
theorem Rv {m2:List Int} {h:AF} (H:J5 m2 h):h.moves.length<=17:=by
 have a:=H.2.dlen;have b:=IY h.dels;unfold AF.moves AF.mv0;rw[qt];split<;>simp<;>omega
theorem Nr {α β:Type} {f:α->List β} {k:Nat}:∀{l:List α},(∀x∈l,(f x).length<=k)->(l.flatMap f).length<=k*l.length
 | [],_=>by simp
 | x::l,h=>by
  have h1:=Nr (l:=l) λy a=>h y (qL _ a);have h2:=h x (jP ..);rw[qK,qt,qF,KG];omega
theorem Ny {revs:List Int} {A:Nat->List Int} {k:Nat} (h:∀i,(A i).length<=k):∀i,(Ln revs A i).length<=k*i
 | 0=>by simp[Ln]
 | i+1=>by
  have h1:=Ny (revs:=revs) h i;have h2:=Lp (A i) 0;have h3:=qU (λx=>decide (0<x)) (A i);have h4:=h i;rw[Ln,qt,qd,KG];omega
theorem cf (z:AE):z.us=z.head.all++(if z.kind=6 then AE.usL z.flow else if z.kind=7 then Aa.usL z.rows else[]):=by cases z;rw[AE.us];rfl
theorem ci {y:Int}:∀(m o:List AE),(∃x∈m,¬Co x/\y∈x.us)\/(∃x∈o,y∈x.us)->y∈AE.usL (m.foldl BK o)
 | [],o,h=>by
  rcases h with⟨x,d,_⟩|⟨x,d,h⟩
  cases d;rw[List.foldl_nil,jQ];exact jo.2 ⟨x,d,h⟩
 | a :: m, o, h => by
  rw[qM];refine ci m _ ?_;have old:(∃x∈o,y∈x.us)->∃x∈BK o a,y∈x.us:=λ⟨x,d,b⟩=>by
   by_cases c:Co a;refine⟨x,?_,b⟩;unfold BK;rw[if_pos c];exact d;rw[iL c];rcases List.eq_nil_or_concat o with e|⟨ys,z,e⟩
   subst e;cases d;rw[List.concat_eq_append]at e;subst e;rw[JZ];dsimp only;split;rw[Ys];rcases qe.1 d with g|g;exact⟨x,kc _ g,b⟩;rw[qv.1 g]at b;exact⟨_,jN _ (List.mem_singleton_self _),by rw[cf]at b ⊢;exact b⟩;exact⟨x,kc _ d,b⟩
  rcases h with⟨x,d,nd,b⟩|h;rcases qk.1 d with e|e;subst e;right;rw[iL nd];split;rename_i z hz;split;rename_i k;refine⟨_,jN _ (List.mem_singleton_self _),?_⟩;rw[cf]at b ⊢;rw[k.1,if_neg (by decide),if_neg (by decide),jq]at b;exact kc _ (by show y∈z.head.all;rw[k.2.2];exact b);exact⟨x,jN _ (List.mem_singleton_self _),b⟩;exact⟨x,jN _ (List.mem_singleton_self _),b⟩;exact .inl ⟨x,e,nd,b⟩;exact .inr (old h)
def ch (w:Bool) (s:Int×Int):Int:=if w then s.1 else s.2
section
variable {hp : AF → Prop} {T : Int → Prop} {g : Bool → AF → AF} {w : Bool} {y rev : Int}
theorem Rw (d:∀h,hp h->h.uses rev=true->y∈(g w h).all) {h:AF} (b:hp h) {mid:Bool} {k:Int} {s:Int×Int} (a:ch w s=0) (c:y∈(g mid h).all->k=0):ch w (HQ rev s ⟨h,mid,k⟩)=0:=by
 unfold HQ;dsimp only;cases e:h.uses rev with
 | false=>simpa using a
 | true=>
  cases w<;>cases mid<;>simp only[ch,if_true,if_false,qj]at a ⊢;rw[a,c (d h b e)];rfl;exact a;exact a;rw[a,c (d h b e)];rfl
theorem C2 (o:∀h,hp h->h.uses rev=true->y∈(g w h).all) (sc:Av):∀(N:Nat) (id:Int) (l:List AE) (mid:Bool) (s:Int×Int),wf hp T N l->dX N l->y∉AE.usL (Ac (Al (gF g) sc N id l mid ()).1)->ch w s=0->ch w (Al (CH (HQ rev)) sc N id l mid s).2=0
 | 0,_,_,_,_,h,_,_,_=>h.elim
 | N + 1, id, l, mid, s, W, D, C, B => by
  have P:∀(mid:Bool) (l:List AE) (s:Int×Int),wf hp T (N+1) l->dX (N+1) l->(∀x∈(BL (gF g) (Al (gF g) sc N) mid l ()).1,¬Co (AE.nrm x)->y∉(AE.nrm x).us)->ch w s=0->ch w (BL (CH (HQ rev)) (Al (CH (HQ rev)) sc N) mid l s).2=0:=λmid l s W D C B=>by
   rw[dU]at C;refine FQ _ (λq:List AE×(Int×Int)=>ch w q.2=0) l _ B λq x p m=>?_;have v:=OG.1 W x p;have d:=D x p;have b:=C _ (Kg p);rw[cf]at b;obtain⟨f1,_,_,f4,f5,f6,f7⟩:=QP (eF g (Al (gF g) sc N) mid x);rw[f1,f5,f6,f7]at b;have u:(eF g (Al (gF g) sc N) mid x).kind=x.kind/\(eF g (Al (gF g) sc N) mid x).head=g mid x.head/\(eF g (Al (gF g) sc N) mid x).text=x.text:=⟨rfl,rfl,rfl⟩
   rw[u.1,u.2.1]at b;have rows:x.kind=7->(eF g (Al (gF g) sc N) mid x).rows=x.rows.map (fO g (Al (gF g) sc N) mid):=λk=>by show(if x.kind=7 then _ else _)=_;rw[if_pos k]
   have f:x.kind=7->(((eF g (Al (gF g) sc N) mid x).rows.map Aa.nrm).filter λr=>!decide (r.cells.length=0))=(x.rows.map (fO g (Al (gF g) sc N) mid)).map Aa.nrm:=λk=>by
    rw[rows k];refine eE λr n=>?_;obtain⟨r0,h0,rfl⟩:=qy.1 n;show r0.cells.map _≠[];simpa using(v.rows r0 h0).2.1
   have nd:(x.kind=1->x.text.size≠0)->¬Co (AE.nrm (eF g (Al (gF g) sc N) mid x)):=λL c=>by
    unfold Co at c;rw[f1,f4,f7,u.1,u.2.2]at c;rcases c with⟨c1,t⟩|⟨c1,t⟩
    rw[f c1,J2,J2]at t;exact v.ne c1 t;exact L c1 t
   have M:(A8 [x]).1=x.units:=(gi x).1;have s1:ch w (HQ rev q.2 ⟨x.head,mid,(A8 [x]).1⟩)=0:=Rw o v.head m λA=>by
    rw[M];by_cases k:x.kind=1;by_cases z:x.text.size=0;rw[fK k d.1.1,z];rfl;exact absurd (kc _ A) (b (nd λ_=>z));exact absurd (kc _ A) (b (nd λh=>absurd h k))
   show ch w (By (CH (HQ rev)) (Al (CH (HQ rev)) sc N) mid x (HQ rev q.2 ⟨x.head,mid,(A8 [x]).1⟩)).2=0;unfold By;split;rename_i k6;have j:=b (nd λh=>by rw[h]at k6;exact absurd k6 (by decide));rw[if_pos k6]at j;refine C2 o sc N _ _ _ _ v.flow (d.2.1 k6) (λh=>j (jN _ ?_)) s1;have:(eF g (Al (gF g) sc N) mid x).flow=(Al (gF g) sc N x.id x.flow mid ()).1:=by show(if x.kind=6 then _ else _)=_;rw[if_pos k6]
   rw[this];exact h;split;rename_i k6 k7;have j:=b (nd λh=>by rw[h]at k7;exact absurd k7 (by decide));rw[if_neg k6,if_pos k7,f k7]at j;have n:∀r∈x.rows,y∉(g mid r.head).all/\∀c∈r.cells,y∉(g mid c.head).all/\y∉AE.usL (Ac (Al (gF g) sc N c.id c.flow mid ()).1):=λr n=>by
    have E:y∉(Aa.nrm (fO g (Al (gF g) sc N) mid r)).us:=λh=>j (jN _ (by rw[iQ];exact jo.2 ⟨_,Kg (Kg n),h⟩));rw[UB,Aa.us]at E;refine⟨λh=>E (kc _ h),λc hc=>?_⟩;have F:y∉(Wl.nrm (gr g (Al (gF g) sc N) mid c)).us:=λh=>E (jN _ (by rw[iP];exact jo.2 ⟨_,Kg (show gr g (Al (gF g) sc N) mid c∈(fO g (Al (gF g) sc N) mid r).cells from Kg hc),h⟩));rw[UN,Wl.us]at F;exact⟨λh=>F (kc _ h),λh=>F (jN _ h)⟩
   refine FQ _ (λq:List Aa×(Int×Int)=>ch w q.2=0) x.rows _ s1 λq r i m=>?_;obtain⟨b1,H⟩:=n r i;obtain⟨O,_,v3⟩:=v.rows r i;show ch w (DQ (CH (HQ rev)) (Al (CH (HQ rev)) sc N) mid r.cells (HQ rev q.2 ⟨r.head,mid,1⟩)).2=0;refine FQ _ (λq:List Wl×(Int×Int)=>ch w q.2=0) r.cells _ (Rw o O m λh=>absurd h b1) λq c hc m=>?_;obtain⟨a1,a2⟩:=H c hc;obtain⟨_,a4,a5⟩:=v3 c hc;show ch w (Al (CH (HQ rev)) sc N c.id c.flow mid (HQ rev q.2 ⟨c.head,mid,1⟩)).2=0;exact C2 o sc N _ _ _ _ a5 ((d.2.2 k7 r i).2 c hc) a2 (Rw o a4 m λh=>absurd h a1);exact s1
  have a:∀x∈(Al (gF g) sc (N+1) id l mid ()).1,¬Co (AE.nrm x)->y∉(AE.nrm x).us:=λx p nd h=>C (by
   unfold Ac EM;rw[kM];exact ci _ _ (.inl ⟨_,Kg p,nd,h⟩))
  rw[Al]at a ⊢;split at a;rename_i e;rw[if_pos e];have A:mid=false:=by unfold EX at e;cases mid;rfl;simp at e
  subst A;obtain⟨_,G,k2,k3⟩:=(dn sc D).1 e;have hn:0<=(A8 l).1:=by rw[dP D];dsimp only;omega
  have I:=λx h=>a x (kc _ (kc _ h));have J:=λx h=>a x (kc _ (jN _ h));have K:=λx h=>a x (jN _ h);exact P false _ _ (eU _ _ W) (dM _ _ (by omega) hn D) K (P true _ _ (eU _ _ W) (dM _ _ G (by omega) D) J (P false _ _ (eU _ _ W) (dM _ _ (by omega) G D) I B));rename_i e;rw[if_neg e];exact P mid l s W D a B
end
theorem i7 {d:AI} {rev:Int} {nx:Ax} {c:Int×Int×Int} {b:dq} {R:AI} (h:(da d rev nx c b R).2=0):
 (da d rev nx c b R).1=R/\c.2.2=0/\CL nx=0/\(CA d.revs nx.id).2=false/\d.revs.length<256/\c.1≠0/\c.2.1≠0:=by
 unfold da at h ⊢;split at h;rename_i g;exact absurd h g;rename_i f;split at h;rename_i g;exact absurd h g;rename_i i;split at h;cases h;rename_i j;split at h;cases h;rename_i k;split at h;cases h;rename_i a;split at h;cases h;rename_i l;rw[if_neg f,if_neg i,if_neg j,if_neg k,if_neg a,if_neg l];exact⟨rfl,by simpa using f,by simpa using i,by simpa using j,by omega,λe=>a (.inl e),λe=>a (.inr e)⟩
theorem eP {N:Nat} {d:AI} {rev:Int} {sc:Av} (h:(E9 N d rev sc).2.2=0):(CA d.revs rev).2=true:=by
 unfold E9 at h;split at h;cases h;split at h;cases h;split at h;cases h;rename_i u;simpa using u
set_option maxHeartbeats 1000000 in
theorem Rt {B N:Nat} (hB:B<=1048576) {d:AI} (hl:Da AF.sized B N d.flow) (he:d.«end».sized) (hs:d.settings.sized) (hd:Hk N d) (hf:MP N d.flow) (ht:MK N d.flow<=150) (rev:Int) (sc:Av) (nx:Ax):
 ∃(bA bM bO:Bool),PC 29 [d.enc] (.bool bA)/\PC 30 [d.enc,AA rev] (.bool bM)/\PC 31 [d.enc,AA rev] (.bool bO)/\(bA=false->bM=false->bO=false->
  ∃(S:AI) (e:Int),PC 15 [d.enc,AA rev,sc.enc,nx.enc] (.tup [S.enc,AA e])/\(e=0->PC 27 [S.enc,.imm 1 ((ei rev nx.id).map AA) false,(CA d.revs rev).1.enc] (.tup [d.normal.enc,AA 0])/\PC 21 [d.enc] d.normal.enc/\PC 17 [d.normal.enc,d.normal.enc] (.bool true))):=by
 obtain⟨m2,hm2⟩:∃m2,m2=Bd [] (d.revs.map (·.id)):=⟨_,rfl⟩
 have hrl:=Ka hd.revs;have hm:m2.length<=998:=by
  have:=OV (d.revs.map (·.id)) [];rw[hm2];simp at this;omega
 have h1:Da (J5 m2) 150000 N d.flow:=Np hl hf (hm2▸hd.flow);have h2:J5 m2 d.«end»:=⟨he,hm2▸hd.end.toRB⟩
 have htb:=Ry hd;have hrs:d.revs.length<=1048576:=by omega
 have W:=Tq hm2 hd h1;have hw:=UJ W;have hR2:l0 m2 d.«end»:=⟨h2,hm2▸hd.end⟩
 have vis:∀{σ:Type} (f:σ->BW->AF×Bool×σ) (s:σ),(∀s p,(f s p).1=Fo)->(G8 f AX N d s).1.sized/\(G8 f AX N d s).1.normal.sized/\(Bd [] (AE.usL (Ac (G8 f AX N d s).1.flow)++(G8 f AX N d s).1.«end».all)).length<=1048576:=λf s hz=>
  JP (W:=(G8 f AX N d s).1) (m2:=m2) (K:=450000) (by omega) (by omega) (If (λs p _=>by rw[hz];exact TV m2) N 0 d.flow AX false s h1) (by show J5 m2 (f _ _).1;rw[hz];exact TV m2) (by simp[G8,Gf]) hs
 obtain⟨bA,hbA⟩:∃b,b=(G8 lY AX N d false).2:=⟨_,rfl⟩
 obtain⟨bO,hbO⟩:∃b,b=(G8 (lb rev) AX N d false).2:=⟨_,rfl⟩
 obtain⟨A,hA⟩:∃A,A=(G8 (UP rev) AX N d []).2:=⟨_,rfl⟩
 have vA:=vis lY false (λ_ _=>rfl);have vO:=vis (lb rev) false (λ_ _=>rfl);have vM:=vis (UP rev) [] (λ_ _=>rfl);obtain⟨hv,hn⟩:=TU (λi h=>h) W hR2;have hAh:=Rs (N:=N) (d:=d) rev;rw[<-hA]at hAh;have hAl:A.length<=17*301:=by
  rw[hAh];refine qr (Nr λh hh=>WZ (hv h hh).1 _) ?_;exact Nat.mul_le_mul_left _ (by omega)
 have stS:∀(q:Nat) (H:Hp),H q=some (.cells [.bool false])->∀o y,Qf q false o=some y->H o=some y:=λq H hq o y g=>by
  simp only[Qf]at g;split at g;subst_vars;cases g;exact hq;cases g
 have k29:PC 29 [d.enc] (.bool bA):=c29 d bA λq n0 hq H n hnn hHq=>by
  refine kS (lw (sc:=AX) (mH hq) (J5 m2) 150000 (by omega) (λh g=>⟨g.1,g.1⟩) N d false h1 h2 (qg _) vA.1 vA.2.1 vA.2.2 hnn (stS q H hHq)) λv h' n' g=>?_;obtain⟨g1,g2,g3⟩:=g;exact⟨⟨_,g1⟩,by rw[g2,<-hbA],g3⟩
 have k31:PC 31 [d.enc,AA rev] (.bool bO):=c31 d rev bO λq n0 hq H n hnn hHq=>by
  refine kS (lw (sc:=AX) (mI hq rev) (J5 m2) 150000 (by omega) (λh g=>⟨g.1,g.1⟩) N d false h1 h2 (qg _) vO.1 vO.2.1 vO.2.2 hnn (stS q H hHq)) λv h' n' g=>?_;obtain⟨g1,g2,g3⟩:=g;exact⟨⟨_,g1⟩,by rw[g2,<-hbO],g3⟩
 have hnm:=Ny (revs:=[rev]) (A:=λ_=>A) (k:=17*301) λ_=>hAl;have k104:PC 104 [d.enc,.imm 1 ([rev].map AA) false] (.imm 2 ((Ln [rev] (λ_=>A) 1).map B5) false):=by
  refine Zm d [rev] (by simp) (λ_=>A) (λ_=>by omega) (λi hi=>?_) λi hi q n0 hq H n hnn hHq=>?_;have:=hnm i;have hi:i<=1:=hi;have:17*301*i<=17*301*1:=Nat.mul_le_mul_left _ hi;omega
  · have e : [rev][i] = rev := by have : i = 0 := by simpa using hi
                                  subst this;rfl
    have v:=dH hq [rev] false i hi;rw[e]at v;refine kS (lw (sc:=AX) v (J5 m2) 150000 (by omega) (λh g=>⟨g.1,g.1⟩) N d [] h1 h2 (by rw[<-hA];show A.length<=_;omega) vM.1 vM.2.1 vM.2.2 hnn λo y g=>?_) λv h' n' g=>?_;simp only[UD]at g;split at g;subst_vars;cases g;exact hHq;cases g;obtain⟨g1,g2,g3⟩:=g;exact⟨⟨_,g1⟩,by rw[g2,<-hA],g3⟩
 refine⟨bA,decide (0<(Ln [rev] (λ_=>A) 1).length),bO,k29,c30 d rev _ k104,k31,λgA gM gO=>?_⟩;obtain⟨⟨Sd,ld⟩,lW,eW⟩:=c7 hB hl he hs hd hf rev sc nx;rw[<-hm2]at lW;refine⟨_,_,ld,λe0=>?_⟩;obtain⟨z1,z2,z3,z4,z5,z6,z7⟩:=i7 e0;have hfind:=eP z2;obtain⟨o1,o2⟩:=ic htb hfind;rw[hbA]at gA;rw[hbO]at gO;have gA:((Aw lY N 0 d.flow AX false false).2||eJ d.«end».layers d.«end».layers.length)=false:=gA;have gO:((Aw (lb rev) N 0 d.flow AX false false).2||eo rev d.«end» d.«end».dels.length)=false:=gO;rw[Bool.or_eq_false_iff]at gA gO;have hA0:A=[]:=by
  refine List.eq_nil_iff_forall_not_mem.2 λx hx=>?_;have gM:(Ln [rev] (λ_=>A) 1)=[]:=by
   have:¬0<(Ln [rev] (λ_=>A) 1).length:=by simpa using gM
   exact kD (by omega)
  have hnw:Fg A 0=[]:=by
   simp only[Ln,qE,J2]at gM;exact gM
  have hpos:0<x:=by
   rw[hAh]at hx;obtain⟨h,hh,hy⟩:=jo.1 hx;unfold Fx at hy;obtain⟨y,hy2,rfl⟩:=qy.1 hy;exact W_ (hv h hh).2 (qW.1 hy2).1
  have:=((PQ A 0 (Int.le_refl 0)).2 x).2 ⟨hx,hpos⟩;rw[hnw]at this;cases this
 rw[hA]at hA0;have hA0:(Aw (UP rev) N 0 d.flow AX false []).2++Fx rev d.«end».moves=[]:=hA0;rw[List.append_eq_nil_iff]at hA0;have W1:=(fC (R:=λs:Bool=>s=false) (q:=λh=>eJ h.layers h.layers.length=false) (f:=lY) (λs p g=>by
  have g:(s||eJ p.head.layers p.head.layers.length)=false:=g
  rwa [Bool.or_eq_false_iff]at g) (λi h=>h) N 0 d.flow false false W (.inr (by decide)) gA.1).2
 have W2:=(fC (R:=λs:Bool=>s=false) (q:=λh=>eo rev h h.dels.length=false) (f:=lb rev) (λs p g=>by
  have g:(s||eo rev p.head p.head.dels.length)=false:=g
  rwa [Bool.or_eq_false_iff]at g) (λi h=>h) N 0 d.flow false false W1 (.inr (by decide)) gO.1).2
 have W3:=(fC (R:=λs:List Int=>s=[]) (q:=λh=>Fx rev h.moves=[]) (f:=UP rev) (λs p g=>by
  have g:s++Fx rev p.head.moves=[]:=g
  rwa [List.append_eq_nil_iff]at g) (λi h=>h) N 0 d.flow false [] W2 (.inr (by decide)) hA0.1).2
 have hmv:∀h:AF,Fx rev h.moves=[]->∀y∈h.moves,y.1≠rev:=λh g y hy e=>by
  unfold Fx at g;rw[J2,List.filter_eq_nil_iff]at g;exact g y hy (by simpa using e)
 have WP:wf (eQ m2 rev) (λi=>i ≠ -1) N d.flow:=iS (λh g=>⟨g.1.1.1,hmv h g.2,g.1.1.2,g.1.2⟩) (λi g=>g) W3;have We:eQ m2 rev d.«end»:=⟨hR2,hmv _ hA0.2,gA.2,gO.2⟩
 have hdp:dX N d.flow:=eM (hm2▸hd.flow) h1;have r0:rev≠0:=o2▸Wt htb o1;have n0:nx.id≠0:=by have:=Pa z3;omega
 have Df:(Wx N d rev sc nx).flow=(Al (gF (gR rev nx.id)) sc N 0 d.flow false ()).1:=by unfold Wx BR;rw[du]
 have all_of:∀h:AF,h.uses rev=true->rev∈h.all:=λh g=>Classical.byContradiction λe=>by rw[fP e]at g;cases g
 have found:∀r:Ax,r.id≠0->r∈(Wx N d rev sc nx).revs->r.id∈AE.usL (Ac (Wx N d rev sc nx).flow)++(Wx N d rev sc nx).«end».all->(CA (Wx N d rev sc nx).normal.revs r.id).2=true:=λr h0 h1 h2=>Lx ⟨r,(fL h0).2 ⟨h1,h2⟩,rfl⟩;have hcnt:(E9 N d rev sc).1=(Al (CH (HQ rev)) sc N 0 d.flow false (0,0)).2.1/\(E9 N d rev sc).2.1=(HQ rev (Al (CH (HQ rev)) sc N 0 d.flow false (0,0)).2 ⟨d.«end»,false,1⟩).2:=by
  have e:(HQ rev (Al (CH (HQ rev)) sc N 0 d.flow false (0,0)).2 ⟨d.«end»,false,1⟩).1=(Al (CH (HQ rev)) sc N 0 d.flow false (0,0)).2.1:=by unfold HQ;split<;>rfl
  unfold E9 at z2 ⊢;split at z2;cases z2;rename_i g1;split at z2;cases z2;rename_i g2;split at z2;cases z2;rename_i g3;rw[if_neg g1,if_neg g2,if_neg g3];exact⟨e,rfl⟩
 have hin:(CA (Wx N d rev sc nx).normal.revs nx.id).2=true:=found nx n0 (by show nx∈F7 _ _ _;rw[PJ];exact .inl rfl) (kc _ (Classical.byContradiction λhy=>by
  rw[Df]at hy;refine z6 ?_;rw[hcnt.1];exact C2 (w:=true) (g:=gR rev nx.id) (hp:=l0 m2) (λh _ hu=>by
   have:=cw (id:=nx.id) r0 h rev (all_of h hu);have e:Kl (di rev) nx.id rev=nx.id:=by simp[Kl,di]
   rw[e]at this;exact this) sc N 0 d.flow false (0,0) W hdp hy rfl))
 have hout:(CA (Wx N d rev sc nx).normal.revs rev).2=true:=by
  have:=found (CA d.revs rev).1 (by rw[o2];exact r0) (by show _∈F7 _ _ _;rw[PJ];exact .inr o1) (by
   rw[o2];by_cases hu:d.«end».uses rev=true;exact jN _ (by rw[eW];exact all_of _ hu);refine kc _ (Classical.byContradiction λhy=>z7 ?_);rw[Df]at hy;have k:=C2 (w:=false) (g:=gR rev nx.id) (hp:=l0 m2) (rev:=rev) (λh _ hu=>all_of h hu) sc N 0 d.flow false (0,0) W hdp hy rfl;rw[hcnt.2];unfold HQ;rw[if_neg hu];exact k)
  rwa [o2]at this
 obtain⟨r1,r2,r3,⟨zE,r4⟩,r5⟩:=S_ hm2 hd h1 WP We sc z3 z4 hfind z5 hin hout;obtain⟨l,hL⟩:∃l,l=ei rev nx.id:=⟨_,rfl⟩
 have hln:l.length=2:=by rw[hL];unfold ei;split<;>rfl
 obtain⟨old,ho⟩:∃r,r=(CA d.revs rev).1:=⟨_,rfl⟩
 rw[<-hL,<-ho]at r2 r5;rw[<-hL]at r3 r4;rw[<-ho]at o1 o2;rw[z1,<-hL,<-ho];have wS:wN N (Wx N d rev sc nx).flow<=3*wN N d.flow:=by
  rw[Df];exact W4 sc N 0 d.flow (hm2▸hd.flow) h1 (λg=>by have:=(hd.ids _ g).1;omega) hd.nodup
 have sW:(Wx N d rev sc nx).settings.sized:=hs;have wSn:=fa N (Wx N d rev sc nx).flow;obtain⟨S,hS⟩:∃S,S=(Wx N d rev sc nx).normal:=⟨_,rfl⟩
 have hRf:Da (J5 (nx.id::m2)) 300000 N S.flow:=by rw[hS];exact gZ (by omega) (by omega) (eR lW)
 have eS:S.«end» = d.«end»:=by rw[hS];show(Wx N d rev sc nx).«end» = _;rw[eW]
 have sS:S.settings.sized:=by rw[hS];exact sW
 have wS2:wN N S.flow<=3*wN N d.flow:=by rw[hS];show wN N (Ac (Wx N d rev sc nx).flow)<=_;omega
 rw[<-hS]at r1 r2 r3 r4 r5 ⊢;have hSr:S.revs.length<=1048576:=by have:=r1.1;omega
 have hSe:J5 (nx.id::m2) S.«end»:=by rw[eS];exact O0 h2
 obtain⟨hv2,hn2⟩:=TU (λi h=>h) r3 ⟨⟨zE,r4⟩,hSe⟩;have hlook:=iu r3 l;have hbad:(Hx N S).any (confl l)=false:=by
  rw[List.any_eq_false];intro h hh;obtain⟨⟨z,g⟩,_⟩:=hv2 h hh;rw[g.confl];decide
 obtain⟨M,hMe⟩:∃M,M=(Hx N S).flatMap AF.moves:=⟨_,rfl⟩
 have hMl:M.length<=17*901:=by
  rw[hMe];refine qr (Nr λh hh=>Rv (hv2 h hh).2) ?_;exact Nat.mul_le_mul_left _ (by omega)
 rw[hbad,<-hMe]at hlook;have hM0:WX l M=[]:=O3 λy hy=>by
  rw[hMe]at hy;obtain⟨h,hh,hy⟩:=jo.1 hy;obtain⟨⟨z,g⟩,_⟩:=hv2 h hh;exact g.moves y hy
 obtain⟨Wd,hWd⟩:∃Wd,Wd=(BR (XA l [] old.id) AX N S (OK S l old) ()).1:=⟨_,rfl⟩
 have hT:old.id∈nx.id::m2:=qL _ ((WU hm2).2 ⟨old,o1,rfl⟩);have lWd:Da (J5 (nx.id::m2)) 900000 N Wd.flow:=by
  rw[hWd];exact(HW (λs p g=>VW hT g) N 0 S.flow false () hRf).1
 have eWd:J5 (nx.id::m2) Wd.«end»:=by rw[hWd];exact VW hT hSe
 have sWd:Wd.settings.sized:=by rw[hWd];exact sS
 have rWd:Wd.revs.length<=256:=by rw[hWd];exact(QB r1 r2).2.2.2.1.1
 have w2:=JP (W:=(BR (CH (QC l)) AX N S S.revs (false,[])).1) (m2:=nx.id::m2) (K:=900000) (by simp;omega) (by omega) (HW (λs p g=>g) N 0 S.flow false (false,[]) hRf).1 hSe hSr sS;have w5:=JP (W:=Wd) (m2:=nx.id::m2) (K:=900000) (by simp;omega) (by omega) lWd eWd (by omega) sWd;rw[<-hWd]at r5;have k27:=c27 S l (by omega) old false M (by omega) Wd.normal hSr r1 (λ_ p q n0 hpq hp hq H n hnn hHp hHq=>?_) (λ_ _ q n0 hq H n hnn hHq=>?_)
 rotate_left
 have:=Xz (sc:=AX) (v93 hpq hp hq l (by omega) false) (J5 (nx.id::m2)) 300000 (by omega) (λh g=>⟨g.1,g.1⟩) N S (false,[]) hRf hSe (by rw[hlook];show M.length<=_;omega) w2.1 w2.2.1 w2.2.2 (H:=H) (n:=n) hnn (λo y g=>by
  simp only[KP,qS]at g;split at g;subst_vars;cases g;exact hHp;split at g;subst_vars;cases g;exact hHq;cases g)
 rw[hlook]at this;exact this;rw[hM0]at hHq;have:=lx (sc:=AX) (dF hq l (by omega) false [] old) (J5 (nx.id::m2)) 300000 (by omega) (λh g=>⟨⟨g.1,by have:=g.2.dlen;omega⟩,g.1⟩) N S (OK S l old) () hRf hSe (by rw[<-hWd];exact w5.1) (by rw[<-hWd];exact w5.2.1) (by rw[<-hWd];exact w5.2.2) (H:=H) (n:=n) hnn (λo y g=>by
  simp only[N8]at g;split at g;subst_vars;cases g;exact hHq;cases g)
 have hup:Aj (N8 q []) (BR (XA l [] old.id) AX N S (OK S l old) ()).2 H=H:=by
  funext j;simp only[Aj,N8];by_cases c:j=q;rw[if_pos c,c,hHq];rw[if_neg c]
 rw[hup,<-hWd]at this;exact this;have e27:Sz S l old false=0:=by rw[Od r2];rfl
 rw[e27]at k27;have k27:PC 27 [S.enc,.imm 1 (l.map AA) false,old.enc] (.tup [Wd.normal.enc,AA 0]):=k27;rw[r5]at k27;have w6:=JP (W:=d) (m2:=m2) (K:=450000) (by omega) (by omega) (h1.mono (λ_ g=>g) (by omega)) h2 hrs hs;exact⟨k27,ln d w6.1 w6.2.1 w6.2.2,q17 (hp:=J5 m2) (λx g=>g.1) (K:=150000) (by omega) N _ (FT h1) h2.1 (qr (qU _ _) hrs) hs⟩
def lJ (d:AI) (c:ki):Prop:=∃(S:AI) (e:Int),PC 15 [d.enc,AA c.rev,c.sc.enc,c.next.enc] (.tup [S.enc,AA e])/\(e=0->PC 27 [S.enc,.imm 1 ((ei c.rev c.next.id).map AA) false,(CA d.revs c.rev).1.enc] (.tup [d.normal.enc,AA 0])/\PC 21 [d.enc] d.normal.enc/\PC 17 [d.normal.enc,d.normal.enc] (.bool true))
def lg:Tr:=.pure 0<|.pure 1<|.pure 2<|.pure 3<|.pure 4<|.pure 5<|.pure 7<|.two 6 12 (.two 8 12 (.pure 9<|.pure 10<|.pure 11<|.one 12<|.one 13<|.pure 14 .nil) (.one 8<|.pure 9<|.pure 10<|.pure 11<|.one 13<|.pure 14 .nil)) (.one 6<|.one 8<|.pure 9<|.pure 10<|.pure 11<|.one 13<|.pure 14 .nil)
def lh:Tr:=.pure 0<|.pure 1<|.pure 2<|.pure 3<|.pure 4<|.one 5<|.one 6<|.one 7<|.one 8 .nil
set_option maxHeartbeats 4000000 in
theorem splitRestores (d:AI) (c:ki) {B N:Nat} (hB:B<=1048576) (hd:d.sizedT B N):PC 9 [d.enc,c.enc] (.bool true):=by
 intro h n;refine Db Tryz.func9 rfl λho=>?_;have hHb:=ho.lt;obtain⟨X,hX⟩:∃X:SV,X=.iptr ([AG d.flow]++d.«end».flat++[Ao d.revs]++d.settings.flat):=⟨_,rfl⟩
 obtain⟨Y,hY⟩:∃Y:SV,Y=.iptr [AA c.rev,AA c.sc.id,AA c.sc.a,AA c.sc.b,AA c.next.id,.str c.next.author,AA c.next.time]:=⟨_,rfl⟩
 refine AY 1 [(2,X),(3,Y)] h n ?_ (λm hm=>?_);rw[hX,hY];simp[go_sem,AI.enc,ki.enc,AF.flat,AK.flat];exact⟨by omega,⟨AV (ho.none (by omega)) (by simp[hset]),AV (ho.none (by omega)) (by simp[hset])⟩,λj y e=>by have:=hHb j y e;simp only[hset];grind⟩;refine AT 0 (α:=Unit) (λ_=>[(2,X),(3,Y)]) (λ_=>h) (λb m=>n<=m/\lJ d c/\d.revs.length<=1048576) ?_ (λ_ m hm=>?_)
 . refine BM 0 (α:=Bx) (λb=>[(2,X),(3,Y),(40,.bool b.b)]) (λ_=>h) (λb m=>n<=m/\(b.b=false->lJ d c/\d.revs.length<=1048576)) ?_ (λb m hm=>?_)
   . rw[hX,hY];simp[go_sem,AF.flat,AK.flat];refine qw k11 ?_;simp[go_sem];refine kW (by simpa[AI.enc,AF.flat,AK.flat]using Wr d hB hd) ?_;rintro v ⟨b,rfl,hb⟩;cases b with
     | false=>simp[go_sem,IO,hm];exact⟨⟨true⟩,by simp,rfl⟩
     | true =>
      by_cases ca:(200:Int)<(c.next.author.size:Int);simp[go_sem,ca,IO,hm];exact⟨⟨true⟩,by simp,rfl⟩;obtain⟨h1,h2,h3⟩:=hb rfl;obtain⟨bA,bM,bO,k29,k30,k31,kG⟩:=Rt hB hd.flow hd.end hd.settings.tosized h1 h2 h3 c.rev c.sc c.next;have hrl:=Ka h1.revs;simp[go_sem,ca];refine qw (by simpa[AI.enc,AF.flat,AK.flat]using k29) ?_;cases bA with
      | true=>simp[go_sem,IO,hm];exact⟨⟨true⟩,by simp,rfl⟩
      | false =>
       simp[go_sem];refine qw (by simpa[AI.enc,AF.flat,AK.flat]using k30) ?_;cases bM with
       | true=>simp[go_sem,IO,hm];exact⟨⟨true⟩,by simp,rfl⟩
       | false =>
        simp[go_sem];refine qw (by simpa[AI.enc,AF.flat,AK.flat]using k31) ?_;cases bO with
        | true=>simp[go_sem,IO,hm];exact⟨⟨true⟩,by simp,rfl⟩
        | false=>
         simp[go_sem,IO,hm];exact⟨⟨false⟩,λ_=>⟨kG rfl rfl rfl,by omega⟩,rfl⟩
   obtain⟨b⟩:=b;obtain⟨hm,hb⟩:=hm;dsimp only at hb ⊢;cases b with
   | true=>
    refine AH ?_;simp[go_sem];refine qw k11 ?_;simp[go_sem];exact As ho rfl rfl
   | false=>
    refine AH ?_;simp[go_sem,IO,hm];exact hb rfl
 obtain⟨hm,⟨S,e,ld,kR⟩,hrl⟩:=hm;refine AY 1 [(2,X),(3,Y),(5,.iptr S.flat),(6,AA e)] h n ?_ (λm hm=>?_);have hHm:∀j y,h j=some y->j<m:=λj y e=>by have:=hHb j y e;omega
 rw[hX,hY];simp[go_sem,AF.flat,AK.flat];refine qw (by simpa[AI.enc,Av.enc,Ax.enc,AF.flat,AK.flat]using ld) ?_;simp[go_sem,AI.flat,AF.flat,AK.flat,IO,AC,AS];exact⟨by omega,AV (AW hHm (qa _)) (AC _ _ _),AJ hHm AB⟩;refine Bo 0 [(2,X),(3,Y),(5,.iptr S.flat)] h (λm=>n<=m/\e=0) (AH ?_) (λm hm=>?_);by_cases e0:e=0;simp[go_sem,e0,IO,hm];have e1:(e !=0)=true:=by simpa using e0
 simp[go_sem,e0,e1];exact As ho rfl rfl;obtain⟨hm,e0⟩:=hm;obtain⟨k27,k21,k17⟩:=kR e0;obtain⟨old,hold'⟩:∃old,old=(CA d.revs c.rev).1:=⟨_,rfl⟩
 rw[<-hold']at k27;refine AY 1 [(2,X),(3,Y),(5,.iptr S.flat),(7,.iptr [AA old.id,.str old.author,AA old.time])] h n ?_ (λm hm=>?_);have hHm:∀j y,h j=some y->j<m:=λj y e=>by have:=hHb j y e;omega
 rw[hX,hY];simp[go_sem,AF.flat,AK.flat];refine qw (V4 d.revs hrl c.rev) ?_;rw[<-hold'];simp[go_sem,Ax.enc,IO,AC,AS];exact⟨by omega,AV (AW hHm (qa _)) (AC _ _ _),AJ hHm AB⟩;refine AT 1 (α:=Unit) (λ_=>[(2,X),(9,.iptr d.normal.flat),(10,AA 0)]) (λ_=>h) (λ_ m=>n<=m) (BX lg rfl (by kernel_rfl) (by kernel_rfl) ?_) (λ_ m hm=>?_)
 . have hHm:∀j y,h j=some y->j<m:=λj y e=>by have:=hHb j y e;omega
   rw[hY];simp[go_sem,lg,AI.flat,AF.flat,AK.flat];refine⟨?_,?_⟩
   . refine qw (c23 c.rev c.next.id) ?_;simp[go_sem];refine⟨?_,?_⟩;refine qw (by simpa[AI.enc,Ax.enc,AF.flat,AK.flat]using k27) ?_;simp[go_sem,IO,AC,AS];exact⟨by omega,AV (AW hHm (qa _)) (AC _ _ _),AJ hHm AB⟩;refine qw (by simpa[AI.enc,Ax.enc,AF.flat,AK.flat]using k27) ?_;simp[go_sem,IO,AC,AS];exact⟨by omega,AV (AW hHm (qa _)) (AC _ _ _),AJ hHm AB⟩
   . refine qw (c23 c.rev c.next.id) ?_;simp[go_sem];refine qw (by simpa[AI.enc,Ax.enc,AF.flat,AK.flat]using k27) ?_;simp[go_sem,IO,AC,AS];exact⟨by omega,AV (AW hHm (qa _)) (AC _ _ _),AJ hHm AB⟩
 refine AT 0 (α:=Unit) (λ_=>[(4,.bool true)]) (λ_=>h) (λ_ m=>n<=m) (BX lh rfl (by kernel_rfl) (by kernel_rfl) ?_) (λ_ m hm=>?_);rw[hX];simp[go_sem,lh,AI.flat,AF.flat,AK.flat];refine qw (by simpa[AI.enc,AF.flat,AK.flat]using k21) ?_;simp[go_sem];refine qw (by simpa[AI.enc,AF.flat,AK.flat]using k17) ?_;simp[go_sem,IO,hm];refine AH ?_;simp[go_sem];exact As ho rfl rfl
end Go.Proofs.YtgakninlhfkkmaaGreat.Sh
namespace Go.Proofs.YtgakninlhfkkmaaGreat.splitRestores
open Go.ChangeShapes Go.WideShapes Go.ChangeAt Go.RowKit
open Go.Proofs.YtgakninlhfkkmaaGreat.Sh
set_option maxRecDepth 10000
theorem own : ownKnob Tryz.prog.godebug = none := by kernel_rfl
theorem contract (H : Type) (enc : TypeId × Value → H) (W : World) (base : Nat) (args : Array Value) (ds gs : List (DataW H)) (before : List MemPlace)
 (hval : ∀ (j : Nat) t v, Tryz.f9.params[j]? = some t → args[j]? = some v → Value.okWide Tryz.prog W .any base t v)
 (hW : DataW.Whole enc Tryz.prog Tryz.f9.params.toList Rows.splitRestoresSpec.vars false W args.toList ds gs before) (hk : Rows.uptoSmall H (ds ++ gs) = true) :
 Calls Tryz.prog 9 args W fun e W' => ∃ v, e = .returned v ∧ Rows.splitRestoresSpec.post enc Tryz.prog Tryz.f9 false true false false W args v W' := by
 have hW' := hW;obtain ⟨p, q, hA, hV, rfl, hfz, hnd⟩ := hW;rw [Tryz.params9] at hA hval;obtain ⟨v0, vs0, d0, ds0, p0, q0, hargs, rfl, rfl, ⟨n0, h0⟩, r0⟩ := trodAll_cons hA;obtain ⟨v1, vs1, d1, ds1, p1, q1, rfl, rfl, rfl, ⟨n1, h1⟩, r1⟩ := trodAll_cons r0;obtain ⟨rfl, rfl, rfl⟩ := trodAll_nil r1;obtain rfl : args = #[v0, v1] := by cases args; simp_all
 obtain ⟨rfl, rfl⟩ := trodVars_none hV;rw [jq] at hk;have hb : Rows.uptoBulkAll [d0, d1] ≤ 1048576 := of_decide_eq_true hk;simp only [Rows.uptoBulkAll] at hb;obtain ⟨d, a1, a2⟩ := (R7 n0).arg Tryz.underlying38 (hval 0 38 v0 rfl rfl) h0 (by unfold BB; dsimp only; omega);obtain ⟨c, b1, b2⟩ := (mA n1).arg Tryz.underlying44 (hval 1 44 v1 rfl rfl) h1 (by unfold BB; dsimp only; omega);have hBB : BB ≤ 1048576 := by unfold BB; exact qa _
 have hc := PC.calls (Sh.splitRestores d c hBB a2) (W := W) (vs := [v0, v1]) ⟨a1, b1, trivial⟩;refine Calls.mono hc ?_;rintro e W' ⟨u, c', rfl, rfl, hV, hE⟩;have hu : u = .bool true := by rw [V] at hV; exact hV
 subst hu;refine ⟨_, rfl, QT (x := .lit (.bool true)) hW' rfl (by rw [Tryz.params9]; exact of_decide_eq_true (by kernel_rfl)) hE.os hE.out (fun b hb => Rm hE hb) rfl (fun _ _ _ => trodAll_cons_mk (shut_bool Tryz.underlying4 _) trodAll_mk0) (ok_one (by kernel_rfl) rfl (okWide_bool_mk Tryz.underlying4 _))⟩
def zi : Value := .int .i64 0
def zl : Value := .slice none 0 0
def witD : Value := .agg #[zl, zl, zi, zi, zl, zl, zl, zl, zl, zl, zl]
def witC : Value := .agg #[zi, zi, zi, zi, zi, .string .empty, zi]
def li {H : Type} : DataW H := .lit (.int .i64 0)
set_option maxRecDepth 100000 in
theorem lifted (os : Os) (started : os.Started) (H : Type) (enc : TypeId × Value → H) (F : Stop.Interp) :
 ReturnsInHanded {} Tryz.checked os 9 .any ((Rows.OpenSpec.upto Rows.splitRestoresSpec).pre6 enc Tryz.prog Tryz.f9 Rows.splitRestoresUptoRow.domain false) (((Rows.OpenSpec.upto Rows.splitRestoresSpec).at F).post enc Tryz.prog Tryz.f9 false true false false) := by
 refine returnsInHanded_of_cond (C := Tryz.checked) (s := Rows.OpenSpec.upto Rows.splitRestoresSpec) (k := Rows.uptoSmall) rfl own started (by kernel_rfl) Tryz.func9
  (OpenSpec.witness (enc := enc) (C := Tryz.checked) (s := Rows.OpenSpec.upto Rows.splitRestoresSpec) (k := Rows.uptoSmall) rfl false ⟨#[], #[witD, witC], []⟩ 12 (by kernel_rfl) (by kernel_rfl) (by kernel_rfl)
    (x := ([.agg [.nil, .agg [.nil, .agg [li, li, .nil, .nil]], .nil, .agg [.nil, .nil, .nil, .nil]], .agg [li, .agg [li, li, li], .agg [li, .lit (.string []), li]]], [], [])) (by kernel_rfl) rfl (by kernel_rfl)) ?_
 intro W base args ds gs before hval hW _ hk _;exact contract H enc W base args ds gs before hval hW hk
theorem named : Tryz.checked.prog.funcNamed Rows.splitRestoresUptoRow.func = some 9 := by kernel_rfl
theorem inst : Tryz.f9.isInstance Tryz.checked.prog Rows.splitRestoresUptoRow.origin Rows.splitRestoresUptoRow.targs := of_decide_eq_true (by kernel_rfl)
theorem wrap : Tryz.f9.isWrapper Tryz.checked.prog Rows.splitRestoresUptoRow.wrapper Rows.splitRestoresUptoRow.mainSum := by unfold Func.isWrapper; first | (rw [if_pos (by decide +kernel)]; kernel_rfl) | (rw [if_neg (by decide +kernel)]; exact ⟨rfl, rfl⟩)
theorem proved : Rows.SplitRestoresUptoSaid :=
 OpenClaim.holds_of_cond 9 Tryz.f9 rfl rfl rfl rfl rfl rfl rfl ⟨rfl, rfl, rfl, rfl, rfl⟩ rfl rfl rfl rfl rfl named Tryz.func9 facts inst wrap
  (fun os started H enc _ F => lifted os started H enc F)
#print axioms proved
end Go.Proofs.YtgakninlhfkkmaaGreat.splitRestores
