/- A part of the proof (part 16 of 17). -/
import Derived.Test.YtgakninlhfkkmaaGreatM15
import Derived.Shelf.SlSortCmp.NoneTotal
namespace Go.Proofs.YtgakninlhfkkmaaGreat.Sh
open Proofs
set_option maxRecDepth 10000
def Yr:Tr:=.pure 0<|.pure 1<|.pure 2<|.pure 3<|.pure 4<|.pure 5<|.pure 6<|.pure 7<|.pure 8<|.pure 9<|.pure 10<|.pure 11<|.pure 12<|.pure 13<|.pure 14<|.pure 15 .nil
def Ys:Tr:=.pure 0<|.pure 1<|.pure 2<|.pure 3<|.pure 4<|.pure 5<|.pure 7<|.pure 8<|.pure 12<|.pure 13<|.one 6<|.pure 9<|.pure 10<|.one 11<|.pure 14<|.pure 15 .nil
def SZ:List SV:=[.imm 0 [] true,AA 0,AA 0,.imm 0 [] true,.imm 0 [] true]
set_option maxHeartbeats 4000000 in
theorem Zn (l:List Int) (hl:l.length<=1073741824) (L:List (Int×Int)) (hL:L.length<=1073741824) (x:AF) (hs:x.sized) (to:Int):PC 106 [x.enc,.imm 1 (l.map AA) false,AA to,.imm 2 (L.map B5) false] (.tup [(CP l L to x).1.enc,.bool (CP l L to x).2.1,.bool (CP l L to x).2.2]):=by
 intro h n;refine Db Tryz.func106 rfl λho=>?_;have hHb:=ho.lt;obtain⟨I,hI⟩:∃I:SV,I=.imm 1 (l.map AA) false:=⟨_,rfl⟩
 obtain⟨J,hJ⟩:∃J:SV,J=.imm 2 (L.map B5) false:=⟨_,rfl⟩
 have kI:=λy=>c52 l hl y;have kJ:=λy=>Z6 L hL y false;rw[<-hI]at kI ⊢;rw[<-hJ]at kJ ⊢;obtain⟨X,hX⟩:∃X:SV,X=.iptr x.flat:=⟨_,rfl⟩
 obtain⟨H,hH⟩:∃H:Hp,H=hset h (n+1) (some (.cells SZ)):=⟨_,rfl⟩
 have hHz:H (n+1)=some (.cells SZ):=by rw[hH,AC]
 have hHb2:∀j y,H j=some y->j<n+2:=λj y e=>by
  rw[hH]at e;simp only[hset]at e;split at e;omega;have:=hHb j y e;omega
 have hHk:∀j y,h j=some y->H j=some y:=λj y e=>by have:=hHb j y e;rw[hH,AD _ _ (by omega)];exact e
 refine BP 1 [(1,I),(2,AA to),(3,J),(4,X),(8,.ptr (n+1) 0)] H (λm=>n+2=m) ?_ (λm hm=>?_);rw[hX,hH];simp[go_sem,AF.enc,AF.flat,IO,SZ];refine⟨AV (by rw[AD _ _ (by omega)];exact ho.none (qa n)) (by simp[hset]),λj y=>?_⟩;have:=ho j y;simp only[hset];grind;subst hm;obtain⟨p,hp⟩:∃p,p=n+2:=⟨_,rfl⟩
 obtain⟨W,hW⟩:∃W:Int->Int->SV->SV->Hp,∀ins mv ds ys,W ins mv ds ys=hset H p (some (.cells [AA ins,AA mv,ds,ys])):=⟨_,λ_ _ _ _=>rfl⟩
 have hWp:∀ins mv ds ys,W ins mv ds ys p=some (.cells [AA ins,AA mv,ds,ys]):=λins mv ds ys=>by rw[hW,AC]
 have hWz:∀ins mv ds ys,W ins mv ds ys (n+1)=some (.cells SZ):=λins mv ds ys=>by rw[hW,AD _ _ (by omega)];exact hHz
 have hWs:∀ins mv ds ys ins' mv' ds' ys',hset (W ins mv ds ys) p (some (.cells [AA ins',AA mv',ds',ys']))=W ins' mv' ds' ys':=λ_ _ _ _ _ _ _ _=>by rw[hW,hW,AS]
 have hWb:∀ins mv ds ys j y,W ins mv ds ys j=some y->j<n+3:=λins mv ds ys j y e=>by
  rw[hW]at e;simp only[hset]at e;split at e;omega;have:=hHb2 j y e;omega
 have hWk:∀ins mv ds ys j y,H j=some y->W ins mv ds ys j=some y:=λins mv ds ys j y e=>by have:=hHb2 j y e;rw[hW,AD _ _ (by omega)];exact e
 refine BP 0 [(1,I),(2,AA to),(3,J),(4,X),(8,.ptr (n+1) 0),(11,.ptr p 0)] (W x.ins x.move (AP x.dels) (AL x.layers)) (λm=>n+3<=m) ?_ (λm hm=>?_);rw[hX,hW,hp];simp[go_sem,AF.flat,IO,AC,AS];obtain⟨own,hown⟩:∃own,own=decide (x.ins∈l):=⟨_,rfl⟩
 refine BP 0 [(1,I),(2,AA to),(3,J),(4,X),(8,.ptr (n+1) 0),(11,.ptr p 0),(12,.bool own)] (W x.ins x.move (AP x.dels) (AL x.layers)) (λm=>n+3<=m) ?_ (λm hm=>?_);simp[go_sem,hWp];refine qw (kI x.ins) ?_;rw[<-hown];simp[go_sem,IO,hm];refine BP 0 [(1,I),(2,AA to),(3,J),(4,X),(8,.ptr (n+1) 0),(11,.ptr p 0),(12,.bool own),(13,.bool (own&&(x.move !=0)))] (W x.ins x.move (AP x.dels) (AL x.layers)) (λm=>n+3<=m) ?_ (λm hm=>?_);cases own with
 | false=>simp[go_sem,IO,hm]
 | true=>simp[go_sem,hWp,IO,hm]
 refine BP 0 [(1,I),(2,AA to),(3,J),(4,X),(8,.ptr (n+1) 0),(11,.ptr p 0),(12,.bool own),(13,.bool (own&&(x.move !=0))),(14,.imm 0 [] true),(15,.imm 0 [] true)] (W x.ins x.move (AP x.dels) (AL x.layers)) (λm=>n+3<=m) ?_ (λm hm=>?_);simp[go_sem,IO,hm];obtain⟨Wx,hWx⟩:∃Wx:Hp,Wx=W x.ins x.move (AP x.dels) (AL x.layers):=⟨_,rfl⟩
 have hXp:Wx p=some (.cells [AA x.ins,AA x.move,AP x.dels,AL x.layers]):=by rw[hWx];exact hWp _ _ _ _
 have hXb:∀j y,Wx j=some y->j<n+3:=λj y e=>by rw[hWx]at e;exact hWb _ _ _ _ j y e
 rw[<-hWx];obtain⟨S,hS⟩:∃S:Nat->List Az×List Az×Bool,∀i,S i=(x.dels.take i).foldl (G4 l L to) ([],[],own&&(x.move !=0)):=⟨_,λ_=>rfl⟩
 have hS0:S 0=([],[],own&&(x.move !=0)):=by rw[hS];rfl
 have hSs:∀i d,(h:i<x.dels.length)->x.dels[i]=d->S (i+1)=G4 l L to (S i) d:=λi d h hd=>by rw[hS,hS,DE _ _ _ _ _ h hd]
 have hSl:S x.dels.length=Fv l L to x:=by rw[hS,qi,hown];rfl
 have hSn:∀i,(S i).1.length+(S i).2.1.length<=i:=λi=>by
  rw[hS];have h1:=Mz l L to (x.dels.take i) ([],[],own&&(x.move !=0));have h2:(x.dels.take i).length<=i:=ki _ _;simp at h1;omega
 have hdl:=hs.dels;clear hS;refine AT 1 (α:=Option Nat) (λo=>[(1,I),(2,AA to),(3,J),(4,X),(8,.ptr (n+1) 0),(11,.ptr p 0),(12,.bool own),(13,.bool (S x.dels.length).2.2),(14,AM 2 o ((S x.dels.length).1.map Az.enc)),(15,AP (S x.dels.length).2.1)]) (λo=>AN o ((S x.dels.length).1.map Az.enc) Wx) (λo m=>n+3<=m/\Ar (n+3) m 2 o ((S x.dels.length).1.map Az.enc)) ?_ (λo m hm=>?_);refine BP 0 [(1,I),(2,AA to),(3,J),(4,X),(8,.ptr (n+1) 0),(11,.ptr p 0),(12,.bool own),(13,.bool (own&&(x.move !=0))),(14,.imm 0 [] true),(15,.imm 0 [] true),(16,AA 0)] Wx (λm=>n+3<=m) ?_ (λm hm=>?_);simp[go_sem,IO,hm];refine AR (BG 0 (α:=Nat×Option Nat×Option Nat) (λq=>[(1,I),(2,AA to),(3,J),(4,X),(8,.ptr (n+1) 0),(11,.ptr p 0),(12,.bool own),(13,.bool (S q.1).2.2),(14,AM 2 q.2.1 ((S q.1).1.map Az.enc)),(15,AM 2 q.2.2 ((S q.1).2.1.map Az.enc)),(16,AA q.1)])
  (λq=>AN q.2.2 ((S q.1).2.1.map Az.enc) (AN q.2.1 ((S q.1).1.map Az.enc) Wx)) (λq m=>q.1<=x.dels.length/\n+3<=m/\Ar (n+3) m 2 q.2.1 ((S q.1).1.map Az.enc)/\Ar (n+3) m 2 q.2.2 ((S q.1).2.1.map Az.enc)/\∀j,q.2.1=some j->q.2.2≠some j) (λq=>x.dels.length-q.1) (0,none,none) ⟨by omega,hm,by simp only[hS0];exact jK _ _ _,by simp only[hS0];exact jK _ _ _,by simp⟩ ?_ ?_ ?_)
 simp[Ai,hS0,AM,IO];simp only[hS0];exact AB;clear hm m;rintro⟨i,o1,o2⟩ m ⟨hi,hm,hA1,hA2,hd⟩;dsimp only at hi hA1 hA2 hd ⊢;have hnn:=hSn i;obtain⟨E1,hE1⟩:∃E1,E1=(S i).1.map Az.enc:=⟨_,rfl⟩
 obtain⟨E2,hE2⟩:∃E2,E2=(S i).2.1.map Az.enc:=⟨_,rfl⟩
 have l1:E1.length=(S i).1.length:=by rw[hE1,qd]
 have l2:E2.length=(S i).2.1.length:=by rw[hE2,qd]
 rw[<-hE1]at hA1 ⊢;rw[<-hE2]at hA2 ⊢;obtain⟨Y,hY⟩:∃Y:Hp,Y=AN o2 E2 (AN o1 E1 Wx):=⟨_,rfl⟩
 have hYb:∀j y,Y j=some y->j<m:=by
  rw[hY];exact λj y e=>by
   cases o2 with
   | none=>exact Dm hXb hm hA1 j y e
   | some k=>
    simp only[AN,hset]at e;split at e;have:=(hA2.lt k rfl).2;omega;exact Dm hXb hm hA1 j y e
 have hYp:Y p=some (.cells [AA x.ins,AA x.move,AP x.dels,AL x.layers]):=by
  rw[hY];cases o2 with
  | none=>exact Be hXb hA1 _ _ hXp
  | some k=>have:=(hA2.lt k rfl).1;simp only[AN];rw[AD _ _ (by omega)];exact Be hXb hA1 _ _ hXp
 rw[<-hY];by_cases hlt:i<x.dels.length;have w1:=wS i (by omega);obtain⟨d,hd'⟩:∃d,x.dels[i]=d:=⟨_,rfl⟩
 have hst:=hSs i d hlt hd';refine Ea 0 [(1,I),(2,AA to),(3,J),(4,X),(8,.ptr (n+1) 0),(11,.ptr p 0),(12,.bool own),(13,.bool (S i).2.2),(14,AM 2 o1 E1),(15,AM 2 o2 E2),(16,AA i)] Y m (AH ?_) (λm' hm'=>?_);simp[go_sem,hYp,hlt,IO];subst hm';refine AT 0 (α:=Option Nat×Option Nat) (λq=>[(1,I),(2,AA to),(3,J),(4,X),(8,.ptr (n+1) 0),(11,.ptr p 0),(12,.bool own),(13,.bool (S (i+1)).2.2),(14,AM 2 q.1 ((S (i+1)).1.map Az.enc)),(15,AM 2 q.2 ((S (i+1)).2.1.map Az.enc)),(16,AA i)]) (λq=>AN q.2 ((S (i+1)).2.1.map Az.enc) (AN q.1 ((S (i+1)).1.map Az.enc) Wx))
  (λq m'=>m<=m'/\Ar (n+3) m' 2 q.1 ((S (i+1)).1.map Az.enc)/\Ar (n+3) m' 2 q.2 ((S (i+1)).2.1.map Az.enc)/\∀j,q.1=some j->q.2≠some j) (AR ?_) (λq m' hm'=>?_)
 refine AY 1 [(1,I),(2,AA to),(3,J),(4,X),(8,.ptr (n+1) 0),(11,.ptr p 0),(12,.bool own),(13,.bool (S i).2.2),(14,AM 2 o1 E1),(15,AM 2 o2 E2),(16,AA i),(17,.iptr [AA d.rev,AA d.move])] Y m ?_ (λm1 hm1=>?_);simp[go_sem,hYp,hlt,hd',Az.enc,IO,AC,AS];exact⟨AV (AW hYb (qa _)) (AC _ _ _),AJ hYb AB⟩;by_cases hin:d.rev∈l;have hst1:S (i+1)=((S i).1,(S i).2.1++[⟨to,E4 L (d.rev,d.move) 0⟩],(S i).2.2||(d.move !=0)):=by rw[hst,G4,if_pos hin]
 simp only[hst1,qc,<-hE1,<-hE2,qu,qS];refine Bc 0 [(1,I),(2,AA to),(3,J),(4,X),(8,.ptr (n+1) 0),(11,.ptr p 0),(12,.bool own),(13,.bool (S i).2.2),(14,AM 2 o1 E1),(15,AM 2 o2 E2),(16,AA i),(17,.iptr [AA d.rev,AA d.move])] Y m (AH ?_) (λm2 hm2=>?_);simp[go_sem];refine qw (kI d.rev) ?_;simp[go_sem,hin,IO,hm1];refine AY 0 [(1,I),(2,AA to),(3,J),(4,X),(8,.ptr (n+1) 0),(11,.ptr p 0),(12,.bool own),(13,.bool ((S i).2.2||(d.move !=0))),(14,AM 2 o1 E1),(15,AM 2 o2 E2),(16,AA i),(17,.iptr [AA d.rev,AA d.move])] Y m ?_ (λm3 hm3=>?_);cases hb:(S i).2.2 with
 | false=>simp[go_sem,IO,hm2]
 | true=>simp[go_sem,IO,hm2]
 obtain⟨e,he⟩:∃e:Az,e=⟨to,E4 L (d.rev,d.move) 0⟩:=⟨_,rfl⟩
 rw[<-he];refine AH ?_;simp[go_sem];refine qw (kJ (d.rev,d.move)) ?_;simp[go_sem];have hce:[AA to,AA (E4 L (d.rev,d.move) 0)]=e.enc.cells:=by rw[he];rfl
 have h4:hset Y m3 (some (.cells [AA to,AA (E4 L (d.rev,d.move) 0)])) m3=some (.cells e.enc.cells):=by rw[AC,hce]
 have h3:∀j w,Y j=some w->hset Y m3 (some (.cells [AA to,AA (E4 L (d.rev,d.move) 0)])) j=some w:=λj w e=>by have:=hYb j w e;rw[AD _ _ (by omega)];exact e
 have hd2:∀j,o2=some j->o1≠some j:=λj e1 e2=>hd j e2 e1;obtain⟨t1,t2,t3⟩:=Pt (r:=m3+1) (X:=hset Y m3 (some (.cells [AA to,AA (E4 L (d.rev,d.move) 0)]))) (e:=e.enc) (v:=.sl (m3+1) 0 2 (E2.length+1) false) hA2 hA1 hd2 hXb hm (by omega) (by rw[Gu hd2,<-hY];exact h3);have b1:=Dp (P:=Tryz.prog) (es:=E2) (e:=e.enc) (o:=o2) (t:=24) (t2:=24) (el:=166) (z:=2) (by simp[go_sem]) (by simp[go_sem]) (by simp[go_sem]) (by simp) (by simp[go_sem]) (by simp[go_sem]) (by simp[go_sem]) (by omega) hA2 rfl h4 t1 (m3+1);have b2:=hA2.push (j:=m3+1) (m':=m3+1+1) (e:=e.enc) (by rfl) (by rfl) (by omega) (by omega);rw[b1];have hvv:AM 2 (some (m3+1)) (E2++[e.enc])=.sl (m3+1) 0 2 (E2.length+1) false:=by simp[AM]
 refine⟨o1,some (m3+1),⟨by simp;omega,by simpa using hA1.mono (by omega),by simpa using b2,λj e1 e2=>t2 j e2 e1⟩,⟨IO,by rw[hvv];exact IO⟩,by rw[Gu (λj e1 e2=>t2 j e2 e1)];exact t3⟩;have hst1:S (i+1)=((S i).1++[d],(S i).2.1,(S i).2.2):=by rw[hst,G4,if_neg hin]
 simp only[hst1,qc,<-hE1,<-hE2,qu,qS];refine AH ?_;simp[go_sem];refine qw (kI d.rev) ?_;simp[go_sem,hin];have h4:hset Y m1 (some (.cells [AA d.rev,AA d.move])) m1=some (.cells d.enc.cells):=by simp[AC,Az.enc,SV.cells]
 have h3:∀j w,Y j=some w->hset Y m1 (some (.cells [AA d.rev,AA d.move])) j=some w:=λj w e=>by have:=hYb j w e;rw[AD _ _ (by omega)];exact e
 obtain⟨t1,t2,t3⟩:=Pt (r:=m1+1) (X:=hset Y m1 (some (.cells [AA d.rev,AA d.move]))) (e:=d.enc) (v:=.sl (m1+1) 0 2 (E1.length+1) false) hA1 hA2 hd hXb hm (by omega) (by rw[<-hY];exact h3);have b1:=Dp (P:=Tryz.prog) (es:=E1) (e:=d.enc) (o:=o1) (t:=24) (t2:=24) (el:=166) (z:=2) (by simp[go_sem]) (by simp[go_sem]) (by simp[go_sem]) (by simp) (by simp[go_sem]) (by simp[go_sem]) (by simp[go_sem]) (by omega) hA1 rfl h4 t1 (m1+1);have b2:=hA1.push (j:=m1+1) (m':=m1+1+1) (e:=d.enc) (by rfl) (by rfl) (by omega) (by omega);rw[b1];have hvv:AM 2 (some (m1+1)) (E1++[d.enc])=.sl (m1+1) 0 2 (E1.length+1) false:=by simp[AM]
 refine⟨some (m1+1),o2,⟨by simp;omega,by simpa using b2,by simpa using hA2.mono (by omega),t2⟩,⟨by rw[hvv];exact IO,IO⟩,t3⟩;obtain⟨q1,q2⟩:=q;refine AH ?_;simp[go_sem,w1,IO,-Int.natCast_add];exact⟨i+1,by omega,q1,q2,⟨by omega,by omega,hm'.2.1,hm'.2.2.1,hm'.2.2.2⟩,⟨IO,IO,IO,IO⟩,AB⟩;have:i=x.dels.length:=by omega
 subst this;refine AH ?_;simp[go_sem,hYp];rw[<-hE1];have hno:∀k,o2=some k->AN o1 E1 Wx k=none:=λk hk=>by
  have h1:=hA2.lt k hk;have h2:Wx k=none:=AW hXb h1.1;cases o1 with
  | none=>exact h2
  | some j=>simp only[AN];rw[AD _ _ (λg=>hd j rfl (by rw[hk,g]))];exact h2
 refine⟨o1,⟨hm,hA1⟩,⟨IO,?_⟩,?_⟩;rw[show AP (S x.dels.length).2.1=.imm 2 E2 false by rw[hE2]];cases o2 with
 | none=>rw[hA2.none rfl];exact BC (by simp)
 | some j=>exact DV (h':=Y) (h:=AN o1 E1 Wx) (k:=0) (z:=2) (o:=j) (full:=false) (full':=false) (es:=E2) (hno j rfl) (by simp) (by rw[hY];exact Cu j rfl) hA2.size
 rw[hY];intro j y e;cases o2 with
 | none=>exact e
 | some k=>
  have hk:=hno k rfl;simp only[AN]at e hk ⊢;rw[AD _ _ (λg=>by rw[g]at e;rw[hk]at e;cases e)];exact e
 obtain⟨hm,hA⟩:=hm;obtain⟨T,hT⟩:∃T,T=Fv l L to x:=⟨_,rfl⟩
 have hTn:=hSn x.dels.length;rw[hSl,<-hT]at hA hTn ⊢;obtain⟨ins,hins⟩:∃ins,ins=if own then to else x.ins:=⟨_,rfl⟩
 obtain⟨mv,hmv⟩:∃mv,mv=if own then E4 L (x.ins,x.move) 0 else x.move:=⟨_,rfl⟩
 obtain⟨K,hK⟩:∃K,K=T.1.map Az.enc:=⟨_,rfl⟩
 rw[<-hK]at hA ⊢;have hKl:K.length=T.1.length:=by rw[hK,qd]
 have hAp:∀ins mv ds ys,AN o K (W ins mv ds ys) p=some (.cells [AA ins,AA mv,ds,ys]):=λins mv ds ys=>Be (hWb _ _ _ _) hA _ _ (hWp _ _ _ _);have hAs:∀ins mv ds ys ins' mv' ds' ys',hset (AN o K (W ins mv ds ys)) p (some (.cells [AA ins',AA mv',ds',ys']))=AN o K (W ins' mv' ds' ys'):=λins mv ds ys ins' mv' ds' ys'=>by
  cases o with
  | none=>exact hWs _ _ _ _ _ _ _ _
  | some j=>
   have:=(hA.lt j rfl).1;simp only[AN];rw[<-hWs ins mv ds ys ins' mv' ds' ys'];funext q;simp only[hset];by_cases h1:q=p;have:¬q=j:=by omega
   simp[h1];omega;simp[h1]
 rw[hWx];refine Bc 0 [(1,I),(2,AA to),(3,J),(4,X),(8,.ptr (n+1) 0),(11,.ptr p 0),(12,.bool own),(13,.bool T.2.2),(14,AM 2 o K),(15,AP T.2.1)] (AN o K (W ins mv (AP x.dels) (AL x.layers))) m (AH ?_) (λm1 hm1=>?_);cases ho1:own with
 | false=>
  rw[ho1]at hins hmv;simp[go_sem,IO,hins,hmv]
 | true=>
  rw[ho1]at hins hmv;simp[go_sem,hAp];refine qw (kJ (x.ins,x.move)) ?_;rw[if_pos rfl]at hins hmv;simp[go_sem,hAp,hAs,IO,hins,hmv]
 obtain⟨sv,hsv⟩:∃sv,sv=(decide (1<T.2.1.length)||(own&&decide (0<T.2.1.length))):=⟨_,rfl⟩
 refine AY 0 [(1,I),(2,AA to),(3,J),(4,X),(8,.ptr (n+1) 0),(11,.ptr p 0),(12,.bool own),(13,.bool T.2.2),(14,AM 2 o K),(15,AP T.2.1),(18,.bool sv)] (AN o K (W ins mv (AP x.dels) (AL x.layers))) m ?_ (λm2 hm2=>?_);have e1:(1:Int)<(T.2.1.length:Int)↔1<T.2.1.length:=by omega
 have e2:(0:Int)<(T.2.1.length:Int)↔0<T.2.1.length:=by omega
 by_cases c1:1<T.2.1.length;have c1':=e1.2 c1;simp[go_sem,c1,c1',hsv,IO,hm1];have c1':¬(1:Int)<(T.2.1.length:Int):=λg=>c1 (e1.1 g);have e3:T.2.1.length<=1:=by omega
 have e3':((T.2.1.length:Nat):Int)<=1:=by omega
 cases ho1:own with
 | false=>
  have d1:decide (1<T.2.1.length)=false:=by simpa using c1
  simp[go_sem,c1',hsv,d1,IO,hm1,ho1]
 | true=>
  by_cases c2:0<T.2.1.length;have c2':=e2.2 c2;simp[go_sem,c1',c2,hsv,IO,hm1,ho1];have c2':¬(0:Int)<(T.2.1.length:Int):=λg=>c2 (e2.1 g);have e4:T.2.1=[]:=jQ.1 (by omega);simp[go_sem,e4,hsv,IO,hm1,ho1]
 obtain⟨M,hM⟩:∃M,M=Ld l L to x:=⟨_,rfl⟩
 have hMe:M=T.1++T.2.1.take 1:=by rw[hM,hT];rfl
 have hMn:M.length<=1048576:=by
  rw[hMe];simp;have:=hTn;omega
 refine Bo 1 [(1,I),(2,AA to),(4,X),(8,.ptr (n+1) 0),(11,.ptr p 0),(12,.bool own),(13,.bool T.2.2),(14,AP M),(15,AP T.2.1),(18,.bool sv)] (W ins mv (AP x.dels) (AL x.layers)) (λm=>n+3<=m) (AH ?_) (λm3 hm3=>?_);cases hc:T.2.1 with
 | nil=>
  have hMk:AP M=.imm 2 K false:=by rw[hMe,hc,hK];simp[AP]
  rw[hMk];simp[go_sem,IO];exact⟨by omega,vb (λj hj=>AW (hWb _ _ _ _) hj) hA AB,Be (hWb _ _ _ _) hA⟩
 | cons e es=>
  have hMk:AP M=.imm 2 (K++[e.enc]) false:=by rw[hMe,hc,hK];simp[AP]
  rw[hMk];simp[go_sem,Az.enc];have hXb:=Dm (hWb ins mv (AP x.dels) (AL x.layers)) (show n+3<=m2 by omega) (hA.mono hm2);obtain⟨V,hV⟩:∃V:Hp,V=AN o K (W ins mv (AP x.dels) (AL x.layers)):=⟨_,rfl⟩
  rw[<-hV]at hXb ⊢;have h4:hset V m2 (some (.cells [AA e.rev,AA e.move])) m2=some (.cells e.enc.cells):=by simp[AC,Az.enc,SV.cells]
  have h3:∀j w,V j=some w->hset V m2 (some (.cells [AA e.rev,AA e.move])) j=some w:=λj w e=>by have:=hXb j w e;rw[AD _ _ (by omega)];exact e
  have b1:=Dp (P:=Tryz.prog) (es:=K) (e:=e.enc) (o:=o) (t:=24) (t2:=24) (el:=166) (z:=2) (by simp[go_sem]) (by simp[go_sem]) (by simp[go_sem]) (by simp) (by simp[go_sem]) (by simp[go_sem]) (by simp[go_sem]) (by omega) (hA.mono hm2) rfl h4 (λj e=>h3 j _ (by rw[hV];exact Cu j e)) (m2+1);have b4:=CY (p:=m2+1) (v:=.sl (m2+1) 0 2 (K.length+1) false) (e:=e.enc) (hWb ins mv (AP x.dels) (AL x.layers)) (by omega) (hA.mono hm2) (H:=hset V m2 (some (.cells [AA e.rev,AA e.move]))) (λj w e=>h3 j w (by rw[hV];exact Be (hWb _ _ _ _) hA j w e));have b2:=(hA.mono hm2).push (j:=m2+1) (m':=m2+1+1) (e:=e.enc) (by rfl) (by rfl) (by omega) (by omega);rw[b1];have hvv:AM 2 (some (m2+1)) (K++[e.enc])=.sl (m2+1) 0 2 (K.length+1) false:=by simp[AM]
  have b5:=vb (k:=0) (λj hj=>AW (hWb ins mv (AP x.dels) (AL x.layers)) hj) b2 b4;rw[hvv]at b5;exact⟨by simp;omega,b5,λj y e=>b4 j y (Be (hWb ins mv (AP x.dels) (AL x.layers)) b2 j y e)⟩
 refine BP 0 [(1,I),(2,AA to),(4,X),(8,.ptr (n+1) 0),(11,.ptr p 0),(12,.bool own),(13,.bool T.2.2),(15,AP T.2.1),(18,.bool sv)] (W ins mv (AP (Cc M)) (AL x.layers)) (λm=>n+3<=m) ?_ (λm4 hm4=>?_);simp[go_sem];refine qw (Zs M hMn) ?_;simp[go_sem,hWp,hWs,IO,hm3];refine BP 0 [(1,I),(2,AA to),(4,X),(8,.ptr (n+1) 0),(11,.ptr p 0),(12,.bool own),(13,.bool T.2.2),(15,AP T.2.1),(18,.bool sv),(19,.imm 0 [] true)] (W ins mv (AP (Cc M)) (AL x.layers)) (λm=>n+3<=m) ?_ (λm5 hm5=>?_);simp[go_sem,IO,hm4];refine BP 0 [(1,I),(2,AA to),(4,X),(8,.ptr (n+1) 0),(11,.ptr p 0),(12,.bool own),(13,.bool T.2.2),(15,AP T.2.1),(18,.bool sv),(19,.imm 0 [] true),(20,.bool false)] (W ins mv (AP (Cc M)) (AL x.layers)) (λm=>n+3<=m) ?_ (λm6 hm6=>?_);simp[go_sem,IO,hm5];obtain⟨Z,hZ⟩:∃Z:Hp,Z=W ins mv (AP (Cc M)) (AL x.layers):=⟨_,rfl⟩
 have hZp:Z p=some (.cells [AA ins,AA mv,AP (Cc M),AL x.layers]):=by rw[hZ];exact hWp _ _ _ _
 have hZb:∀j y,Z j=some y->j<n+3:=λj y e=>by rw[hZ]at e;exact hWb _ _ _ _ j y e
 have hYn:=M6 l to x.layers;have hly:=hs.layers;rw[<-hZ];refine Bo 1 [(4,X),(8,.ptr (n+1) 0),(11,.ptr p 0),(12,.bool own),(13,.bool T.2.2),(15,AP T.2.1),(18,.bool sv),(19,AL (Cj l to x.layers x.layers.length).1)] Z (λm=>n+3<=m) ?_ (λm7 hm7=>?_);refine BP 0 [(1,I),(2,AA to),(4,X),(8,.ptr (n+1) 0),(11,.ptr p 0),(12,.bool own),(13,.bool T.2.2),(15,AP T.2.1),(18,.bool sv),(19,.imm 0 [] true),(20,.bool false),(21,AA 0)] Z (λm=>n+3<=m) ?_ (λm hm=>?_);simp[go_sem,IO,hm6];refine AR (BG 0 (α:=Nat×Option Nat) (λq=>[(1,I),(2,AA to),(4,X),(8,.ptr (n+1) 0),(11,.ptr p 0),(12,.bool own),(13,.bool T.2.2),(15,AP T.2.1),(18,.bool sv),(19,AM 4 q.2 ((Cj l to x.layers q.1).1.map Am.enc)),(20,.bool (Cj l to x.layers q.1).2),(21,AA q.1)])
  (λq=>AN q.2 ((Cj l to x.layers q.1).1.map Am.enc) Z) (λq m=>q.1<=x.layers.length/\n+3<=m/\Ar (n+3) m 4 q.2 ((Cj l to x.layers q.1).1.map Am.enc)) (λq=>x.layers.length-q.1) (0,none) ⟨by omega,hm,jK _ _ _⟩ ?_ ?_ ?_)
 simp[Ai,AM,Cj,IO];exact AB;clear hm m;rintro⟨i,o⟩ m ⟨hi,hm,hA⟩;dsimp only at hi hA ⊢;have hEn:((Cj l to x.layers i).1.map Am.enc).length<=i:=by rw[qd];exact hYn i
 by_cases hlt:i<x.layers.length;have w1:=wS i (by omega);have w2:0<i->IntKind.i64.wrap ((i:Int)-1)=((i-1:Nat):Int):=λ_=>by rw[Cl]<;>omega
 obtain⟨y,hy⟩:∃y,x.layers[i]=y:=⟨_,rfl⟩
 obtain⟨b,hb⟩:∃b:Bool,b=(Cj l to x.layers i).2:=⟨_,rfl⟩
 obtain⟨c,hc⟩:∃c:Bool,c=(decide (y.rev∈l)&&b&&decide (∀z,x.layers[i-1]? = some z->z.key=y.key)):=⟨_,rfl⟩
 have hst:Cj l to x.layers (i+1)=if c then Cj l to x.layers i else((Cj l to x.layers i).1++[J8 l to y],decide (y.rev∈l)):=by
  rw[Cj,qf hlt,hy,hc,hb]
 have hbi:b=true->0<i:=λg=>by
  rcases Nat.eq_zero_or_pos i with e|e;rw[hb,e]at g;cases g;exact e
 generalize hSi:(Cj l to x.layers i).1.map Am.enc=E at hA hEn ⊢;rw[<-hb];have hXb:∀j y,AN o E Z j=some y->j<m:=Dm hZb hm hA;have hXn:AN o E Z p=some (.cells [AA ins,AA mv,AP (Cc M),AL x.layers]):=Be hZb hA _ _ hZp;generalize hX2:AN o E Z=V at hXb hXn ⊢;refine Ea 0 [(1,I),(2,AA to),(4,X),(8,.ptr (n+1) 0),(11,.ptr p 0),(12,.bool own),(13,.bool T.2.2),(15,AP T.2.1),(18,.bool sv),(19,AM 4 o E),(20,.bool b),(21,AA i)] V m (AH ?_) (λm' hm'=>?_);simp[go_sem,hXn,hlt,IO];subst hm';refine AT 0 (α:=Option Nat) (λo=>[(1,I),(2,AA to),(4,X),(8,.ptr (n+1) 0),(11,.ptr p 0),(12,.bool own),(13,.bool T.2.2),(15,AP T.2.1),(18,.bool sv),(19,AM 4 o ((Cj l to x.layers (i+1)).1.map Am.enc)),(20,.bool (Cj l to x.layers (i+1)).2),(21,AA i)]) (λo=>AN o ((Cj l to x.layers (i+1)).1.map Am.enc) Z)
  (λo m=>n+3<=m/\Ar (n+3) m 4 o ((Cj l to x.layers (i+1)).1.map Am.enc)) (AR ?_) (λo m hm=>?_)
 refine BP 0 [(1,I),(2,AA to),(4,X),(8,.ptr (n+1) 0),(11,.ptr p 0),(12,.bool own),(13,.bool T.2.2),(15,AP T.2.1),(18,.bool sv),(19,AM 4 o E),(20,.bool b),(21,AA i),(22,.ptr m 0)] (hset V m (some (.cells [AA y.rev,AA y.key,AA y.before,.bool y.had]))) (λm'=>m+1=m') ?_ (λm1 hm1=>?_);simp[go_sem,hXn,hlt,hy,Am.enc,IO,AC,AS];subst hm1;obtain⟨g,hg⟩:∃g,g=decide (y.rev∈l):=⟨_,rfl⟩
 rw[<-hg]at hc hst;refine BP 0 [(1,I),(2,AA to),(4,X),(8,.ptr (n+1) 0),(11,.ptr p 0),(12,.bool own),(13,.bool T.2.2),(15,AP T.2.1),(18,.bool sv),(19,AM 4 o E),(20,.bool b),(21,AA i),(22,.ptr m 0),(23,.bool g)] (hset V m (some (.cells [AA y.rev,AA y.key,AA y.before,.bool y.had]))) (λm'=>m+1<=m') ?_ (λm1 hm1=>?_);simp[go_sem,AC];refine qw (kI y.rev) ?_;rw[<-hg];simp[go_sem,IO];obtain⟨y2,hy2⟩:∃y2,y2=J8 l to y:=⟨_,rfl⟩
 have hy2':y2=if g then { y with rev:=to } else y:=by rw[hy2,hg];unfold J8;simp
 have hyk:y2.key=y.key:=by rw[hy2'];split<;>rfl
 rw[<-hy2]at hst;refine Bo 1 [(1,I),(2,AA to),(4,X),(8,.ptr (n+1) 0),(11,.ptr p 0),(12,.bool own),(13,.bool T.2.2),(15,AP T.2.1),(18,.bool sv),(19,AM 4 o E),(20,.bool b),(21,AA i),(22,.iptr [AA y2.rev,AA y2.key,AA y2.before,.bool y2.had]),(23,.bool g)] V (λm'=>m+1<=m') (AH ?_) (λm2 hm2=>?_);cases hg1:g with
 | false=>
  rw[hg1]at hy2';simp[go_sem,hy2',IO,hm1];exact⟨AV (AW hXb (qa _)) (AC _ _ _),AJ hXb AB⟩
 | true=>
  rw[hg1]at hy2';simp[go_sem,AC,AS,hy2',IO,hm1];exact⟨AV (AW hXb (qa _)) (AC _ _ _),AJ hXb AB⟩
 refine GI ?_;refine Bo 0 [(1,I),(2,AA to),(4,X),(8,.ptr (n+1) 0),(11,.ptr p 0),(12,.bool own),(13,.bool T.2.2),(15,AP T.2.1),(18,.bool sv),(19,AM 4 o E),(20,.bool b),(21,AA i),(22,.iptr [AA y2.rev,AA y2.key,AA y2.before,.bool y2.had]),(23,.bool g),(141,.bool c)] V (λm'=>m+1<=m') ?_ (λm3 hm3=>?_);by_cases hgb:g=true/\b=true;obtain⟨g1,b1⟩:=hgb;have i1:=hbi b1;have i2:=w2 i1;obtain⟨z,hz⟩:∃z,x.layers[i-1]=z:=⟨_,rfl⟩
 have hz':x.layers[i-1]? = some z:=by rw[qf (by omega),hz]
 have hzl:i-1<x.layers.length:=by omega
 have hc0:c=decide (z.key=y2.key):=by rw[hc,hz',g1,b1,hyk];simp
 refine BX Ys rfl (by kernel_rfl) (by kernel_rfl) ?_;simp[go_sem,Ys,g1,b1,hXn,i2,hzl,hz,Am.enc,IO,hm2];rw[hc0];exact IO;have hc0:c=false:=by
  rw[hc];cases g<;>cases b<;>simp at hgb ⊢
 refine BX Yr rfl (by kernel_rfl) (by kernel_rfl) ?_;rw[hc0];cases g<;>cases b<;>simp[go_sem,Yr,IO,hm2]at hgb ⊢;cases hcb:c with
 | true=>
  have hst1:Cj l to x.layers (i+1)=Cj l to x.layers i:=by rw[hst,hcb,if_pos rfl]
  simp only[hst1,hSi];refine Ah (b:=true) (by simp[go_sem]) (AH ?_);simp[go_sem,IO,<-hb];exact⟨o,⟨by omega,hA.mono (by omega)⟩,IO,by rw[hX2];exact AB⟩
 | false=>
  have hst1:Cj l to x.layers (i+1)=((Cj l to x.layers i).1++[y2],g):=by rw[hst,hcb];rfl
  simp only[hst1,qc,hSi,qu,qS];refine Ah (b:=false) (by simp[go_sem]) ?_;simp only[qj,if_false];refine Gv ?_;rw[FB];refine AH ?_;simp[go_sem];have h4:hset V m3 (some (.cells [AA y2.rev,AA y2.key,AA y2.before,.bool y2.had])) m3=some (.cells y2.enc.cells):=by simp[AC,Am.enc,SV.cells]
  have h3:∀j w,V j=some w->hset V m3 (some (.cells [AA y2.rev,AA y2.key,AA y2.before,.bool y2.had])) j=some w:=λj w e=>by have:=hXb j w e;rw[AD _ _ (by omega)];exact e
  have b1:=Dp (P:=Tryz.prog) (es:=E) (e:=y2.enc) (o:=o) (t:=25) (t2:=25) (el:=164) (z:=4) (by simp[go_sem]) (by simp[go_sem]) (by simp[go_sem]) (by simp) (by simp[go_sem]) (by simp[go_sem]) (by simp[go_sem]) (by omega) hA rfl h4 (λj e=>h3 j _ (by rw[<-hX2];exact Cu j e)) (m3+1);have b4:=CY (p:=m3+1) (v:=.sl (m3+1) 0 4 (E.length+1) false) (e:=y2.enc) hZb (by omega) hA (H:=hset V m3 (some (.cells [AA y2.rev,AA y2.key,AA y2.before,.bool y2.had]))) (λj w e=>h3 j w (by rw[<-hX2];exact Be hZb hA j w e));have b2:=hA.push (j:=m3+1) (m':=m3+1+1) (e:=y2.enc) (by rfl) (by rfl) (by omega) (by omega);rw[b1];have hvv:AM 4 (some (m3+1)) (E++[y2.enc])=.sl (m3+1) 0 4 (E.length+1) false:=by simp[AM]
  refine⟨some (m3+1),⟨by simp;omega,by simpa using b2⟩,by rw[hvv];exact IO,b4⟩
 refine AH ?_;simp[go_sem,w1,IO,-Int.natCast_add];exact⟨i+1,by omega,o,⟨by omega,hm.1,hm.2⟩,⟨rfl,rfl,rfl⟩,AB⟩;have:i=x.layers.length:=by omega
 subst this;refine AH ?_;simp[go_sem,Be hZb hA _ _ hZp,IO];exact⟨hm,vb (λj hj=>AW hZb hj) hA AB,Be hZb hA⟩;obtain⟨ys,hys⟩:∃ys,ys=(Cj l to x.layers x.layers.length).1:=⟨_,rfl⟩
 rw[<-hys];refine BP 0 [(4,X),(8,.ptr (n+1) 0),(11,.ptr p 0),(12,.bool own),(13,.bool T.2.2),(15,AP T.2.1),(18,.bool sv)] (W ins mv (AP (Cc M)) (AL ys)) (λm=>n+3<=m) ?_ (λm8 hm8=>?_);rw[hZ];simp[go_sem,hWp,hWs,IO,hm7];have hje:CP l L to x=({ x with ins:=ins,move:=mv,dels:=Cc M,layers:=ys },!(own&&decide (0<T.2.1.length)),sv&&T.2.2):=by
  rw[hins,hmv,hM,hys,hsv,hT,hown];unfold CP;simp
 rw[hje];refine AH ?_;have e2:(0:Int)<(T.2.1.length:Int)↔0<T.2.1.length:=by omega
 have hend:∀R:BT,∀j y,h j=some y->hset (W ins mv (AP (Cc M)) (AL ys)) (n+1) (some R) j=some y:=λR j y e=>by
  have:=hHb j y e;rw[AD _ _ (by omega)];exact hWk _ _ _ _ j y (hHk j y e)
 by_cases c2:0<T.2.1.length;have c2':=e2.2 c2;cases own<;>cases sv<;>simp[go_sem,hX,AF.flat,AF.enc,hWp,hWz,SZ,c2,AC] <;>
  exact B9 ho (by simp[closed,closedL,Er.E.closedL,Az.E.closedL,Am.E.closedL]) (hend _)
 have c2':¬(0:Int)<(T.2.1.length:Int):=λg=>c2 (e2.1 g);have e4:T.2.1=[]:=jQ.1 (by omega);cases own<;>cases sv<;>simp[go_sem,hX,AF.flat,AF.enc,hWp,hWz,SZ,e4,AC] <;>
  exact B9 ho (by simp[closed,closedL,Er.E.closedL,Az.E.closedL,Am.E.closedL]) (hend _)
def XA (l:List Int) (L:List (Int×Int)) (to:Int) (s:Unit) (p:BW):AF×Bool×Unit:=((Ga l L to p.head).1,(Ga l L to p.head).2,s)
def N8 (q:Nat) (L:List (Int×Int)) (_:Unit) (o:Nat):Option BT:=if o=q then some (.map (Cy L 0))else none
theorem PG (n:Nat):∀(L:List (Int×Int)) (k:Int),BQ n (.map (Cy L k))=true
 | [],k=>rfl
 | x::L,k=>by
  have:=PG n L (k+1);simp only[BQ]at this ⊢;rw[Cy,List.all_cons,this];rfl
theorem dF {q n0:Nat} (hq:q<n0) (l:List Int) (hl:l.length<=1073741824) (full:Bool) (L:List (Int×Int)) (r:Ax):ML (N8 q L) n0 102 [] [.iptr [.imm 1 (l.map AA) full],.iptr [AA r.id,.str r.author,AA r.time],.iptr [.map q]] (XA l L r.id) (λh=>h.sized/\h.dels.length<20) where
 lt s o h:=by simp only[N8];rw[if_neg (by omega)]
 dom s s' o h:=h
 cl s o y h:=by
  simp only[N8]at h;split at h;cases h;exact PG _ _ _;cases h
 call s p H n hp _ hn hs:=by
  have hHq:H q=some (.map (Cy L 0)):=hs q _ (by simp[N8]);have hup:Aj (N8 q L) (XA l L r.id s p).2.2 H=H:=by
   funext j;simp only[Aj,N8];by_cases c:j=q;rw[if_pos c,c,hHq];rw[if_neg c]
  rw[hup];refine Db Tryz.func102 rfl λho=>?_;have hHb:=ho.lt;have q1:n+1≠n:=by omega
  refine AH ?_;simp[go_sem,BW.enc,AF.flat,AC,AD _ _ q1.symm];refine qC (by simpa[AF.enc,AF.flat,OJ]using bP l hl full L p.head hp.1 hp.2 r.id (H:=hset (hset H n (some (.cells [Af p.head.props,AA p.head.ins,AA p.head.move,AP p.head.dels,AL p.head.layers,.bool p.mid,AA p.units]))) (n+1) (some (.cells OJ))) (n:=n+1+1) (k:=q) (by rw[AD _ _ (by omega),AD _ _ (by omega)];exact hHq)) ?_;rintro v H' n' ⟨rfl,rfl,rfl⟩;simp[go_sem,AC,AF.enc,AF.flat,AS];exact B9 ho (by simp[closed,closedL,Er.E.closedL,Az.E.closedL,Am.E.closedL]) (λj y e=>by have:=hHb j y e;rw[AD _ _ (by omega),AD _ _ (by omega)];exact e)
def Qf (q:Nat) (s:Bool) (o:Nat):Option BT:=if o=q then some (.cells [.bool s])else none
def UN (l:List Int) (L:List (Int×Int)) (to:Int) (s:Bool) (p:BW):AF×Bool×Bool:=((CP l L to p.head).1,(CP l L to p.head).2.1,s||(CP l L to p.head).2.2)
theorem dG {q n0:Nat} (hq:q<n0) (l:List Int) (hl:l.length<=1073741824) (L:List (Int×Int)) (hL:L.length<=1073741824) (r:Ax):MN (Qf q) n0 105 [] [.iptr [.imm 1 (l.map AA) false],.iptr [AA r.id,.str r.author,AA r.time],.iptr [.imm 2 (L.map B5) false],.ptr q 0] (UN l L r.id) (λh=>h.sized) where
 lt s o h:=by simp only[Qf];rw[if_neg (by omega)]
 dom s s' o h:=by simp only[Qf]at h ⊢;split at h<;>simp_all
 cl s o y h:=by
  simp only[Qf]at h;split at h;cases h;rfl;cases h
 call s p H n hp _ hn hs:=by
  have hHq:H q=some (.cells [.bool s]):=hs q _ (by simp[Qf]);refine Db Tryz.func105 rfl λho=>?_;have hHb:=ho.lt;have hqn:=hHb q _ hHq;have q1:n+1≠n:=by omega
  have kk:=Zn l hl L hL p.head hp r.id;obtain⟨J,hJ⟩:∃J,J=CP l L r.id p.head:=⟨_,rfl⟩
  have hf:UN l L r.id s p=(J.1,J.2.1,s||J.2.2):=by rw[hJ];rfl
  rw[<-hJ]at kk;rw[hf];refine AH ?_;simp[go_sem,AF.enc,AF.flat,AC,AD _ _ q1.symm];refine qw (by simpa[AF.enc,AF.flat]using kk) ?_;have r1:=λ(h:Hp) y=>AD h y (show q≠n by omega);have r2:=λ(h:Hp) y=>AD h y (show q≠n+1 by omega);have r3:=λ(h:Hp) y=>AD h y (show q≠n+1+1 by omega);have r4:=λ(h:Hp) y=>AD h y (show n+1+1≠q by omega);have r5:=λ(h:Hp) y=>AD h y (show n+1≠q by omega);have r6:n+1≠n+1+1:=by omega
  have r7:=λ(h:Hp) y=>AD h y r6;have BE:∀b,Es (Aj (Qf q) b H) n:=λb o y e=>by
   simp only[Aj,Qf]at e;by_cases c:o=q;rw[if_pos c]at e;cases e;exact⟨by omega,rfl⟩;rw[if_neg c]at e;exact ho o y e
  have fin:∀(b:Bool) (h2:Hp) (n2:Nat),(∀j y,j≠q->H j=some y->h2 j=some y)->h2 q=some (.cells [.bool b])->B8 n h2 n2 (.tup [J.1.enc,.bool J.2.1]) (λv h' n'=>v=.tup [J.1.enc,.bool J.2.1]/\h'=Aj (Qf q) b H/\n'=n):=λb h2 n2 h3 h4=>
   B9 (BE b) (by simp[closed,closedL,AF.enc,AF.flat,Er.E.closedL,Az.E.closedL,Am.E.closedL]) (λj y e=>by
    simp only[Aj,Qf]at e;by_cases c:j=q;rw[if_pos c]at e;cases e;rw[c];exact h4;rw[if_neg c]at e;exact h3 j y c e)
  cases s with
  | true=>
   simp[go_sem,AC,AS,r1,r2,r3,r4,r5,r7,hHq];exact fin _ _ _ (λj y hj e=>by have:=hHb j y e;rw[AD _ _ (by omega),AD _ _ hj,AD _ _ (by omega),AD _ _ (by omega),AD _ _ (by omega)];exact e) (by simp[hset];omega)
  | false=>
   simp[go_sem,AC,AS,r1,r2,r3,r4,r5,r7,hHq];exact fin _ _ _ (λj y hj e=>by have:=hHb j y e;rw[AD _ _ (by omega),AD _ _ hj,AD _ _ (by omega),AD _ _ (by omega),AD _ _ (by omega)];exact e) (by simp[hset];omega)
def EF (s:List AF) (p:BW):List AF:=s++[p.head]
def Hx (N:Nat) (d:AI):List AF:=(G8 (zF EF) AX N d []).2
section
variable {N K : Nat} {d : AI} {m2 : List Int}
theorem Tn {hp:AF->Prop} (hl:Da hp K N d.flow) (hd:Hk N d):∀f∈Df 0 d.flow GN,f.id=AX.id->¬ES AX f.items:=λf hf e=>by
 have s1:=QK GN hl;have:((Dt d).map Fl.id).Sublist (0::F6 N d.flow):=s1.cons_cons _;have hm:=this.mem (qy.2 ⟨f,hf,rfl⟩);have e2:f.id = -1:=e;rcases qk.1 hm with g|g;omega;have:=(hd.ids _ g).1;omega
theorem QS {hp:AF->Prop} (hl:Da hp K N d.flow) (hd:Hk N d) (l:List Int):(BR (CH (QC l)) AX N d d.revs (false,[])).2=((Hx N d).any (JN l),(Hx N d).flatMap AF.moves):=by
 have e:=cj (QC l) AX N 0 d.flow GN (false,[]) hd.flow (λh=>by have:=(hd.ids _ h).1;omega) hd.nodup (λi hi=>(hd.ids i hi).1) (Tn hl hd);have r:=HZ (λ(s:Bool×List (Int×Int)) (t:List AF)=>s=(t.any (JN l),t.flatMap AF.moves)) (zF (QC l)) (zF EF) (λs t p g=>by
  show QC l s p=_;unfold QC zF EF;dsimp only;rw[g];simp) N 0 d.flow AX false (false,[]) [] rfl
 have he:(BR (CH (QC l)) AX N d d.revs (false,[])).2=QC l (Al (CH (QC l)) AX N 0 d.flow false (false,[])).2 ⟨d.«end»,false,1⟩:=rfl;have hh:Hx N d=(Aw (zF EF) N 0 d.flow AX false []).2++[d.«end»]:=rfl;rw[he,e,r,hh];unfold QC;simp
theorem Rs (rev:Int):(G8 (UP rev) AX N d []).2=(Hx N d).flatMap λh=>Fx rev h.moves:=by
 have r:=HZ (λ(s:List Int) (t:List AF)=>s=t.flatMap λh=>Fx rev h.moves) (UP rev) (zF EF) (λs t p g=>by
  show s++Fx rev p.head.moves=_;unfold zF EF;dsimp only;rw[g];simp) N 0 d.flow AX false [] [] rfl
 have he:(G8 (UP rev) AX N d []).2=(Aw (UP rev) N 0 d.flow AX false []).2++Fx rev d.«end».moves:=rfl;have hh:Hx N d=(Aw (zF EF) N 0 d.flow AX false []).2++[d.«end»]:=rfl;rw[he,r,hh];simp
theorem Oh (l:List Int) (L:List (Int×Int)) (to:Int) (T:List Ax):(Gf (UN l L to) AX N d T false).2=(Hx N d).any λh=>(CP l L to h).2.2:=by
 have r:=HZ (λ(s:Bool) (t:List AF)=>s=t.any λh=>(CP l L to h).2.2) (UN l L to) (zF EF) (λs t p g=>by
  show(s||(CP l L to p.head).2.2)=_;unfold zF EF;dsimp only;rw[g];simp) N 0 d.flow AX false false [] rfl
 have he:(Gf (UN l L to) AX N d T false).2=((Aw (UN l L to) N 0 d.flow AX false false).2||(CP l L to d.«end»).2.2):=rfl;have hh:Hx N d=(Aw (zF EF) N 0 d.flow AX false []).2++[d.«end»]:=rfl;rw[he,r,hh];simp
open Classical in
theorem TU {hp:AF->Prop} {T:Int->Prop} (hT:∀i,T i->i ≠ -1) (W:wf hp T N d.flow) (he:hp d.«end»):(∀h∈Hx N d,hp h)/\(Hx N d).length<=wN N d.flow+1:=by
 have hh:Hx N d=(Aw (zF EF) N 0 d.flow AX false []).2++[d.«end»]:=rfl;have h1:=J9 (f:=zF EF) (rk:=λs:List AF=>if ∀h∈s,hp h then 0 else 1) (k:=0) (λs p g=>by
  show(if ∀h∈s++[p.head],hp h then 0 else 1)<=(if ∀h∈s,hp h then 0 else 1)+0;by_cases c:∀h∈s,hp h;rw[if_pos c,if_pos (λh hh=>?_)];exact qa _;rcases qe.1 hh with q|q;exact c h q;rw[qv.1 q];exact g;rw[if_neg c];split<;>omega) hT N 0 d.flow false [] W (.inr (by decide))
 have h2:=J9 (f:=zF EF) (rk:=λs:List AF=>s.length) (k:=1) (λs p g=>by simp[zF,EF]) hT N 0 d.flow false [] W (.inr (by decide));rw[hh];refine⟨λh hm=>?_,by simp at h2 ⊢;omega⟩;have h3:∀h∈(Aw (zF EF) N 0 d.flow AX false []).2,hp h:=by
  by_cases c:∀h∈(Aw (zF EF) N 0 d.flow AX false []).2,hp h;exact c;rw[if_neg c]at h1;simp at h1
 rcases qe.1 hm with q|q;exact h3 h q;rw[qv.1 q];exact he
end
theorem Rw {m2:List Int} {h:AF} (H:C6 m2 h) {y:Int×Int} (hy:y∈h.moves):0<y.2:=by
 unfold AF.moves AF.mv0 Hg at hy;rcases qe.1 hy with g|g;by_cases c:h.move=0;rw[if_pos c]at g;cases g;rw[if_neg c,qv]at g;have:=H.mv;rw[g];show 0<h.move;omega;obtain⟨x,hx,rfl⟩:=qy.1 g;obtain⟨a,b⟩:=qW.1 hx;have:=H.dmv x a;have b:x.move≠0:=by simpa using b
 show 0<x.move;omega
theorem WY {l:List Int} (hi:l.Pairwise (· < ·)) (nz:(0:Int)∉l) (Hs:List AF) {m2:List Int} (hv:∀h∈Hs,C6 m2 h):WX l (Hs.flatMap AF.moves)=Ln l (λi=>Hs.flatMap λh=>Fx (l.getD i 0) h.moves) l.length:=by
 obtain⟨n1,n2⟩:=RI (A:=λi=>Hs.flatMap λh=>Fx (l.getD i 0) h.moves) hi l.length (qa _);refine RC (RH _ _) n1 λy=>?_;rw[Uy,n2,JX nz,decide_eq_true_eq,jo];have hmv:∀(r:Int) (h:AF),y.2∈Fx r h.moves↔(r,y.2)∈h.moves:=λr h=>by
  unfold Fx;rw[qy];constructor;rintro⟨p,hp,e⟩;obtain⟨a,b⟩:=qW.1 hp;have:p=(r,y.2):=Prod.ext (by simpa using b) e;exact this▸a;intro g;exact⟨_,qW.2 ⟨g,by simp⟩,rfl⟩
 constructor;rintro⟨⟨h,hh,hy⟩,hl⟩;obtain⟨j,hj,e⟩:=jx hl;refine⟨j,hj,by rw[qf hj,e],jo.2 ⟨h,hh,?_⟩,Rw (hv h hh) hy⟩;rw[show l.getD j 0=y.1 by simp[List.getD,hj,e],hmv];exact hy;rintro⟨j,hj,e,hm,_⟩;obtain⟨h,hh,hy⟩:=jo.1 hm;rw[qf hj]at e;have e1:l[j]=y.1:=Option.some.inj e;rw[show l.getD j 0=y.1 by simp[List.getD,hj,e1],hmv]at hy;exact⟨⟨h,hh,hy⟩,e1▸ql hj⟩
section
variable {l : List Int} {L : List (Int × Int)} {to : Int} {T : List Int}
theorem Qv:∀(ds:List Az) (f:Bool),∀x∈Oe l L ds f,∃d∈ds,d.rev=x.rev
 | [],_,x,h=>by cases h
 | d::ds,f,x,h=>by
  rw[Oe]at h;have ih:=λf x h=>let⟨d',a,b⟩:=Qv ds f x h;(⟨d',qL _ a,b⟩:∃e∈d::ds,e.rev=x.rev);by_cases c:BV l d.rev=true;rw[if_pos c]at h;cases f with
  | true=>
   rcases qk.1 h with rfl|h;exact⟨d,jP ..,rfl⟩;exact ih _ x h
  | false=>exact ih _ x h
  rw[if_neg c]at h;rcases qk.1 h with rfl|h;exact⟨x,jP ..,rfl⟩;exact ih _ x h
theorem IW (Y:List Am):∀i,∀x∈Cf l Y i,x∈Y
 | 0,x,h=>by cases h
 | i + 1, x, h => by
  rw[Cf]at h;cases e:Y[i]? with
  | none=>rw[e]at h;exact IW Y i x h
  | some y=>
   rw[e]at h;dsimp only at h;split at h;exact IW Y i x h;rcases qe.1 h with h|h;exact IW Y i x h;rw[qv.1 h];exact jb e
theorem RE {Y:List Am} (hto:to∈T) (hY:∀y∈Y,y.rev∈T) (i:Nat):∀x∈(Cf l Y i).map (CE (BV l) to),x.rev∈T:=λx hx=>by
 obtain⟨y,hy,rfl⟩:=qy.1 hx;unfold CE Kl;show(if _ then to else y.rev)∈T;split;exact hto;exact hY y (IW Y i y hy)
theorem VW (hto:to∈T) {h:AF} (H:J5 T h):J5 T (Ga l L to h).1:=by
 obtain⟨hs,H⟩:=H;unfold Ga;split;exact TV T;have l1:(Dn l L h.dels).length<=h.dels.length:=by
  have:=IU l L h.dels ([],true);simpa[Dn]using this
 have l2:=IV l h.layers h.layers.length;have e1:(Ji (BV l) to (Hr l L h)).dels=Cz ((Dn l L h.dels).map (Bz (BV l) to)) (Dn l L h.dels).length:=rfl;have e2:(Ji (BV l) to (Hr l L h)).layers=(Cf l h.layers h.layers.length).map (CE (BV l) to):=rfl;have l3:(Ji (BV l) to (Hr l L h)).dels.length<=h.dels.length:=by rw[e1,HH,qd];exact l1
 have l4:(Ji (BV l) to (Hr l L h)).layers.length<=h.layers.length:=by rw[e2,qd];exact l2
 have e3:(Ji (BV l) to (Hr l L h)).ins=FV (BV l) to h.ins:=rfl;refine⟨⟨hs.props,qr l3 hs.dels,qr l4 hs.layers⟩,⟨?_,qr l3 H.dlen,λx hx=>?_,qr l4 H.llen,λx hx=>RE hto H.layers _ x (e2▸hx)⟩⟩;rw[e3];unfold FV;split;exact .inr hto;exact H.ins;rw[e1,KO _ _ (by rw[qd];exact qa _)]at hx;obtain⟨y,hy,rfl⟩:=qy.1 hx;have hcb:Dn l L h.dels=Oe l L h.dels true:=by unfold Dn;rw[Ni];rfl
 rw[hcb]at hy;obtain⟨d,hd,e⟩:=Qv _ _ y hy;unfold Bz Kl;show(if _ then to else y.rev)∈T;split;exact hto;rw[<-e];exact H.dels d hd
theorem KW:∀(l o:List Az) (y:Az),y∈l.foldl FS o->y∈o\/y∈l
 | [],o,y,h=>.inl h
 | x::l,o,y,h=>by
  rcases KW l (FS o x) y h with g|g;rcases La g with g|g;exact .inr (by rw[g];exact jP ..);exact .inl g;exact .inr (qL _ g)
theorem MG {α:Type} (p:α->Bool):∀l:List α,(l.filter λx=>!p x).length+(l.filter p).length=l.length
 | []=>rfl
 | x::l=>by
  have:=MG p l;cases c:p x<;>simp[c]<;>omega
theorem YP (nz:(0:Int)∉l) (hto:to∈T) {h:AF} (H:J5 T h):J5 T (CP l L to h).1:=by
 obtain⟨hs,H⟩:=H;have hj:Fv l L to h=(Dd l h.dels,C3 l L to h.dels,(decide (h.ins∈l)&&(h.move !=0))||PL l h.dels):=by
  unfold Fv;rw[Nu nz];simp
 have e0:Ld l L to h=Dd l h.dels++(C3 l L to h.dels).take 1:=by unfold Ld;rw[hj]
 have e1:(CP l L to h).1.dels=Cc (Dd l h.dels++(C3 l L to h.dels).take 1):=by rw[<-e0];rfl
 have e2:(CP l L to h).1.layers=(Cf l h.layers h.layers.length).map (CE (BV l) to):=by rw[<-(QP nz h.layers h.layers.length (qa _)).1];rfl
 have l3:(CP l L to h).1.dels.length<=h.dels.length:=by
  rw[e1];refine qr (PA _) ?_;have:=MG (λd:Az=>BV l d.rev) h.dels;rw[qt];have h2:((C3 l L to h.dels).take 1).length<=(C3 l L to h.dels).length:=by rw[jr];omega
  unfold C3 at h2 ⊢;rw[qd]at h2;unfold Dd;omega
 have l4:(CP l L to h).1.layers.length<=h.layers.length:=by rw[e2,qd];exact IV l h.layers h.layers.length
 have e3:(CP l L to h).1.ins=if h.ins∈l then to else h.ins:=rfl
 refine⟨⟨hs.props,qr l3 hs.dels,qr l4 hs.layers⟩,⟨?_,qr l3 H.dlen,λx hx=>?_,qr l4 H.llen,λx hx=>RE hto H.layers _ x (e2▸hx)⟩⟩;rw[e3];split;exact .inr hto;exact H.ins;rw[e1]at hx;have hx:=(KW _ [] x hx).resolve_left (by simp);rcases qe.1 hx with g|g;exact H.dels x (qW.1 g).1;have:=qH g;unfold C3 at this;obtain⟨z,_,rfl⟩:=qy.1 this;exact hto
end
theorem bL (g:FuncId) (a b:List SV):PC 95 [.imm 0 [] true,.fn (.func g) a b] (.imm 0 [] true):=by
 intro h n;refine gq Tryz.func95 rfl λho=>?_;have hI:=Xa [] (by simp) g a b (λ_=>false) (λi hi=>by simp at hi);have hi:BD (λ_=>false) 0 0 = -1:=by unfold BD;simp
 simp[go_sem];refine kU (bs:=[.imm 2 (([]:List (Int×Int)).map B5) false,.fn (.func g) a b]) (h2:=h) 1 AB ⟨BC (by simp),IO,trivial⟩ (hI.use ?_);simp[go_sem,hi];exact As ho rfl rfl
theorem XR:PC 101 [.imm 0 [] true] (.imm 0 [] true):=by
 intro h n;refine gq Tryz.func101 rfl λho=>?_;simp[go_sem];exact As ho rfl rfl
theorem bM (z:Nat) (full:Bool):PC 97 [.imm z [] full,.fn (.func 98) [] []] (.tup []):=by
 intro h n;refine⟨Yd,λc vs _ R F A=>?_⟩;have⟨u,rs,ev,hv,A2⟩:∃u rs,vs=u::rs/\V c (.imm z [] full) u/\AZ (V c) [.fn (.func 98) [] []] rs:=by
  cases vs with
  | nil=>exact A.elim
  | cons u rs=>exact⟨u,rs,rfl,A.1,A.2⟩
 obtain⟨u2,rfl,hv2⟩:=A2.single;subst ev;rw[V]at hv;have fin:∀(p:Option Addr) (cap:Nat),Calls Tryz.prog 97 #[.slice p 0 cap,u2] c.w λe w'=>e=.returned (.tuple #[])/\w'=c.w:=λp cap=>AnyF.slices_SortFunc_none Tryz.sortB p cap u2 c.w;have key:∃p cap,u=.slice p 0 cap:=by
  rcases hv with⟨_,rfl⟩|⟨a,cap,_,rfl,_⟩
  exact⟨_,_,rfl⟩;exact⟨_,_,rfl⟩
 obtain⟨p,cap,rfl⟩:=key;refine(fin p cap).mono ?_;rintro e w' ⟨rfl,rfl⟩;exact⟨.tuple #[],.tup [],h,n,c,rfl,⟨rfl,rfl,rfl⟩,rfl,by simp[V,VL],R,F,ke n c⟩
def rV (o:Option Nat) (r:List (Int×Int)) (f:Bool):SV:=match o with|none=>.imm 0 [] true|some j=>.sl j 0 2 r.length f
def rH (o:Option Nat) (r:List (Int×Int)) (t:List SV) (H:Hp):Hp:=match o with|none=>H|some j=>hset H j (some (.cells (Fw r++t)))
theorem Wj (o:Option Nat) (r:List (Int×Int)):AM 2 o (r.map B5)=rV o r false:=by cases o<;>simp[AM,rV]
theorem Wa (o:Option Nat) (r:List (Int×Int)) (H:Hp):AN o (r.map B5) H=rH o r [] H:=by cases o<;>simp[AN,rH,Fw]
theorem RN {o:Option Nat} {r:List (Int×Int)} {t:List SV} {H:Hp}:∀j,o=some j->rH o r t H j=some (.cells (Fw r++t)):=by rintro j rfl;simp[rH,hset]
theorem NJ {o:Option Nat} {r:List (Int×Int)} {t:List SV} {H:Hp} {m:Nat} (h:o≠some m):rH o r t H m=H m:=by
 cases o with
 | none=>rfl
 | some j=>simp only[rH];rw[AD _ _ (λg=>h (by rw[g]))]
theorem Tw (o:Option Nat) (r r':List (Int×Int)) (t t':List SV) (H:Hp):rH o r t (rH o r' t' H)=rH o r t H:=by cases o<;>simp[rH,AS]
theorem Wb {o:Option Nat} {r:List (Int×Int)} {t:List SV} {H:Hp} {m:Nat} {y:Option BT} (h:o≠some m):hset (rH o r t H) m y=rH o r t (hset H m y):=by
 cases o with
 | none=>rfl
 | some j=>
  have:j≠m:=λg=>h (by rw[g]);simp only[rH];funext q;simp only[hset];by_cases h1:q=m;have:¬q=j:=by omega
  simp[h1];omega;simp[h1]
variable {H : Hp} {n : Nat} {o : Option Nat} {f : Bool}
theorem u95 (l:List (Int×Int)) (hl:l.length<=1048576) (hn:o=none->l=[]) (g:FuncId) (a b:List SV) (p:(Int×Int)->Bool) (hp:∀x∈l,PC g (a++[(B5 x)]++b) (.bool (p x))) (hH:∀j,o=some j->H j=some (.cells (Fw l))):
 BA Tryz.prog 95 [rV o l f,.fn (.func g) a b] H n (λv h' n'=>∃f2 t,v=rV o (l.filter λx=>!p x) f2/\h'=rH o (l.filter λx=>!p x) t H/\n'=n):=by
 cases o with
 | none=>
  refine((bL g a b) H n).mono ?_;rintro v h' n' ⟨rfl,rfl,rfl⟩;exact⟨true,[],rfl,rfl,rfl⟩
 | some j=>
  refine(d95 l hl g a b p hp (H:=H) (n:=n) (o:=j) (full:=f) (hH j rfl)).mono ?_;rintro v h' n' ⟨f2,t,rfl,rfl,rfl⟩;exact⟨f2,t,rfl,rfl,rfl⟩
theorem u97 (l:List (Int×Int)) (hl:l.length<=1048576) (hn:o=none->l=[]) {t:List SV} (hH:∀j,o=some j->H j=some (.cells (Fw l++t))):
 BA Tryz.prog 97 [rV o l f,.fn (.func 98) [] []] H n (λv h' n'=>v=.tup []/\h'=rH o (De l) t H/\n'=n):=by
 cases o with
 | none=>
  refine((bM 0 true) H n).mono ?_;rintro v h' n' ⟨rfl,rfl,rfl⟩;exact⟨rfl,rfl,rfl⟩
 | some j=>exact d97 l hl (H:=H) (n:=n) (o:=j) (full:=f) (t:=t) (hH j rfl)
theorem dE (l:List (Int×Int)) (hl:l.length<=1048576) (hn:o=none->l=[]) {t:List SV} (hH:∀j,o=some j->H j=some (.cells (Fw l++t))):
 BA Tryz.prog 101 [rV o l f] H n (λv h' n'=>∃f2 t,v=rV o (Ip l l.length) f2/\h'=rH o (Ip l l.length) t H/\n'=n):=by
 cases o with
 | none=>
  refine(XR H n).mono ?_;rintro v h' n' ⟨rfl,rfl,rfl⟩;exact⟨true,[],rfl,rfl,rfl⟩
 | some j=>
  refine(bO l hl (H:=H) (n:=n) (o:=j) (full:=f) (t:=t) (hH j rfl)).mono ?_;rintro v h' n' ⟨f2,t,rfl,rfl,rfl⟩;exact⟨f2,t,rfl,rfl,rfl⟩
theorem Ym {h' h:Hp} {k:Nat} {r:List (Int×Int)} {t:List SV} (hn:o=none->r=[]) (h1:∀j,o=some j->h j=none) (hh:∀j,o=some j->h' j=some (.cells (Fw r++t))):Fz h' h (k+1) (rV o r f) (.imm 2 (r.map B5) false):=by
 cases o with
 | none=>rw[hn rfl];exact BC (by simp)
 | some j=>
  have hlen:r.length=(r.map B5).length:=by rw[qd]
  have hs:=E3 r;simp only[rV];rw[hlen];refine .inr ⟨h1 j rfl,by simp,rfl,rfl,Fw r++t,Fw r,hh j rfl,?_,hs,?_⟩;simp only[Bg,jc,kn];rw[qd,if_pos (by rw[qt,F9];omega),List.take_left' (F9 r)];have:∀l:List SV,AZ (Fz h' h k) l l:=by
   intro l;induction l with
   | nil=>trivial
   | cons a l ih=>exact⟨IO,ih⟩
  exact this _
theorem NC (x:Int×Int):∀(L:List (Int×Int)) (k:Int) (i:Nat),x∉L->F3 Tryz.prog 89 [.int .i64 x.1,.int .i64 x.2] (Cy L k) i=some none
 | [],k,i,_=>rfl
 | y :: L, k, i, h => by
  have e1:(x.1==y.1&&x.2==y.2)=false:=by
   cases h1:(x.1==y.1)<;>cases h2:(x.2==y.2)<;>simp;exact h (qk.2 (.inl (Prod.ext (by simpa using h1) (by simpa using h2))))
  simp only[Cy,F3,B5,WG];rw[e1];exact NC x L (k+1) (i+1) λg=>h (qL _ g)
theorem PH:∀(a b:List (Int×Int)) (k:Int),Cy (a++b) k=Cy a k++Cy b (k+a.length)
 | [],b,k=>by simp[Cy]
 | x::a,b,k=>by
  simp only[qz,Cy,PH a b (k+1),qF];congr 3;push_cast;omega
theorem PI:∀(L:List (Int×Int)) (k:Int),∀p∈Cy L k,Vd p
 | [],_,p,h=>by cases h
 | x::L,k,p,h=>by
  rcases qk.1 h with rfl|h;exact⟨_,_,rfl⟩;exact PI L (k+1) p h
end Go.Proofs.YtgakninlhfkkmaaGreat.Sh
namespace Go.Proofs.YtgakninlhfkkmaaGreat.Sh
open Proofs
set_option maxRecDepth 10000
def Sd (e:Int) (R:AI):AI:=if e=0 then R else zD
def C5 (T:List Ax):Option Int->List Int->Int
 | _,[]=>0
 | p,x::r=>if(CA T x).2=false then 22 else match p with
  | none=>C5 T (some x) r
  | some y=>if x=y then 7 else if x<y then 6 else C5 T (some x) r
def EK (D:AI) (l:List Int) (to:Ax):Int:=
 if l.length=0 then 11 else if C5 D.revs none l≠0 then C5 D.revs none l else if CL to≠0 then CL to else if(CA D.revs to.id).2=true/\to.id∉l then 7 else 0
def F5 (l:List Int):Nat->Option Int
 | 0=>none
 | i+1=>l[i]?
theorem NO {T:List Ax} {l:List Int} {i:Nat} {x:Int} (h:i<l.length) (hx:l[i]=x):C5 T (F5 l i) (l.drop i)=if(CA T x).2=false then 22 else match F5 l i with
 | none=>C5 T (F5 l (i+1)) (l.drop (i+1))
 | some y=>if x=y then 7 else if x<y then 6 else C5 T (F5 l (i+1)) (l.drop (i+1)):=by
 rw[qG h,hx,C5.eq_def];simp only;have:F5 l (i+1)=some x:=by rw[F5,qf h,hx]
 rw[this]
set_option maxHeartbeats 4000000 in
theorem c68 (D:AI) (l:List Int) (hl:l.length<=1073741824) (to:Ax) (hr:D.revs.length<=1048576):PC 68 [D.enc,.imm 1 (l.map AA) false,to.enc] (AA (EK D l to)):=by
 intro h n;refine Db Tryz.func68 rfl λho=>?_;have hHb:=ho.lt;obtain⟨X,hX⟩:∃X:SV,X=.iptr ([AG D.flow]++D.«end».flat++[Ao D.revs]++D.settings.flat):=⟨_,rfl⟩
 obtain⟨V,hV⟩:∃V:SV,V=.iptr [AA to.id,.str to.author,AA to.time]:=⟨_,rfl⟩
 obtain⟨I,hI⟩:∃I:SV,I=.imm 1 (l.map AA) false:=⟨_,rfl⟩
 have kI:=c52 l hl to.id;rw[<-hI]at kI;refine AY 1 [(1,I),(3,X),(5,V)] h n ?_ (λm hm=>?_);rw[hX,hV,hI];simp[go_sem,AI.enc,Ax.enc,AF.flat,AK.flat,IO];exact⟨by omega,⟨AV (ho.none (by omega)) (by simp[hset]),AV (ho.none (by omega)) (by simp[hset])⟩,λj y e=>by have:=hHb j y e;simp only[hset];grind⟩;refine Bo 0 [(1,I),(3,X),(5,V)] h (λm=>n<=m/\l.length≠0) (AH ?_) (λm hm=>?_);rw[hI];by_cases e0:l.length=0;have:l=[]:=jQ.1 e0;subst this;simp[go_sem];exact As ho rfl rfl;have e1:l≠[]:=λg=>e0 (by rw[g];rfl);simp[go_sem,IO,hm,e1];obtain⟨hm,hl0⟩:=hm;obtain⟨E,hE⟩:∃E:Int,E=EK D l to:=⟨_,rfl⟩
 have hE0:E=if C5 D.revs none l≠0 then C5 D.revs none l else if CL to≠0 then CL to else if(CA D.revs to.id).2=true/\to.id∉l then 7 else 0:=by rw[hE];unfold EK;rw[if_neg hl0]
 rw[<-hE];refine Bo 0 [(1,I),(3,X),(5,V)] h (λm=>n<=m/\C5 D.revs none l=0) ?_ (λm hm=>?_);refine AY 0 [(1,I),(3,X),(5,V),(7,AA 0)] h n ?_ (λm hm=>?_);simp[go_sem,IO,hm];refine AR (BG 0 (α:=Nat) (λi=>[(1,I),(3,X),(5,V),(7,AA i)]) (λ_=>h) (λi m=>i<=l.length/\n<=m/\C5 D.revs none l=C5 D.revs (F5 l i) (l.drop i)) (λi=>l.length-i) 0 ⟨by omega,hm,rfl⟩ ?_ AB ?_);simp[go_sem,Ai,IO];rintro i m ⟨hi,hm,h0⟩;by_cases hlt:i<l.length;have w1:=wS i (by omega);obtain⟨x,hx⟩:∃x,l[i]=x:=⟨_,rfl⟩
 have hst:=NO (T:=D.revs) hlt hx;rw[<-h0]at hst;have bad:∀(e:Int) (m:Nat),C5 D.revs none l=e->e≠0->B8 n h m (AA e) (Is (AA E) h n):=λe m h1 h2=>As ho rfl (by rw[hE0,h1,if_pos h2]);refine Ea 0 [(1,I),(3,X),(5,V),(7,AA i)] h m (AH ?_) (λm2 hm2=>?_);rw[hI];simp[go_sem,IO,hlt];subst hm2;refine AT 0 (α:=Unit) (λ_=>[(1,I),(3,X),(5,V),(7,AA i)]) (λ_=>h) (λ_ m=>n<=m/\C5 D.revs none l=C5 D.revs (F5 l (i+1)) (l.drop (i+1))) (AR ?_) (λ_ m hm=>?_);refine AT 0 (α:=Unit) (λ_=>[(1,I),(3,X),(5,V),(7,AA i),(9,.bool (CA D.revs x).2)]) (λ_=>h) (λ_ m=>n<=m) (BX Vo rfl (by kernel_rfl) (by kernel_rfl) ?_) (λ_ m hm=>?_);have hHm:∀j y,h j=some y->j<m:=λj y e=>by have:=hHb j y e;omega
 rw[hX,hI];simp[go_sem,Vo,AF.flat,AK.flat,hlt,hx];refine⟨?_,?_⟩;refine qw (V4 D.revs hr x) ?_;simp[go_sem,IO,Ax.enc,AC,AS];exact⟨by omega,AJ hHm AB⟩;refine qw (V4 D.revs hr x) ?_;simp[go_sem,IO,Ax.enc,AC,AS];exact⟨by omega,AJ hHm AB⟩;refine AR ?_;refine AY 0 [(1,I),(3,X),(5,V),(7,AA i),(32,.bool (!(CA D.revs x).2))] h n ?_ (λm hm=>?_);simp[go_sem,IO,hm];cases e:(CA D.revs x).2 with
 | false=>
  refine Ah (b:=true) (by simp[go_sem]) (AH ?_);simp[go_sem];exact bad 22 _ (by rw[hst,e];rfl) (by decide)
 | true=>
  rw[e,if_neg (by decide)]at hst;refine Ah (b:=false) (by simp[go_sem]) ?_;simp only[qj,if_false];by_cases i0:i=0;subst i0;refine AT 0 (α:=Unit) (λ_=>[(1,I),(3,X),(5,V),(7,AA (0:Nat)),(35,.bool false)]) (λ_=>h) (λ_ m=>n<=m) (BX Kg rfl (by kernel_rfl) (by kernel_rfl) ?_) (λ_ m hm=>?_);simp[go_sem,Kg,IO,hm];refine Ah (b:=false) (by simp[go_sem]) ?_;simp only[qj,if_false];refine AT 0 (α:=Unit) (λ_=>[(1,I),(3,X),(5,V),(7,AA (0:Nat)),(50,.bool false)]) (λ_=>h) (λ_ m=>n<=m) (BX Kg rfl (by kernel_rfl) (by kernel_rfl) ?_) (λ_ m hm=>?_);simp[go_sem,Kg,IO,hm];refine Ah (b:=false) (by simp[go_sem]) (AH ?_);simp[go_sem,IO,hm];rw[hst];simp[F5];have i1:0<i:=by omega
  have hi1:i-1<l.length:=by omega
  have w2:IntKind.i64.wrap ((i:Int)-1)=((i-1:Nat):Int):=by rw[Cl]<;>omega
  obtain⟨y,hy⟩:∃y,l[i-1]=y:=⟨_,rfl⟩
  have hp:F5 l i=some y:=by
   obtain⟨j,rfl⟩:∃j,i=j+1:=⟨i-1,by omega⟩
   rw[F5,qf (by omega)];simpa using hy
  rw[hp]at hst;simp only at hst;refine AT 0 (α:=Unit) (λ_=>[(1,I),(3,X),(5,V),(7,AA i),(35,.bool (decide (x=y)))]) (λ_=>h) (λ_ m=>n<=m) (BX Kg rfl (by kernel_rfl) (by kernel_rfl) ?_) (λ_ m hm=>?_);rw[hI];simp[go_sem,Kg,IO,hm,i1,hlt,hx,w2,hi1,hy];rw[show(x==y)=decide (x=y)from rfl];exact IO;by_cases exy:x=y;refine Ah (b:=true) (by simp[go_sem,exy]) (AH ?_);simp[go_sem];exact bad 7 _ (by rw[hst,if_pos exy]) (by decide);rw[if_neg exy]at hst;refine Ah (b:=false) (by simp[go_sem,exy]) ?_;simp only[qj,if_false];refine AT 0 (α:=Unit) (λ_=>[(1,I),(3,X),(5,V),(7,AA i),(50,.bool (decide (x<y)))]) (λ_=>h) (λ_ m=>n<=m) (BX Kg rfl (by kernel_rfl) (by kernel_rfl) ?_) (λ_ m hm=>?_);rw[hI];simp[go_sem,Kg,IO,hm,i1,hlt,hx,w2,hi1,hy];by_cases lxy:x<y;refine Ah (b:=true) (by simp[go_sem,lxy]) (AH ?_);simp[go_sem];exact bad 6 _ (by rw[hst,if_pos lxy]) (by decide);rw[if_neg lxy]at hst;refine Ah (b:=false) (by simp[go_sem,lxy]) (AH ?_);simp[go_sem,IO,hm];exact hst
 refine AH ?_;simp[go_sem,w1,IO,-Int.natCast_add];exact⟨i+1,by omega,⟨by omega,hm.1,hm.2⟩,IO⟩;refine AH ?_;rw[hI];rw[jF (by omega),C5]at h0;simp[go_sem,hlt,IO];exact⟨hm,h0⟩;obtain⟨hm,e1⟩:=hm;rw[e1,if_neg (by decide)]at hE0;refine Bo 0 [(1,I),(3,X),(5,V)] h (λm=>n<=m/\CL to=0) (AH ?_) (λm hm=>?_);rw[hV];simp[go_sem];refine qw (by simpa[Ax.enc]using W9 to) ?_;by_cases e2:CL to=0;simp[go_sem,e2,IO,hm];simp[go_sem,e2];exact As ho rfl (by rw[hE0,if_pos e2]);obtain⟨hm,e2⟩:=hm;rw[e2,if_neg (by decide)]at hE0;refine Bo 0 [] h (λm=>E=0) (AH ?_) (λm hm=>?_);have hHm:∀j y,h j=some y->j<m:=λj y e=>by have:=hHb j y e;omega
 rw[hX,hV];simp[go_sem,AF.flat,AK.flat];refine qw (V4 D.revs hr to.id) ?_;cases e3:(CA D.revs to.id).2 with
 | false=>
  simp[go_sem,Ax.enc,AC,AS];exact⟨by rw[hE0,e3];simp,AJ hHm AB⟩
 | true=>
  simp[go_sem,Ax.enc,AC,AS];refine kI.use ?_;by_cases e4:to.id∈l;simp[go_sem,e4];exact⟨by rw[hE0,e3];simp[e4],AJ hHm AB⟩;simp[go_sem,e4];exact Ay ho (AJ hHm AB) (by rw[hE0,e3,if_pos ⟨rfl,e4⟩]) rfl
 refine AH ?_;simp[go_sem];exact As ho rfl (by rw[hm])
def OK (D:AI) (l:List Int) (to:Ax):List Ax:=F7 (IB D.revs l) (Ly (IB D.revs l) to) to
def Sz (D:AI) (l:List Int) (to:Ax) (clash:Bool):Int:=if EK D l to≠0 then EK D l to else if clash then 24 else 0
theorem NP {T:List Ax}:∀{l:List Int} {p:Option Int},C5 T p l=0->(∀x∈l,(CA T x).2=true)/\(∀y,p=some y->∀x∈l,y<x)/\l.Pairwise (· < ·)
 | [],p,_=>by simp
 | x :: l, p, h => by
  rw[C5.eq_def]at h;simp only at h;by_cases e:(CA T x).2=false;rw[if_pos e]at h;cases h;rw[if_neg e]at h;have e':(CA T x).2=true:=by simpa using e
  have key:C5 T (some x) l=0/\∀y,p=some y->y<x:=by
   cases p with
   | none=>exact⟨h,λy g=>by cases g⟩
   | some y=>
    simp only at h;by_cases c1:x=y;rw[if_pos c1]at h;cases h;rw[if_neg c1]at h;by_cases c2:x<y;rw[if_pos c2]at h;cases h;rw[if_neg c2]at h;exact⟨h,λz g=>by cases g;omega⟩
  obtain⟨a,b,c⟩:=NP key.1;refine⟨λz hz=>?_,λy hy z hz=>?_,qR.2 ⟨b x rfl,c⟩⟩;rcases qk.1 hz with rfl|g;exact e';exact a z g;have:=key.2 y hy;rcases qk.1 hz with rfl|g;exact this;have:=b x rfl z g;omega
structure XK (D:AI) (l:List Int) (to:Ax):Prop where
 ne:l≠[]
 find:∀x∈l,(CA D.revs x).2=true
 inc:l.Pairwise (· < ·)
 err:CL to=0
 to:(CA D.revs to.id).2=true->to.id∈l
theorem Nj {D:AI} {l:List Int} {to:Ax} (h:EK D l to=0):XK D l to:=by
 unfold EK at h;by_cases e0:l.length=0;rw[if_pos e0]at h;cases h;rw[if_neg e0]at h;by_cases e1:C5 D.revs none l=0
 rotate_left
 rw[if_pos e1]at h;exact absurd h e1;rw[if_neg (by simpa using e1)]at h;by_cases e2:CL to=0
 rotate_left
 rw[if_pos e2]at h;exact absurd h e2;rw[if_neg (by simpa using e2)]at h;obtain⟨a,_,c⟩:=NP e1;refine⟨λg=>e0 (by rw[g];rfl),a,c,e2,λg=>?_⟩;by_cases e3:to.id∈l;exact e3;rw[if_pos ⟨g,e3⟩]at h;cases h
theorem QB {D:AI} {l:List Int} {to:Ax} (ht:Px D.revs) (h:EK D l to=0):(IB D.revs l).length<256/\Px (IB D.revs l)/\(∀x∈IB D.revs l,x.id≠to.id)/\Px (OK D l to)/\∀x,x∈OK D l to↔x=to\/(x∈D.revs/\x.id∉l):=by
 obtain⟨h1,h2,_,h4,h5⟩:=Nj h;obtain⟨x0,hx0⟩:=List.exists_mem_of_ne_nil l h1;obtain⟨r0,m0,e0⟩:=NM (h2 x0 hx0);have hlt:(IB D.revs l).length<256:=by
  have:=U6 (ids:=l) m0 (by rw[e0];exact hx0);have:=ht.1;omega
 have htr:Px (IB D.revs l):=Qj ht _;have hno:∀x∈IB D.revs l,x.id≠to.id:=λx hx e=>by
  obtain⟨a,b⟩:=PK.1 hx;exact b (e▸h5 (Lx ⟨x,a,e⟩))
 refine⟨hlt,htr,hno,(RD htr hno).2.2 hlt h4,λx=>?_⟩;unfold OK;rw[PJ,PK]
def RW:Tr:=.pure 0<|.pure 1<|.pure 2<|.pure 4<|.one 3<|.one 5<|.pure 6<|.pure 7<|.pure 8<|.one 9<|.one 10 .nil
def Vm:Tr:=.pure 0<|.pure 2<|.pure 3<|.two 1 5 (.two 4 5 (.one 5<|.one 6 .nil) (.one 4<|.one 6 .nil)) (.one 1<|.one 4<|.one 6 .nil)
theorem Od {D:AI} {l:List Int} {to:Ax} {b:Bool} (h:EK D l to=0):Sz D l to b=if b then 24 else 0:=by unfold Sz;rw[if_neg (by simpa using h)]
set_option maxHeartbeats 4000000 in
theorem c28 (D:AI) (l:List Int) (hl:l.length<=1048576) (to:Ax) (L:List (Int×Int)) (clash:Bool) (R R0:AI) (hr:D.revs.length<=1048576) (ht:Px D.revs)
 (k104:EK D l to=0->PC 104 [D.enc,.imm 1 (l.map AA) false] (.imm 2 (L.map B5) false))
 (k39:EK D l to=0->∀(q n0:Nat) (H:Hp) (n:Nat),q<n0->n0<=n->H q=some (.cells [.bool false])->BA Tryz.prog 39 [D.enc,AX.enc,Ao (OK D l to),.fn (.func 105) [] [.iptr [.imm 1 (l.map AA) false],.iptr [AA to.id,.str to.author,AA to.time],.iptr [.imm 2 (L.map B5) false],.ptr q 0]] H n (λv h' n'=>v=R0.enc/\h'=Aj (Qf q) clash H/\n'=n))
 (hR:clash=false->R0=R):
 PC 28 [D.enc,.imm 1 (l.map AA) false,to.enc] (.tup [(Sd (Sz D l to clash) R).enc,AA (Sz D l to clash)]):=by
 intro h n;refine Db Tryz.func28 rfl λho=>?_;have hHb:=ho.lt;obtain⟨X,hX⟩:∃X:SV,X=.iptr ([AG D.flow]++D.«end».flat++[Ao D.revs]++D.settings.flat):=⟨_,rfl⟩
 obtain⟨V,hV⟩:∃V:SV,V=.iptr [AA to.id,.str to.author,AA to.time]:=⟨_,rfl⟩
 obtain⟨I,hI⟩:∃I:SV,I=.iptr [.imm 1 (l.map AA) false]:=⟨_,rfl⟩
 obtain⟨G,hG⟩:∃G:Hp,G=hset h (n+3) (some (.cells C8)):=⟨_,rfl⟩
 have hGa:G (n+3)=some (.cells C8):=by rw[hG,AC]
 have hGb:∀j y,G j=some y->j<n+4:=λj y e=>by
  rw[hG]at e;simp only[hset]at e;split at e;omega;have:=hHb j y e;omega
 have hGk:∀j y,h j=some y->G j=some y:=λj y e=>by have:=hHb j y e;rw[hG,AD _ _ (by omega)];exact e
 obtain⟨A,hA⟩:∃A,A=Sz D l to clash:=⟨_,rfl⟩
 rw[<-hA];have fin:∀(h':Hp) (n':Nat) (e:Int),(∀j y,h j=some y->h' j=some y)->A=e->e≠0->B8 n h' n' (.tup [.agg C8,AA e]) (Is (.tup [(Sd A R).enc,AA A]) h n):=λh' n' e hh he hne=>by
  rw[Sd,he,if_neg hne];refine Dy 3 ho hh (.inr ⟨.inr ?_,IO,trivial⟩) (HT n zD e);exact⟨BC (by simp),BC (by simp),IO,IO,BC (by simp),BC (by simp),BC (by simp),BC (by simp),BC (by simp),BC (by simp),BC (by simp),trivial⟩
 have keep:=AJ (m:=n+3) (y:=some (.cells C8)) (h:=h) (h':=G) (λj z e=>by have:=hHb j z e;omega) hGk;refine BP 1 [(3,X),(4,I),(5,V),(6,.ptr (n+3) 0)] G (λm=>n+4<=m) ?_ (λm hm=>?_);rw[hX,hV,hG,hI];simp[go_sem,AI.enc,Ax.enc,AF.flat,AK.flat,IO,qD,C8];refine⟨⟨AV (by simp[hset];exact ho.none (by omega)) (by simp[hset]),AV (by simp[hset];exact ho.none (by omega)) (by simp[hset]),AV (by simp[hset];exact ho.none (by omega)) (by simp[hset])⟩,λj y=>?_⟩;have:=hHb j y;simp only[hset];grind;refine GI ?_;refine BP 0 [(3,X),(4,I),(5,V),(6,.ptr (n+3) 0),(8,AA (EK D l to))] G (λm=>n+4<=m) ?_ (λm hm=>?_);rw[hX,hV,hI];simp[go_sem,AF.flat,AK.flat];refine qw (by simpa[AI.enc,AF.flat,AK.flat,Ax.enc]using c68 D l (by omega) to hr) ?_;simp[go_sem,IO];omega;refine BP 0 [(3,X),(4,I),(5,V),(6,.ptr (n+3) 0),(8,AA (EK D l to)),(19,.bool (EK D l to !=0))] G (λm=>n+4<=m) ?_ (λm hm=>?_);simp[go_sem,IO,hm];by_cases hE:EK D l to=0
 rotate_left
 refine Ah (b:=true) (by simp[go_sem,hE]) (AH ?_);simp[go_sem,hGa,C8,AC];exact fin _ _ _ keep (by rw[hA];unfold Sz;rw[if_pos hE]) hE;refine Ah (b:=false) (by simp[go_sem,hE]) ?_;simp only[qj,if_false];refine Gv ?_;rw[FB];obtain⟨t1,t2,t3,_,_⟩:=QB ht hE;have e2:=(Nj hE).err;refine BP 1 [(3,X),(4,I),(5,V),(6,.ptr (n+3) 0),(9,.iptr [.imm 2 (L.map B5) false])] G (λm=>n+4<=m) ?_ (λm hm=>?_);have hGm:∀j y,G j=some y->j<m:=λj y e=>by have:=hGb j y e;omega
 rw[hX,hI];simp[go_sem,AF.flat,AK.flat];refine qw (by simpa[AI.enc,AF.flat,AK.flat]using k104 hE) ?_;simp[go_sem,IO,AC,AS];exact⟨by omega,AV (AW hGm (qa _)) (AC _ _ _),AJ hGm AB⟩;refine AT 0 (α:=Unit) (λ_=>[(3,X),(4,I),(5,V),(6,.ptr (n+3) 0),(9,.iptr [.imm 2 (L.map B5) false]),(10,Ao (OK D l to))]) (λ_=>G) (λ_ m=>n+4<=m) (BX RW rfl (by kernel_rfl) (by kernel_rfl) ?_) (λ_ m hm=>?_);rw[hX,hI,hV];simp[go_sem,RW,AF.flat,AK.flat];refine qw (c64 D.revs hr l hl) ?_;simp[go_sem];refine qw (by simpa[Ax.enc]using Xl t2 t1 e2 t3) ?_;simp[go_sem,IO,OK,hm];refine BP 0 [(3,X),(4,I),(5,V),(6,.ptr (n+3) 0),(9,.iptr [.imm 2 (L.map B5) false]),(10,Ao (OK D l to)),(12,.ptr m 0)] (hset G m (some (.cells [.bool false]))) (λm'=>m+1=m') ?_ (λm' hm'=>?_);simp[go_sem,IO,AC,AS];subst hm';have hGm:∀b j y,hset G m (some (.cells [.bool b])) j=some y->j<m+1:=λb j y e=>by
  by_cases c:j=m;omega;rw[AD _ _ c]at e;have:=hGb j y e;omega
 have hup:∀b b',Aj (Qf m) b' (hset G m (some (.cells [.bool b])))=hset G m (some (.cells [.bool b'])):=λb b'=>by
  funext j;simp only[Aj,Qf,hset];by_cases c:j=m<;>simp[c]
 refine AT 1 (α:=Unit) (λ_=>[(6,.ptr (n+3) 0),(12,.ptr m 0),(13,.iptr ([AG R0.flow]++R0.«end».flat++[Ao R0.revs]++R0.settings.flat))]) (λ_=>hset G m (some (.cells [.bool clash]))) (λ_ m'=>m+1<=m') (BX Vm rfl (by kernel_rfl) (by kernel_rfl) ?_) (λ_ m2 hm2=>?_);rw[hX,hI];simp[go_sem,Vm,AF.flat,AK.flat];have k39':=λH n h1 h2=>k39 hE m (m+1) H n (by omega) h1 h2;rw[<-hV]at k39';have q1:m+1≠m:=by omega
 have hup2:∀Z,Aj (Qf m) clash (hset (hset G m (some (.cells [.bool false]))) (m+1) Z)=hset (hset G m (some (.cells [.bool clash]))) (m+1) Z:=λZ=>by
  funext j;simp only[Aj,Qf,hset];by_cases c:j=m;subst c;simp;simp[c]
 have kB:=k39' (hset (hset G m (some (.cells [.bool false]))) (m+1) (some (.cells C8))) (m+1+1) (by omega) (by rw[AD _ _ q1.symm,AC]);rw[hup2]at kB;have kA:=k39' (hset G m (some (.cells [.bool false]))) (m+1) (qa _) (AC _ _ _);rw[hup]at kA;have f1:=λZ=>AV (k:=0) (h':=hset (hset G m (some (.cells [.bool clash]))) (m+1) (some (.cells Z))) (h:=hset G m (some (.cells [.bool clash]))) (AW (hGm clash) (qa _)) (AC _ _ _);have f2:=λZ=>AJ (m:=m+1) (y:=some (.cells Z)) (hGm clash) (AB (h:=hset G m (some (.cells [.bool clash]))));refine⟨bH.use ?_,?_⟩;simp[go_sem];refine⟨?_,?_⟩;refine qC (by simpa[AI.enc,AF.flat,AK.flat]using kA) ?_;rintro v H' n' ⟨rfl,rfl,rfl⟩;simp[go_sem,IO,AC,AS];exact⟨f1 _,f2 _⟩;refine qC (by simpa[AI.enc,AF.flat,AK.flat,C8]using kB) ?_;rintro v H' n' ⟨rfl,rfl,rfl⟩;simp[go_sem,IO,AC,AS];exact⟨f1 _,f2 _⟩;refine bH.use ?_;simp[go_sem];refine qC (by simpa[AI.enc,AF.flat,AK.flat,C8]using kB) ?_;rintro v H' n' ⟨rfl,rfl,rfl⟩;simp[go_sem,IO,AC,AS];exact⟨f1 _,f2 _⟩;have hA2:A=if clash then 24 else 0:=by rw[hA];exact Od hE
 have hm3:m≠n+3:=by omega
 have r1:=λ(h:Hp) y=>AD h y hm3.symm;have hk:∀Z j y,h j=some y->hset (hset G m (some (.cells [.bool clash]))) (n+3) Z j=some y:=λZ j y e=>by
  have:=hHb j y e;rw[AD _ _ (by omega),AD _ _ (by omega)];exact hGk j y e
 cases hcl:clash with
 | true=>
  rw[hcl]at hA2 hk;refine AH ?_;simp[go_sem,AC,r1,hGa,C8];exact fin _ _ 24 (hk _) (by rw[hA2];rfl) (by decide)
 | false=>
  rw[hcl]at hA2 hk;have hRR:=hR hcl;refine AH ?_;simp[go_sem,AC,r1,hGa,C8,AF.flat,AK.flat];have hA3:A=0:=by rw[hA2];rfl
  rw[Sd,hA3,if_pos rfl,<-hRR];exact Ay ho (hk _) (by simp[AI.enc,AF.flat,AK.flat]) (HT n R0 0)
def Vl:Tr:=.pure 0<|.pure 2<|.one 1<|.one 3 .nil
set_option maxHeartbeats 8000000 in
theorem c27 (D:AI) (l:List Int) (hl:l.length<=1048576) (to:Ax) (bad:Bool) (M:List (Int×Int)) (hM:M.length<=1048576) (R:AI) (hr:D.revs.length<=1048576) (ht:Px D.revs)
 (cF:EK D l to=0->∀(p q n0:Nat),p≠q->p<n0->q<n0->∀(H:Hp) (n:Nat),n0<=n->H p=some (.cells [.bool false])->H q=some (.list 2 [])->BA Tryz.prog 36 [D.enc,AX.enc,.fn (.func 93) [] [.ptr p 0,.iptr [.imm 1 (l.map AA) false],.ptr q 0]] H n (λv h' n'=>v=.tup []/\h'=Aj (KP p q) (bad,M) H/\n'=n))
 (cG:EK D l to=0->bad=false->∀(q n0:Nat),q<n0->∀(H:Hp) (n:Nat),n0<=n->H q=some (.map (Cy (WX l M) 0))->BA Tryz.prog 49 [.fn (.func 102) [] [.iptr [.imm 1 (l.map AA) false],.iptr [AA to.id,.str to.author,AA to.time],.iptr [.map q]],D.enc,AX.enc,Ao (OK D l to)] H n (λv h' n'=>v=R.enc/\h'=H/\n'=n)):
 PC 27 [D.enc,.imm 1 (l.map AA) false,to.enc] (.tup [(Sd (Sz D l to bad) R).enc,AA (Sz D l to bad)]):=by
 intro h n;refine Db Tryz.func27 rfl λho=>?_;have hHb:=ho.lt;obtain⟨X,hX⟩:∃X:SV,X=.iptr ([AG D.flow]++D.«end».flat++[Ao D.revs]++D.settings.flat):=⟨_,rfl⟩
 obtain⟨V,hV⟩:∃V:SV,V=.iptr [AA to.id,.str to.author,AA to.time]:=⟨_,rfl⟩
 obtain⟨J,hJ⟩:∃J:SV,J=.imm 1 (l.map AA) false:=⟨_,rfl⟩
 obtain⟨G,hG⟩:∃G:Hp,G=hset h (n+2) (some (.cells C8)):=⟨_,rfl⟩
 have hGa:G (n+2)=some (.cells C8):=by rw[hG,AC]
 have hGb:∀j y,G j=some y->j<n+3:=λj y e=>by
  rw[hG]at e;simp only[hset]at e;split at e;omega;have:=hHb j y e;omega
 have hGk:∀j y,h j=some y->G j=some y:=λj y e=>by have:=hHb j y e;rw[hG,AD _ _ (by omega)];exact e
 obtain⟨A,hA⟩:∃A,A=Sz D l to bad:=⟨_,rfl⟩
 rw[<-hA];have fin:∀(h':Hp) (n':Nat) (e:Int),(∀j y,h j=some y->h' j=some y)->A=e->e≠0->B8 n h' n' (.tup [.agg C8,AA e]) (Is (.tup [(Sd A R).enc,AA A]) h n):=λh' n' e hh he hne=>by
  rw[Sd,he,if_neg hne];refine Dy 3 ho hh (.inr ⟨.inr ?_,IO,trivial⟩) (HT n zD e);exact⟨BC (by simp),BC (by simp),IO,IO,BC (by simp),BC (by simp),BC (by simp),BC (by simp),BC (by simp),BC (by simp),BC (by simp),trivial⟩
 have keep:=AJ (m:=n+2) (y:=some (.cells C8)) (h:=h) (h':=G) (λj z e=>by have:=hHb j z e;omega) hGk;obtain⟨E,hE⟩:∃E,E=EK D l to:=⟨_,rfl⟩
 have hAE:E≠0->A=E:=λg=>by rw[hA];unfold Sz;rw[<-hE,if_pos g]
 refine BP 1 [(1,J),(3,X),(5,V),(6,.ptr (n+2) 0)] G (λm=>n+3<=m) ?_ (λm hm=>?_);rw[hX,hV,hG,hJ];simp[go_sem,AI.enc,Ax.enc,AF.flat,AK.flat,IO,qD,C8];refine⟨⟨AV (by simp[hset];exact ho.none (by omega)) (by simp[hset]),AV (by simp[hset];exact ho.none (by omega)) (by simp[hset])⟩,λj y=>?_⟩;have:=hHb j y;simp only[hset];grind;refine Bo 0 [(1,J),(3,X),(5,V),(6,.ptr (n+2) 0)] G (λm=>n+3<=m/\l.length≠0) (AH ?_) (λm hm=>?_);rw[hJ];by_cases e0:l.length=0;have:l=[]:=jQ.1 e0;subst this;simp[go_sem,hGa,C8,AC];have e11:E=11:=by rw[hE];rfl
 exact fin _ _ 11 keep (by rw[hAE (by rw[e11];decide),e11]) (by decide);have e1:l≠[]:=λg=>e0 (by rw[g];rfl);simp[go_sem,IO,hm,e1];obtain⟨hm,hl0⟩:=hm;have hE0:E=if C5 D.revs none l≠0 then C5 D.revs none l else if CL to≠0 then CL to else if(CA D.revs to.id).2=true/\to.id∉l then 7 else 0:=by rw[hE];unfold EK;rw[if_neg hl0]
 refine Bo 0 [(1,J),(3,X),(5,V),(6,.ptr (n+2) 0)] G (λm=>n+3<=m/\C5 D.revs none l=0) ?_ (λm hm=>?_);refine BP 0 [(1,J),(3,X),(5,V),(6,.ptr (n+2) 0),(28,J),(29,AA l.length),(30,AA 0)] G (λm=>n+3<=m) ?_ (λm hm=>?_);rw[hJ];simp[go_sem,IO,hm];refine AR (BG 0 (α:=Nat) (λi=>[(1,J),(3,X),(5,V),(6,.ptr (n+2) 0),(28,J),(29,AA l.length),(30,AA i)]) (λ_=>G) (λi m=>i<=l.length/\n+3<=m/\C5 D.revs none l=C5 D.revs (F5 l i) (l.drop i)) (λi=>l.length-i) 0 ⟨by omega,hm,rfl⟩ ?_ AB ?_);simp[go_sem,Ai,IO];rintro i m ⟨hi,hm,h0⟩;by_cases hlt:i<l.length;have w1:=wS i (by omega);obtain⟨x,hx⟩:∃x,l[i]=x:=⟨_,rfl⟩
 have hst:=NO (T:=D.revs) hlt hx;rw[<-h0]at hst;have badd:∀(e:Int) (m:Nat) (h':Hp),(∀j y,h j=some y->h' j=some y)->C5 D.revs none l=e->e≠0->B8 n h' m (.tup [.agg C8,AA e]) (Is (.tup [(Sd A R).enc,AA A]) h n):=λe m h' hh h1 h2=>fin _ _ e hh (by
  have:E=e:=by rw[hE0,h1,if_pos h2]
  rw[hAE (by rw[this];exact h2),this]) h2
 refine Bp 0 [(1,J),(3,X),(5,V),(6,.ptr (n+2) 0),(28,J),(29,AA l.length),(30,AA i),(31,.bool true)] G m ?_ (λm2 hm2=>?_);simp[go_sem,IO,hlt];subst hm2;refine Bp 0 [(1,J),(3,X),(5,V),(6,.ptr (n+2) 0),(28,J),(29,AA l.length),(30,AA i)] G m ?_ (λm2 hm2=>?_);simp[go_sem,IO];subst hm2;refine AT 0 (α:=Unit) (λ_=>[(1,J),(3,X),(5,V),(6,.ptr (n+2) 0),(28,J),(29,AA l.length),(30,AA i)]) (λ_=>G) (λ_ m=>n+3<=m/\C5 D.revs none l=C5 D.revs (F5 l (i+1)) (l.drop (i+1))) (AR ?_) (λ_ m hm=>?_);refine Bp 0 [(1,J),(3,X),(5,V),(6,.ptr (n+2) 0),(28,J),(29,AA l.length),(30,AA i),(8,AA i),(9,AA x)] G m ?_ (λm2 hm2=>?_);rw[hJ];simp[go_sem,IO,hlt,hx];subst hm2;refine BP 0 [(1,J),(3,X),(5,V),(6,.ptr (n+2) 0),(28,J),(29,AA l.length),(30,AA i),(8,AA i),(9,AA x),(11,.bool (CA D.revs x).2)] G (λm2=>n+3<=m2) ?_ (λm2 hm2=>?_);rw[hX];simp[go_sem,AF.flat,AK.flat];refine qw (V4 D.revs hr x) ?_;simp[go_sem,IO,Ax.enc,AC,AS];exact⟨by omega,AJ (λj z e=>by have:=hGb j z e;omega) AB⟩;refine AR ?_;refine BP 0 [(1,J),(3,X),(5,V),(6,.ptr (n+2) 0),(28,J),(29,AA l.length),(30,AA i),(8,AA i),(9,AA x),(42,.bool (!(CA D.revs x).2))] G (λm=>n+3<=m) ?_ (λm hm=>?_);simp[go_sem,IO,hm2];cases e:(CA D.revs x).2 with
 | false=>
  refine Ah (b:=true) (by simp[go_sem]) (AH ?_);simp[go_sem,hGa,C8,AC];exact badd 22 _ _ keep (by rw[hst,e];rfl) (by decide)
 | true=>
  rw[e,if_neg (by decide)]at hst;refine Ah (b:=false) (by simp[go_sem]) ?_;simp only[qj,if_false];by_cases i0:i=0;subst i0;refine BP 0 [(1,J),(3,X),(5,V),(6,.ptr (n+2) 0),(28,J),(29,AA l.length),(30,AA (0:Nat)),(8,AA (0:Nat)),(9,AA x),(46,.bool false)] G (λm=>n+3<=m) ?_ (λm hm=>?_);simp[go_sem,IO,hm];refine Ah (b:=false) (by simp[go_sem]) ?_;simp only[qj,if_false];refine BP 0 [(1,J),(3,X),(5,V),(6,.ptr (n+2) 0),(28,J),(29,AA l.length),(30,AA (0:Nat)),(8,AA (0:Nat)),(9,AA x),(59,.bool false)] G (λm=>n+3<=m) ?_ (λm hm=>?_);simp[go_sem,IO,hm];refine Ah (b:=false) (by simp[go_sem]) (AH ?_);simp[go_sem,IO,hm];rw[hst];simp[F5];have i1:0<i:=by omega
  have hi1:i-1<l.length:=by omega
  have w2:IntKind.i64.wrap ((i:Int)-1)=((i-1:Nat):Int):=by rw[Cl]<;>omega
  obtain⟨y,hy⟩:∃y,l[i-1]=y:=⟨_,rfl⟩
  have hp:F5 l i=some y:=by
   obtain⟨j,rfl⟩:∃j,i=j+1:=⟨i-1,by omega⟩
   rw[F5,qf (by omega)];simpa using hy
  rw[hp]at hst;simp only at hst;refine BP 0 [(1,J),(3,X),(5,V),(6,.ptr (n+2) 0),(28,J),(29,AA l.length),(30,AA i),(8,AA i),(9,AA x),(46,.bool (decide (x=y)))] G (λm=>n+3<=m) ?_ (λm hm=>?_);rw[hJ];simp[go_sem,IO,hm,i1,w2,hi1,hy];rw[show(x==y)=decide (x=y)from rfl];exact IO;by_cases exy:x=y;refine Ah (b:=true) (by simp[go_sem,exy]) (AH ?_);simp[go_sem,hGa,C8,AC];exact badd 7 _ _ keep (by rw[hst,if_pos exy]) (by decide);rw[if_neg exy]at hst;refine Ah (b:=false) (by simp[go_sem,exy]) ?_;simp only[qj,if_false];refine BP 0 [(1,J),(3,X),(5,V),(6,.ptr (n+2) 0),(28,J),(29,AA l.length),(30,AA i),(8,AA i),(9,AA x),(59,.bool (decide (x<y)))] G (λm=>n+3<=m) ?_ (λm hm=>?_);rw[hJ];simp[go_sem,IO,hm,i1,w2,hi1,hy];by_cases lxy:x<y;refine Ah (b:=true) (by simp[go_sem,lxy]) (AH ?_);simp[go_sem,hGa,C8,AC];exact badd 6 _ _ keep (by rw[hst,if_pos lxy]) (by decide);rw[if_neg lxy]at hst;refine Ah (b:=false) (by simp[go_sem,lxy]) (AH ?_);simp[go_sem,IO,hm];exact hst
 refine AH ?_;simp[go_sem,w1,IO,-Int.natCast_add];exact⟨i+1,by omega,⟨by omega,hm.1,hm.2⟩,IO⟩;refine AH ?_;rw[jF (by omega),C5]at h0;simp[go_sem,hlt,IO];exact⟨hm,h0⟩;obtain⟨hm,e1⟩:=hm;rw[e1,if_neg (by decide)]at hE0;refine Bo 0 [(1,J),(3,X),(5,V),(6,.ptr (n+2) 0)] G (λm=>n+3<=m/\CL to=0) (AH ?_) (λm hm=>?_);rw[hV];simp[go_sem];refine qw (by simpa[Ax.enc]using W9 to) ?_;by_cases e2:CL to=0;simp[go_sem,e2,IO,hm];simp[go_sem,e2,hGa,C8,AC];have e3:E=CL to:=by rw[hE0,if_pos e2]
 exact fin _ _ _ keep (by rw[hAE (by rw[e3];exact e2),e3]) e2;obtain⟨hm,e2⟩:=hm;rw[e2,if_neg (by decide)]at hE0;obtain⟨N,hN⟩:∃N:SV,N=.iptr [.imm 1 (l.map AA) false]:=⟨_,rfl⟩
 refine BP 1 [(1,J),(3,X),(5,V),(6,.ptr (n+2) 0),(13,N)] G (λm=>n+3<=m) ?_ (λm hm=>?_);have hGm:∀j y,G j=some y->j<m:=λj y e=>by have:=hGb j y e;omega
 rw[hN,hJ];simp[go_sem,IO,AC,AS];exact⟨by omega,AV (AW hGm (qa _)) (AC _ _ _),AJ hGm AB⟩;have hto:to.id≠0:=by have:=Pa e2;omega
 have hhas:BV l to.id=decide (to.id∈l):=by unfold BV;simp[hto]
 refine Bo 0 [(1,J),(3,X),(5,V),(6,.ptr (n+2) 0),(13,N)] G (λm=>n+3<=m/\E=0) (AH ?_) (λm hm=>?_);have hGm:∀j y,G j=some y->j<m:=λj y e=>by have:=hGb j y e;omega
 rw[hX,hV,hN];simp[go_sem,AF.flat,AK.flat];refine qw (V4 D.revs hr to.id) ?_;cases e3:(CA D.revs to.id).2 with
 | false=>
  simp[go_sem,Ax.enc,AC,AS,IO];exact⟨⟨by omega,by rw[hE0,e3];simp⟩,AJ hGm AB⟩
 | true=>
  simp[go_sem,Ax.enc,AC,AS];refine qw (ZN l (by omega) to.id false) ?_;rw[hhas];by_cases e4:to.id∈l;simp[go_sem,e4,IO];exact⟨⟨by omega,by rw[hE0,e3];simp[e4]⟩,AJ hGm AB⟩;have hne:m≠n+2:=by omega
  simp[go_sem,e4,AD _ _ hne.symm,hGa,C8,AC];have e5:E=7:=by rw[hE0,e3,if_pos ⟨rfl,e4⟩]
  exact fin _ _ 7 (λj y e=>by have:=hHb j y e;rw[AD _ _ (by omega),AD _ _ (by omega)];exact hGk j y e) (by rw[hAE (by rw[e5];decide),e5]) (by decide)
 obtain⟨hm,e3⟩:=hm;have hz:EK D l to=0:=by rw[<-hE];exact e3
 have hA2:A=if bad then 24 else 0:=by rw[hA];exact Od hz
 refine BP 0 [(1,J),(3,X),(5,V),(6,.ptr (n+2) 0),(13,N),(16,.ptr m 0)] (hset G m (some (.cells [.imm 0 [] true]))) (λm'=>m+1=m') ?_ (λm' hm'=>?_);simp[go_sem,IO];subst hm';have q1:m≠m+1:=by omega
 refine BP 0 [(1,J),(3,X),(5,V),(6,.ptr (n+2) 0),(13,N),(16,.ptr m 0),(17,.ptr (m+1) 0)] (hset (hset G m (some (.cells [.imm 0 [] true]))) (m+1) (some (.cells [.bool false]))) (λm'=>m+2=m') ?_ (λm' hm'=>?_);simp[go_sem,IO,AC,AS];subst hm';refine Jt m 2 none (by rw[AD _ _ q1,AC]) ?_;obtain⟨W,hW⟩:∃W:Bool×List (Int×Int)->Hp,∀s,W s=hset (hset G m (some (.list 2 (s.2.map B5)))) (m+1) (some (.cells [.bool s.1])):=⟨_,λ_=>rfl⟩
 have hW0:hset (hset (hset G m (some (.cells [.imm 0 [] true]))) (m+1) (some (.cells [.bool false]))) m (some (.list 2 []))=W (false,[]):=by
  rw[hW];funext j;simp only[hset,qS];grind
 have hWup:∀s s',Aj (KP (m+1) m) s' (W s)=W s':=λs s'=>by
  rw[hW,hW];funext j;simp only[Aj,KP,hset];grind
 have hWp:∀s,W s (m+1)=some (.cells [.bool s.1]):=λs=>by rw[hW,AC]
 have hWq:∀s,W s m=some (.list 2 (s.2.map B5)):=λs=>by rw[hW,AD _ _ q1,AC]
 have hWk:∀s j y,G j=some y->W s j=some y:=λs j y e=>by
  have:=hGb j y e;rw[hW,AD _ _ (by omega),AD _ _ (by omega)];exact e
 have hWb:∀s j y,W s j=some y->j<m+2:=λs j y e=>by
  rw[hW]at e;by_cases c1:j=m;omega;by_cases c2:j=m+1;omega;rw[AD _ _ c2,AD _ _ c1]at e;have:=hGb j y e;omega
 rw[hW0];have k36':=λ(m':Nat) (hm':m+2<=m')=>cF hz (m+1) m (m+2) q1.symm (by omega) (by omega) (W (false,[])) m' hm' (hWp _) (hWq _);simp only[hWup]at k36';refine AT 0 (α:=Unit) (λ_=>[(1,J),(3,X),(5,V),(6,.ptr (n+2) 0),(13,N),(16,.ptr m 0),(17,.ptr (m+1) 0)]) (λ_=>W (bad,M)) (λ_ m'=>m+2<=m') (BX Vl rfl (by kernel_rfl) (by kernel_rfl) ?_) (λ_ m2 hm2=>?_);rw[hX];simp[go_sem,Vl,AF.flat,AK.flat];refine c67.use ?_;simp[go_sem];refine qC (by simpa[AI.enc,AF.flat,AK.flat,hN]using k36' (m+2) (qa _)) ?_;rintro v H' n' ⟨rfl,rfl,rfl⟩;simp[go_sem,IO];refine Bo 0 [(1,J),(3,X),(5,V),(6,.ptr (n+2) 0),(13,N),(16,.ptr m 0)] (W (bad,M)) (λm'=>m+2<=m'/\bad=false) (AH ?_) (λm3 hm3=>?_);cases hbd:bad with
 | true=>
  rw[hbd]at hA2;have h1:W (true,M) (n+2)=some (.cells C8):=hWk _ _ _ hGa;simp[go_sem,hWp,h1,C8,AC];exact fin _ _ 24 (λj y e=>by have:=hHb j y e;rw[AD _ _ (by omega)];exact hWk _ _ _ (hGk j y e)) (by rw[hA2];rfl) (by decide)
 | false=>
  simp[go_sem,hWp,IO,hm2]
 obtain⟨hm3,hbd⟩:=hm3;have hA3:A=0:=by rw[hA2,hbd];rfl
 refine Kt m (E3 M) (hWq _) λo m4 hm4 hAc hoe=>?_;have hMn:o=none->M=[]:=λg=>List.map_eq_nil_iff.1 (hAc.none g);have hom:o≠some m:=λg=>by have:=(hAc.lt m g).1;omega
 rw[Wa,Wj];obtain⟨U,hU⟩:∃U:SV->Hp,∀v,U v=hset (W (bad,M)) m (some (.cells [v])):=⟨_,λ_=>rfl⟩
 have hUs:∀v v',hset (U v) m (some (.cells [v']))=U v':=λv v'=>by rw[hU,hU,AS]
 have hUm:∀v,U v m=some (.cells [v]):=λv=>by rw[hU,AC]
 have hUk:∀v j y,G j=some y->U v j=some y:=λv j y e=>by
  have:=hGb j y e;rw[hU,AD _ _ (by omega)];exact hWk _ j y e
 rw[<-hU];obtain⟨r,hrr⟩:∃r,r=M.filter λx=>BV l x.1:=⟨_,rfl⟩
 have hrl:r.length<=1048576:=by rw[hrr];exact qr (qU _ _) hM
 have hrn:o=none->r=[]:=λg=>by rw[hrr,hMn g];rfl
 have r1:∀r t v,rH o r t (U v) m=some (.cells [v]):=λr t v=>by rw[NJ hom];exact hUm v
 have r2:∀r t v v',hset (rH o r t (U v)) m (some (.cells [v']))=rH o r t (U v'):=λr t v v'=>by rw[Wb hom,hUs]
 refine BM 0 (α:=Bx×List SV) (λq=>[(1,J),(3,X),(5,V),(6,.ptr (n+2) 0),(13,N),(16,.ptr m 0)]) (λq=>rH o r q.2 (U (rV o r q.1.b))) (λ_ m'=>m4=m') ?_ (λq m5 hm5=>?_);simp[go_sem,r1];refine qC (u95 M hM hMn 96 [] [N] (λx=>!BV l x.1) (λx _=>by rw[hN];exact c96 l (by omega) x false) (f:=false) (H:=rH o M [] (U (rV o M false))) (n:=m4) (λj e=>by have:=RN (r:=M) (t:=[]) (H:=U (rV o M false)) j e;simpa using this)) ?_;rintro v H' n' ⟨f2,t,rfl,rfl,rfl⟩;simp only[Bool.not_not,<-hrr,Tw];cases o with
 | none=>
  simp only[rV]at r1 r2 ⊢;simp[go_sem,r1,r2,IO];exact⟨⟨f2⟩,t,AB⟩
 | some j=>
  simp only[rV]at r1 r2 ⊢;simp[go_sem,r1,r2,IO];exact⟨⟨f2⟩,t,AB⟩
 obtain⟨⟨f2⟩,t⟩:=q;dsimp only;subst hm5;refine Bp 0 [(1,J),(3,X),(5,V),(6,.ptr (n+2) 0),(13,N),(16,.ptr m 0)] (rH o (De r) t (U (rV o r f2))) m4 ?_ (λm5 hm5=>?_);simp[go_sem,r1];refine qC (u97 r hrl hrn (f:=f2) (H:=rH o r t (U (rV o r f2))) (n:=m4) (t:=t) (λj e=>RN j e)) ?_;rintro v H' n' ⟨rfl,rfl,rfl⟩;simp[go_sem,Tw,IO];subst hm5;have hsl:(De r).length=r.length:=jW _;have hrV:rV o r f2=rV o (De r) f2:=by cases o<;>simp[rV,hsl]
 rw[hrV];have hsn:o=none->De r=[]:=λg=>jQ.1 (by rw[hsl,hrn g];rfl);have hol:∀j,o=some j->j<m4:=λj e=>(hAc.lt j e).2;have hUb:∀r t v j y,rH o r t (U v) j=some y->j<m4:=λr t v j y e=>by
  by_cases c:o=some j;exact hol j c;rw[NJ c,hU]at e;by_cases c2:j=m;omega;rw[AD _ _ c2]at e;have:=hWb _ j y e;omega
 refine BP 0 [(1,J),(3,X),(5,V),(6,.ptr (n+2) 0),(13,N),(16,.ptr m 0),(18,.ptr (m4+1) 0)] (hset (hset (rH o (De r) t (U (rV o (De r) f2))) m4 (some (.map []))) (m4+1) (some (.cells [.map m4]))) (λm'=>m4+2=m') ?_ (λm5 hm5=>?_);simp[go_sem,IO,AC,AS];subst hm5;obtain⟨L,hL⟩:∃L,L=WX l M:=⟨_,rfl⟩
 have hLd:Ip (De r) (De r).length=L:=by rw[hL,hrr];rfl
 have hLi:Rr L:=by rw[hL];exact RH l M
 have hLl:L.length<=1048576:=by rw[<-hLd];have:=Q3 (De r) (De r).length;omega
 have hLn:o=none->L=[]:=λg=>by rw[<-hLd,hsn g];rfl
 obtain⟨Kh,hKh⟩:∃Kh:List (SV×SV)->Hp,∀es,Kh es=hset (hset G m4 (some (.map es))) (m4+1) (some (.cells [.map m4])):=⟨_,λ_=>rfl⟩
 have hK1:∀es,Kh es (m4+1)=some (.cells [.map m4]):=λes=>by rw[hKh,AC]
 have hK0:∀es,Kh es m4=some (.map es):=λes=>by rw[hKh,AD _ _ (by omega),AC]
 have hKs:∀es es',hset (Kh es) m4 (some (.map es'))=Kh es':=λes es'=>by rw[hKh,hKh];funext j;simp only[hset];grind
 have hKb:∀es j y,Kh es j=some y->j<m4+2:=λes j y e=>by
  rw[hKh]at e;by_cases c1:j=m4;omega;by_cases c2:j=m4+1;omega;rw[AD _ _ c2,AD _ _ c1]at e;have:=hGb j y e;omega
 have hKk:∀es j y,G j=some y->Kh es j=some y:=λes j y e=>by
  have:=hGb j y e;rw[hKh,AD _ _ (by omega),AD _ _ (by omega)];exact e
 have hoj:∀j,o=some j->m3<=j/\j<m4:=hAc.lt;refine Bo 0 [(1,J),(3,X),(5,V),(6,.ptr (n+2) 0),(13,N),(18,.ptr (m4+1) 0)] (Kh (Cy L 0)) (λm'=>m4+2<=m') ?_ (λm6 hm6=>?_);refine BP 1 [(1,J),(3,X),(5,V),(6,.ptr (n+2) 0),(13,N),(18,.ptr (m4+1) 0),(110,.imm 2 (L.map B5) false),(111,AA L.length),(112,AA 0)] (Kh []) (λm'=>m4+2<=m') ?_ (λm6 hm6=>?_);have y1:m≠m4:=by omega
 have y2:m≠m4+1:=by omega
 obtain⟨Y,hY⟩:∃Y:Hp,Y=hset (hset (rH o (De r) t (U (rV o (De r) f2))) m4 (some (.map []))) (m4+1) (some (.cells [.map m4])):=⟨_,rfl⟩
 have hYm:Y m=some (.cells [rV o (De r) f2]):=by rw[hY,AD _ _ y2,AD _ _ y1];exact r1 _ _ _
 have hYj:∀j,o=some j->Y j=some (.cells (Fw (De r)++t)):=λj e=>by
  have:=hoj j e;rw[hY,AD _ _ (by omega),AD _ _ (by omega)];exact RN j e
 have hYk:∀t j y,Kh [] j=some y->rH o L t Y j=some y:=λt j y e=>by
  by_cases c1:j=m4;subst c1;rw[hK0]at e;rw[NJ (λg=>by have:=hoj _ g;omega),hY,AD _ _ (by omega),AC];exact e;by_cases c2:j=m4+1;subst c2;rw[hK1]at e;rw[NJ (λg=>by have:=hoj _ g;omega),hY,AC];exact e;rw[hKh,AD _ _ c2,AD _ _ c1]at e;have:=hGb j y e;have c3:o≠some j:=λg=>by have:=hoj _ g;omega
  rw[NJ c3,hY,AD _ _ c2,AD _ _ c1,NJ c3];exact hUk _ j y e
 rw[<-hY];simp[go_sem,hYm];refine qC (dE (De r) (by omega) hsn (f:=f2) (H:=Y) (n:=m4+2) (t:=t) hYj) ?_;rintro v H' n' ⟨f3,t3,rfl,rfl,rfl⟩;rw[hLd];have hfz:Fz (rH o L t3 Y) (Kh []) 1 (rV o L f3) (.imm 2 (L.map B5) false):=Ym hLn (λj e=>by
  have:=hoj j e;rw[hKh,AD _ _ (by omega),AD _ _ (by omega)];exact AW hGb (by omega)) (λj e=>RN j e)
 have hk:=hYk t3;generalize rH o L t3 Y=Y2 at hfz hk ⊢;cases o with
 | none=>
  have hL0:=hLn rfl;simp only[rV]at hfz ⊢;simp[go_sem,IO,hL0];exact⟨by simpa[hL0]using hfz,hk⟩
 | some j=>
  simp only[rV]at hfz ⊢;simp[go_sem,IO];exact⟨hfz,hk⟩
 refine AR (BG 0 (α:=Nat) (λi=>[(1,J),(3,X),(5,V),(6,.ptr (n+2) 0),(13,N),(18,.ptr (m4+1) 0),(110,.imm 2 (L.map B5) false),(111,AA L.length),(112,AA i)]) (λi=>Kh (Cy (L.take i) 0)) (λi m=>i<=L.length/\m4+2<=m) (λi=>L.length-i) 0 ⟨by omega,hm6⟩ ?_ (by rw[km];exact AB) ?_);simp[go_sem,Ai,IO];rintro i m7 ⟨hi,hm7⟩;by_cases hlt:i<L.length;have w1:=wS i (by omega);obtain⟨x,hx⟩:∃x,L[i]=x:=⟨_,rfl⟩
 have htk:L.take (i+1)=L.take i++[x]:=by rw[qb hlt,hx]
 have hnot:x∉L.take i:=λg=>by
  obtain⟨j,hj,e⟩:=List.mem_take_iff_getElem.1 g;have:=jC.1 hLi j i (by omega) hlt (by omega);exact Nx this (by rw[e,hx])
 refine Bp 0 [(1,J),(3,X),(5,V),(6,.ptr (n+2) 0),(13,N),(18,.ptr (m4+1) 0),(110,.imm 2 (L.map B5) false),(111,AA L.length),(112,AA i),(113,.bool true)] (Kh (Cy (L.take i) 0)) m7 ?_ (λm hm=>?_);simp[go_sem,IO,hlt];subst hm;refine Bp 0 [(1,J),(3,X),(5,V),(6,.ptr (n+2) 0),(13,N),(18,.ptr (m4+1) 0),(110,.imm 2 (L.map B5) false),(111,AA L.length),(112,AA i)] (Kh (Cy (L.take i) 0)) m7 ?_ (λm hm=>?_);simp[go_sem,IO];subst hm;refine AT 0 (α:=Unit) (λ_=>[(1,J),(3,X),(5,V),(6,.ptr (n+2) 0),(13,N),(18,.ptr (m4+1) 0),(110,.imm 2 (L.map B5) false),(111,AA L.length),(112,AA i)]) (λ_=>Kh (Cy (L.take (i+1)) 0)) (λ_ m=>m4+2<=m) (AR ?_) (λ_ m hm=>?_);refine BP 1 [(1,J),(3,X),(5,V),(6,.ptr (n+2) 0),(13,N),(18,.ptr (m4+1) 0),(110,.imm 2 (L.map B5) false),(111,AA L.length),(112,AA i),(19,AA i),(20,.iptr [AA x.1,AA x.2])] (Kh (Cy (L.take i) 0)) (λm=>m4+2<=m) ?_ (λm hm=>?_);have hKm:∀j y,Kh (Cy (L.take i) 0) j=some y->j<m7:=λj y e=>by have:=hKb _ j y e;omega
 simp[go_sem,IO,hlt,hx,B5,AC,AS];exact⟨by omega,AV (AW hKm (qa _)) (AC _ _ _),AJ hKm AB⟩;refine AH ?_;simp[go_sem,hK1,w1,-Int.natCast_add];refine KJ (q:=m4) (a:=x.1) (b:=x.2) rfl (by simp[go_sem]) (hK0 _) (by simp[go_sem]) (PI _ _) (es2:=Cy (L.take (i+1)) 0) (r:=none) ?_ (NC x _ _ _ hnot) ?_;have hil:(L.take i).length=i:=by rw[jr];omega
 rw[htk,PH,hil];simp[go_sem,B5,Cy];simp[go_sem,hKs,IO,hm];refine AH ?_;simp[go_sem,w1,IO,-Int.natCast_add];exact⟨i+1,by omega,⟨by omega,hm⟩,IO,AB⟩;have:i=L.length:=by omega
 subst this;refine AH ?_;rw[qi];simp[go_sem,IO];exact hm7;obtain⟨t1,t2,t3,_,_⟩:=QB ht hz;obtain⟨Q,hQ⟩:∃Q:Hp,Q=hset G m4 (some (.map (Cy L 0))):=⟨_,rfl⟩
 have hKQ:∀j y,Q j=some y->Kh (Cy L 0) j=some y:=λj y e=>by
  by_cases c1:j=m4;subst c1;rw[hQ,AC]at e;rw[hK0];exact e;rw[hQ,AD _ _ c1]at e;exact hKk _ j y e
 have hQ0:Q m4=some (.map (Cy L 0)):=by rw[hQ,AC]
 have hQb:∀j y,Q j=some y->j<m4+1:=λj y e=>by
  by_cases c1:j=m4;omega;rw[hQ,AD _ _ c1]at e;have:=hGb j y e;omega
 have hQk:∀j y,G j=some y->Q j=some y:=λj y e=>by have:=hGb j y e;rw[hQ,AD _ _ (by omega)];exact e
 refine AT 1 (α:=Unit) (λ_=>[(3,X),(5,V),(6,.ptr (n+2) 0),(13,N),(18,.iptr [.map m4]),(21,Ao (OK D l to)),(22,AA 0)]) (λ_=>Q) (λ_ m=>m4+2<=m) (BX RW rfl (by kernel_rfl) (by kernel_rfl) ?_) (λ_ m8 hm8=>?_);rw[hX,hJ,hV];simp[go_sem,RW,AF.flat,AK.flat];refine qw (c64 D.revs hr l hl) ?_;simp[go_sem];refine qw (by simpa[Ax.enc]using Xl t2 t1 e2 t3) ?_;simp[go_sem,IO,OK,hm6];exact⟨AV (AW hQb (qa _)) (hK1 _),hKQ⟩;refine GI ?_;refine BP 0 [(3,X),(5,V),(6,.ptr (n+2) 0),(13,N),(18,.iptr [.map m4]),(21,Ao (OK D l to)),(132,.bool false)] Q (λm=>m4+2<=m) ?_ (λm9 hm9=>?_);simp[go_sem,IO,hm8];refine Ah (b:=false) (by simp[go_sem]) ?_;simp only[qj,if_false];refine Gv ?_;rw[FB];refine BP 0 [(3,X),(6,.ptr (n+2) 0),(21,Ao (OK D l to)),(23,.fn (.func 102) [] [N,V,.iptr [.map m4]])] Q (λm=>m4+2<=m) ?_ (λm10 hm10=>?_);simp[go_sem,IO,hm9];refine AT 0 (α:=Unit) (λ_=>[(6,.ptr (n+2) 0),(7,AA 0)]) (λ_=>hset Q (n+2) (some (.cells ([AG R.flow]++R.«end».flat++[Ao R.revs]++R.settings.flat)))) (λ_ m=>m4+2<=m) (BX Yz rfl (by kernel_rfl) (by kernel_rfl) ?_) (λ_ m11 hm11=>?_);have hQz:Q (n+2)=some (.cells C8):=hQk _ _ hGa;have hk:=cG hz hbd m4 (m4+1) (by omega) Q m10 (by omega) (by rw[hQ0,hL]);rw[<-hN,<-hV]at hk;rw[hX];simp[go_sem,Yz,AF.flat,AK.flat];refine c67.use ?_;simp[go_sem];refine qC (by simpa[AI.enc,AF.flat,AK.flat]using hk) ?_;rintro v H' n' ⟨rfl,rfl,rfl⟩;simp[go_sem,hQz,C8,IO,hm10];refine AH ?_;simp[go_sem,AF.flat,AK.flat,AC];rw[Sd,hA3,if_pos rfl];exact Ay ho (AJ (λj z e=>by have:=hHb j z e;omega) (λj y e=>hQk j y (hGk j y e))) (by simp[AI.enc,AF.flat,AK.flat]) (HT n R 0)
section
variable {hp0 : AF → Prop} {m2 : List Int} {g g' : Bool → AF → AF}
end
theorem b9:(Ba Tryz.prog 42).map (λf=>(f.name == "_",f.type,f.offset))=[(false,3,0),(false,9,1),(false,3,2)]:=by kernel_rfl
theorem YB (x:Ax):Bv Tryz.prog [AA x.id,.str x.author,AA x.time] [AA x.id,.str x.author,AA x.time] (Ba Tryz.prog 42)=some true:=by
 rw[CT,b9];cases x;simp[DA,DP,go_sem]
theorem YF:(Ba Tryz.prog 115).map (λf=>(f.name == "_",f.type,f.offset))=[(false,3,0),(false,3,1),(false,9,2),(false,3,3),(false,9,4),(false,4,5)]:=by kernel_rfl
theorem WC (x:Au):Bv Tryz.prog [AA x.id,AA x.parent,.str x.author,AA x.time,.str x.text,.bool x.done] [AA x.id,AA x.parent,.str x.author,AA x.time,.str x.text,.bool x.done] (Ba Tryz.prog 115)=some true:=by
 rw[CT,YF];cases x;simp[DA,DP,go_sem]
theorem YG:(Ba Tryz.prog 118).map (λf=>(f.name == "_",f.type,f.offset))=[(false,9,0),(false,9,1)]:=by kernel_rfl
theorem WE (x:Ft):Bv Tryz.prog [.str x.name,.str x.value] [.str x.name,.str x.value] (Ba Tryz.prog 118)=some true:=by
 rw[CT,YG];cases x;simp[DA,DP,go_sem]
theorem YE:(Ba Tryz.prog 106).map (λf=>(f.name == "_",f.type,f.offset))=[(false,3,0),(false,3,1),(false,9,2),(false,3,3)]:=by kernel_rfl
theorem WB (x:CX):Bv Tryz.prog [AA x.format,AA x.start,.str x.template,AA x.restart] [AA x.format,AA x.start,.str x.template,AA x.restart] (Ba Tryz.prog 106)=some true:=by
 rw[CT,YE];cases x;simp[DA,DP,go_sem]
theorem q59 (l:List Ax) (hl:l.length<=1048576):PC 59 [.imm 3 (l.map Ax.enc) false,.imm 3 (l.map Ax.enc) false] (.bool true):=by
 intro h n;refine gq Tryz.func59 rfl λho=>?_;simp[go_sem];refine An 1 (α:=Nat) (λk=>[(0,.imm 3 (l.map Ax.enc) false),(1,.imm 3 (l.map Ax.enc) false),(12,AA l.length),(13,AA k)]) (λ_=>h) (λk m=>k<=l.length/\n<=m) (λk=>l.length-k) 0 ?_ ?_ AB ?_;simp;simp[Ai];rintro k m ⟨hk,hnm⟩;by_cases hlt:k<l.length
 . have w1:=wS k (by omega);obtain⟨x,hx⟩:∃x,l[k]=x:=⟨_,rfl⟩
   simp[go_sem,hlt,hx,Ax.enc]
   repeat first|refine nq ?_|refine sq ?_|refine aq ?_
   refine⟨_,Cp rfl (.inr rfl) (by kernel_rfl) (by kernel_rfl) (by kernel_rfl) rfl rfl (YB x),?_⟩;simp[go_sem]
   repeat first|refine nq ?_|refine sq ?_|refine aq ?_
   simp[go_sem,w1,-Int.natCast_add];exact⟨k+1,by omega,⟨by omega,hnm⟩,IO⟩
 simp[go_sem,hlt];exact As ho rfl rfl
theorem q62 (l:List Au) (hl:l.length<=1048576):PC 62 [.imm 6 (l.map Au.enc) false,.imm 6 (l.map Au.enc) false] (.bool true):=by
 intro h n;refine gq Tryz.func62 rfl λho=>?_;simp[go_sem];refine An 1 (α:=Nat) (λk=>[(0,.imm 6 (l.map Au.enc) false),(1,.imm 6 (l.map Au.enc) false),(12,AA l.length),(13,AA k)]) (λ_=>h) (λk m=>k<=l.length/\n<=m) (λk=>l.length-k) 0 ?_ ?_ AB ?_;simp;simp[Ai];rintro k m ⟨hk,hnm⟩;by_cases hlt:k<l.length
 . have w1:=wS k (by omega);obtain⟨x,hx⟩:∃x,l[k]=x:=⟨_,rfl⟩
   simp[go_sem,hlt,hx,Au.enc]
   repeat first|refine nq ?_|refine sq ?_|refine aq ?_
   refine⟨_,Cp rfl (.inr rfl) (by kernel_rfl) (by kernel_rfl) (by kernel_rfl) rfl rfl (WC x),?_⟩;simp[go_sem]
   repeat first|refine nq ?_|refine sq ?_|refine aq ?_
   simp[go_sem,w1,-Int.natCast_add];exact⟨k+1,by omega,⟨by omega,hnm⟩,IO⟩
 simp[go_sem,hlt];exact As ho rfl rfl
theorem q63 (l:List Ft) (hl:l.length<=1048576):PC 63 [.imm 2 (l.map Ft.enc) false,.imm 2 (l.map Ft.enc) false] (.bool true):=by
 intro h n;refine gq Tryz.func63 rfl λho=>?_;simp[go_sem];refine An 1 (α:=Nat) (λk=>[(0,.imm 2 (l.map Ft.enc) false),(1,.imm 2 (l.map Ft.enc) false),(12,AA l.length),(13,AA k)]) (λ_=>h) (λk m=>k<=l.length/\n<=m) (λk=>l.length-k) 0 ?_ ?_ AB ?_;simp;simp[Ai];rintro k m ⟨hk,hnm⟩;by_cases hlt:k<l.length
 . have w1:=wS k (by omega);obtain⟨x,hx⟩:∃x,l[k]=x:=⟨_,rfl⟩
   simp[go_sem,hlt,hx,Ft.enc]
   repeat first|refine nq ?_|refine sq ?_|refine aq ?_
   refine⟨_,Cp rfl (.inr rfl) (by kernel_rfl) (by kernel_rfl) (by kernel_rfl) rfl rfl (WE x),?_⟩;simp[go_sem]
   repeat first|refine nq ?_|refine sq ?_|refine aq ?_
   simp[go_sem,w1,-Int.natCast_add];exact⟨k+1,by omega,⟨by omega,hnm⟩,IO⟩
 simp[go_sem,hlt];exact As ho rfl rfl
theorem q56 (l:List CX) (hl:l.length<=1048576):PC 56 [.imm 4 (l.map CX.enc) false,.imm 4 (l.map CX.enc) false] (.bool true):=by
 intro h n;refine gq Tryz.func56 rfl λho=>?_;simp[go_sem];refine An 1 (α:=Nat) (λk=>[(0,.imm 4 (l.map CX.enc) false),(1,.imm 4 (l.map CX.enc) false),(12,AA l.length),(13,AA k)]) (λ_=>h) (λk m=>k<=l.length/\n<=m) (λk=>l.length-k) 0 ?_ ?_ AB ?_;simp;simp[Ai];rintro k m ⟨hk,hnm⟩;by_cases hlt:k<l.length
 . have w1:=wS k (by omega);obtain⟨x,hx⟩:∃x,l[k]=x:=⟨_,rfl⟩
   simp[go_sem,hlt,hx,CX.enc]
   repeat first|refine nq ?_|refine sq ?_|refine aq ?_
   refine⟨_,Cp rfl (.inr rfl) (by kernel_rfl) (by kernel_rfl) (by kernel_rfl) rfl rfl (WB x),?_⟩;simp[go_sem]
   repeat first|refine nq ?_|refine sq ?_|refine aq ?_
   simp[go_sem,w1,-Int.natCast_add];exact⟨k+1,by omega,⟨by omega,hnm⟩,IO⟩
 simp[go_sem,hlt];exact As ho rfl rfl
theorem q61 (l:List Fb) (hl:l.length<=1048576) (g:FuncId) (hg:∀x∈l,PC g [x.enc,x.enc] (.bool true)):PC 61 [.imm 2 (l.map Fb.enc) false,.imm 2 (l.map Fb.enc) false,.fn (.func g) [] []] (.bool true):=by
 intro h n;refine gq Tryz.func61 rfl λho=>?_;simp[go_sem];refine An 1 (α:=Nat) (λk=>[(1,.imm 2 (l.map Fb.enc) false),(2,.fn (.func g) [] []),(15,.imm 2 (l.map Fb.enc) false),(16,AA l.length),(17,AA k)]) (λ_=>h) (λk m=>k<=l.length/\n<=m) (λk=>l.length-k) 0 ?_ ?_ AB ?_;simp;simp[Ai];rintro k m ⟨hk,hnm⟩;by_cases hlt:k<l.length
 . have w1:=wS k (by omega);obtain⟨x,hx⟩:∃x,l[k]=x:=⟨_,rfl⟩
   have H:=hg x (by rw[<-hx];exact ql hlt);rw[Fb.enc]at H;simp[go_sem,hlt,hx,Fb.enc,AC,AD];refine qw H ?_;simp[go_sem,w1,-Int.natCast_add];exact⟨k+1,by omega,⟨by omega,by omega⟩,IO,by repeat(first|exact AB|refine AQ ho (by omega) ?_)⟩
 simp[go_sem,hlt];exact As ho rfl rfl
theorem cT (l:List A6) (hl:l.length<=1048576) (g:FuncId) (hg:∀x∈l,PC g [x.enc,x.enc] (.bool true)):PC 128 [.imm 6 (l.map A6.enc) false,.imm 6 (l.map A6.enc) false,.fn (.func g) [] []] (.bool true):=by
 intro h n;refine gq Tryz.func128 rfl λho=>?_;simp[go_sem];refine An 1 (α:=Nat) (λk=>[(1,.imm 6 (l.map A6.enc) false),(2,.fn (.func g) [] []),(15,.imm 6 (l.map A6.enc) false),(16,AA l.length),(17,AA k)]) (λ_=>h) (λk m=>k<=l.length/\n<=m) (λk=>l.length-k) 0 ?_ ?_ AB ?_;simp;simp[Ai];rintro k m ⟨hk,hnm⟩;by_cases hlt:k<l.length
 . have w1:=wS k (by omega);obtain⟨x,hx⟩:∃x,l[k]=x:=⟨_,rfl⟩
   have H:=hg x (by rw[<-hx];exact ql hlt);rw[A6.enc]at H;simp[go_sem,hlt,hx,A6.enc,AC,AD];refine qw H ?_;simp[go_sem,w1,-Int.natCast_add];exact⟨k+1,by omega,⟨by omega,by omega⟩,IO,by repeat(first|exact AB|refine AQ ho (by omega) ?_)⟩
 simp[go_sem,hlt];exact As ho rfl rfl
theorem cQ (l:List AE) (hl:l.length<=1048576) (g:FuncId) (hg:∀x∈l,PC g [x.enc,x.enc] (.bool true)):PC 123 [.imm 11 (l.map AE.enc) false,.imm 11 (l.map AE.enc) false,.fn (.func g) [] []] (.bool true):=by
 intro h n;refine gq Tryz.func123 rfl λho=>?_;simp[go_sem];refine An 1 (α:=Nat) (λk=>[(1,.imm 11 (l.map AE.enc) false),(2,.fn (.func g) [] []),(15,.imm 11 (l.map AE.enc) false),(16,AA l.length),(17,AA k)]) (λ_=>h) (λk m=>k<=l.length/\n<=m) (λk=>l.length-k) 0 ?_ ?_ AB ?_;simp;simp[Ai];rintro k m ⟨hk,hnm⟩;by_cases hlt:k<l.length
 . have w1:=wS k (by omega);obtain⟨x,hx⟩:∃x,l[k]=x:=⟨_,rfl⟩
   have H:=hg x (by rw[<-hx];exact ql hlt);rw[qx]at H;simp[go_sem,hlt,hx,qx,AC,AD];refine qw H ?_;simp[go_sem,w1,-Int.natCast_add];exact⟨k+1,by omega,⟨by omega,by omega⟩,IO,by repeat(first|exact AB|refine AQ ho (by omega) ?_)⟩
 simp[go_sem,hlt];exact As ho rfl rfl
theorem cW (l:List Aa) (hl:l.length<=1048576) (g:FuncId) (hg:∀x∈l,PC g [x.enc,x.enc] (.bool true)):PC 191 [.imm 6 (l.map Aa.enc) false,.imm 6 (l.map Aa.enc) false,.fn (.func g) [] []] (.bool true):=by
 intro h n;refine gq Tryz.func191 rfl λho=>?_;simp[go_sem];refine An 1 (α:=Nat) (λk=>[(1,.imm 6 (l.map Aa.enc) false),(2,.fn (.func g) [] []),(15,.imm 6 (l.map Aa.enc) false),(16,AA l.length),(17,AA k)]) (λ_=>h) (λk m=>k<=l.length/\n<=m) (λk=>l.length-k) 0 ?_ ?_ AB ?_;simp;simp[Ai];rintro k m ⟨hk,hnm⟩;by_cases hlt:k<l.length
 . have w1:=wS k (by omega);obtain⟨x,hx⟩:∃x,l[k]=x:=⟨_,rfl⟩
   have H:=hg x (by rw[<-hx];exact ql hlt);rw[qQ]at H;simp[go_sem,hlt,hx,qQ,AC,AD];refine qw H ?_;simp[go_sem,w1,-Int.natCast_add];exact⟨k+1,by omega,⟨by omega,by omega⟩,IO,by repeat(first|exact AB|refine AQ ho (by omega) ?_)⟩
 simp[go_sem,hlt];exact As ho rfl rfl
theorem cY (l:List Cell) (hl:l.length<=1048576) (g:FuncId) (hg:∀x∈l,PC g [x.enc,x.enc] (.bool true)):PC 258 [.imm 7 (l.map Cell.enc) false,.imm 7 (l.map Cell.enc) false,.fn (.func g) [] []] (.bool true):=by
 intro h n;refine gq Tryz.func258 rfl λho=>?_;simp[go_sem];refine An 1 (α:=Nat) (λk=>[(1,.imm 7 (l.map Cell.enc) false),(2,.fn (.func g) [] []),(15,.imm 7 (l.map Cell.enc) false),(16,AA l.length),(17,AA k)]) (λ_=>h) (λk m=>k<=l.length/\n<=m) (λk=>l.length-k) 0 ?_ ?_ AB ?_;simp;simp[Ai];rintro k m ⟨hk,hnm⟩;by_cases hlt:k<l.length
 . have w1:=wS k (by omega);obtain⟨x,hx⟩:∃x,l[k]=x:=⟨_,rfl⟩
   have H:=hg x (by rw[<-hx];exact ql hlt);rw[jh]at H;simp[go_sem,hlt,hx,jh,AC,AD];refine qw H ?_;simp[go_sem,w1,-Int.natCast_add];exact⟨k+1,by omega,⟨by omega,by omega⟩,IO,by repeat(first|exact AB|refine AQ ho (by omega) ?_)⟩
 simp[go_sem,hlt];exact As ho rfl rfl
end Go.Proofs.YtgakninlhfkkmaaGreat.Sh
