/- A part of the proof (part 10 of 17). -/
import Derived.Test.YtgakninlhfkkmaaGreatN9
namespace Go.Proofs.YtgakninlhfkkmaaGreat.Sh
open Proofs
set_option maxRecDepth 10000
def trF:Tr:=.pure 2<|.pure 5<|.pure 6<|.pure 7<|.pure 0<|.two 1 12
 (.pure 3<|.two 4 12
   (.two 8 12 (.pure 9<|.pure 10<|.pure 11<|.one 12<|.one 13<|.one 14 .nil)
     (.one 8<|.pure 9<|.pure 10<|.pure 11<|.one 13<|.one 14 .nil))
   (.one 4<|.one 8<|.pure 9<|.pure 10<|.pure 11<|.one 13<|.one 14 .nil))
 (.one 1<|.pure 3<|.one 4<|.one 8<|.pure 9<|.pure 10<|.pure 11<|.one 13<|.one 14 .nil)
section
variable {σ : Type} {st : σ → Nat → Option BT} {n0 : Nat} {g : FuncId} {a b : List SV} {f : σ → BW → AF × Bool × σ} {ok : AF → Prop} {rk : σ → Nat} {top : Nat} {fl : Int → List AE → Av → Bool → σ → List AE × σ} {mid : Bool} {P : List AE → Prop} {sc : Av}
set_option maxHeartbeats 4000000 in
theorem VY (C:MN st n0 g a b f ok rk top) (hfl:ZF st n0 g a b fl P rk top) (hfu:∀id l sc mid s,rk s<=rk (fl id l sc mid s).2) (l:List AE) (hl:l.length<=1048576) (hr:∀x∈l,Ye ok P x) (id:Int) (hns:¬(id=sc.id/\mid=false)) (s:σ) (ht:rk (Bq f fl sc mid l s).2<=top) {H:Hp} {n:Nat} (hn:n0<=n) (hs:∀o y,st s o=some y->H o=some y)
 {Q:SV->Hp->Nat->Prop} (hQ:Es H n->∀o m,n<=m->Ar n m 11 o ((Bq f fl sc mid l s).1.map AE.enc)->B8 n (AN o ((Bq f fl sc mid l s).1.map AE.enc) (Aj st (Bq f fl sc mid l s).2 H)) m (AM 11 o ((Bq f fl sc mid l s).1.map AE.enc)) Q):
 BA Tryz.prog 115 [AG l,AA id,sc.enc,.bool mid,.fn (.func g) a b] H n Q:=by
 have D:=C.cx;refine Db Tryz.func115 rfl λho=>?_;obtain⟨R,hR⟩:∃R:Nat->List AE×σ,∀i,R i=(l.take i).foldl (Dq f fl sc mid) ([],s):=⟨_,λ_=>rfl⟩
 have hR0:R 0=([],s):=by rw[hR];rfl
 have hRs:∀i x,(h:i<l.length)->l[i]=x->R (i+1)=Dq f fl sc mid (R i) x:=λi x h hx=>by rw[hR,hR,DE _ _ _ _ _ h hx]
 have hRl:R l.length=Bq f fl sc mid l s:=by rw[hR,qi];rfl
 have hRn:∀i,(R i).1.length<=i:=λi=>by rw[hR];have:=G6 (f:=f) (fl:=fl) (sc:=sc) (mid:=mid) (l.take i) ([],s);simp at this;omega
 have hRt:∀i,rk (R i).2<=top:=λi=>by rw[hR];exact qr (Ih (PE C.up hfu sc mid) _ _ i) ht
 clear hR;have hU:∀s',Es (Aj st s' H) n:=λs'=>D.old s' hn ho;have hUb:∀s' j y,Aj st s' H j=some y->j<n:=λs' j y e=>(hU s' j y e).1;refine AY 1 [(0,AG l),(3,.bool mid),(4,.fn (.func g) a b),(7,.iptr [AA sc.id,AA sc.a,AA sc.b]),(1,AA id)] (Aj st s H) n ?_ (λm hm=>?_);simp[go_sem,Av.enc,IO,DY s H hs];refine⟨AV (ho.none (qa n)) (by simp[hset]),λj y e=>by rw[AD _ _ (by have:=(ho j y e).1;omega)];exact e⟩;refine AY 0 [(0,AG l),(3,.bool mid),(4,.fn (.func g) a b),(7,.iptr [AA sc.id,AA sc.a,AA sc.b])] (Aj st s H) n ?_ (λm hm=>?_);by_cases h1:id=sc.id;have h2:mid=true:=by cases mid<;>simp_all
 simp[go_sem,IO,h1,h2,hm];simp[go_sem,IO,h1,hm];refine AY 0 [(0,AG l),(3,.bool mid),(4,.fn (.func g) a b),(7,.iptr [AA sc.id,AA sc.a,AA sc.b]),(21,.imm 0 [] true)] (Aj st s H) n ?_ (λm hm=>?_);simp[go_sem,IO,hm];refine AT 0 (α:=Option Nat) (λo=>[(21,AM 11 o ((R l.length).1.map AE.enc))]) (λo=>AN o ((R l.length).1.map AE.enc) (Aj st (R l.length).2 H)) (λo m=>n<=m/\Ar n m 11 o ((R l.length).1.map AE.enc)) ?_ (λo m hm=>?_)
 . refine AY 0 [(0,AG l),(3,.bool mid),(4,.fn (.func g) a b),(7,.iptr [AA sc.id,AA sc.a,AA sc.b]),(21,.imm 0 [] true),(22,AA 0)] (Aj st s H) n ?_ (λm hm=>?_);simp[go_sem,IO,hm];refine AR (BG 0 (α:=Nat×Option Nat) (λq=>[(0,AG l),(3,.bool mid),(4,.fn (.func g) a b),(7,.iptr [AA sc.id,AA sc.a,AA sc.b]),(21,AM 11 q.2 ((R q.1).1.map AE.enc)),(22,AA q.1)])
    (λq=>AN q.2 ((R q.1).1.map AE.enc) (Aj st (R q.1).2 H)) (λq m=>q.1<=l.length/\n<=m/\Ar n m 11 q.2 ((R q.1).1.map AE.enc)) (λq=>l.length-q.1) (0,none) ⟨qg _,hm,by simp only[hR0];exact jK _ _ _⟩ ?_ ?_ ?_)
   simp[go_sem,Ai,AM,IO];simp only[hR0];exact AB;clear hm m;rintro⟨i,o⟩ m ⟨hi,hnm,hA⟩;dsimp only at hi hA ⊢;have hEn:((R i).1.map AE.enc).length<=i:=by rw[qd];exact hRn i
   by_cases hlt:i<l.length
   . obtain⟨x,hx⟩:∃x,l[i]=x:=⟨_,rfl⟩
     have hxm:x∈l:=by rw[<-hx];exact ql hlt
     obtain⟨x1,x2,x3,x4,x5⟩:=hr x hxm;have hgx:(l.map AE.enc)[i]? = some x.enc:=by simp[hlt,hx]
     have hst:=hRs i x hlt hx;have w1:=wS i (by omega);generalize hSi:(R i).2=si at hst;generalize hEi:(R i).1.map AE.enc=E at hA hEn ⊢;have hXb:∀s' j y,AN o E (Aj st s' H) j=some y->j<m:=λs'=>Dm (hUb s') hnm hA;refine Bp 0 [(0,AG l),(3,.bool mid),(4,.fn (.func g) a b),(7,.iptr [AA sc.id,AA sc.a,AA sc.b]),(21,AM 11 o E),(22,AA i)] (AN o E (Aj st si H)) m ?_ (λm' hm'=>?_);simp[go_sem,IO,hlt];subst hm';refine AT 0 (α:=Option Nat) (λo=>[(0,AG l),(3,.bool mid),(4,.fn (.func g) a b),(7,.iptr [AA sc.id,AA sc.a,AA sc.b]),(21,AM 11 o ((R (i+1)).1.map AE.enc)),(22,AA i)]) (λo=>AN o ((R (i+1)).1.map AE.enc) (Aj st (R (i+1)).2 H)) (λo m=>n<=m/\Ar n m 11 o ((R (i+1)).1.map AE.enc)) ?_ (λo m hm=>?_)
     . refine AR ?_;refine BM 0 (α:=Nat) (λp=>[(0,AG l),(3,.bool mid),(4,.fn (.func g) a b),(7,.iptr [AA sc.id,AA sc.a,AA sc.b]),(21,AM 11 o E),(22,AA i),(23,.ptr p 0)]) (λp=>hset (AN o E (Aj st si H)) p (some (.cells [AA x.kind,AA x.code,AA x.id,.str x.text,Af x.head.props,AA x.head.ins,AA x.head.move,AP x.head.dels,AL x.head.layers,AG x.flow,A3 x.rows]))) (λp m2=>m<=p/\p<m2) ?_ (λp m2 hm2=>?_);simp[go_sem,IO,hlt,hx,qx,AC,AS];exact⟨m,by omega,rfl,AB⟩;have hXb2:∀s' j y,AN o E (Aj st s' H) j=some y->j<p:=λs' j y e=>by have:=hXb s' j y e;omega
       refine AY 0 [(0,AG l),(3,.bool mid),(4,.fn (.func g) a b),(7,.iptr [AA sc.id,AA sc.a,AA sc.b]),(21,AM 11 o E),(22,AA i),(23,.ptr p 0),(24,AA (A8 [x]).1)] (hset (AN o E (Aj st si H)) p (some (.cells [AA x.kind,AA x.code,AA x.id,.str x.text,Af x.head.props,AA x.head.ins,AA x.head.move,AP x.head.dels,AL x.head.layers,AG x.flow,A3 x.rows]))) m2 ?_ (λm3 hm3=>?_);have hle:i+1<=l.length:=hlt;have hsl:List.drop i (List.take (i+1) (l.map AE.enc))=[x.enc]:=by rw[List.drop_take,Nat.add_sub_cancel_left,qG (by simpa using hlt)];simp[hx]
       simp[go_sem,w1,hle,hsl,-Int.natCast_add,-List.map_take,-List.map_drop];refine qw (VV [x] (by simp) (by simpa using x2)) ?_;simp[go_sem,IO];have hup:∀s1 s' y,Aj st s' (hset (AN o E (Aj st s1 H)) p y)=hset (AN o E (Aj st s' H)) p y:=λs1 s' y=>by rw[<-D.hset _ _ (by omega),D.acc hn hA,D.up2]
       have hasP:∀s' y k z,st s' k=some z->hset (AN o E (Aj st s' H)) p y k=some z:=λs' y k z e=>by rw[AD _ _ (by rintro rfl;rw[C.lt s' k (by omega)]at e;cases e)];exact D.has hn hA Bw k z e
       simp only[Dq,hSi]at hst;have ht0:=hRt (i+1);rw[hst]at ht0;dsimp only at ht0;have hcall:=λy=>C.call si ⟨x.head,mid,(A8 [x]).1⟩ (hset (AN o E (Aj st si H)) p y) m3 x1 (qr (qr (Tf hfu sc mid x _) (Lj C.up hfu sc mid x.rows _)) ht0) (by omega) (λk z e=>by rw[AD _ _ (by rintro rfl;rw[C.lt si k (by omega)]at e;cases e)];exact D.has hn hA Bw k z e);generalize f si ⟨x.head,mid,(A8 [x]).1⟩=r1 at hcall hst ht0;obtain⟨h',k,s1⟩:=r1;dsimp only at hcall hst ht0;simp only[hup,qz,qE,qn]at hcall;have hYb:∀s' y j z,hset (AN o E (Aj st s' H)) p y j=some z->j<m3:=λs' y j z e=>by
        by_cases h:j=p;omega;rw[AD _ _ h]at e;have:=hXb2 s' j z e;omega
       refine AY 1 [(0,AG l),(3,.bool mid),(4,.fn (.func g) a b),(7,.iptr [AA sc.id,AA sc.a,AA sc.b]),(21,AM 11 o E),(22,AA i),(23,.ptr p 0),(26,.iptr h'.flat),(27,.bool k)] (hset (AN o E (Aj st s1 H)) p (some (.cells [AA x.kind,AA x.code,AA x.id,.str x.text,Af x.head.props,AA x.head.ins,AA x.head.move,AP x.head.dels,AL x.head.layers,AG x.flow,A3 x.rows]))) m3 ?_ (λm4 hm4=>?_);simp[go_sem,AF.flat,AC];refine qC (by simpa[AF.enc,AF.flat]using hcall _) ?_;rintro v H' n' ⟨rfl,rfl,rfl⟩;simp[go_sem,IO,AC];exact⟨AV (AW (hYb _ _) (qa _)) (AC _ _ _),AJ (hYb _ _) (AJ (hYb _ _) AB)⟩;refine Bp 0 [(0,AG l),(3,.bool mid),(4,.fn (.func g) a b),(7,.iptr [AA sc.id,AA sc.a,AA sc.b]),(21,AM 11 o E),(22,AA i),(23,.ptr p 0),(27,.bool k)] (hset (AN o E (Aj st s1 H)) p (some (.cells [AA x.kind,AA x.code,AA x.id,.str x.text,Af h'.props,AA h'.ins,AA h'.move,AP h'.dels,AL h'.layers,AG x.flow,A3 x.rows]))) m4 ?_ (λm5 hm5=>?_);simp[go_sem,IO,AF.flat,AC,AS];subst hm5;refine AY 0 [(0,AG l),(3,.bool mid),(4,.fn (.func g) a b),(7,.iptr [AA sc.id,AA sc.a,AA sc.b]),(21,AM 11 o E),(22,AA i),(23,.ptr p 0),(27,.bool k)] (hset (AN o E (Aj st (K3 fl sc mid x s1).2 H)) p (some (.cells [AA x.kind,AA x.code,AA x.id,.str x.text,Af h'.props,AA h'.ins,AA h'.move,AP h'.dels,AL h'.layers,AG (K3 fl sc mid x s1).1,A3 x.rows]))) m4 ?_ (λm5 hm5=>?_);by_cases k6:x.kind=6;have hin:K3 fl sc mid x s1=fl x.id x.flow sc mid s1:=by rw[K3,if_pos k6]
       have hc3:=λz m (hm:n0<=m)=>hfl x.id x.flow sc mid s1 (hset (AN o E (Aj st s1 H)) p z) m x3 (by rw[<-hin];exact qr (Lj C.up hfu sc mid x.rows _) ht0) hm (hasP s1 z);rw[hin];clear hst ht0;generalize fl x.id x.flow sc mid s1=r3 at hc3 ⊢;obtain⟨q3,s3⟩:=r3;dsimp only at hc3 ⊢;simp only[hup,Av.enc]at hc3;simp[go_sem,AC,k6];refine qC (hc3 _ _ (by omega)) ?_;rintro v H' n' ⟨rfl,rfl,rfl⟩;simp[go_sem,IO,AC,AS];have hin:K3 fl sc mid x s1=(x.flow,s1):=by rw[K3,if_neg k6]
       rw[hin];simp[go_sem,IO,AC,k6];generalize K3 fl sc mid x s1=w2 at hst ht0 ⊢;obtain⟨q2,s2⟩:=w2;dsimp only at hst ht0 ⊢;obtain⟨BB,hBB⟩:∃B:σ->Hp,∀s',B s'=hset (AN o E (Aj st s' H)) p (some (.cells [AA x.kind,AA x.code,AA x.id,.str x.text,Af h'.props,AA h'.ins,AA h'.move,AP h'.dels,AL h'.layers,AG q2,A3 x.rows])):=⟨_,λ_=>rfl⟩
       have hBBp:∀s',BB s' p=some (.cells [AA x.kind,AA x.code,AA x.id,.str x.text,Af h'.props,AA h'.ins,AA h'.move,AP h'.dels,AL h'.layers,AG q2,A3 x.rows]):=λs'=>by rw[hBB,AC]
       have hBBb:∀s' j y,BB s' j=some y->j<m5:=λs' j y e=>by rw[hBB]at e;have:=hYb s' _ j y e;omega
       have hBBu:∀s1 s',Aj st s' (BB s1)=BB s':=λs1 s'=>by rw[hBB,hBB,hup]
       have hBBh:∀s',∀k w,st s' k=some w->BB s' k=some w:=λs'=>by rw[hBB];exact hasP s' _
       rw[<-hBB];refine Bp 0 [(0,AG l),(3,.bool mid),(4,.fn (.func g) a b),(7,.iptr [AA sc.id,AA sc.a,AA sc.b]),(21,AM 11 o E),(22,AA i),(23,.ptr p 0),(27,.bool k),(28,AM 6 none [])] (BB s2) m5 ?_ (λm6 hm6=>?_);simp[go_sem,IO,AM];subst hm6;obtain⟨V,hV⟩:∃V:Nat->List Aa×σ,∀i,V i=(x.rows.take i).foldl (CW f fl sc mid) ([],s2):=⟨_,λ_=>rfl⟩
       have hV0:V 0=([],s2):=by rw[hV];rfl
       have hVs:∀i y,(h:i<x.rows.length)->x.rows[i]=y->V (i+1)=CW f fl sc mid (V i) y:=λi y h hy=>by rw[hV,hV,DE _ _ _ _ _ h hy]
       have hVl:V x.rows.length=FH f fl sc mid x.rows s2:=by rw[hV,qi];rfl
       have hVn:∀i,(V i).1.length<=i:=λi=>by rw[hV];have:=NB (f:=f) (fl:=fl) (sc:=sc) (mid:=mid) (x.rows.take i) ([],s2);simp at this;omega
       have hVt:∀j,rk (V j).2<=top:=λj=>by rw[hV];exact qr (Ih (G:=CW f fl sc mid) (λq x=>RG C.up hfu sc mid x q.2) _ _ j) ht0
       clear hV;refine Bc 1 [(0,AG l),(3,.bool mid),(4,.fn (.func g) a b),(7,.iptr [AA sc.id,AA sc.a,AA sc.b]),(21,AM 11 o E),(22,AA i),(23,.ptr p 0),(27,.bool k),(28,A3 (FH f fl sc mid x.rows s2).1)] (BB (FH f fl sc mid x.rows s2).2) m5 ?_ (λm6 hm6=>?_)
       . refine Bp 0 [(0,AG l),(3,.bool mid),(4,.fn (.func g) a b),(7,.iptr [AA sc.id,AA sc.a,AA sc.b]),(21,AM 11 o E),(22,AA i),(23,.ptr p 0),(27,.bool k),(28,AM 6 none []),(29,AA 0)] (BB s2) m5 ?_ (λm6 hm6=>?_);simp[go_sem,IO];subst hm6;refine AR (BG 0 (α:=Nat×Option Nat) (λq=>[(0,AG l),(3,.bool mid),(4,.fn (.func g) a b),(7,.iptr [AA sc.id,AA sc.a,AA sc.b]),(21,AM 11 o E),(22,AA i),(23,.ptr p 0),(27,.bool k),(28,AM 6 q.2 ((V q.1).1.map Aa.enc)),(29,AA q.1)])
          (λq=>AN q.2 ((V q.1).1.map Aa.enc) (BB (V q.1).2)) (λq m=>q.1<=x.rows.length/\m5<=m/\Ar m5 m 6 q.2 ((V q.1).1.map Aa.enc)) (λq=>x.rows.length-q.1) (0,none) ⟨qg _,qa _,by simp only[hV0];exact jK _ _ _⟩ ?_ ?_ ?_)
         simp only[hV0];simp[go_sem,Ai,IO];simp only[hV0];exact AB;rintro⟨j,o2⟩ m6 ⟨hj,hm6,hA2⟩;dsimp only at hj hA2 ⊢;have hGn:((V j).1.map Aa.enc).length<=j:=by rw[qd];exact hVn j
         have hpA:∀s' G,Ar m5 m6 6 o2 G->(AN o2 G (BB s')) p=some (.cells [AA x.kind,AA x.code,AA x.id,.str x.text,Af h'.props,AA h'.ins,AA h'.move,AP h'.dels,AL h'.layers,AG q2,A3 x.rows]):=λs' G hA2=>by
          cases o2 with
          | none=>exact hBBp _
          | some q=>have:=(hA2.lt q rfl).1;simp only[AN];rw[AD _ _ (by omega)];exact hBBp _
         by_cases hjt:j<x.rows.length
         . obtain⟨y,hy⟩:∃y,x.rows[j]=y:=⟨_,rfl⟩
           have hym:y∈x.rows:=by rw[<-hy];exact ql hjt
           have hgy:(x.rows.map Aa.enc)[j]? = some y.enc:=by simp[hjt,hy]
           have hvt:=hVs j y hjt hy;have w2:=wS j (by omega);generalize hSj:(V j).2=sj at hvt;generalize hGj:(V j).1.map Aa.enc=G at hA2 hGn ⊢;have hZb:∀s' j y,AN o2 G (BB s') j=some y->j<m6:=λs'=>Dm (hBBb s') hm6 hA2;have hpG:=λs'=>hpA s' G hA2;have hZh:∀s',∀k w,st s' k=some w->AN o2 G (BB s') k=some w:=λs'=>D.has (by omega) hA2 (hBBh s');have hZu:∀s1 s',Aj st s' (AN o2 G (BB s1))=AN o2 G (BB s'):=λs1 s'=>by rw[D.acc (by omega) hA2,hBBu]
           refine Bp 0 [(0,AG l),(3,.bool mid),(4,.fn (.func g) a b),(7,.iptr [AA sc.id,AA sc.a,AA sc.b]),(21,AM 11 o E),(22,AA i),(23,.ptr p 0),(27,.bool k),(28,AM 6 o2 G),(29,AA j)] (AN o2 G (BB sj)) m6 ?_ (λm' hm'=>?_);simp[go_sem,IO,hjt,hpG];subst hm';refine AT 0 (α:=Option Nat) (λo2=>[(0,AG l),(3,.bool mid),(4,.fn (.func g) a b),(7,.iptr [AA sc.id,AA sc.a,AA sc.b]),(21,AM 11 o E),(22,AA i),(23,.ptr p 0),(27,.bool k),(28,AM 6 o2 ((V (j+1)).1.map Aa.enc)),(29,AA j)]) (λo2=>AN o2 ((V (j+1)).1.map Aa.enc) (BB (V (j+1)).2)) (λo2 m=>m5<=m/\Ar m5 m 6 o2 ((V (j+1)).1.map Aa.enc)) ?_ (λo2 m hm=>?_)
           . refine AR ?_;simp only[CW,hSj]at hvt;have hvt2:=hVt (j+1);rw[hvt]at hvt2;have hd:=λ(X:Hp) (m:Nat) (hm:n0<=m) (hX:∀k w,st sj k=some w->X k=some w)=>bZ (mid:=mid) (sc:=sc) C hfl hfu y (x5 y hym) sj hvt2 (H:=X) (n:=m) hm hX;generalize Hj f fl sc mid y sj=r4 at hd hvt;obtain⟨ry,kr,s3⟩:=r4;dsimp only at hd hvt;have hd0:=λm (hm:n0<=m)=>hd (AN o2 G (BB sj)) m hm (hZh sj);have hd1:=λz m (hm:n0<=m)=>hd (hset (AN o2 G (BB sj)) m6 z) m hm (Ey C.lt (by omega) z (hZh sj));have hZu1:∀s' z,Aj st s' (hset (AN o2 G (BB sj)) m6 z)=hset (AN o2 G (BB s')) m6 z:=λs' z=>by rw[<-D.hset _ _ (by omega),hZu]
             simp only[hZu,Av.enc]at hd0;simp only[hZu1,Av.enc]at hd1;clear hd;have hzb1:∀s' z j y,hset (AN o2 G (BB s')) m6 z j=some y->j<m6+1:=λs' z j y e=>by
              by_cases h:j=m6;omega;rw[AD _ _ h]at e;have:=hZb s' j y e;omega
             have pm6:p≠m6:=by omega
             refine AT 1 (α:=Unit) (λ_=>[(0,AG l),(3,.bool mid),(4,.fn (.func g) a b),(7,.iptr [AA sc.id,AA sc.a,AA sc.b]),(21,AM 11 o E),(22,AA i),(23,.ptr p 0),(27,.bool k),(28,AM 6 o2 G),(29,AA j),(30,.iptr (ry.head.flat++[BS ry.cells])),(31,.bool kr)]) (λ_=>AN o2 G (BB s3)) (λ_ m7=>m6<=m7) (BX trF rfl (by kernel_rfl) (by kernel_rfl) ?_) (λ_ m7 hm7=>?_)
             . simp only[qQ]at hd0 hd1;simp[go_sem,trF,hpG,hjt,hy,AD,pm6,qQ];refine⟨⟨⟨?_,?_⟩,?_⟩,?_⟩
               all_goals first
                | (refine qC (hd0 _ (by omega)) ?_
                   rintro v H' n' ⟨rfl,rfl,rfl⟩;simp[go_sem,IO,AF.flat,AC];exact⟨AV (AW (hZb _) (qa _)) (AC _ _ _),AJ (hZb _) (AJ (hZb _) AB)⟩)
                | (refine qC (hd1 _ _ (by omega)) ?_
                   rintro v H' n' ⟨rfl,rfl,rfl⟩;simp[go_sem,IO,AF.flat,AC];exact⟨AV (AW (hZb _) (qa _)) (AC _ _ _),AJ (hZb _) (AJ (hZb _) AB)⟩)
             rw[hvt];cases kr with
             | false=>
              simp only[qj,if_false,hGj];refine AH ?_;simp[go_sem,IO];exact⟨o2,⟨by omega,hA2.mono (by omega)⟩,rfl,AB⟩
             | true =>
              simp only[if_true,qc,hGj,qu,qS];refine AH ?_;simp[go_sem,AF.flat];have hpush:=hA2.push (j:=m7+1) (m':=m7+1+1) (e:=ry.enc) (Aa.E.st _) (Aa.E.len _) (by omega) (by omega);rw[Dp (es:=G) (e:=ry.enc) (o:=o2) (t:=68) (t2:=68) (el:=169) (z:=6) (by simp[go_sem]) (by simp[go_sem]) (by simp[go_sem]) (by simp) (by simp[go_sem]) (by simp[go_sem]) (by simp[go_sem]) (by omega) hA2 (Aa.E.len _) ?a1 ?a2]
              case a1=>simp[AC,qQ,SV.cells]
              case a2=>
               intro j e;have:=(hA2.lt j e).2;rw[AD _ _ (by omega)];exact Cu j e
              have hlive:=CY (p:=m7+1) (v:=.sl (m7+1) 0 6 (G.length+1) false) (e:=ry.enc) (hBBb s3) (by omega) hA2 (H:=hset (AN o2 G (BB s3)) m7 (some (.cells [Af ry.head.props,AA ry.head.ins,AA ry.head.move,AP ry.head.dels,AL ry.head.layers,BS ry.cells]))) (AJ (λj z e=>by have:=hBBb s3 j z e;omega) (Be (hBBb s3) hA2));have hvv:AM 6 (some (m7+1)) (G++[ry.enc])=.sl (m7+1) 0 6 (G.length+1) false:=by simp[AM]
              simp[go_sem];exact⟨some (m7+1),⟨by omega,hpush⟩,hvv.symm,by simpa[dW.app,SV.cells]using hlive⟩
           refine AH ?_;simp[go_sem,w2,IO,-Int.natCast_add];exact⟨j+1,by omega,o2,⟨by omega,hm.1,hm.2⟩,⟨rfl,rfl⟩,AB⟩
         have:j=x.rows.length:=by omega
         subst this;rw[hVl]at hA2 ⊢;have hpG:=λs'=>hpA s' _ hA2;refine AH ?_;simp[go_sem,IO,hpG];exact⟨by omega,AM.fz' (λj hj=>AW (hBBb _) hj) hA2 AB,Be (hBBb _) hA2⟩
       generalize FH f fl sc mid x.rows s2=v2 at hst ⊢;obtain⟨q3,s3⟩:=v2;dsimp only at hst ⊢;have hq0:(((q3.length:Nat):Int)=0)↔q3.length=0:=by omega
       refine Bp 0 [(0,AG l),(3,.bool mid),(4,.fn (.func g) a b),(7,.iptr [AA sc.id,AA sc.a,AA sc.b]),(21,AM 11 o E),(22,AA i),(23,.ptr p 0),(27,.bool (k && !(decide (x.kind=7)&&decide (q3.length=0)))),(28,A3 q3)] (BB s3) m6 ?_ (λm7 hm7=>?_);by_cases k7:x.kind=7;by_cases q0:q3=[];subst q0;simp[go_sem,IO,hBBp,k7];simp[go_sem,IO,hBBp,k7,q0];simp[go_sem,IO,hBBp,k7];subst hm7;generalize(k && !(decide (x.kind=7)&&decide (q3.length=0)))=k2 at hst ⊢;refine Bp 1 [(0,AG l),(3,.bool mid),(4,.fn (.func g) a b),(7,.iptr [AA sc.id,AA sc.a,AA sc.b]),(21,AM 11 o E),(22,AA i),(23,.iptr [AA x.kind,AA x.code,AA x.id,.str x.text,Af h'.props,AA h'.ins,AA h'.move,AP h'.dels,AL h'.layers,AG q2,A3 q3]),(27,.bool k2)] (AN o E (Aj st s3 H)) m6 ?_ (λm7 hm7=>?_);simp[go_sem,IO,hBB,AC,AS];exact⟨AV (AW (hXb2 _) (qa _)) (AC _ _ _),AJ (hXb2 _) AB⟩;subst hm7;rw[hst];cases k2 with
       | false=>
        simp only[qj,if_false,hEi];refine AH ?_;simp[go_sem,IO];exact⟨o,⟨by omega,hA.mono (by omega)⟩,rfl,AB⟩
       | true =>
        simp only[if_true,qc,hEi,qu,qS];refine AH ?_;simp[go_sem];have hpush:=hA.push (j:=m6+1) (m':=m6+1+1) (e:=(x.put h' q2 q3).enc) (AE.E.st _) (AE.E.len _) (by omega) (by omega);rw[Dp (es:=E) (e:=(x.put h' q2 q3).enc) (o:=o) (t:=22) (t2:=22) (el:=70) (z:=11) (by simp[go_sem]) (by simp[go_sem]) (by simp[go_sem]) (by simp) (by simp[go_sem]) (by simp[go_sem]) (by simp[go_sem]) (by omega) hA (AE.E.len _) ?a1 ?a2]
        case a1=>simp[AC,qx,SV.cells,AE.put,AE.kind,AE.code,AE.id,AE.text,AE.head,AE.flow,AE.rows]
        case a2=>
         intro j e;have:=(hA.lt j e).2;rw[AD _ _ (by omega)];exact Cu j e
        have hlive:=CY (p:=m6+1) (v:=.sl (m6+1) 0 11 (E.length+1) false) (e:=(x.put h' q2 q3).enc) (hUb s3) (by omega) hA (H:=hset (AN o E (Aj st s3 H)) m6 (some (.cells [AA x.kind,AA x.code,AA x.id,.str x.text,Af h'.props,AA h'.ins,AA h'.move,AP h'.dels,AL h'.layers,AG q2,A3 q3]))) (AJ (λj z e=>by have:=hUb s3 j z e;omega) (Be (hUb s3) hA));have hvv:AM 11 (some (m6+1)) (E++[(x.put h' q2 q3).enc])=.sl (m6+1) 0 11 (E.length+1) false:=by simp[AM]
        simp[go_sem];exact⟨some (m6+1),⟨by omega,hpush⟩,hvv.symm,by simpa[dW.app,SV.cells]using hlive⟩
     refine AH ?_;simp[go_sem,w1,IO,-Int.natCast_add];exact⟨i+1,by omega,o,⟨by omega,hm.1,hm.2⟩,⟨rfl,rfl⟩,AB⟩
   have:i=l.length:=by omega
   subst this;refine AH ?_;simp[go_sem];exact⟨o,⟨hnm,hA⟩,rfl,AB⟩
 refine AH ?_;simp[go_sem];rw[hRl]at hm ⊢;exact hQ ho o m hm.1 hm.2
end
section
variable {σ : Type} {st : σ → Nat → Option BT} {n0 : Nat} {g : FuncId} {a b : List SV} {f : σ → BW → AF × Bool × σ} {ok : AF → Prop} {rk : σ → Nat} {top : Nat} {fl : Int → List AE → Av → Bool → σ → List AE × σ} {P : List AE → Prop}
theorem Rf {X:Hp} {n m:Nat} {o:Option Nat} {es:List SV} (H:Ar n m 11 o es) (c:∀j,o=some j->X j=some (.cells (es.flatMap SV.cells))) (xs:List AE) (hroom:es.length+xs.length<=1073741824) (p:Nat):
 (xs=[]/\AU Tryz.prog X p .append [22,22] [AM 11 o es,AG xs]=some { val:=AM 11 o es })\/
 (xs≠[]/\AU Tryz.prog X p .append [22,22] [AM 11 o es,AG xs]=some { val:=.sl p 0 11 (es.length+xs.length) false,upd:=o.map λj=>(j,none),new:=some (.cells (es.flatMap SV.cells++(xs.map AE.enc).flatMap SV.cells)) }):=by
 by_cases b:xs=[];subst b;refine .inl ⟨rfl,OW (len:=es.length) ?_⟩;cases o with
 | none=>exact .inl rfl
 | some j=>exact .inr ⟨j,rfl⟩
 refine .inr ⟨b,?_⟩;have a:xs.length≠0:=by cases xs<;>simp at b ⊢
 cases o with
 | none=>
  have d:=H.none rfl;subst d;have:=Kw (H:=X) (p:=p) (len:=0) (m:=xs.length) (s:=.imm 0 [] true) (x:=AG xs) (xs:=[]) (ys:=(xs.map AE.enc).flatMap SV.cells) (upd:=none) (.inl ⟨rfl,rfl,rfl,rfl⟩) (by simp[Hd]) (by simp[Dw]) rfl a (by omega);simpa[AM]using this
 | some j=>
  have e:=c j rfl;have:=Kw (H:=X) (p:=p) (len:=es.length) (m:=xs.length) (s:=.sl j 0 11 es.length false) (x:=AG xs) (xs:=es.flatMap SV.cells) (ys:=(xs.map AE.enc).flatMap SV.cells) (upd:=some (j,none)) (.inr ⟨j,_,rfl,e,by simp[Bg,A7 H.size];rw[<-A7 H.size,qi],rfl⟩) (by simp[Hd]) (by simp[Dw]) rfl a (by omega);simpa[AM]using this
theorem Hq {h X:Hp} {n m p:Nat} {o:Option Nat} {es:List SV} (hb:∀j y,h j=some y->j<n) (hnm:n<=m) (H:Ar n m 11 o es) (i:m<=p) (d:∀j y,AN o es h j=some y->X j=some y) (xs:List AE) (a:es.length+xs.length<=1073741824):
 ∃out,AU Tryz.prog X p .append [22,22] [AM 11 o es,AG xs]=some out/\∃o',Ar n (if out.new.isSome=true then p+1 else p) 11 o' (es++xs.map AE.enc)/\out.val=AM 11 o' (es++xs.map AE.enc)/\∀j y,AN o' (es++xs.map AE.enc) h j=some y->(dW.app X p out) j=some y:=by
 have f:∀j,o=some j->X j=some (.cells (es.flatMap SV.cells)):=λj e=>d j _ (Cu j e);have g:∀j y,h j=some y->X j=some y:=λj y e=>d j y (Be hb H j y e);rcases Rf H f xs a p with⟨rfl,e⟩|⟨hne,e⟩
 exact⟨_,e,o,by simpa using H.mono i,by simp,λj y e=>by simp at e;simpa[dW.app]using d j y e⟩;refine⟨_,e,some p,⟨by simp,λj e=>by cases e;simp;omega,λe b=>?_⟩,by simp[AM],λj y e=>?_⟩;rcases qe.1 b with b|b;exact H.size e b;exact AE.E.size xs e b;simp only[AN,jm]at e;by_cases c:j=p;subst c;rw[AC]at e;simp only[dW.app,AC];exact e;rw[AD _ _ c]at e;have h1:=hb j y e;have h2:=g j y e;cases o with
 | none=>simp[dW.app,AD _ _ c,h2]
 | some q=>
  have h3:=(H.lt q rfl).1;simp[dW.app,AD _ _ c,AD _ _ (show j≠q by omega),h2]
theorem TB (C:MN st n0 g a b f ok rk top) (c:ZF st n0 g a b fl P rk top) (d:∀id l sc mid s,rk s<=rk (fl id l sc mid s).2) (l:List AE) (hl:l.length<=1048576) (p:∀x∈l,Ye ok P x) (id:Int) (sc:Av) (mid:Bool) (h:¬(id=sc.id/\mid=false)) (s:σ) (ht:rk (Bq f fl sc mid l s).2<=top) {H:Hp} {n:Nat} (hn:n0<=n) (q:∀o y,st s o=some y->H o=some y):
 BA Tryz.prog 115 [AG l,AA id,sc.enc,.bool mid,.fn (.func g) a b] H n (λv h' n'=>v=AG (Bq f fl sc mid l s).1/\h'=Aj st (Bq f fl sc mid l s).2 H/\n'=n):=by
 have D:=C.cx;refine VY (mid:=mid) (sc:=sc) C c d l hl p id h s ht hn q λk o m hm i=>?_;exact GR (D.old _ hn k) i (λe j=>by obtain⟨x,_,rfl⟩:=qy.1 j;exact AE.cl n x)
set_option maxHeartbeats 2000000 in
theorem Xo (C:MN st n0 g a b f ok rk top) (hp:AF->Prop) (K:Nat) (hK:K<=349525) (t:∀h:AF,hp h->ok h/\h.sized):∀N,ZF st n0 g a b (Aw f N) (Da hp K N) rk top
 | 0=>λid l sc mid s H n h=>h.elim
 | N + 1 => fun id l sc mid s H n hl ht hn hs => by
  have ih:=Xo C hp K hK t N;have q:=PD C.up N;have D:=C.cx;have i:=hl.sized (λh e=>(t h e).2) (by omega);have htx:∀x∈l,x.text.size<=1048576:=kQ i.2;have d:∀l,Da hp K (N+1) l->∀x∈l,Ye ok (Da hp K N) x:=λl hl x hx=>by
   obtain⟨h1,h2,h3⟩:=dS.1 hl;obtain⟨h4,h5,h6,Y⟩:=h3 x hx;exact⟨(t _ h4).1,by have:=JG hx;omega,h5,by omega,λr Z=>⟨(t _ (Y r Z).1).1,by have:=(Y r Z).2.1;omega,λc hc=>⟨(t _ ((Y r Z).2.2 c hc).1).1,((Y r Z).2.2 c hc).2⟩⟩⟩
  by_cases B:id=sc.id/\mid=false;have M:Aw f (N+1) id l sc mid s=((Bq f (Aw f N) AX false (Ad l 0 sc.a).1 s).1++(Bq f (Aw f N) AX true (Ad l sc.a sc.b).1 (Bq f (Aw f N) AX false (Ad l 0 sc.a).1 s).2).1++(Bq f (Aw f N) AX false (Ad l sc.b (A8 l).1).1 (Bq f (Aw f N) AX true (Ad l sc.a sc.b).1 (Bq f (Aw f N) AX false (Ad l 0 sc.a).1 s).2).2).1,(Bq f (Aw f N) AX false (Ad l sc.b (A8 l).1).1 (Bq f (Aw f N) AX true (Ad l sc.a sc.b).1 (Bq f (Aw f N) AX false (Ad l 0 sc.a).1 s).2).2).2):=by rw[Aw,if_pos B]
  obtain⟨rfl,rfl⟩:=B;rw[M]at ht ⊢;dsimp only at ht;have l1:=DB 0 sc.a hl;have l2:=DB sc.a sc.b hl;have l3:=DB sc.b (A8 l).1 hl;have n1:=EC l 0 sc.a;have n2:=EC l sc.a sc.b;have n3:=EC l sc.b (A8 l).1;have hlK:=hl.1;have c1:=Rh l 0 sc.a i.1 i.2;have c2:=Rh l sc.a sc.b i.1 i.2;have c3:=Rh l sc.b (A8 l).1 i.1 i.2;refine Db Tryz.func115 rfl λho=>?_;have hU:∀s',Es (Aj st s' H) n:=λs'=>D.old s' hn ho;have A:∀s' j y,Aj st s' H j=some y->j<n:=λs' j y e=>(hU s' j y e).1;refine AY 1 [(0,AG l),(1,AA sc.id),(3,.bool false),(4,.fn (.func g) a b),(7,.iptr [AA sc.id,AA sc.a,AA sc.b])] (Aj st s H) n ?_ (λm hm=>?_);simp[go_sem,Av.enc,IO,DY s H hs];refine⟨AV (ho.none (qa n)) (by simp[hset]),λj y e=>by rw[AD _ _ (by have:=(ho j y e).1;omega)];exact e⟩;refine GI ?_;refine Bp 0 [(0,AG l),(4,.fn (.func g) a b),(7,.iptr [AA sc.id,AA sc.a,AA sc.b]),(39,.bool true)] (Aj st s H) m ?_ (λm' J=>?_);simp[go_sem,IO];subst J;refine Ah (b:=true) (by simp[go_sem]) ?_;rw[if_pos rfl];refine AY 0 [(0,AG l),(4,.fn (.func g) a b),(7,.iptr [AA sc.id,AA sc.a,AA sc.b]),(11,AG (Ad l 0 sc.a).1)] (Aj st s H) m ?_ (λm2 hm2=>?_);simp[go_sem];refine qw c1 ?_;simp[go_sem,IO];refine AY 0 [(0,AG l),(4,.fn (.func g) a b),(7,.iptr [AA sc.id,AA sc.a,AA sc.b]),(11,AG (Ad l 0 sc.a).1),(13,AG (Ad l sc.a sc.b).1)] (Aj st s H) m2 ?_ (λm3 hm3=>?_);simp[go_sem];refine qw c2 ?_;simp[go_sem,IO];refine AY 0 [(0,AG l),(4,.fn (.func g) a b),(7,.iptr [AA sc.id,AA sc.a,AA sc.b]),(11,AG (Ad l 0 sc.a).1),(13,AG (Ad l sc.a sc.b).1),(15,AA (A8 l).1)] (Aj st s H) m3 ?_ (λm4 hm4=>?_);simp[go_sem];refine qw (VV l i.1 htx) ?_;simp[go_sem,IO];refine AY 0 [(4,.fn (.func g) a b),(11,AG (Ad l 0 sc.a).1),(13,AG (Ad l sc.a sc.b).1),(17,AG (Ad l sc.b (A8 l).1).1)] (Aj st s H) m4 ?_ (λm5 hm5=>?_);simp[go_sem];refine qw c3 ?_;simp[go_sem,IO];refine AY 1 [(4,.fn (.func g) a b),(11,AG (Ad l 0 sc.a).1),(13,AG (Ad l sc.a sc.b).1),(17,AG (Ad l sc.b (A8 l).1).1),(19,.iptr [AA (-1),AA 0,AA 0])] (Aj st s H) m5 ?_ (λm6 hm6=>?_);simp[go_sem,IO,AC,AS];exact⟨AV (AW (A _) (by omega)) (AC _ _ _),AJ (λj z e=>by have:=A s j z e;omega) AB⟩;generalize hr1:(Ad l 0 sc.a).1=r1 at l1 n1 ht ⊢;generalize hr2:(Ad l sc.a sc.b).1=r2 at l2 n2 ht ⊢;generalize hr3:(Ad l sc.b (A8 l).1).1=r3 at l3 n3 ht ⊢;have t2:=qr (G7 C.up q AX false r3 _) ht;have t1:=qr (G7 C.up q AX true r2 _) t2;have O:¬((-2:Int)=AX.id/\false=false):=by simp[AX]
  have P:¬((-2:Int)=AX.id/\true=false):=by simp
  have w1:=λm (hm:n<=m)=>VY (mid:=false) (sc:=AX) C ih q r1 (by omega) (d r1 l1) (-2) O s t1 (H:=Aj st s H) (n:=m) (by omega) Bw (Q:=λv h' n'=>m<=n'/\∃o,Ar m n' 11 o ((Bq f (Aw f N) AX false r1 s).1.map AE.enc)/\v=AM 11 o ((Bq f (Aw f N) AX false r1 s).1.map AE.enc)/\h'=AN o ((Bq f (Aw f N) AX false r1 s).1.map AE.enc) (Aj st (Bq f (Aw f N) AX false r1 s).2 H)) (λ_ o m' J hA=>.inl ⟨J,o,hA,rfl,by rw[D.up2]⟩);have U:=G6 (f:=f) (fl:=Aw f N) (sc:=AX) (mid:=false) r1 ([],s);have z1:Bq f (Aw f N) AX false r1 s=r1.foldl (Dq f (Aw f N) AX false) ([],s):=rfl;rw[<-z1]at U;generalize Bq f (Aw f N) AX false r1 s=p at w1 U t2 ht ⊢;obtain⟨p,s1⟩:=p;dsimp only at t2 ht;have w2:=λ(X:Hp) (hX:∀k w,st s1 k=some w->X k=some w) m (hm:n<=m)=>TB C ih q r2 (by omega) (d r2 l2) (-2) AX true P s1 t2 (H:=X) (n:=m) (by omega) hX;have V:=G6 (f:=f) (fl:=Aw f N) (sc:=AX) (mid:=true) r2 ([],s1);have z2:Bq f (Aw f N) AX true r2 s1=r2.foldl (Dq f (Aw f N) AX true) ([],s1):=rfl;rw[<-z2]at V;dsimp only at w1 U ⊢;generalize Bq f (Aw f N) AX true r2 s1=u at w2 V ht ⊢;obtain⟨u,s2⟩:=u;dsimp only at ht;have w3:=λ(X:Hp) (hX:∀k w,st s2 k=some w->X k=some w) m (hm:n<=m)=>TB C ih q r3 (by omega) (d r3 l3) (-2) AX false O s2 ht (H:=X) (n:=m) (by omega) hX;have W:=G6 (f:=f) (fl:=Aw f N) (sc:=AX) (mid:=false) r3 ([],s2);have z3:Bq f (Aw f N) AX false r3 s2=r3.foldl (Dq f (Aw f N) AX false) ([],s2):=rfl;rw[<-z3]at W;dsimp only at w2 V ⊢;generalize Bq f (Aw f N) AX false r3 s2=L at w3 W ⊢;obtain⟨L,s3⟩:=L;dsimp only at w3 W ⊢;simp only[Av.enc,AX]at w1 w2 w3;simp only[jI,jc]at U V W;have hlo:∀{m m2:Nat} {o:Option Nat} {es:List SV},n<=m->Ar m m2 11 o es->Ar n m2 11 o es:=λh H=>⟨H.none,λj e=>⟨by have:=(H.lt j e).1;omega,(H.lt j e).2⟩,H.size⟩
  refine BM 0 (α:=Option Nat) (λo=>[(4,.fn (.func g) a b),(13,AG r2),(17,AG r3),(19,.iptr [AA (-1),AA 0,AA 0]),(20,AM 11 o (p.map AE.enc))]) (λo=>AN o (p.map AE.enc) (Aj st s1 H)) (λo m=>n<=m/\Ar n m 11 o (p.map AE.enc)) ?_ (λo m7 E=>?_);simp[go_sem];refine qC (w1 m6 (by omega)) ?_;rintro v H' n' ⟨h1,o,h2,rfl,rfl⟩;simp[go_sem,IO];exact⟨o,⟨by omega,hlo (by omega) h2⟩,rfl,AB⟩;obtain⟨E,G⟩:=E;refine BM 0 (α:=Option Nat) (λo=>[(4,.fn (.func g) a b),(17,AG r3),(19,.iptr [AA (-1),AA 0,AA 0]),(20,AM 11 o (p.map AE.enc++u.map AE.enc))]) (λo=>AN o (p.map AE.enc++u.map AE.enc) (Aj st s2 H)) (λo m=>n<=m/\Ar n m 11 o (p.map AE.enc++u.map AE.enc)) ?_ (λo m8 F=>?_);have w:=w2 (AN o (p.map AE.enc) (Aj st s1 H)) (D.has hn G Bw) m7 E;rw[D.acc hn G,D.up2]at w;simp[go_sem];refine qC w ?_;rintro v H' n' ⟨rfl,rfl,rfl⟩;obtain⟨out,b1,o',R,S,T⟩:=Hq (h:=Aj st s2 H) (A s2) E G (qa _) (X:=AN o (p.map AE.enc) (Aj st s2 H)) AB u (by rw[qd];omega);simp[go_sem,IO,b1];exact⟨o',⟨by split<;>omega,R⟩,S,T⟩;obtain⟨F,I⟩:=F;refine BM 0 (α:=Option Nat) (λo=>[(10,AM 11 o ((p++u++L).map AE.enc))]) (λo=>AN o ((p++u++L).map AE.enc) (Aj st s3 H)) (λo m=>n<=m/\Ar n m 11 o ((p++u++L).map AE.enc)) ?_ (λo m9 hm9=>?_);have w:=w3 (AN o (p.map AE.enc++u.map AE.enc) (Aj st s2 H)) (D.has hn I Bw) m8 F;rw[D.acc hn I,D.up2]at w;simp[go_sem];refine qC w ?_;rintro v H' n' ⟨rfl,rfl,rfl⟩;obtain⟨out,b1,o',R,S,T⟩:=Hq (h:=Aj st s3 H) (A s3) F I (qa _) (X:=AN o (p.map AE.enc++u.map AE.enc) (Aj st s3 H)) AB L (by simp;omega);simp[go_sem,b1];simp only[qn]at R S T;exact⟨o',⟨by split<;>omega,R⟩,S,T⟩;refine AH ?_;simp[go_sem];have:=GR (n':=m9) (hU s3) hm9.2 (λe M=>by obtain⟨x,_,rfl⟩:=qy.1 M;exact AE.cl n x);simp only[AG,qc,qn]at this ⊢;exact this;have M:Aw f (N+1) id l sc mid s=Bq f (Aw f N) sc mid l s:=by rw[Aw,if_neg B]
  rw[M]at ht ⊢;exact TB C ih q l i.1 (d l hl) id sc mid B s ht hn hs
end
def Fo:AF:=⟨[],0,0,[],[]⟩
theorem RQ {h h2:Hp} {n n':Nat} {v r:SV} (k:Nat) (c:Es h n) (a:Fz h2 h k v r) (hc:closed n r=true) (b:∀j y,h j=some y->h2 j=some y):B8 n h2 n' v (λw h' n'=>w=r/\h'=h/\n'=n):=
 .inr ⟨k,r,h,a,hc,λj x e=>⟨b j x e,c j x e⟩,rfl,rfl,rfl⟩
section
variable {σ : Type} {st : σ → Nat → Option BT} {n0 : Nat} {g : FuncId} {a b : List SV} {f : σ → BW → AF × Bool × σ} {ok : AF → Prop} {rk : σ → Nat} {top : Nat} {sc : Av}
def Gf (f:σ->BW->AF×Bool×σ) (sc:Av) (N:Nat) (d:AI) (revs:List Ax) (s:σ):AI×σ:=
 (⟨(Aw f N 0 d.flow sc false s).1,(f (Aw f N 0 d.flow sc false s).2 ⟨d.«end»,false,1⟩).1,revs,d.settings⟩,(f (Aw f N 0 d.flow sc false s).2 ⟨d.«end»,false,1⟩).2.2)
def G8 (f:σ->BW->AF×Bool×σ) (sc:Av) (N:Nat) (d:AI) (s:σ):AI×σ:=Gf f sc N d [] s
set_option maxHeartbeats 2000000 in
theorem X6 (C:MN st n0 g a b f ok rk top) (hp:AF->Prop) (K:Nat) (T:K<=349525) (G:∀h:AF,hp h->ok h/\h.sized) (N:Nat) (d:AI) (revs:List Ax) (s:σ) (hl:Da hp K N d.flow) (F:hp d.«end») (ht:rk (Gf f sc N d revs s).2<=top)
 (p:(Gf f sc N d revs s).1.sized) (h2:(Gf f sc N d revs s).1.normal.sized) (i:(Bd [] (AE.usL (Ac (Gf f sc N d revs s).1.flow)++(Gf f sc N d revs s).1.«end».all)).length<=1048576) {H:Hp} {n:Nat} (hn:n0<=n) (U:∀o y,st s o=some y->H o=some y):
 BA Tryz.prog 39 [d.enc,sc.enc,Ao revs,.fn (.func g) a b] H n (λv h' n'=>v=(Gf f sc N d revs s).1.normal.enc/\h'=Aj st (Gf f sc N d revs s).2 H/\n'=n):=by
 refine Db Tryz.func39 rfl λO=>?_;have D:=C.cx;have Q:∀s',Es (Aj st s' H) n:=λs'=>D.old s' hn O;have t:∀s' j y,Aj st s' H j=some y->j<n:=λs' j y e=>(Q s' j y e).1;have A:n+2≠n:=by omega
 have c:n≠n+2:=by omega
 have u:∀s' y z,∀j w,Aj st s' H j=some w->hset (hset (Aj st s' H) n y) (n+2) z j=some w:=λs' y z=>AJ (λj z e=>by have:=t s' j z e;omega) (AJ (t s') AB);have I:∀s1 s' y z,Aj st s' (hset (hset (Aj st s1 H) n y) (n+2) z)=hset (hset (Aj st s' H) n y) (n+2) z:=λs1 s' y z=>by rw[<-D.hset _ _ (by omega),<-D.hset _ _ (by omega),D.up2]
 have l:∀s' y z,∀k w,st s' k=some w->hset (hset (Aj st s' H) n y) (n+2) z k=some w:=λs' y z=>Ey C.lt (by omega) z (Ey C.lt hn y Bw);refine BP 1 [(2,Ao revs),(3,.fn (.func g) a b),(4,.ptr n 0),(5,.iptr [AA sc.id,AA sc.a,AA sc.b]),(8,.ptr (n+2) 0)] (hset (hset (Aj st s H) n (some (.cells ([AG d.flow]++d.«end».flat++[Ao d.revs]++d.settings.flat)))) (n+2) (some (.cells C8))) (λm=>m=n+3) ?_ (λm L=>?_);simp[go_sem,Av.enc,IO,DY s H U,AI.enc,AF.flat,AK.flat,qD,C8];refine⟨AV (by rw[AD _ _ (by omega),AD _ _ (by omega)];exact O.none (by omega)) (by simp[hset]),λj y=>?_⟩;have:=O j y;simp only[hset];grind;subst L;have c1:=Xo C hp K T G N 0 d.flow sc false s;simp only[Gf]at p h2 i ht ⊢;have x:=qr (C.up _ _) ht;generalize Aw f N 0 d.flow sc false s=q at c1 p h2 i ht x ⊢;obtain⟨q,s1⟩:=q;dsimp only at c1 p h2 i ht x ⊢;refine BP 0 [(2,Ao revs),(3,.fn (.func g) a b),(4,.ptr n 0),(8,.ptr (n+2) 0)] (hset (hset (Aj st s1 H) n (some (.cells ([AG q]++d.«end».flat++[Ao d.revs]++d.settings.flat)))) (n+2) (some (.cells C8))) (λm=>n+3<=m) ?_ (λm L=>?_);have P:=λy z m (L:n<=m)=>c1 (hset (hset (Aj st s H) n y) (n+2) z) m hl x (by omega) (l s y z);simp only[I,Av.enc]at P;simp[go_sem,AF.flat,AK.flat,AC,AD];refine qC (P _ _ _ (by omega)) ?_;rintro v R n' ⟨rfl,rfl,rfl⟩;simp[go_sem,IO,AC,AD,El c];have J:=λy z m (L:n<=m)=>C.call s1 ⟨d.«end»,false,1⟩ (hset (hset (Aj st s1 H) n y) (n+2) z) m (G _ F).1 ht (by omega) (l s1 y z);generalize f s1 ⟨d.«end»,false,1⟩=r at J p h2 i ⊢;obtain⟨h',k,s2⟩:=r;simp only[I,qz,qE,qn]at J;dsimp only at J p h2 i ⊢;refine AY 0 [(2,Ao revs),(4,.ptr n 0),(8,.ptr (n+2) 0)] (hset (hset (Aj st s2 H) n (some (.cells ([AG q]++h'.flat++[Ao d.revs]++d.settings.flat)))) (n+2) (some (.cells C8))) m ?_ (λm2 hm2=>?_);simp[go_sem,AF.flat,AK.flat,AC,AD];refine qC (J _ _ _ (by omega)) ?_;rintro v R n' ⟨rfl,rfl,rfl⟩;simp[go_sem,IO,AC,AD,El c,AF.enc,AF.flat];refine AY 0 [(4,.ptr n 0),(8,.ptr (n+2) 0)] (hset (hset (Aj st s2 H) n (some (.cells ([AG q]++h'.flat++[Ao revs]++d.settings.flat)))) (n+2) (some (.cells C8))) m2 ?_ (λm3 hm3=>?_);simp[go_sem,IO,AF.flat,AK.flat,AC,AD,El c];generalize S:(⟨q,h',revs,d.settings⟩:AI)=D at p h2 i ⊢;have M:q=D.flow/\h'=D.«end»/\revs=D.revs/\d.settings=D.settings:=by rw[<-S];exact⟨rfl,rfl,rfl,rfl⟩
 obtain⟨f1,f2,f3,f4⟩:=M;rw[f1,f2]at i;rw[f1,f2,f3,f4];refine AH ?_;simp[go_sem,AF.flat,AK.flat,AC,AD];refine qw (by simpa[AI.enc,AF.flat,AK.flat]using ln D p h2 i) ?_;generalize hE:D.normal=E;have B:closed n E.enc=true:=by simp[AI.enc,AF.flat,AK.flat,closed,closedL,AE.E.closedL,Er.E.closedL,Az.E.closedL,Am.E.closedL,Ax.E.closedL,A6.E.closedL,Fb.E.closedL,Au.E.closedL,Ft.E.closedL]
 simp[go_sem,AI.enc,AF.flat,AK.flat,AC,C8];simp only[AI.enc,AF.flat,AK.flat,qz,qE]at B;exact B9 (Q s2) B (AJ (λj z e=>by have:=t s2 j z e;omega) (u s2 _ _))
theorem lw (C:MN st n0 g a b f ok rk top) (hp:AF->Prop) (K:Nat) (k:K<=349525) (e:∀h:AF,hp h->ok h/\h.sized) (N:Nat) (d:AI) (s:σ) (hl:Da hp K N d.flow) (c:hp d.«end») (ht:rk (G8 f sc N d s).2<=top)
 (i:(G8 f sc N d s).1.sized) (h2:(G8 f sc N d s).1.normal.sized) (j:(Bd [] (AE.usL (Ac (G8 f sc N d s).1.flow)++(G8 f sc N d s).1.«end».all)).length<=1048576) {H:Hp} {n:Nat} (hn:n0<=n) (l:∀o y,st s o=some y->H o=some y):
 BA Tryz.prog 39 [d.enc,sc.enc,.imm 0 [] true,.fn (.func g) a b] H n (λv h' n'=>v=(G8 f sc N d s).1.normal.enc/\h'=Aj st (G8 f sc N d s).2 H/\n'=n):=
 kU (bs:=[d.enc,sc.enc,Ao [],.fn (.func g) a b]) 1 AB ⟨IO,IO,BC (by simp),IO,trivial⟩ (X6 C hp K k e N d [] s hl c ht i h2 j hn l)
end
def TC (f:FuncId) (args:List SV) (T:SV->Prop):Prop:=∀h n,BA Tryz.prog f args h n (λv h' n'=>T v/\h'=h/\n'=n)
theorem TC.use {E:B6} {f:FuncId} {args:List SV} {T:SV->Prop} (H:TC f args T) {h:Hp} {n:Nat} {K:SV->Hp->Nat->Prop} (d:∀v,T v->K v h n):Ak E Tryz.prog f args h n K:=
 Ak.lift<|(H h n).mono λv _ _ ⟨a,b,c⟩=>by subst b;subst c;exact d v a
theorem GQ {h h':Hp} {n n':Nat} {v:SV} {T:SV->Prop} (c:Es h n) (b:∀o x,h o=some x->h' o=some x) (hc:closed n v=true) (a:T v):B8 n h' n' v (λe h2 d=>T e/\h2=h/\d=n):=
 B8.plain hc c b ⟨a,rfl,rfl⟩
theorem Vi {h h':Hp} {n n':Nat} {a v:SV} {T:SV->Prop} (k:Nat) (d:Es h n) (c:∀o x,h o=some x->h' o=some x) (e:Fz h' h k a v) (hc:closed n v=true) (b:T v):B8 n h' n' a (λg h2 f=>T g/\h2=h/\f=n):=
 .inr ⟨k,v,h,e,hc,λo x e=>⟨c o x e,d o x e⟩,b,rfl,rfl⟩
def Py (T:Prop) (v:SV):Prop:=∃e:Int,v=AA e/\(e=0->T)
theorem Py.plain {T:Prop}:∀v,Py T v->Ee v=true:=λ_ ⟨_,e,_⟩=>by rw[e];rfl
theorem Py.no {T:Prop} {e:Int} (h:e≠0):Py T (AA e):=⟨e,rfl,λg=>absurd g h⟩
theorem Py.ok {T:Prop} {e:Int} (h:T):Py T (AA e):=⟨e,rfl,λ_=>h⟩
def Vb (x:AE):Prop:=(x.kind≠6->x.flow=[])/\(x.kind≠7->x.rows=[])
def J4 (x:AE):Prop:=(x.kind≠6->x.flow=[])/\(x.kind≠7->x.rows=[])/\CZ x.text=true
structure Bx where
 b:Bool
set_option maxHeartbeats 2000000 in
theorem c9 (x:AE) (I:x.sized):TC 222 [x.enc] (Py (J4 x)):=by
 intro h n
 refine Db Tryz.func222 rfl λC=>?_
 obtain⟨X,s⟩:∃X:SV,X=.iptr [AA x.kind,AA x.code,AA x.id,.str x.text,Af x.head.props,AA x.head.ins,AA x.head.move,AP x.head.dels,AL x.head.layers,AG x.flow,A3 x.rows]:=⟨_,rfl⟩
 refine AY 1 [(1,X)] h n ?_ (λm a=>?_)
 . rw[s]
   simp[go_sem,qx]
   exact⟨AV (C.none (qa n)) (AC _ _ _),AJ (λj z e=>(C j z e).1) AB⟩
 refine BM 0 (α:=Bx) (λb=>[(1,X),(3,.bool b.b)]) (λ_=>h) (λ_ m=>n<=m) ?_ (λr m a=>?_)
 . rw[s]
   by_cases k:x.kind=8
   . simp[go_sem,IO,k,a];exact⟨⟨_⟩,rfl⟩
   . simp[go_sem,IO,k,a];exact⟨⟨_⟩,rfl⟩
 refine BM 0 (α:=Bx) (λb=>[(1,X),(3,.bool r.b),(4,.bool b.b)]) (λ_=>h) (λ_ m=>n<=m) ?_ (λt m a=>?_)
 . rw[s]
   by_cases k:x.kind=1
   . simp[go_sem,IO,k,a];exact⟨⟨_⟩,rfl⟩
   . by_cases q:x.kind=5
     . simp[go_sem,IO,q,a];exact⟨⟨_⟩,rfl⟩
     . simp[go_sem,IO,k,q,a];exact⟨⟨_⟩,rfl⟩
 refine BM 0 (α:=Bx) (λb=>[(1,X),(3,.bool r.b),(4,.bool t.b),(5,.bool b.b)]) (λ_=>h) (λ_ m=>n<=m) ?_ (λy m a=>?_)
 . rw[s]
   by_cases k:x.kind=6
   . simp[go_sem,IO,k,a];exact⟨⟨_⟩,rfl⟩
   . by_cases q:x.kind=7
     . simp[go_sem,IO,q,a];exact⟨⟨_⟩,rfl⟩
     . simp[go_sem,IO,k,q,a];exact⟨⟨_⟩,rfl⟩
 obtain⟨r⟩:=r
 obtain⟨t⟩:=t
 obtain⟨y⟩:=y
 dsimp only
 refine AY 0 [(1,X),(3,.bool r),(4,.bool t),(5,.bool y),(6,.bool true)] h n ?_ (λm a=>?_)
 . simp[go_sem,IO,a]
 refine BM 0 (α:=Bx) (λb=>[(1,X),(3,.bool r),(4,.bool t),(5,.bool y),(6,.bool b.b)]) (λ_=>h) (λ_ m=>n<=m) ?_ (λD m a=>?_)
 . rw[s]
   by_cases k:x.kind=4
   . simp[go_sem,k]
     refine qw (Jw _ _ _) ?_
     simp[go_sem,IO,a];exact⟨⟨_⟩,rfl⟩
   . by_cases F:x.kind=6
     . simp[go_sem,F]
       refine qw (Jw _ _ _) ?_
       simp[go_sem,IO,a];exact⟨⟨_⟩,rfl⟩
     . by_cases G:x.kind=8
       . simp[go_sem,G]
         refine qw (Jw _ _ _) ?_
         simp[go_sem,IO,a];exact⟨⟨_⟩,rfl⟩
       . simp[go_sem,IO,k,F,G,a];exact⟨⟨_⟩,rfl⟩
 obtain⟨D⟩:=D
 dsimp only
 refine BM 0 (α:=Bx) (λb=>[(1,X),(3,.bool r),(4,.bool t),(5,.bool y),(6,.bool D),(7,.bool b.b)]) (λ_=>h) (λ_ m=>n<=m) ?_ (λB m a=>?_)
 . rw[s]
   by_cases k:x.kind=4
   . simp[go_sem,IO,k,a];exact⟨⟨_⟩,rfl⟩
   . by_cases q:x.kind=6
     . simp[go_sem,IO,q,a];exact⟨⟨_⟩,rfl⟩
     . simp[go_sem,IO,k,q,a];exact⟨⟨_⟩,rfl⟩
 obtain⟨B⟩:=B
 dsimp only
 have out:∀(e:Int) (m:Nat),e≠0->B8 n h m (AA e) (λv h' n'=>Py (J4 x) v/\h'=h/\n'=n):=λe m H=>GQ C AB (by simp[closed]) (Py.no H)
 refine Bo 0 [] h (λm=>n<=m/\J4 x) ?_ (λm a=>?_)
 . refine AR ?_
   refine BM 0 (α:=Bx) (λb=>[(1,X),(3,.bool r),(4,.bool t),(5,.bool y),(7,.bool B),(70,.bool b.b)]) (λ_=>h) (λ_ m=>n<=m) ?_ (λu m a=>?_)
   . rw[s]
     simp[go_sem]
     refine qw (Jw _ _ _) ?_
     by_cases c:1<=x.kind/\x.kind<=8
     . simp[go_sem,IO,c,a];exact⟨⟨_⟩,rfl⟩
     . simp[go_sem,IO,c,a];exact⟨⟨_⟩,rfl⟩
   obtain⟨u⟩:=u
   dsimp only
   refine Ah (b:=u) (by simp[go_sem]) ?_
   cases u with
   | true=>exact AH (by simp[go_sem];exact out _ _ (by decide))
   | false=>
   simp only[qj,if_false]
   refine BM 0 (α:=Bx) (λb=>[(1,X),(3,.bool r),(79,.bool b.b)]) (λ_=>h) (λb m=>n<=m/\(b.b=false->Vb x)) ?_ (λw m a=>?_)
   . rw[s]
     clear out
     unfold Vb
     cases B with
     | true =>
      cases y with
      | true =>
       cases t with
       | true=>
        by_cases k6:x.kind=6
        . by_cases r0:x.rows=[]
          . simp[go_sem,IO,a,k6,r0]
            exact⟨⟨false⟩,rfl⟩
          . have d:0<x.rows.length:=qA.2 r0
            simp[go_sem,IO,a,k6,d]
            exact⟨⟨true⟩,by simp,rfl⟩
        . by_cases f0:x.flow=[]
          . by_cases k7:x.kind=7
            . simp[go_sem,IO,a,f0,k7]
              exact⟨⟨false⟩,rfl⟩
            . by_cases r0:x.rows=[]
              . simp[go_sem,IO,a,k6,f0,k7,r0]
                exact⟨⟨false⟩,rfl⟩
              . have d:0<x.rows.length:=qA.2 r0
                simp[go_sem,IO,a,k6,f0,k7,d]
                exact⟨⟨true⟩,by simp,rfl⟩
          . have f1:0<x.flow.length:=qA.2 f0
            simp[go_sem,IO,a,k6,f1]
            exact⟨⟨true⟩,by simp,rfl⟩
       | false=>
        by_cases t0:x.text.toList=[]
        . by_cases k6:x.kind=6
          . by_cases r0:x.rows=[]
            . simp[go_sem,IO,a,t0,k6,r0]
              exact⟨⟨false⟩,rfl⟩
            . have d:0<x.rows.length:=qA.2 r0
              simp[go_sem,IO,a,t0,k6,d]
              exact⟨⟨true⟩,by simp,rfl⟩
          . by_cases f0:x.flow=[]
            . by_cases k7:x.kind=7
              . simp[go_sem,IO,a,t0,f0,k7]
                exact⟨⟨false⟩,rfl⟩
              . by_cases r0:x.rows=[]
                . simp[go_sem,IO,a,t0,k6,f0,k7,r0]
                  exact⟨⟨false⟩,rfl⟩
                . have d:0<x.rows.length:=qA.2 r0
                  simp[go_sem,IO,a,t0,k6,f0,k7,d]
                  exact⟨⟨true⟩,by simp,rfl⟩
            . have f1:0<x.flow.length:=qA.2 f0
              simp[go_sem,IO,a,t0,k6,f1]
              exact⟨⟨true⟩,by simp,rfl⟩
        . simp[go_sem,IO,a,t0]
          exact⟨⟨true⟩,by simp,rfl⟩
      | false=>
       by_cases g:x.id=0
       . cases t with
         | true=>
          by_cases k6:x.kind=6
          . by_cases r0:x.rows=[]
            . simp[go_sem,IO,a,g,k6,r0]
              exact⟨⟨false⟩,rfl⟩
            . have d:0<x.rows.length:=qA.2 r0
              simp[go_sem,IO,a,g,k6,d]
              exact⟨⟨true⟩,by simp,rfl⟩
          . by_cases f0:x.flow=[]
            . by_cases k7:x.kind=7
              . simp[go_sem,IO,a,g,f0,k7]
                exact⟨⟨false⟩,rfl⟩
              . by_cases r0:x.rows=[]
                . simp[go_sem,IO,a,g,k6,f0,k7,r0]
                  exact⟨⟨false⟩,rfl⟩
                . have d:0<x.rows.length:=qA.2 r0
                  simp[go_sem,IO,a,g,k6,f0,k7,d]
                  exact⟨⟨true⟩,by simp,rfl⟩
            . have f1:0<x.flow.length:=qA.2 f0
              simp[go_sem,IO,a,g,k6,f1]
              exact⟨⟨true⟩,by simp,rfl⟩
         | false=>
          by_cases t0:x.text.toList=[]
          . by_cases k6:x.kind=6
            . by_cases r0:x.rows=[]
              . simp[go_sem,IO,a,g,t0,k6,r0]
                exact⟨⟨false⟩,rfl⟩
              . have d:0<x.rows.length:=qA.2 r0
                simp[go_sem,IO,a,g,t0,k6,d]
                exact⟨⟨true⟩,by simp,rfl⟩
            . by_cases f0:x.flow=[]
              . by_cases k7:x.kind=7
                . simp[go_sem,IO,a,g,t0,f0,k7]
                  exact⟨⟨false⟩,rfl⟩
                . by_cases r0:x.rows=[]
                  . simp[go_sem,IO,a,g,t0,k6,f0,k7,r0]
                    exact⟨⟨false⟩,rfl⟩
                  . have d:0<x.rows.length:=qA.2 r0
                    simp[go_sem,IO,a,g,t0,k6,f0,k7,d]
                    exact⟨⟨true⟩,by simp,rfl⟩
              . have f1:0<x.flow.length:=qA.2 f0
                simp[go_sem,IO,a,g,t0,k6,f1]
                exact⟨⟨true⟩,by simp,rfl⟩
          . simp[go_sem,IO,a,g,t0]
            exact⟨⟨true⟩,by simp,rfl⟩
       . simp[go_sem,IO,a,g]
         exact⟨⟨true⟩,by simp,rfl⟩
     | false=>
      by_cases c0:x.code=0
      . cases y with
        | true =>
         cases t with
         | true=>
          by_cases k6:x.kind=6
          . by_cases r0:x.rows=[]
            . simp[go_sem,IO,a,c0,k6,r0]
              exact⟨⟨false⟩,rfl⟩
            . have d:0<x.rows.length:=qA.2 r0
              simp[go_sem,IO,a,c0,k6,d]
              exact⟨⟨true⟩,by simp,rfl⟩
          . by_cases f0:x.flow=[]
            . by_cases k7:x.kind=7
              . simp[go_sem,IO,a,c0,f0,k7]
                exact⟨⟨false⟩,rfl⟩
              . by_cases r0:x.rows=[]
                . simp[go_sem,IO,a,c0,k6,f0,k7,r0]
                  exact⟨⟨false⟩,rfl⟩
                . have d:0<x.rows.length:=qA.2 r0
                  simp[go_sem,IO,a,c0,k6,f0,k7,d]
                  exact⟨⟨true⟩,by simp,rfl⟩
            . have f1:0<x.flow.length:=qA.2 f0
              simp[go_sem,IO,a,c0,k6,f1]
              exact⟨⟨true⟩,by simp,rfl⟩
         | false=>
          by_cases t0:x.text.toList=[]
          . by_cases k6:x.kind=6
            . by_cases r0:x.rows=[]
              . simp[go_sem,IO,a,c0,t0,k6,r0]
                exact⟨⟨false⟩,rfl⟩
              . have d:0<x.rows.length:=qA.2 r0
                simp[go_sem,IO,a,c0,t0,k6,d]
                exact⟨⟨true⟩,by simp,rfl⟩
            . by_cases f0:x.flow=[]
              . by_cases k7:x.kind=7
                . simp[go_sem,IO,a,c0,t0,f0,k7]
                  exact⟨⟨false⟩,rfl⟩
                . by_cases r0:x.rows=[]
                  . simp[go_sem,IO,a,c0,t0,k6,f0,k7,r0]
                    exact⟨⟨false⟩,rfl⟩
                  . have d:0<x.rows.length:=qA.2 r0
                    simp[go_sem,IO,a,c0,t0,k6,f0,k7,d]
                    exact⟨⟨true⟩,by simp,rfl⟩
              . have f1:0<x.flow.length:=qA.2 f0
                simp[go_sem,IO,a,c0,t0,k6,f1]
                exact⟨⟨true⟩,by simp,rfl⟩
          . simp[go_sem,IO,a,c0,t0]
            exact⟨⟨true⟩,by simp,rfl⟩
        | false=>
         by_cases g:x.id=0
         . cases t with
           | true=>
            by_cases k6:x.kind=6
            . by_cases r0:x.rows=[]
              . simp[go_sem,IO,a,c0,g,k6,r0]
                exact⟨⟨false⟩,rfl⟩
              . have d:0<x.rows.length:=qA.2 r0
                simp[go_sem,IO,a,c0,g,k6,d]
                exact⟨⟨true⟩,by simp,rfl⟩
            . by_cases f0:x.flow=[]
              . by_cases k7:x.kind=7
                . simp[go_sem,IO,a,c0,g,f0,k7]
                  exact⟨⟨false⟩,rfl⟩
                . by_cases r0:x.rows=[]
                  . simp[go_sem,IO,a,c0,g,k6,f0,k7,r0]
                    exact⟨⟨false⟩,rfl⟩
                  . have d:0<x.rows.length:=qA.2 r0
                    simp[go_sem,IO,a,c0,g,k6,f0,k7,d]
                    exact⟨⟨true⟩,by simp,rfl⟩
              . have f1:0<x.flow.length:=qA.2 f0
                simp[go_sem,IO,a,c0,g,k6,f1]
                exact⟨⟨true⟩,by simp,rfl⟩
           | false=>
            by_cases t0:x.text.toList=[]
            . by_cases k6:x.kind=6
              . by_cases r0:x.rows=[]
                . simp[go_sem,IO,a,c0,g,t0,k6,r0]
                  exact⟨⟨false⟩,rfl⟩
                . have d:0<x.rows.length:=qA.2 r0
                  simp[go_sem,IO,a,c0,g,t0,k6,d]
                  exact⟨⟨true⟩,by simp,rfl⟩
              . by_cases f0:x.flow=[]
                . by_cases k7:x.kind=7
                  . simp[go_sem,IO,a,c0,g,t0,f0,k7]
                    exact⟨⟨false⟩,rfl⟩
                  . by_cases r0:x.rows=[]
                    . simp[go_sem,IO,a,c0,g,t0,k6,f0,k7,r0]
                      exact⟨⟨false⟩,rfl⟩
                    . have d:0<x.rows.length:=qA.2 r0
                      simp[go_sem,IO,a,c0,g,t0,k6,f0,k7,d]
                      exact⟨⟨true⟩,by simp,rfl⟩
                . have f1:0<x.flow.length:=qA.2 f0
                  simp[go_sem,IO,a,c0,g,t0,k6,f1]
                  exact⟨⟨true⟩,by simp,rfl⟩
            . simp[go_sem,IO,a,c0,g,t0]
              exact⟨⟨true⟩,by simp,rfl⟩
         . simp[go_sem,IO,a,c0,g]
           exact⟨⟨true⟩,by simp,rfl⟩
      . simp[go_sem,IO,a,c0]
        exact⟨⟨true⟩,by simp,rfl⟩
   obtain⟨w⟩:=w
   dsimp only at a ⊢
   refine Ah (b:=w) (by simp[go_sem]) ?_
   cases w with
   | true=>exact AH (by simp[go_sem];exact out _ _ (by decide))
   | false=>
   simp only[qj,if_false]
   refine BM 0 (α:=Bx) (λb=>[(1,X),(3,.bool r),(127,.bool b.b)]) (λ_=>h) (λb m=>n<=m/\(b.b=false->CZ x.text=true)) ?_ (λi m f=>?_)
   . rw[s]
     simp[go_sem]
     refine qw (P7 x.text (by have:=(D7 I).2.1;omega)) ?_
     simp[go_sem,IO,a.1];exact⟨⟨!CZ x.text⟩,by simp,rfl⟩
   obtain⟨i⟩:=i
   dsimp only at f ⊢
   obtain⟨f,A⟩:=f
   refine Ah (b:=i) (by simp[go_sem]) ?_
   cases i with
   | true=>exact AH (by simp[go_sem];exact out _ _ (by decide))
   | false=>
   simp only[qj,if_false]
   refine BM 0 (α:=Bx) (λb=>[(1,X),(3,.bool r),(132,.bool b.b)]) (λ_=>h) (λb m=>n<=m) ?_ (λl m f=>?_)
   . rw[s]
     by_cases E:x.kind=1
     . simp[go_sem,IO,E,f];exact⟨⟨_⟩,rfl⟩
     . by_cases q:x.kind=5
       . simp[go_sem,IO,q,f];exact⟨⟨_⟩,rfl⟩
       . simp[go_sem,IO,E,q,f];exact⟨⟨_⟩,rfl⟩
   obtain⟨l⟩:=l
   dsimp only
   refine Ah (b:=l) (by simp[go_sem]) ?_
   cases l with
   | true=>exact AH (by simp[go_sem];exact out _ _ (by decide))
   | false=>
   simp only[qj,if_false]
   refine BM 0 (α:=Bx) (λb=>[(1,X),(3,.bool r),(146,.bool b.b)]) (λ_=>h) (λb m=>n<=m) ?_ (λo m f=>?_)
   . rw[s]
     by_cases q:x.kind=5
     . simp[go_sem,IO,q,f];exact⟨⟨_⟩,rfl⟩
     . simp[go_sem,IO,q,f];exact⟨⟨_⟩,rfl⟩
   obtain⟨o⟩:=o
   dsimp only
   refine Ah (b:=o) (by simp[go_sem]) ?_
   cases o with
   | true=>exact AH (by simp[go_sem];exact out _ _ (by decide))
   | false=>
   simp only[qj,if_false]
   refine BM 0 (α:=Bx) (λb=>[(156,.bool b.b)]) (λ_=>h) (λb m=>n<=m) ?_ (λp m f=>?_)
   . rw[s]
     cases r with
     | false=>simp[go_sem,f];exact⟨⟨_⟩,rfl⟩
     | true=>
      simp[go_sem]
      refine qw (V5 x.text) ?_
      simp[go_sem,f];exact⟨⟨_⟩,rfl⟩
   obtain⟨p⟩:=p
   dsimp only
   refine Ah (b:=p) (by simp[go_sem]) ?_
   cases p with
   | true=>exact AH (by simp[go_sem];exact out _ _ (by decide))
   | false=>
   refine AH ?_
   simp[go_sem]
   exact⟨f,(a.2 rfl).1,(a.2 rfl).2,A rfl⟩
 . refine AH ?_
   simp[go_sem]
   exact GQ C AB (by simp[closed]) (Py.ok a.2)
def GY (l:List (Int×Int)):List (SV×SV):=l.map λx=>(AA x.1,AA x.2)
theorem Ib (x:Int):∀(l:List (Int×Int)) (i:Nat),DH (AA x) (GY l) i=some none\/∃j k,DH (AA x) (GY l) i=some (some (j,AA k))
 | [],i=>.inl rfl
 | a::l,i=>by
  by_cases e:x=a.1;exact .inr ⟨i,a.2,by simp[GY,DH,G5,e]⟩;have:(x==a.1)=false:=by simpa using e
  rcases Ib x l (i+1)with h|⟨j,k,h⟩
  left;simp only[GY,qu,DH,G5,if_true,this];exact h;right;refine⟨j,k,?_⟩;simp only[GY,qu,DH,G5,if_true,this];exact h
structure Ck where
 p:Nat
 s0:Nat
 s1:Nat
 s2:Nat
 s3:Nat
 s4:Nat
 m0:List (Int×Int)
 m1:List Int
 m2:List Int
structure Ck.ok (K:Ck) (n0:Nat):Prop where
 nd:[K.p,K.s0,K.s1,K.s2,K.s3,K.s4].Nodup
 lt:∀o∈[K.p,K.s0,K.s1,K.s2,K.s3,K.s4],o<n0
abbrev Fp:=List Int×Int
def Ck.cells (K:Ck) (c:Int):List SV:=[.map K.s0,.map K.s1,.map K.s2,.map K.s3,.map K.s4,AA c]
def Ck.st (K:Ck) (s:Fp) (o:Nat):Option BT:=
 if o=K.p then some (.cells (K.cells s.2))else if o=K.s3 then some (.map (Ed s.1))else if o=K.s0 then some (.map (GY K.m0))else if o=K.s1 then some (.map (Ed K.m1))else if o=K.s2 then some (.map (Ed K.m2))else if o=K.s4 then some (.map [])else none
section
variable {K : Ck} {n0 : Nat}
theorem Ck.ok.clo (h:K.ok n0):ML K.st n0 0 [] [] (λs p=>(p.head,true,s)) (λ_=>False) where
 lt s o ho:=by
  have a:=h.lt;simp only[qk,List.not_mem_nil,or_false,forall_eq_or_imp,forall_eq]at a;unfold Ck.st;rw[if_neg (by omega),if_neg (by omega),if_neg (by omega),if_neg (by omega),if_neg (by omega),if_neg (by omega)]
 dom s s' o ho:=by
  unfold Ck.st at ho ⊢
  repeat' split at ho
  all_goals first|cases ho|skip
  simp only[*,if_false]
 cl s o y ho:=by
  have a:=h.lt;simp only[qk,List.not_mem_nil,or_false,forall_eq_or_imp,forall_eq]at a;unfold Ck.st at ho
  repeat' split at ho
  all_goals first|cases ho|skip
  . simp[BQ,Ck.cells,closed,closedL];omega
  exact HY _ _;simp[BQ,GY,closed];exact HY _ _;exact HY _ _;simp[BQ]
 call:=λ_ _ _ _ h=>h.elim
structure Ck.has (K:Ck) (s:Fp) (H:Hp):Prop where
 p:H K.p=some (.cells (K.cells s.2))
 s0:H K.s0=some (.map (GY K.m0))
 s1:H K.s1=some (.map (Ed K.m1))
 s2:H K.s2=some (.map (Ed K.m2))
 s3:H K.s3=some (.map (Ed s.1))
 s4:H K.s4=some (.map [])
theorem Ck.ok.has (h:K.ok n0) {s:Fp} {H:Hp} (b:∀o y,K.st s o=some y->H o=some y):K.has s H:=by
 have a:=h.nd;simp only[jA,qk,List.not_mem_nil,or_false,not_or]at a;obtain⟨⟨a1,a2,a3,a4,a5⟩,⟨b2,b3,b4,b5⟩,⟨c3,c4,c5⟩,⟨d4,d5⟩,e5,_⟩:=a;constructor<;>refine b _ _ ?_<;>unfold Ck.st<;>simp[*,Ne.symm,eq_comm]
theorem Wm {H:Hp} {n n':Nat} {h2:Hp} (e:Int) {T:Int->Prop} (b:Es H n) (a:∀j y,H j=some y->h2 j=some y) (ht:T e):B8 n h2 n' (AA e) (λv h' n'=>(∃e,v=AA e/\T e)/\h'=H/\n'=n):=
 .inr ⟨0,AA e,H,IO,by simp[closed],λj x g=>⟨a j x g,b j x g⟩,⟨e,rfl,ht⟩,rfl,rfl⟩
set_option maxHeartbeats 1000000 in
theorem Xt (h:K.ok n0) (s:Fp) (kind id:Int) {H:Hp} {n:Nat} (l:∀o y,K.st s o=some y->H o=some y):
 BA Tryz.prog 157 [.ptr K.p 0,AA kind,AA id] H n (λv h' n'=>(∃e,v=AA e)/\h'=H/\n'=n):=by
 refine gq Tryz.func157 rfl λi=>?_;obtain⟨hp,h0,d,h2,h3,h4⟩:=h.has l;have fin:∀(e:Int) (m:Nat),B8 n H m (AA e) (λv h' n'=>(∃e,v=AA e)/\h'=H/\n'=n):=λe m=>by have:=Wm (T:=λ_=>True) (n':=m) e i AB trivial;simpa using this
 simp only[Ck.cells]at hp;have b:kind=20\/kind=1\/(kind≠20/\kind≠1):=by omega
 rcases b with e|e|⟨e,e'⟩
 by_cases a:id=0;simp[go_sem,e,a];refine(JK _ _).use ?_;simp[go_sem];exact fin _ _;rcases Ib id K.m0 0 with f|⟨j,k,f⟩
 simp[go_sem,e,a,hp,h0,f,CK];refine(JK _ _).use ?_;simp[go_sem];exact fin _ _;simp[go_sem,e,a,hp,h0,f,CK];refine(JK _ _).use ?_;simp[go_sem];exact fin _ _;by_cases a:id=0;simp[go_sem,e,a];refine(JK _ _).use ?_;simp[go_sem];exact fin _ _;rcases Ib id K.m0 0 with f|⟨j,k,f⟩
 simp[go_sem,e,a,hp,h0,f,CK];refine(JK _ _).use ?_;simp[go_sem];exact fin _ _;simp[go_sem,e,a,hp,h0,f,CK];refine(JK _ _).use ?_;simp[go_sem];exact fin _ _;by_cases c:kind=33;by_cases a:id=0;simp[go_sem,c,a];refine(JK _ _).use ?_;simp[go_sem];exact fin _ _;by_cases g:id∈K.m1;obtain⟨j,f,_⟩:=DS 0 g;simp[go_sem,c,a,hp,d,f,CK];refine(JK _ _).use ?_;simp[go_sem];exact fin _ _;have f:=Du 0 g;simp[go_sem,c,a,hp,d,f,CK];refine(JK _ _).use ?_;simp[go_sem];exact fin _ _;simp[go_sem,e,e',c];exact fin _ _
def CQ (K:Ck) (T:Int->Fp->Prop) (H:Hp) (n:Nat):SV->Hp->Nat->Prop:=λv h' n'=>∃e s',v=AA e/\T e s'/\h'=Aj K.st s' H/\n'=n
theorem Ck.ok.ret (a:K.ok n0) {T:Int->Fp->Prop} {H h2:Hp} {n m:Nat} (hn:n0<=n) (d:Es H n) (e:Int) (s':Fp) (b:T e s') (c:∀j y,Aj K.st s' H j=some y->h2 j=some y):B8 n h2 m (AA e) (CQ K T H n):=
 .inr ⟨0,AA e,Aj K.st s' H,IO,by simp[closed],λj x g=>⟨c j x g,a.clo.old s' hn d j x g⟩,e,s',rfl,b,rfl,rfl⟩
theorem Ck.ok.no (a:K.ok n0) {T:Int->Fp->Prop} {H h2:Hp} {n m:Nat} (hn:n0<=n) (d:Es H n) (s:Fp) (f:∀o y,K.st s o=some y->H o=some y) (e:Int) (b:T e s) (c:∀j y,H j=some y->h2 j=some y):B8 n h2 m (AA e) (CQ K T H n):=
 a.ret hn d e s b (by rw[DY s H f];exact c)
theorem Lf (l:List Int) (x:Int):Ed l++[(AA x,.bool true)]=Ed (l++[x]):=by simp[Ed]
def idT (s:Fp) (id:Int) (e:Int) (s':Fp):Prop:=e=0->s'=(s.1++[id],s.2)/\1<=id/\id<=1073741824/\id∉s.1
theorem Ck.ok.up_ids (e:K.ok n0) (s:Fp) (l:List Int) {H:Hp} (f:∀o y,K.st s o=some y->H o=some y):Aj K.st (l,s.2) H=hset H K.s3 (some (.map (Ed l))):=by
 have b:=e.nd;simp only[jA,qk,List.not_mem_nil,or_false,not_or]at b;obtain⟨⟨a1,a2,a3,a4,a5⟩,⟨b2,b3,b4,b5⟩,⟨c3,c4,c5⟩,⟨d4,d5⟩,e5,_⟩:=b;funext o;have g:=f o;simp only[Aj,Ck.st,hset]at g ⊢;by_cases c:o=K.p;subst c;simp only[if_true]at g ⊢;rw[if_neg a4];exact(g _ rfl).symm;by_cases d:o=K.s3;have a:¬K.s3=K.p:=λh=>a4 h.symm;simp[d,a];simp only[c,d,if_false]at g ⊢;split;rename_i y i;exact(g y i).symm;rfl
set_option maxHeartbeats 1000000 in
theorem WA (a:K.ok n0) (s:Fp) (id:Int) {H:Hp} {n:Nat} (hn:n0<=n) (c:∀o y,K.st s o=some y->H o=some y):
 BA Tryz.prog 223 [.ptr K.p 0,AA id] H n (CQ K (idT s id) H n):=by
 refine gq Tryz.func223 rfl λi=>?_;obtain⟨hp,h0,h1,h2,d,h⟩:=a.has c;have no:∀(e:Int) (m:Nat),e≠0->B8 n H m (AA e) (CQ K (idT s id) H n):=λe m k=>a.no hn i s c e (λg=>absurd g k) AB;simp only[Ck.cells]at hp;by_cases r:1<=id/\id<=1073741824;have f4:DH (AA id) [] 0=some none:=rfl;by_cases b:id∈s.1;obtain⟨j,f,_⟩:=DS 0 b;simp[go_sem];refine(Jw _ _ _).use ?_;simp[go_sem,r,hp,h,d,f,CK];exact no 7 _ (by decide);have f:=Du 0 b;simp[go_sem];refine(Jw _ _ _).use ?_;simp[go_sem,r,hp,h,d,f,CK];refine a.ret hn i 0 (s.1++[id],s.2) (λ_=>⟨rfl,r.1,r.2,b⟩) ?_;rw[a.up_ids s _ c,Lf];exact AB;simp[go_sem];refine(Jw _ _ _).use ?_;simp[go_sem,r];exact no 18 _ (by decide)
end
def trL:Tr:=.pure 0<|.pure 1<|.pure 2<|.pure 3<|.pure 5<|.pure 6<|.pure 7<|.pure 8<|.pure 9<|.one 4<|.one 10<|.one 11<|.one 12<|.one 13 .nil
section
variable {K : Ck} {n0 : Nat}
def Us (K:Ck) (s:Fp) (x:Am) (e:Int) (s':Fp):Prop:=s'=s/\(e=0->x.rev∈K.m2)
set_option maxHeartbeats 2000000 in
theorem bW (h:K.ok n0) (s:Fp) (el:Int) (c:List Am) (hls:c.length<=1048576) (i:Nat) (hi:i<c.length) {H:Hp} {n:Nat} (hn:n0<=n) (q:∀o y,K.st s o=some y->H o=some y):
 BA Tryz.prog 159 [.ptr K.p 0,AA el,AL c,AA i] H n (CQ K (Us K s c[i]) H n):=by
 refine Db Tryz.func159 rfl λr=>?_;obtain⟨x,B⟩:∃x,c[i]=x:=⟨_,rfl⟩
 obtain⟨hp,_,_,h2,_,_⟩:=h.has q;simp only[Ck.cells]at hp;have hKp:K.p<n:=by have:=h.lt K.p (by simp);omega
 have hKs:K.s2<n:=by have:=h.lt K.s2 (by simp);omega
 have d:=r.lt;have no:∀(e:Int) (m:Nat),e≠0->B8 n H m (AA e) (CQ K (Us K s c[i]) H n):=λe m E=>h.no hn r s q e ⟨rfl,λg=>absurd g E⟩ AB;refine Bp 0 [(0,.ptr K.p 0),(1,AA el),(2,AL c),(3,AA i)] H n ?_ (λm a=>?_);simp[go_sem,IO];subst a;refine AY 1 [(0,.ptr K.p 0),(1,AA el),(2,AL c),(3,AA i),(9,.iptr [AA x.rev,AA x.key,AA x.before,.bool x.had])] H n ?_ (λm a=>?_);simp[go_sem,IO,hi,B,Am.enc,AC];exact⟨AV (AW d (qa _)) (AC _ _ _),AJ d (AJ d AB)⟩;rw[B]at no ⊢;refine Bo 0 [(0,.ptr K.p 0),(9,.iptr [AA x.rev,AA x.key,AA x.before,.bool x.had])] H (λm=>n<=m/\x.rev∈K.m2) ?_ (λm a=>?_)
 . refine AR ?_;refine BM 0 (α:=Bx) (λb=>[(0,.ptr K.p 0),(1,AA el),(2,AL c),(3,AA i),(9,.iptr [AA x.rev,AA x.key,AA x.before,.bool x.had]),(14,.bool b.b)]) (λ_=>H) (λb m=>n<=m/\(b.b=false->x.rev∈K.m2)) ?_ (λb m a=>?_)
   . by_cases l:x.rev∈K.m2
     . obtain⟨j,f,_⟩:=DS 0 l;simp[go_sem,IO,hp,h2,f,CK,a,l]
       repeat first|refine nq ?_|refine sq ?_|refine aq ?_
       first|exact⟨⟨false⟩,λ_=>l,rfl⟩|exact⟨⟨false⟩,rfl⟩
     . have f:=Du 0 l;simp[go_sem,IO,hp,h2,f,CK,a,l]
       repeat first|refine nq ?_|refine sq ?_|refine aq ?_
       first|exact⟨⟨true⟩,by simp,rfl⟩|exact⟨⟨true⟩,rfl⟩
   obtain⟨b⟩:=b;dsimp only at a ⊢;refine Ah (b:=b) (by simp[go_sem]) ?_;cases b with
   | true=>exact AH (by simp[go_sem];exact no 22 _ (by decide))
   | false=>
   simp only[qj,if_false];have k:=a.2 rfl;refine BM 0 (α:=Bx) (λb=>[(0,.ptr K.p 0),(1,AA el),(2,AL c),(3,AA i),(9,.iptr [AA x.rev,AA x.key,AA x.before,.bool x.had]),(23,.bool b.b)]) (λ_=>H) (λb m=>n<=m) ?_ (λb m a=>?_);simp[go_sem];refine(Xg _ _).use ?_;simp[go_sem,IO,a.1];exact⟨⟨_⟩,rfl⟩;obtain⟨b⟩:=b;dsimp only at a ⊢;refine Ah (b:=b) (by simp[go_sem]) ?_;cases b with
   | true=>exact AH (by simp[go_sem];exact no 4 _ (by decide))
   | false=>
   simp only[qj,if_false];refine BM 0 (α:=Bx) (λb=>[(0,.ptr K.p 0),(9,.iptr [AA x.rev,AA x.key,AA x.before,.bool x.had]),(29,.bool b.b)]) (λ_=>H) (λb m=>n<=m) ?_ (λb m a=>?_)
   . by_cases C:0<i
     . have A:i-1<c.length:=by omega
       obtain⟨y,F⟩:∃y,c[i-1]=y:=⟨_,rfl⟩
       have w:IntKind.i64.wrap ((i:Int)-1)=((i-1:Nat):Int):=by rw[Cl]<;>omega
       simp[go_sem,IO,C,w,A,F,Am.enc,a]
       repeat first|refine nq ?_|refine sq ?_|refine aq ?_
       exact⟨⟨_⟩,rfl⟩
     . simp[go_sem,IO,C,a]
       repeat first|refine nq ?_|refine sq ?_|refine aq ?_
       exact⟨⟨_⟩,rfl⟩
   obtain⟨b⟩:=b;dsimp only at a ⊢;refine Ah (b:=b) (by simp[go_sem]) ?_;cases b with
   | true=>exact AH (by simp[go_sem];exact no 6 _ (by decide))
   | false=>
   simp only[qj,if_false];refine AH ?_;cases u:x.had with
   | false=>
    simp[go_sem];refine(JK _ _).use ?_;simp[go_sem];exact h.no hn r s q _ ⟨rfl,λ_=>k⟩ AB
   | true=>
    simp[go_sem,IO];exact⟨a,k⟩
 have ret:∀(e:Int) (t:Hp) (m:Nat),(∀j y,H j=some y->t j=some y)->B8 n t m (AA e) (CQ K (Us K s x) H n):=λe t m u=>h.no hn r s q e ⟨rfl,λ_=>a.2⟩ u;refine AT 0 (α:=Int) (λe=>[(8,AA e)]) (λ_=>H) (λ_ m=>n<=m) (BX trL rfl (by kernel_rfl) (by kernel_rfl) ?_) (λe m a=>?_);simp[go_sem,trL];refine(V6 _ _).use ?_;simp[go_sem];refine qC (Xt h s x.key x.before q) ?_;rintro v D n' ⟨⟨e,rfl⟩,rfl,rfl⟩;simp[go_sem];refine kU (bs:=[.imm 1 ([EW x.key x.before,e].map AA) false]) (h2:=D) 1 (AJ (λj z e=>by have:=d j z e;omega) AB) ⟨?_,trivial⟩ ?_;exact DV (es:=[AA (EW x.key x.before),AA e]) (AW d a.1) (by simp) (by rw[AC];simp[SV.cells]) (by simp[SV.storable,SV.cells]);refine(Pw _ (by simp)).use ?_;simp[go_sem]
 first|exact⟨by omega,_,IO⟩|exact⟨_,by omega,IO⟩|exact⟨_,IO⟩
 . refine AH ?_;simp[go_sem];exact ret _ _ _ AB
end
section
variable {K : Ck} {n0 : Nat}
def XN (I:Fp->Prop) (e:Int) (s':Fp):Prop:=e=0->I s'
theorem Xs (f:K.ok n0) (N:Nat) (hN:N<=1048576) (g:FuncId) (a b:List SV) (I:Nat->Fp->Prop)
 (step:∀i s' H n,i<N->I i s'->n0<=n->(∀o y,K.st s' o=some y->H o=some y)->BA Tryz.prog g (a++[AA i]++b) H n (CQ K (XN (I (i+1))) H n))
 (s:Fp) (h0:I 0 s) {H:Hp} {n:Nat} (hn:n0<=n) (l:∀o y,K.st s o=some y->H o=some y):
 BA Tryz.prog 150 [AA N,.fn (.func g) a b] H n (CQ K (XN (I N)) H n):=by
 have D:=f.clo;refine gq Tryz.func150 rfl λj=>?_;simp[go_sem];refine An 0 (α:=Nat×Fp) (λq=>[(1,.fn (.func g) a b),(7,AA N),(8,AA q.1)]) (λq=>Aj K.st q.2 H) (λq m=>q.1<=N/\n<=m/\I q.1 q.2) (λq=>N-q.1) (0,s) ?_ ?_ ?_ ?_;exact⟨qg _,qa _,h0⟩;simp[Ai,Fz];rw[DY s H l];exact AB;rintro⟨i,s'⟩ m ⟨hi,h,hI⟩;dsimp only at hi hI ⊢;by_cases c:i<N;have w1:=wS i (by omega);have hc:=step i s' (Aj K.st s' H) m c hI (by omega) Bw;simp only[qn,qz,qE]at hc;simp[go_sem,c];refine qC hc ?_;rintro v H' n' ⟨e,s2,rfl,k,rfl,rfl⟩;rw[D.up2];by_cases d:e=0;subst d;simp[go_sem,w1,-Int.natCast_add];exact⟨i+1,by omega,s2.1,s2.2,⟨by omega,h,k rfl⟩,rfl,AB⟩;simp[go_sem,d];exact f.ret hn j e s2 (λg=>absurd g d) AB;have:i=N:=by omega
 subst this;simp[go_sem];exact f.ret hn j 0 s' (λ_=>hI) AB
theorem bV (c:K.ok n0) (s:Fp) (el ins mv:Int) (d:SV) (a:List Am) (b:a.length<=1048576) (i:Nat) (hi:i<a.length) {H:Hp} {n:Nat} (hn:n0<=n) (h:∀o y,K.st s o=some y->H o=some y):
 BA Tryz.prog 158 [AA i,.iptr [.ptr K.p 0],.iptr [AA el],.iptr [AA ins,AA mv,d,AL a]] H n (CQ K (Us K s a[i]) H n):=by
 refine gq Tryz.func158 rfl λg=>?_;simp[go_sem];refine qC (bW c s el a b i hi hn h) ?_;rintro v H' n' ⟨e,s2,rfl,f,rfl,rfl⟩;simp[go_sem];exact c.ret hn g e s2 f AB
end
structure RB (m2:List Int) (h:AF):Prop where
 ins:h.ins=0\/h.ins∈m2
 dlen:h.dels.length<=16
 dels:∀x∈h.dels,x.rev∈m2
 llen:h.layers.length<=64
 layers:∀x∈h.layers,x.rev∈m2
structure C6 (m2:List Int) (h:AF):Prop extends RB m2 h where
 inc:∀i (hi:i<h.dels.length),0<i->h.dels[i-1].rev<h.dels[i].rev
 mv:0<=h.move
 dmv:∀x∈h.dels,0<=x.move
section
variable {K : Ck} {n0 : Nat}
def Vc (K:Ck) (s:Fp) (h:AF) (e:Int) (s':Fp):Prop:=e=0->s'=s/\C6 K.m2 h
set_option maxHeartbeats 4000000 in
theorem ZO (t:K.ok n0) (s:Fp) (el:Int) (a:AF) (L:a.sized) {H:Hp} {n:Nat} (hn:n0<=n) (J:∀o y,K.st s o=some y->H o=some y):
 BA Tryz.prog 86 [.ptr K.p 0,AA el,a.enc] H n (CQ K (Vc K s a) H n):=by
 refine Db Tryz.func86 rfl λI=>?_;obtain⟨hp,_,_,h2,_,_⟩:=t.has J;simp only[Ck.cells]at hp;have hKp:K.p<n:=by have:=t.lt K.p (by simp);omega
 have hKs:K.s2<n:=by have:=t.lt K.s2 (by simp);omega
 have k:=I.lt;have no:∀(e:Int) (m:Nat),e≠0->B8 n H m (AA e) (CQ K (Vc K s a) H n):=λe m G=>t.no hn I s J e (λg=>absurd g G) AB;refine AY 1 [(3,.iptr [.ptr K.p 0]),(4,.iptr [AA el]),(5,.iptr a.flat)] H n ?_ (λm d=>?_);simp[go_sem,AF.enc,AF.flat,qD];refine⟨⟨AV (AW k (by omega)) (by simp[hset]),AV (AW k (by omega)) (by simp[hset]),AV (AW k (by omega)) (by simp[hset])⟩,λj y=>?_⟩;have:=k j y;simp only[hset];grind;refine Bc 0 [(3,.iptr [.ptr K.p 0]),(4,.iptr [AA el]),(5,.iptr a.flat)] H n (AH ?_) (λm d=>?_);simp[go_sem,AF.flat];refine(XZ el a.props L.props).use ?_;by_cases r:GH el a.props=0;simp[go_sem,r,IO,d];simp[go_sem,r];exact no _ _ r;refine Bc 0 [(3,.iptr [.ptr K.p 0]),(4,.iptr [AA el]),(5,.iptr a.flat)] H n ?_ (λm d=>?_);refine AY 0 [(3,.iptr [.ptr K.p 0]),(4,.iptr [AA el]),(5,.iptr a.flat),(22,Af a.props),(23,AA a.props.length),(24,AA 0)] H n ?_ (λm d=>?_);simp[go_sem,IO,AF.flat,d];refine AR (BG 0 (α:=Nat) (λi=>[(3,.iptr [.ptr K.p 0]),(4,.iptr [AA el]),(5,.iptr a.flat),(22,Af a.props),(23,AA a.props.length),(24,AA i)]) (λ_=>H) (λi m=>i<=a.props.length/\n<=m) (λi=>a.props.length-i) 0 ⟨qg _,d⟩ ?_ AB ?_);simp[go_sem,Ai,IO];rintro i m ⟨hi,d⟩;refine AH ?_;by_cases u:i<a.props.length;obtain⟨x,A⟩:∃x,a.props[i]=x:=⟨_,rfl⟩
 have w1:IntKind.i64.wrap ((i:Int)+1)=((i+1:Nat):Int):=by have:=L.props;rw[Cl]<;>omega
 simp[go_sem,u,A,Er.enc,AC];refine qC (Xt t s x.key x.value (Ey t.clo.lt (by omega) _ (Ey t.clo.lt (by omega) _ J))) ?_;rintro v Y n' ⟨⟨e,rfl⟩,rfl,rfl⟩;by_cases r:e=0;subst r;simp[go_sem,w1,-Int.natCast_add];refine⟨i+1,by omega,⟨by omega,by omega⟩,by simp[IO],AJ (λj z e=>by have:=k j z e;omega) (AJ (λj z e=>by have:=k j z e;omega) AB)⟩;simp[go_sem,r];exact t.no hn I s J e (λg=>absurd g r) (AJ (λj z e=>by have:=k j z e;omega) (AJ (λj z e=>by have:=k j z e;omega) AB));simp[go_sem,u,IO,d];refine AY 1 [(3,.iptr [.ptr K.p 0]),(4,.iptr [AA el]),(11,.iptr [AA a.ins,AA a.move,AP a.dels,AL a.layers])] H n ?_ (λm d=>?_);simp[go_sem,IO,AF.flat,AC];have l:∀j y,H j=some y->j<m:=λj y e=>by have:=k j y e;omega
 exact⟨by omega,AV (AW l (qa _)) (AC _ _ _),AJ l (AJ l AB)⟩;refine Bo 0 [(3,.iptr [.ptr K.p 0]),(4,.iptr [AA el]),(11,.iptr [AA a.ins,AA a.move,AP a.dels,AL a.layers])] H (λm=>n<=m/\(a.ins=0\/a.ins∈K.m2)/\a.dels.length<=16/\0<=a.move) ?_ (λm d=>?_)
 . refine AR ?_;refine BM 0 (α:=Bx) (λb=>[(3,.iptr [.ptr K.p 0]),(4,.iptr [AA el]),(11,.iptr [AA a.ins,AA a.move,AP a.dels,AL a.layers]),(40,.bool b.b)]) (λ_=>H) (λb m=>n<=m/\(b.b=false->a.ins=0\/a.ins∈K.m2)) ?_ (λb m d=>?_)
   . by_cases F:a.ins=0
     . simp[go_sem,IO,F,d]
       repeat first|refine nq ?_|refine sq ?_|refine aq ?_
       exact⟨⟨false⟩,rfl⟩
     . by_cases B:a.ins∈K.m2
       . obtain⟨j,f,_⟩:=DS 0 B;simp[go_sem,IO,F,hp,h2,f,CK,d,B]
         repeat first|refine nq ?_|refine sq ?_|refine aq ?_
         exact⟨⟨false⟩,rfl⟩
       . have f:=Du 0 B;simp[go_sem,IO,F,hp,h2,f,CK,d,B]
         repeat first|refine nq ?_|refine sq ?_|refine aq ?_
         exact⟨⟨true⟩,by simp,rfl⟩
   obtain⟨b⟩:=b;dsimp only at d ⊢;refine Ah (b:=b) (by simp[go_sem]) ?_;cases b with
   | true=>exact AH (by simp[go_sem];exact no 22 _ (by decide))
   | false=>
   simp only[qj,if_false];have E:=d.2 rfl;refine BM 0 (α:=Bx) (λb=>[(3,.iptr [.ptr K.p 0]),(4,.iptr [AA el]),(11,.iptr [AA a.ins,AA a.move,AP a.dels,AL a.layers]),(54,.bool b.b)]) (λ_=>H) (λb m=>n<=m/\(b.b=false->0<=a.move)) ?_ (λb m d=>?_);simp[go_sem];refine(Jw _ _ _).use ?_;by_cases c:0<=a.move/\a.move<=1073741824;by_cases m0:a.move=0;simp[go_sem,IO,m0,d.1];exact⟨⟨_⟩,rfl⟩;simp[go_sem,IO,c,m0,d.1];exact⟨⟨_⟩,rfl⟩;simp[go_sem,IO,c,d.1];exact⟨⟨true⟩,by simp,rfl⟩;obtain⟨b⟩:=b;dsimp only at d ⊢;refine Ah (b:=b) (by simp[go_sem]) ?_;cases b with
   | true=>exact AH (by simp[go_sem];exact no 21 _ (by decide))
   | false=>
   simp only[qj,if_false];have U:=d.2 rfl;refine AH ?_;by_cases c:(16:Int)<a.dels.length;simp[go_sem,c];exact no 9 _ (by decide);simp[go_sem,c,IO,d,E];omega
 obtain⟨d,hi,P,V⟩:=d;refine Bo 0 [(3,.iptr [.ptr K.p 0]),(4,.iptr [AA el]),(11,.iptr [AA a.ins,AA a.move,AP a.dels,AL a.layers])] H (λm=>n<=m/\∀j (h:j<a.dels.length),a.dels[j].rev∈K.m2/\(0<j->a.dels[j-1].rev<a.dels[j].rev)/\0<=a.dels[j].move) ?_ (λm d=>?_)
 . refine AY 0 [(3,.iptr [.ptr K.p 0]),(4,.iptr [AA el]),(11,.iptr [AA a.ins,AA a.move,AP a.dels,AL a.layers]),(75,AP a.dels),(76,AA a.dels.length),(77,AA 0)] H n ?_ (λm d=>?_);simp[go_sem,IO,d];refine AR (BG 0 (α:=Nat) (λi=>[(3,.iptr [.ptr K.p 0]),(4,.iptr [AA el]),(11,.iptr [AA a.ins,AA a.move,AP a.dels,AL a.layers]),(75,AP a.dels),(76,AA a.dels.length),(77,AA i)]) (λ_=>H) (λi m=>i<=a.dels.length/\n<=m/\∀j (h:j<a.dels.length),j<i->a.dels[j].rev∈K.m2/\(0<j->a.dels[j-1].rev<a.dels[j].rev)/\0<=a.dels[j].move) (λi=>a.dels.length-i) 0 ⟨qg _,d,λj _ h=>by omega⟩ ?_ AB ?_);simp[go_sem,Ai,IO];rintro i m ⟨hi2,d,hI⟩;by_cases u:i<a.dels.length
   . obtain⟨x,A⟩:∃x,a.dels[i]=x:=⟨_,rfl⟩
     have w1:=wS i (by omega);refine AY 0 [(3,.iptr [.ptr K.p 0]),(4,.iptr [AA el]),(11,.iptr [AA a.ins,AA a.move,AP a.dels,AL a.layers]),(75,AP a.dels),(76,AA a.dels.length),(77,AA i),(78,.bool true)] H n ?_ (λm d=>?_);simp[go_sem,IO,d,u];refine AY 0 [(3,.iptr [.ptr K.p 0]),(4,.iptr [AA el]),(11,.iptr [AA a.ins,AA a.move,AP a.dels,AL a.layers]),(75,AP a.dels),(76,AA a.dels.length),(77,AA i)] H n ?_ (λm d=>?_);simp[go_sem,IO,d];refine Bo 0 [(3,.iptr [.ptr K.p 0]),(4,.iptr [AA el]),(11,.iptr [AA a.ins,AA a.move,AP a.dels,AL a.layers]),(75,AP a.dels),(76,AA a.dels.length),(77,AA i)] H (λm=>n<=m/\x.rev∈K.m2/\(0<i->a.dels[i-1].rev<x.rev)/\0<=x.move) ?_ (λm d=>?_)
     . refine AR ?_;refine AY 1 [(3,.iptr [.ptr K.p 0]),(4,.iptr [AA el]),(11,.iptr [AA a.ins,AA a.move,AP a.dels,AL a.layers]),(75,AP a.dels),(76,AA a.dels.length),(77,AA i),(12,AA i),(13,.iptr [AA x.rev,AA x.move])] H n ?_ (λm d=>?_);simp[go_sem,IO,u,A,Az.enc,AC];have l:∀j y,H j=some y->j<m:=λj y e=>by have:=k j y e;omega
       exact⟨by omega,AV (AW l (qa _)) (AC _ _ _),AJ l (AJ l AB)⟩;refine AR ?_;refine BM 0 (α:=Bx) (λb=>[(3,.iptr [.ptr K.p 0]),(4,.iptr [AA el]),(11,.iptr [AA a.ins,AA a.move,AP a.dels,AL a.layers]),(75,AP a.dels),(76,AA a.dels.length),(77,AA i),(12,AA i),(13,.iptr [AA x.rev,AA x.move]),(82,.bool b.b)]) (λ_=>H) (λb m=>n<=m/\(b.b=false->x.rev∈K.m2)) ?_ (λb m d=>?_)
       . by_cases B:x.rev∈K.m2
         . obtain⟨j,f,_⟩:=DS 0 B;simp[go_sem,IO,hp,h2,f,CK,d,B]
           repeat first|refine nq ?_|refine sq ?_|refine aq ?_
           exact⟨⟨false⟩,rfl⟩
         . have f:=Du 0 B;simp[go_sem,IO,hp,h2,f,CK,d,B]
           repeat first|refine nq ?_|refine sq ?_|refine aq ?_
           exact⟨⟨true⟩,by simp,rfl⟩
       obtain⟨b⟩:=b;dsimp only at d ⊢;refine Ah (b:=b) (by simp[go_sem]) ?_;cases b with
       | true=>exact AH (by simp[go_sem];exact no 22 _ (by decide))
       | false=>
       simp only[qj,if_false];have E:=d.2 rfl;refine BM 0 (α:=Bx) (λb=>[(3,.iptr [.ptr K.p 0]),(4,.iptr [AA el]),(11,.iptr [AA a.ins,AA a.move,AP a.dels,AL a.layers]),(75,AP a.dels),(76,AA a.dels.length),(77,AA i),(13,.iptr [AA x.rev,AA x.move]),(91,.bool b.b)]) (λ_=>H) (λb m=>n<=m/\(b.b=false->0<i->a.dels[i-1].rev<x.rev)) ?_ (λb m d=>?_)
       . by_cases F:0<i
         . have R:i-1<a.dels.length:=by omega
           obtain⟨y,Z⟩:∃y,a.dels[i-1]=y:=⟨_,rfl⟩
           have w:IntKind.i64.wrap ((i:Int)-1)=((i-1:Nat):Int):=by rw[Cl]<;>omega
           simp[go_sem,IO,F,w,R,Z,Az.enc,d]
           repeat first|refine nq ?_|refine sq ?_|refine aq ?_
           exact⟨⟨decide (x.rev<=y.rev)⟩,λg=>by simpa using g,rfl⟩
         . simp[go_sem,IO,F,d]
           repeat first|refine nq ?_|refine sq ?_|refine aq ?_
           exact⟨⟨_⟩,rfl⟩
       obtain⟨b⟩:=b;dsimp only at d ⊢;refine Ah (b:=b) (by simp[go_sem]) ?_;cases b with
       | true=>exact AH (by simp[go_sem];exact no 6 _ (by decide))
       | false=>
       simp only[qj,if_false];have T:=d.2 rfl;have d:=d.1;refine AH ?_;simp[go_sem];refine(Jw _ _ _).use ?_;by_cases c:0<=x.move/\x.move<=1073741824;simp[go_sem,IO,c,d,E];exact T;simp[go_sem,c];exact no 21 _ (by decide)
     refine AH ?_;simp[go_sem,w1,IO,-Int.natCast_add];refine⟨i+1,by omega,⟨by omega,d.1,λj h q=>?_⟩,rfl⟩;by_cases M:j=i;subst M;rw[A];exact d.2;exact hI j h (by omega)
   have:i=a.dels.length:=by omega
   subst this;refine AH ?_;simp[go_sem,IO,d];exact λj q=>hI j q q
 obtain⟨d,D⟩:=d;refine Bo 0 [(3,.iptr [.ptr K.p 0]),(4,.iptr [AA el]),(11,.iptr [AA a.ins,AA a.move,AP a.dels,AL a.layers])] H (λm=>n<=m/\a.layers.length<=64) (AH ?_) (λm d=>?_);by_cases c:(64:Int)<a.layers.length;simp[go_sem,c];exact no 9 _ (by decide);simp[go_sem,c,IO,d];omega;obtain⟨d,S⟩:=d;refine AH ?_;simp[go_sem];have C:=Xs t a.layers.length (by omega) 158 [] [.iptr [.ptr K.p 0],.iptr [AA el],.iptr [AA a.ins,AA a.move,AP a.dels,AL a.layers]] (λi s'=>s'=s/\∀j (h:j<a.layers.length),j<i->a.layers[j].rev∈K.m2) (λi s' H2 n2 hi hI W X=>by
  obtain⟨G,hI⟩:=hI;refine(bV t s' el a.ins a.move (AP a.dels) a.layers (by omega) i hi W X).mono ?_;rintro v h' n' ⟨e,s2,rfl,⟨Q,N⟩,rfl,rfl⟩;refine⟨e,s2,rfl,λr=>⟨by rw[Q,G],λj h q=>?_⟩,rfl,rfl⟩;by_cases M:j=i;subst M;exact N r;exact hI j h (by omega)) s ⟨rfl,λj _ h=>by omega⟩ (H:=H) (n:=m) (by omega) J
 refine qC C ?_;rintro v Y n' ⟨e,s2,rfl,N,rfl,rfl⟩;simp[go_sem];by_cases r:e=0;obtain⟨G,O⟩:=N r;exact t.ret hn I e s2 (λ_=>⟨G,⟨hi,P,λx A=>by obtain⟨j,q,rfl⟩:=jx A;exact(D j q).1,S,λx A=>by obtain⟨j,q,rfl⟩:=jx A;exact O j q q⟩,λj q h0=>(D j q).2.1 h0,V,λx A=>by obtain⟨j,q,rfl⟩:=jx A;exact(D j q).2.2⟩) AB;exact t.ret hn I e s2 (λg=>absurd g r) AB
end
def F6:Nat->List AE->List Int
 | 0,_=>[]
 | N+1,l=>l.flatMap λx=>if x.kind=6 then x.id::F6 N x.flow else if x.kind=7 then x.id::x.rows.flatMap λr=>r.cells.flatMap λc=>c.id::F6 N c.flow else[]
def LY (N:Nat) (r:Aa):List Int:=r.cells.flatMap λc=>c.id::F6 N c.flow
def Fe (N:Nat) (x:AE):List Int:=if x.kind=6 then x.id::F6 N x.flow else if x.kind=7 then x.id::x.rows.flatMap (LY N)else[]
theorem G0 (N:Nat) (l:List AE):F6 (N+1) l=l.flatMap (Fe N):=rfl
def RJ (m2:List Int):Nat->List AE->Prop
 | 0,_=>True
 | N+1,l=>∀x∈l,J4 x/\C6 m2 x.head/\RJ m2 N x.flow/\(x.kind=7->x.rows≠[])/\∀r∈x.rows,(C6 m2 r.head/\r.cells≠[])/\∀c∈r.cells,C6 m2 c.head/\RJ m2 N c.flow
def XC (m2:List Int) (N:Nat) (r:Aa):Prop:=(C6 m2 r.head/\r.cells≠[])/\∀c∈r.cells,C6 m2 c.head/\RJ m2 N c.flow
def Yg (m2:List Int) (N:Nat) (x:AE):Prop:=J4 x/\C6 m2 x.head/\RJ m2 N x.flow/\(x.kind=7->x.rows≠[])/\∀r∈x.rows,XC m2 N r
theorem RK (m2:List Int) (N:Nat):RJ m2 N []:=by cases N<;>simp[RJ]
def more (s s':Fp) (ids:List Int):Prop:=s'.1=s.1++ids/\(∀i∈ids,1<=i/\i<=1073741824)/\(s.1.Nodup->s'.1.Nodup)
theorem more.nil {s s':Fp} (h:s'.1=s.1):more s s' []:=⟨by simp[h],by simp,by rw[h];exact id⟩
theorem more.trans {s s1 s2:Fp} {a b:List Int} (h:more s s1 a) (g:more s1 s2 b):more s s2 (a++b):=
 ⟨by rw[g.1,h.1,qn],λi hi=>by rcases qe.1 hi with hi|hi;exact h.2.1 i hi;exact g.2.1 i hi,λn=>g.2.2 (h.2.2 n)⟩
theorem more.one {s s':Fp} {id:Int} (h:s'=(s.1++[id],s.2)) (c:1<=id/\id<=1073741824) (h2:id∉s.1):more s s' [id]:=
 ⟨by rw[h],by simpa using c,λn=>by rw[h];simp only;rw[List.nodup_append];exact⟨n,by simp,by rintro a d b hb;rw[qv.1 hb];rintro rfl;exact h2 d⟩⟩
def Lm (s:Fp) (ids:List Int) (P:Prop) (e:Int) (s':Fp):Prop:=e=0->more s s' ids/\P
def trP:Tr:=.pure 0<|.pure 1<|.pure 2<|.pure 3<|.pure 4<|.pure 5<|.one 6<|.one 7 .nil
section
variable {K : Ck} {n0 : Nat}
def Sj (K:Ck) (n0:Nat) (N:Nat) (x:AE):Prop:=∀(s:Fp) (pl:Bl) (H:Hp) (n:Nat),n0<=n->(∀o y,K.st s o=some y->H o=some y)->
 BA Tryz.prog 161 [.ptr K.p 0,x.enc,pl.enc] H n (CQ K (Lm s (Fe N x) (Yg K.m2 N x)) H n)
def Na (K:Ck) (n0:Nat) (N:Nat) (l:List AE):Prop:=∀(s:Fp) (pl:Bl) (H:Hp) (n:Nat),n0<=n->(∀o y,K.st s o=some y->H o=some y)->
 BA Tryz.prog 88 [.ptr K.p 0,AG l,pl.enc] H n (CQ K (Lm s (F6 N l) (RJ K.m2 N l)) H n)
theorem bX (c:K.ok n0) (N:Nat) (l:List AE) (i:Nat) (hi:i<l.length) (h:Sj K n0 N l[i]) (s:Fp) (a:Bl) {H:Hp} {n:Nat} (hn:n0<=n) (j:∀o y,K.st s o=some y->H o=some y):
 BA Tryz.prog 160 [AA i,.iptr [.ptr K.p 0],.iptr [AG l],.iptr [.bool a.body,.bool a.note,AA a.tables]] H n (CQ K (Lm s (Fe N l[i]) (Yg K.m2 N l[i])) H n):=by
 refine Db Tryz.func160 rfl λg=>?_;obtain⟨x,b⟩:∃x,l[i]=x:=⟨_,rfl⟩
 rw[b]at h ⊢;have hgx:(l.map AE.enc)[i]? = some x.enc:=by simp[hi,b]
 have D:=c.clo;refine AY 0 [(0,AA i),(1,.iptr [.ptr K.p 0]),(2,.iptr [AG l]),(3,.iptr [.bool a.body,.bool a.note,AA a.tables])] H n ?_ (λm d=>?_);simp[go_sem,IO];refine AT 0 (α:=Int×Fp) (λq=>[(5,AA q.1)]) (λq=>Aj K.st q.2 H) (λq m=>n<=m/\Lm s (Fe N x) (Yg K.m2 N x) q.1 q.2) (BX trP rfl (by kernel_rfl) (by kernel_rfl) ?_) (λq m d=>?_);have hc:=h s a H m (by omega) j;simp only[qx,Bl.enc]at hc;simp[go_sem,trP,hi,b,qx];refine qC hc ?_;rintro v H' n' ⟨e,s2,rfl,f,rfl,rfl⟩;simp[go_sem];exact⟨e,s2.1,s2.2,⟨by omega,f⟩,IO,AB⟩;refine AH ?_;simp[go_sem];exact c.ret hn g q.1 q.2 d.2 AB
theorem Hb {α β:Type} (f:α->List β) (l:List α) (i:Nat) (h:i<l.length):(l.take (i+1)).flatMap f=(l.take i).flatMap f++f l[i]:=by
 rw[qb h,jm];simp
theorem d88 (d:K.ok n0) (N:Nat) (l:List AE) (hl:l.length<=1048576) (h:∀x∈l,Sj K n0 N x):Na K n0 (N+1) l:=λs b H n hn u=>by
 refine Db Tryz.func88 rfl λo=>?_;have a:=o.lt;refine AY 1 [(3,.iptr [.ptr K.p 0]),(4,.iptr [AG l]),(5,.iptr [.bool b.body,.bool b.note,AA b.tables])] H n ?_ (λm hm=>?_);simp[go_sem,Bl.enc,qD];refine⟨⟨AV (AW a (by omega)) (by simp[hset]),AV (AW a (by omega)) (by simp[hset]),AV (AW a (by omega)) (by simp[hset])⟩,λj y=>?_⟩;have:=a j y;simp only[hset];grind;have t:=Xs d l.length hl 160 [] [.iptr [.ptr K.p 0],.iptr [AG l],.iptr [.bool b.body,.bool b.note,AA b.tables]] (λi s'=>more s s' ((l.take i).flatMap (Fe N))/\∀x∈l.take i,Yg K.m2 N x) (λi s' H2 n2 hi hI g k=>by
  refine(bX d N l i hi (h _ (ql hi)) s' b g k).mono ?_;rintro v h' n' ⟨e,s2,rfl,f,rfl,rfl⟩;refine⟨e,s2,rfl,λc=>?_,rfl,rfl⟩;obtain⟨r,h2⟩:=f c;rw[Hb _ _ _ hi];refine⟨hI.1.trans r,λx q=>?_⟩;rw[qb hi]at q;exact Eu hI.2 h2 x q) s ⟨more.nil rfl,by simp⟩ (H:=H) (n:=m) (by omega) u
 refine AH ?_;simp[go_sem];refine qC t ?_;rintro v H' n' ⟨e,s2,rfl,f,rfl,rfl⟩;simp[go_sem];refine d.ret hn o e s2 (λc=>?_) AB;have:=f c;rw[qi]at this;exact⟨by rw[G0];exact this.1,this.2⟩
end
section
variable {K : Ck} {n0 : Nat}
theorem Ck.ok.up_cnt (_hK:K.ok n0) (s:Fp) (c:Int) {H:Hp} (b:∀o y,K.st s o=some y->H o=some y):Aj K.st (s.1,c) H=hset H K.p (some (.cells (K.cells c))):=by
 funext o;have g:=b o;simp only[Aj,Ck.st,hset]at g ⊢;by_cases a:o=K.p;simp[a];simp only[a,if_false]at g ⊢;split;rename_i y d;exact(g y d).symm;rfl
def VM (K:Ck) (n0:Nat) (N:Nat) (l:List Aa):Prop:=∀(s:Fp) (pl:Bl) (H:Hp) (n:Nat),n0<=n->(∀o y,K.st s o=some y->H o=some y)->
 BA Tryz.prog 224 [.ptr K.p 0,A3 l,pl.enc] H n (CQ K (Lm s (l.flatMap (LY N)) (l≠[]/\∀r∈l,XC K.m2 N r)) H n)
def Dx (x:AE):List Int:=if x.kind=6\/x.kind=7 then[x.id]else[]
set_option maxHeartbeats 4000000 in
theorem bY (i:K.ok n0) (N:Nat) (x:AE) (T:x.sized) (P:Na K n0 N x.flow) (R:VM K n0 N x.rows):Sj K n0 N x:=λs l H n hn S=>by
 refine Db Tryz.func161 rfl λC=>?_
 have D:=i.clo
 have hKp:K.p<n:=by have:=i.lt K.p (by simp);omega
 have hU:∀s',Es (Aj K.st s' H) n:=λs'=>D.old s' hn C
 have F:∀s' j y,Aj K.st s' H j=some y->j<n:=λs' j y e=>(hU s' j y e).1
 have J:∀s',Aj K.st s' H K.p=some (.cells [.map K.s0,.map K.s1,.map K.s2,.map K.s3,.map K.s4,AA s'.2]):=λs'=>(i.has (s:=s') Bw).p
 have G:∀(q:Fp) b,hset (Aj K.st q H) K.p (some (.cells [.map K.s0,.map K.s1,.map K.s2,.map K.s3,.map K.s4,AA b]))=Aj K.st (q.1,b) H:=λq b=>by rw[<-D.up2 q (q.1,b) H,i.up_cnt q b Bw];rfl
 have no:∀(e:Int) (s':Fp) (m:Nat),e≠0->B8 n (Aj K.st s' H) m (AA e) (CQ K (Lm s (Fe N x) (Yg K.m2 N x)) H n):=λe s' m he=>i.ret hn C e s' (λg=>absurd g he) AB
 obtain⟨X,o⟩:∃X:SV,X=.iptr [AA x.kind,AA x.code,AA x.id,.str x.text,Af x.head.props,AA x.head.ins,AA x.head.move,AP x.head.dels,AL x.head.layers,AG x.flow,A3 x.rows]:=⟨_,rfl⟩
 obtain⟨Y,B⟩:∃Y:SV,Y=.iptr [.bool l.body,.bool l.note,AA l.tables]:=⟨_,rfl⟩
 refine AY 1 [(0,.ptr K.p 0),(4,X),(5,Y)] (Aj K.st s H) n ?_ (λm f=>?_)
 . rw[DY s H S,o,B]
   have A:=C.lt
   simp[go_sem,IO,Bl.enc,qx]
   refine⟨by omega,⟨AV (AW A (by omega)) (by simp[hset]),AV (AW A (by omega)) (by simp[hset])⟩,λj y=>?_⟩
   have:=A j y;simp only[hset];grind
 refine Bo 0 [(0,.ptr K.p 0),(4,X),(5,Y)] (Aj K.st s H) (λm=>n<=m/\J4 x) (AH ?_) (λm f=>?_)
 . rw[o]
   simp[go_sem]
   refine TC.use (by simpa[qx]using c9 x T) ?_
   rintro v ⟨e,rfl,k⟩
   by_cases d:e=0
   . simp[go_sem,d,IO,f,k d]
   . simp[go_sem,d];exact no e s _ d
 obtain⟨f,a⟩:=f
 refine BM 0 (α:=Int) (λ_=>[(0,.ptr K.p 0),(4,X),(5,Y)]) (λc=>Aj K.st (s.1,c) H) (λ_ m=>n<=m) ?_ (λc m f=>?_)
 . simp[go_sem,J,IO,f]
   refine⟨IntKind.i64.wrap (s.2+1),?_⟩
   rw[DY s H S,i.up_cnt s _ S]
   exact AB
 refine AT 0 (α:=Fp) (λ_=>[(0,.ptr K.p 0),(4,X),(5,Y)]) (λq=>Aj K.st q H) (λq m=>n<=m/\more s q (Dx x)) ?_ (λq m f=>?_)
 . refine AY 0 [(0,.ptr K.p 0),(4,X),(5,Y),(27,AA x.kind)] (Aj K.st (s.1,c) H) n ?_ (λm f=>?_)
   . rw[o];simp[go_sem,IO,f]
   refine AR (AH ?_)
   by_cases U:x.kind=1
   . have w:Dx x=[]:=by simp[Dx,U]
     rw[w,o]
     simp[go_sem,U]
     refine(Xb x.text (by have:=(D7 T).2.1;omega)).use ?_
     simp[go_sem,J,IO]
     rw[G]
     refine⟨s.1,_,⟨f,?_⟩,AB⟩
     exact more.nil rfl
   . by_cases M:x.kind=3
     . have w:Dx x=[]:=by simp[Dx,M]
       rw[w,o,B]
       cases hb:l.body with
       | true=>
        simp[go_sem,M,IO]
        refine⟨s.1,_,⟨f,?_⟩,AB⟩
        exact more.nil rfl
       | false=>
        simp[go_sem,M]
        exact no 19 _ _ (by decide)
     . by_cases k6:x.kind=6
       . have w:Dx x=[x.id]:=by simp[Dx,k6]
         rw[w,o,B]
         simp[go_sem,k6]
         refine(JK _ _).use ?_
         simp[go_sem]
         refine kU (bs:=[.imm 1 ([if l.note then(19:Int)else 0].map AA) false]) (h2:=Aj K.st (s.1,c) H) 1 (AJ (λj z e=>by have:=F _ j z e;omega) AB) ⟨?_,trivial⟩ ?_
         . exact DV (es:=[AA (if l.note then(19:Int)else 0)]) (AW (F _) f) (by simp) (by rw[AC];simp[SV.cells]) (by simp[SV.storable,SV.cells])
         refine(Pw _ (by simp)).use ?_
         cases hb:l.note with
         | true=>simp[go_sem,CJ];exact no 19 _ _ (by decide)
         | false=>
         simp[go_sem,CJ]
         refine qC (WA i (s.1,c) x.id (by omega) Bw) ?_
         rintro v L n' ⟨e,s2,rfl,k,rfl,rfl⟩
         rw[D.up2]
         by_cases d:e=0
         . obtain⟨r,h2,t,O⟩:=k d
           simp[go_sem,d,IO]
           exact⟨s2.1,s2.2,⟨by omega,more.one (s:=s) (s':=(s2.1,s.2)) (by rw[r]) ⟨h2,t⟩ O⟩,AB⟩
         . simp[go_sem,d]
           exact no e _ _ d
       . by_cases k7:x.kind=7
         . have w:Dx x=[x.id]:=by simp[Dx,k7]
           rw[w,o,B]
           by_cases Z:4<=l.tables
           . simp[go_sem,k7,Z];exact no 17 _ _ (by decide)
           simp[go_sem,k7,Z]
           refine qC (WA i (s.1,c) x.id (by omega) Bw) ?_
           rintro v L n' ⟨e,s2,rfl,k,rfl,rfl⟩
           rw[D.up2]
           by_cases d:e=0
           . obtain⟨r,h2,t,O⟩:=k d
             simp[go_sem,d,IO]
             exact⟨s2.1,s2.2,⟨by omega,more.one (s:=s) (s':=(s2.1,s.2)) (by rw[r]) ⟨h2,t⟩ O⟩,AB⟩
           . simp[go_sem,d]
             exact no e _ _ d
         . have w:Dx x=[]:=by simp[Dx,k6,k7]
           rw[w,o,B]
           by_cases W:x.kind=8
           . simp[go_sem,W]
             refine(Jw _ _ _).use ?_
             by_cases V:1<=x.id/\x.id<=1073741824
             . simp[go_sem,V,IO]
               refine⟨s.1,_,⟨f,?_⟩,AB⟩
               exact more.nil rfl
             . simp[go_sem,V]
               exact no 18 _ _ (by decide)
           . simp[go_sem,U,M,k6,k7,W,IO]
             refine⟨s.1,_,⟨f,?_⟩,AB⟩
             exact more.nil rfl
 obtain⟨f,u⟩:=f
 refine Bo 0 [(0,.ptr K.p 0),(4,X),(5,Y)] (Aj K.st q H) (λm=>n<=m/\C6 K.m2 x.head) (AH ?_) (λm f=>?_)
 . rw[o]
   simp[go_sem]
   refine qC (by simpa[AF.enc,AF.flat]using ZO i q x.kind x.head (D7 T).1 (n:=m) (by omega) Bw) ?_
   rintro v L n' ⟨e,s2,rfl,k,rfl,rfl⟩
   rw[D.up2]
   by_cases d:e=0
   . obtain⟨r,h2⟩:=k d
     simp[go_sem,d,IO,r,f,h2]
   . simp[go_sem,d];exact no e _ _ d
 obtain⟨f,Q⟩:=f
 refine Bo 0 [] (Aj K.st q H) (λm=>x.kind≠6/\x.kind≠7) (AH ?_) (λm I=>?_)
 . rw[o,B]
   by_cases k6:x.kind=6
   . simp[go_sem,k6]
     refine qC (by simpa[Bl.enc]using P q ⟨false,true,l.tables⟩ (Aj K.st q H) m (by omega) Bw) ?_
     rintro v L n' ⟨e,s2,rfl,k,rfl,rfl⟩
     rw[D.up2]
     simp[go_sem]
     refine i.ret hn C e s2 (λd=>?_) AB
     obtain⟨r,h2⟩:=k d
     have t:=u.trans r
     have E:Dx x++F6 N x.flow=Fe N x:=by simp[Dx,Fe,k6]
     rw[E]at t
     exact⟨t,a,Q,h2,λh=>absurd h (by omega),by rw[a.2.1 (by omega)];simp⟩
   . by_cases k7:x.kind=7
     . simp[go_sem,k7]
       refine qC (by simpa[Bl.enc]using R q ⟨false,l.note,IntKind.i64.wrap (l.tables+1)⟩ (Aj K.st q H) m (by omega) Bw) ?_
       rintro v L n' ⟨e,s2,rfl,k,rfl,rfl⟩
       rw[D.up2]
       simp[go_sem]
       refine i.ret hn C e s2 (λd=>?_) AB
       obtain⟨r,h2⟩:=k d
       have t:=u.trans r
       have E:Dx x++x.rows.flatMap (LY N)=Fe N x:=by simp[Dx,Fe,k7]
       rw[E]at t
       exact⟨t,a,Q,by rw[a.1 (by omega)];exact RK _ _,λ_=>h2.1,h2.2⟩
     . simp[go_sem,k6,k7]
 . refine AH ?_
   simp[go_sem]
   refine i.ret hn C 0 q (λ_=>?_) AB
   have E:Dx x=Fe N x:=by simp[Dx,Fe,I.1,I.2]
   rw[E]at u
   exact⟨u,a,Q,by rw[a.1 I.1];exact RK _ _,λh=>absurd h I.2,by rw[a.2.1 I.2];simp⟩
end
def Y4:Tr:=.pure 0<|.pure 1<|.pure 2<|.pure 4<|.pure 5<|.pure 6<|.pure 7<|.pure 9<|.pure 10<|.pure 11<|.pure 12<|.one 3<|.one 8<|.one 13<|.one 14<|.one 15<|.one 16 .nil
section
variable {K : Ck} {n0 : Nat}
def Uj (N:Nat) (c:Wl):List Int:=c.id::F6 N c.flow
theorem Uk (N:Nat) (r:Aa):LY N r=r.cells.flatMap (Uj N):=rfl
def Yf (m2:List Int) (N:Nat) (c:Wl):Prop:=C6 m2 c.head/\RJ m2 N c.flow
theorem more.trans' {s s1 s2:Fp} {a b c:List Int} (h:more s s1 a) (g:more s1 s2 b) (e:a++b=c):more s s2 c:=by subst e;exact h.trans g
theorem Dc {a:Int} {l:List Int} (h:CJ (a::l)=0):a=0:=by
 rw[CJ]at h;by_cases g:a=0;exact g;rw[if_neg g]at h;exact h
theorem QJ {a b:Int} {l:List Int} (h:CJ (a::b::l)=0):a=0/\b=0:=by
 have c:=Dc h;rw[CJ,if_pos c]at h;exact⟨c,Dc h⟩
set_option maxHeartbeats 4000000 in
theorem bf (hK:K.ok n0) (N:Nat) (l:List Aa) (hl:l.length<=1048576) (hr:∀r∈l,r.head.sized/\r.cells.length<=1048576/\∀c∈r.cells,c.head.sized/\Na K n0 N c.flow):VM K n0 N l:=λs pl H n hn hs=>by
 refine Db Tryz.func224 rfl λho=>?_;have D:=hK.clo;have hU:∀s',Es (Aj K.st s' H) n:=λs'=>D.old s' hn ho;have hUb:∀s' j y,Aj K.st s' H j=some y->j<n:=λs' j y e=>(hU s' j y e).1;obtain⟨T,hT⟩:∃T,T=Lm s (l.flatMap (LY N)) (l≠[]/\∀r∈l,XC K.m2 N r):=⟨_,rfl⟩
 rw[<-hT];have no:∀(e:Int) (s':Fp) (m:Nat),e≠0->B8 n (Aj K.st s' H) m (AA e) (CQ K T H n):=λe s' m he=>hK.ret hn ho e s' (by rw[hT];exact λg=>absurd g he) AB;refine AY 1 [(0,.ptr K.p 0),(1,A3 l),(5,.iptr [.bool pl.body,.bool pl.note,AA pl.tables])] (Aj K.st s H) n ?_ (λm hm=>?_);rw[DY s H hs];have hHb:=ho.lt;simp[go_sem,IO,Bl.enc];exact⟨AV (AW hHb (by omega)) (by simp[hset]),AJ hHb AB⟩;refine Bo 0 [(0,.ptr K.p 0),(1,A3 l),(5,.iptr [.bool pl.body,.bool pl.note,AA pl.tables])] (Aj K.st s H) (λm=>n<=m/\l≠[]) (AH ?_) (λm hm=>?_);by_cases c:l=[];simp[go_sem,c];exact no 11 _ _ (by decide);simp[go_sem,c,IO,hm];obtain⟨hm,hne⟩:=hm;refine Bc 0 [(0,.ptr K.p 0),(1,A3 l),(5,.iptr [.bool pl.body,.bool pl.note,AA pl.tables])] (Aj K.st s H) n (AH ?_) (λm hm=>?_);by_cases c:(256:Int)<l.length;simp[go_sem,c];exact no 9 _ _ (by decide);simp[go_sem,c,IO,hm];refine AT 0 (α:=Fp) (λ_=>[]) (λq=>Aj K.st q H) (λq m=>n<=m/\more s q (l.flatMap (LY N))/\∀r∈l,XC K.m2 N r) ?_ (λq m hm=>?_)
 . refine AY 0 [(0,.ptr K.p 0),(5,.iptr [.bool pl.body,.bool pl.note,AA pl.tables]),(21,A3 l),(22,AA l.length),(23,AA 0)] (Aj K.st s H) n ?_ (λm hm=>?_);simp[go_sem,IO,hm];refine AR (BG 0 (α:=Nat×Fp) (λq=>[(0,.ptr K.p 0),(5,.iptr [.bool pl.body,.bool pl.note,AA pl.tables]),(21,A3 l),(22,AA l.length),(23,AA q.1)]) (λq=>Aj K.st q.2 H) (λq m=>q.1<=l.length/\n<=m/\more s q.2 ((l.take q.1).flatMap (LY N))/\∀r∈l.take q.1,XC K.m2 N r) (λq=>l.length-q.1) (0,s) ⟨qg _,hm,more.nil rfl,by simp⟩ ?_ AB ?_);simp[go_sem,Ai,IO];rintro⟨i,s1⟩ m ⟨hi,hm,hmo,hok⟩;dsimp only at hi hmo hok ⊢;by_cases hlt:i<l.length
   . obtain⟨x,hx⟩:∃x,l[i]=x:=⟨_,rfl⟩
     have hxm:x∈l:=by rw[<-hx];exact ql hlt
     obtain⟨x1,x2,x3⟩:=hr x hxm;have hgx:(l.map Aa.enc)[i]? = some x.enc:=by simp[hlt,hx]
     have w1:=wS i (by omega);have tk:=Hb (LY N) l i hlt;rw[hx]at tk;have tl:l.take (i+1)=l.take i++[x]:=by rw[qb hlt,hx]
     refine AY 0 [(0,.ptr K.p 0),(5,.iptr [.bool pl.body,.bool pl.note,AA pl.tables]),(21,A3 l),(22,AA l.length),(23,AA i),(24,.bool true)] (Aj K.st s1 H) n ?_ (λm hm=>?_);simp[go_sem,IO,hm,hlt];refine AY 0 [(0,.ptr K.p 0),(5,.iptr [.bool pl.body,.bool pl.note,AA pl.tables]),(21,A3 l),(22,AA l.length),(23,AA i)] (Aj K.st s1 H) n ?_ (λm hm=>?_);simp[go_sem,IO,hm];refine AT 0 (α:=Fp) (λ_=>[(0,.ptr K.p 0),(5,.iptr [.bool pl.body,.bool pl.note,AA pl.tables]),(21,A3 l),(22,AA l.length),(23,AA i)]) (λq=>Aj K.st q H) (λq m=>n<=m/\more s q ((l.take (i+1)).flatMap (LY N))/\XC K.m2 N x) ?_ (λq m hm=>?_)
     . refine AR ?_;refine AY 1 [(0,.ptr K.p 0),(5,.iptr [.bool pl.body,.bool pl.note,AA pl.tables]),(21,A3 l),(22,AA l.length),(23,AA i),(8,.iptr (x.head.flat++[BS x.cells]))] (Aj K.st s1 H) n ?_ (λm hm=>?_);simp[go_sem,IO,hlt,hx,qQ,AF.flat,AC];have hHm:∀j y,Aj K.st s1 H j=some y->j<m:=λj y e=>by have:=hUb _ j y e;omega
       exact⟨by omega,AV (AW hHm (qa _)) (AC _ _ _),AJ hHm (AJ hHm AB)⟩;have hd:=ZO hK s1 9 x.head x1 (H:=Aj K.st s1 H) (n:=m) (by omega) Bw;refine Bo 0 [(0,.ptr K.p 0),(5,.iptr [.bool pl.body,.bool pl.note,AA pl.tables]),(21,A3 l),(22,AA l.length),(23,AA i),(8,.iptr (x.head.flat++[BS x.cells]))] (Aj K.st s1 H) (λm=>n<=m/\C6 K.m2 x.head/\x.cells≠[]) ?_ (λm hm=>?_)
       . refine AT 0 (α:=Int×Fp) (λq=>[(0,.ptr K.p 0),(5,.iptr [.bool pl.body,.bool pl.note,AA pl.tables]),(21,A3 l),(22,AA l.length),(23,AA i),(8,.iptr (x.head.flat++[BS x.cells])),(9,AA q.1)]) (λq=>Aj K.st q.2 H) (λq m=>n<=m/\(q.1=0->q.2=s1/\C6 K.m2 x.head/\x.cells≠[])) (BX Y4 rfl (by kernel_rfl) (by kernel_rfl) ?_) (λq m hm=>?_);simp[go_sem,Y4,AF.flat];refine qC (by simpa[AF.enc,AF.flat]using hd) ?_;rintro v H' n' ⟨e,s2,rfl,hT,rfl,rfl⟩;rw[D.up2];simp[go_sem];refine(JK _ _).use ?_;simp[go_sem];refine(JK _ _).use ?_;simp[go_sem];have hea:(if x.cells=[]then(11:Int)else 0)=0->x.cells≠[]:=λg=>by intro c;rw[if_pos c]at g;cases g
         generalize(if x.cells=[]then(11:Int)else 0)=ea at hea ⊢;generalize(if 32<(x.cells.length:Int)then(9:Int)else 0)=eb;refine kU (bs:=[.imm 1 ([e,ea,eb].map AA) false]) (h2:=Aj K.st s2 H) 1 (AJ (λj z e=>by have:=hUb s2 j z e;omega) AB) ⟨?_,trivial⟩ ?_;exact DV (es:=[AA e,AA ea,AA eb]) (AW (hUb s2) hm) (by simp) (by rw[AC];simp[SV.cells]) (by simp[SV.storable,SV.cells]);refine(Pw _ (by simp)).use ?_;generalize hf:CJ [e,ea,eb]=ef;simp[go_sem,IO];exact⟨ef,s2.1,s2.2,⟨by omega,λh0=>by obtain⟨g1,g2⟩:=QJ (by rw[hf];exact h0);obtain⟨t1,t2⟩:=hT g1;exact⟨t1,t2,hea g2⟩⟩,IO,AB⟩;obtain⟨e8,s8⟩:=q;dsimp only at hm ⊢;by_cases e80:e8=0
         case neg=>exact AH (by simp[go_sem,e80];exact no e8 _ _ e80)
         obtain⟨h81,hhd⟩:=hm.2 e80;rw[e80,h81];exact AH (by simp[go_sem,IO,hm.1,hhd])
       obtain⟨hm,hhd⟩:=hm;refine AY 0 [(0,.ptr K.p 0),(5,.iptr [.bool pl.body,.bool pl.note,AA pl.tables]),(21,A3 l),(22,AA l.length),(23,AA i),(47,BS x.cells),(48,AA x.cells.length),(49,AA 0)] (Aj K.st s1 H) n ?_ (λm hm=>?_);simp[go_sem,IO,AF.flat,hm];refine AR (BG 0 (α:=Nat×Fp) (λq=>[(0,.ptr K.p 0),(5,.iptr [.bool pl.body,.bool pl.note,AA pl.tables]),(21,A3 l),(22,AA l.length),(23,AA i),(47,BS x.cells),(48,AA x.cells.length),(49,AA q.1)]) (λq=>Aj K.st q.2 H) (λq m=>q.1<=x.cells.length/\n<=m/\more s1 q.2 ((x.cells.take q.1).flatMap (Uj N))/\∀c∈x.cells.take q.1,Yf K.m2 N c) (λq=>x.cells.length-q.1) (0,s1) ⟨qg _,hm,more.nil rfl,by simp⟩ ?_ AB ?_);simp[go_sem,Ai,IO];rintro⟨j,s2⟩ m ⟨hj,hm,hmo2,hok2⟩;dsimp only at hj hmo2 hok2 ⊢;by_cases hjt:j<x.cells.length;obtain⟨y,hy⟩:∃y,x.cells[j]=y:=⟨_,rfl⟩
       have hym:y∈x.cells:=by rw[<-hy];exact ql hjt
       obtain⟨y1,y2⟩:=x3 y hym;have w2:=wS j (by omega);have tk2:=Hb (Uj N) x.cells j hjt;rw[hy]at tk2;have tl2:x.cells.take (j+1)=x.cells.take j++[y]:=by rw[qb hjt,hy]
       refine AY 0 [(0,.ptr K.p 0),(5,.iptr [.bool pl.body,.bool pl.note,AA pl.tables]),(21,A3 l),(22,AA l.length),(23,AA i),(47,BS x.cells),(48,AA x.cells.length),(49,AA j),(50,.bool true)] (Aj K.st s2 H) n ?_ (λm hm=>?_);simp[go_sem,IO,hm,hjt];refine AY 0 [(0,.ptr K.p 0),(5,.iptr [.bool pl.body,.bool pl.note,AA pl.tables]),(21,A3 l),(22,AA l.length),(23,AA i),(47,BS x.cells),(48,AA x.cells.length),(49,AA j)] (Aj K.st s2 H) n ?_ (λm hm=>?_);simp[go_sem,IO,hm];refine AT 0 (α:=Fp) (λ_=>[(0,.ptr K.p 0),(5,.iptr [.bool pl.body,.bool pl.note,AA pl.tables]),(21,A3 l),(22,AA l.length),(23,AA i),(47,BS x.cells),(48,AA x.cells.length),(49,AA j)]) (λq=>Aj K.st q H) (λq m=>n<=m/\more s2 q (Uj N y)/\Yf K.m2 N y) ?_ (λq m hm=>?_);refine AR ?_;refine AY 1 [(0,.ptr K.p 0),(5,.iptr [.bool pl.body,.bool pl.note,AA pl.tables]),(21,A3 l),(22,AA l.length),(23,AA i),(47,BS x.cells),(48,AA x.cells.length),(49,AA j),(11,.iptr ([AA y.id]++y.head.flat++[AG y.flow]))] (Aj K.st s2 H) n ?_ (λm hm=>?_);simp[go_sem,IO,hjt,hy,QS,AF.flat,AC];have hHm:∀j y,Aj K.st s2 H j=some y->j<m:=λj y e=>by have:=hUb _ j y e;omega
       exact⟨by omega,AV (AW hHm (qa _)) (AC _ _ _),AJ hHm (AJ hHm AB)⟩;refine AT 0 (α:=Fp) (λ_=>[(0,.ptr K.p 0),(5,.iptr [.bool pl.body,.bool pl.note,AA pl.tables]),(21,A3 l),(22,AA l.length),(23,AA i),(47,BS x.cells),(48,AA x.cells.length),(49,AA j),(11,.iptr ([AA y.id]++y.head.flat++[AG y.flow]))]) (λq=>Aj K.st q H) (λq m=>n<=m/\more s2 q [y.id]) (AH ?_) (λq m hm=>?_);simp[go_sem];refine qC (WA hK s2 y.id (by omega) Bw) ?_;rintro v H' n' ⟨e,s3,rfl,hT,rfl,rfl⟩;rw[D.up2];by_cases e0:e=0;obtain⟨h1,h2,h3,h4⟩:=hT e0;simp[go_sem,e0,IO,AF.flat];refine⟨s3.1,s3.2,⟨by omega,?_⟩,AB⟩;exact more.one h1 ⟨h2,h3⟩ h4;simp[go_sem,e0];exact no e _ _ e0;obtain⟨hm,hq1⟩:=hm;refine Bo 0 [(0,.ptr K.p 0),(5,.iptr [.bool pl.body,.bool pl.note,AA pl.tables]),(21,A3 l),(22,AA l.length),(23,AA i),(47,BS x.cells),(48,AA x.cells.length),(49,AA j),(11,.iptr ([AA y.id]++y.head.flat++[AG y.flow]))] (Aj K.st q H) (λm=>n<=m/\C6 K.m2 y.head) (AH ?_) (λm hm=>?_);simp[go_sem,AF.flat];refine qC (by simpa[AF.enc,AF.flat]using ZO hK q 10 y.head y1 (H:=Aj K.st q H) (n:=m) (by omega) Bw) ?_;rintro v H' n' ⟨e,s3,rfl,hT,rfl,rfl⟩;rw[D.up2];by_cases e0:e=0;obtain⟨h1,h2⟩:=hT e0;simp[go_sem,e0,IO,h1,h2];omega;simp[go_sem,e0];exact no e _ _ e0;obtain⟨hm,hh2⟩:=hm;refine AH ?_;simp[go_sem,AF.flat];refine qC (by simpa[Bl.enc]using y2 q pl (Aj K.st q H) m (by omega) Bw) ?_;rintro v H' n' ⟨e,s3,rfl,hT,rfl,rfl⟩;rw[D.up2];by_cases e0:e=0;obtain⟨h1,h2⟩:=hT e0;simp[go_sem,e0,IO];refine⟨s3.1,s3.2,⟨by omega,?_,hh2,h2⟩,AB⟩;exact hq1.trans' h1 rfl;simp[go_sem,e0];exact no e _ _ e0;refine AH ?_;simp[go_sem,w2,IO,-Int.natCast_add];refine⟨j+1,by omega,q.1,q.2,⟨by omega,hm.1,hmo2.trans' hm.2.1 tk2.symm,λc hc=>?_⟩,rfl,AB⟩;rw[tl2]at hc;exact Eu hok2 hm.2.2 c hc;have:j=x.cells.length:=by omega
       subst this;rw[qi]at hmo2 hok2;refine AH ?_;simp[go_sem,IO];refine⟨s2.1,s2.2,⟨hm,?_,hhd,hok2⟩,AB⟩;exact hmo.trans' hmo2 (by rw[tk,Uk])
     refine AH ?_;simp[go_sem,w1,IO,-Int.natCast_add];refine⟨i+1,by omega,q.1,q.2,⟨by omega,hm.1,hm.2.1,λr hr=>?_⟩,rfl,AB⟩;rw[tl]at hr;exact Eu hok hm.2.2 r hr
   have:i=l.length:=by omega
   subst this;rw[qi]at hmo hok;refine AH ?_;simp[go_sem];exact⟨s1.1,s1.2,⟨hm,hmo,hok⟩,AB⟩
 refine AH ?_;simp[go_sem];exact hK.ret hn ho 0 q (by rw[hT];exact λ_=>⟨hm.2.1,hne,hm.2.2⟩) AB
end
theorem P9 {K:Ck} {n0:Nat} (a:K.ok n0) {B:Nat} (b:B<=1048576):∀(N:Nat) (l:List AE),Da AF.sized B N l->Na K n0 N l
 | 0,_,h=>h.elim
 | N+1,l,h=>by
  have f:=h.sized (λ_ e=>e) b;obtain⟨_,_,i⟩:=dS.1 h;refine d88 a N l f.1 λx g=>?_;obtain⟨a1,a2,a3,a4⟩:=i x g;refine bY a N x (ka f.2 x g) (P9 a b N x.flow a2) (bf a N x.rows (by omega) λr j=>?_);obtain⟨b1,b2,d⟩:=a4 r j;exact⟨b1,by omega,λc hc=>⟨(d c hc).1,P9 a b N c.flow (d c hc).2⟩⟩
end Go.Proofs.YtgakninlhfkkmaaGreat.Sh
