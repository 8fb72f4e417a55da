/- A part of the proof (part 10 of 15). -/
import Derived.Test.YtgakninlhfkkmaaGreatM9
namespace Go.Proofs.YtgakninlhfkkmaaGreat.Sh
open Proofs
set_option maxRecDepth 10000
def trF:Tr:=.pure 2<|.pure 5<|.pure 6<|.pure 7<|.pure 0<|.two 1 12
 (.pure 3<|.two 4 12
   (.two 8 12 (.pure 9<|.pure 10<|.pure 11<|.one 12<|.one 13<|.one 14 .nil)
     (.one 8<|.pure 9<|.pure 10<|.pure 11<|.one 13<|.one 14 .nil))
   (.one 4<|.one 8<|.pure 9<|.pure 10<|.pure 11<|.one 13<|.one 14 .nil))
 (.one 1<|.pure 3<|.one 4<|.one 8<|.pure 9<|.pure 10<|.pure 11<|.one 13<|.one 14 .nil)
section
variable {σ : Type} {st : σ → Nat → Option BT} {n0 : Nat} {g : FuncId} {a b : List SV} {f : σ → BY → AF × Bool × σ} {ok : AF → Prop} {rk : σ → Nat} {top : Nat} {fl : Int → List AE → Ah → Bool → σ → List AE × σ} {mid : Bool} {P : List AE → Prop} {sc : Ah}
set_option maxHeartbeats 4000000 in
theorem T2 (C:Kk st n0 g a b f ok rk top) (hfl:FlC st n0 g a b fl P rk top) (hfu:∀id l sc mid s,rk s<=rk (fl id l sc mid s).2) (l:List AE) (hl:l.length<=1048576) (hr:∀x∈l,okI ok P x) (id:Int) (hns:¬(id=sc.id/\mid=false)) (s:σ) (ht:rk (BU f fl sc mid l s).2<=top) {H:Hp} {n:Nat} (hn:n0<=n) (hs:∀o y,st s o=some y->H o=some y)
 {Q:SV->Hp->Nat->Prop} (hQ:E4 H n->∀o m,n<=m->A7 n m 11 o ((BU f fl sc mid l s).1.map AE.enc)->Bz n (AO o ((BU f fl sc mid l s).1.map AE.enc) (Ai st (BU f fl sc mid l s).2 H)) m (AN 11 o ((BU f fl sc mid l s).1.map AE.enc)) Q):
 BM Tryz.prog 115 [AG l,AA id,sc.enc,.bool mid,.fn (.func g) a b] H n Q:=by
 have D:=C.cx
 refine Dg Tryz.func115 rfl λho=>?_
 obtain⟨R,hR⟩:∃R:Nat->List AE×σ,∀i,R i=(l.take i).foldl (Dp f fl sc mid) ([],s):=⟨_,λ_=>rfl⟩
 have hR0:R 0=([],s):=by rw[hR];rfl
 have hRs:∀i x,(h:i<l.length)->l[i]=x->R (i+1)=Dp f fl sc mid (R i) x:=λi x h hx=>by rw[hR,hR,FI _ _ _ _ _ h hx]
 have hRl:R l.length=BU f fl sc mid l s:=by rw[hR,Ya];rfl
 have hRn:∀i,(R i).1.length<=i:=λi=>by rw[hR];have:=Gq (f:=f) (fl:=fl) (sc:=sc) (mid:=mid) (l.take i) ([],s);simp at this;omega
 have hRt:∀i,rk (R i).2<=top:=λi=>by rw[hR];exact Yo (Nc (Ol C.up hfu sc mid) _ _ i) ht
 clear hR
 have hU:∀s',E4 (Ai st s' H) n:=λs'=>D.old s' hn ho
 have hUb:∀s' j y,Ai st s' H j=some y->j<n:=λs' j y e=>(hU s' j y e).1
 refine Ab 1 [(0,AG l),(3,.bool mid),(4,.fn (.func g) a b),(7,.iptr [AA sc.id,AA sc.a,AA sc.b]),(1,AA id)] (Ai st s H) n ?_ (λm hm=>?_)
 . simp[go_sem,Ah.enc,Y0,DP s H hs]
   refine⟨AT (ho.none (Y1 n)) (by simp[hset]),λj y e=>by rw[AD _ _ (by have:=(ho j y e).1;omega)];exact e⟩
 refine Ab 0 [(0,AG l),(3,.bool mid),(4,.fn (.func g) a b),(7,.iptr [AA sc.id,AA sc.a,AA sc.b])] (Ai st s H) n ?_ (λm hm=>?_)
 . by_cases h1:id=sc.id
   . have h2:mid=true:=by cases mid<;>simp_all
     simp[go_sem,Y0,h1,h2,hm]
   . simp[go_sem,Y0,h1,hm]
 refine Ab 0 [(0,AG l),(3,.bool mid),(4,.fn (.func g) a b),(7,.iptr [AA sc.id,AA sc.a,AA sc.b]),(21,.imm 0 [] true)] (Ai st s H) n ?_ (λm hm=>?_)
 . simp[go_sem,Y0,hm]
 refine AV 0 (α:=Option Nat) (λo=>[(21,AN 11 o ((R l.length).1.map AE.enc))]) (λo=>AO o ((R l.length).1.map AE.enc) (Ai st (R l.length).2 H)) (λo m=>n<=m/\A7 n m 11 o ((R l.length).1.map AE.enc)) ?_ (λo m hm=>?_)
 . refine Ab 0 [(0,AG l),(3,.bool mid),(4,.fn (.func g) a b),(7,.iptr [AA sc.id,AA sc.a,AA sc.b]),(21,.imm 0 [] true),(22,AA 0)] (Ai st s H) n ?_ (λm hm=>?_)
   . simp[go_sem,Y0,hm]
   refine AR (BP 0 (α:=Nat×Option Nat) (λq=>[(0,AG l),(3,.bool mid),(4,.fn (.func g) a b),(7,.iptr [AA sc.id,AA sc.a,AA sc.b]),(21,AN 11 q.2 ((R q.1).1.map AE.enc)),(22,AA q.1)])
    (λq=>AO q.2 ((R q.1).1.map AE.enc) (Ai st (R q.1).2 H)) (λq m=>q.1<=l.length/\n<=m/\A7 n m 11 q.2 ((R q.1).1.map AE.enc)) (λq=>l.length-q.1) (0,none) ⟨Y4 _,hm,by simp only[hR0];exact Zs _ _ _⟩ ?_ ?_ ?_)
   . simp[go_sem,Aj,AN,Y0]
   . simp only[hR0];exact AB
   clear hm m
   rintro⟨i,o⟩ m ⟨hi,hnm,hA⟩
   dsimp only at hi hA ⊢
   have hEn:((R i).1.map AE.enc).length<=i:=by rw[Y5];exact hRn i
   by_cases hlt:i<l.length
   . obtain⟨x,hx⟩:∃x,l[i]=x:=⟨_,rfl⟩
     have hxm:x∈l:=by rw[<-hx];exact Yc hlt
     obtain⟨x1,x2,x3,x4,x5⟩:=hr x hxm
     have hgx:(l.map AE.enc)[i]? = some x.enc:=by simp[hlt,hx]
     have hst:=hRs i x hlt hx
     have w1:=wS i (by omega)
     generalize hSi:(R i).2=si at hst
     generalize hEi:(R i).1.map AE.enc=E at hA hEn ⊢
     have hXb:∀s' j y,AO o E (Ai st s' H) j=some y->j<m:=λs'=>G6 (hUb s') hnm hA
     refine By 0 [(0,AG l),(3,.bool mid),(4,.fn (.func g) a b),(7,.iptr [AA sc.id,AA sc.a,AA sc.b]),(21,AN 11 o E),(22,AA i)] (AO o E (Ai st si H)) m ?_ (λm' hm'=>?_)
     . simp[go_sem,Y0,hlt]
     subst hm'
     refine AV 0 (α:=Option Nat) (λo=>[(0,AG l),(3,.bool mid),(4,.fn (.func g) a b),(7,.iptr [AA sc.id,AA sc.a,AA sc.b]),(21,AN 11 o ((R (i+1)).1.map AE.enc)),(22,AA i)]) (λo=>AO o ((R (i+1)).1.map AE.enc) (Ai st (R (i+1)).2 H)) (λo m=>n<=m/\A7 n m 11 o ((R (i+1)).1.map AE.enc)) ?_ (λo m hm=>?_)
     . refine AR ?_
       refine BG 0 (α:=Nat) (λp=>[(0,AG l),(3,.bool mid),(4,.fn (.func g) a b),(7,.iptr [AA sc.id,AA sc.a,AA sc.b]),(21,AN 11 o E),(22,AA i),(23,.ptr p 0)]) (λp=>hset (AO o E (Ai st si H)) p (some (.cells [AA x.kind,AA x.code,AA x.id,.str x.text,Af x.head.props,AA x.head.ins,AA x.head.move,Aa x.head.dels,AQ x.head.layers,AG x.flow,Av x.rows]))) (λp m2=>m<=p/\p<m2) ?_ (λp m2 hm2=>?_)
       . simp[go_sem,Y0,hlt,hx,Yh,AC,AY]
         exact⟨m,by omega,rfl,AB⟩
       have hXb2:∀s' j y,AO o E (Ai st s' H) j=some y->j<p:=λs' j y e=>by have:=hXb s' j y e;omega
       refine Ab 0 [(0,AG l),(3,.bool mid),(4,.fn (.func g) a b),(7,.iptr [AA sc.id,AA sc.a,AA sc.b]),(21,AN 11 o E),(22,AA i),(23,.ptr p 0),(24,AA (A5 [x]).1)] (hset (AO o E (Ai st si H)) p (some (.cells [AA x.kind,AA x.code,AA x.id,.str x.text,Af x.head.props,AA x.head.ins,AA x.head.move,Aa x.head.dels,AQ x.head.layers,AG x.flow,Av x.rows]))) m2 ?_ (λm3 hm3=>?_)
       . have hle:i+1<=l.length:=hlt
         have hsl:List.drop i (List.take (i+1) (l.map AE.enc))=[x.enc]:=by rw[List.drop_take,Nat.add_sub_cancel_left,YA (by simpa using hlt)];simp[hx]
         simp[go_sem,w1,hle,hsl,-Int.natCast_add,-List.map_take,-List.map_drop]
         refine Yj (Sr [x] (by simp) (by simpa using x2)) ?_
         simp[go_sem,Y0]
       have hup:∀s1 s' y,Ai st s' (hset (AO o E (Ai st s1 H)) p y)=hset (AO o E (Ai st s' H)) p y:=λs1 s' y=>by rw[<-D.hset _ _ (by omega),D.acc hn hA,D.up2]
       have hasP:∀s' y k z,st s' k=some z->hset (AO o E (Ai st s' H)) p y k=some z:=λs' y k z e=>by rw[AD _ _ (by rintro rfl;rw[C.lt s' k (by omega)]at e;cases e)];exact D.has hn hA Bq k z e
       simp only[Dp,hSi]at hst
       have ht0:=hRt (i+1)
       rw[hst]at ht0
       dsimp only at ht0
       have hcall:=λy=>C.call si ⟨x.head,mid,(A5 [x]).1⟩ (hset (AO o E (Ai st si H)) p y) m3 x1 (Yo (Yo (SD hfu sc mid x _) (LK C.up hfu sc mid x.rows _)) ht0) (by omega) (λk z e=>by rw[AD _ _ (by rintro rfl;rw[C.lt si k (by omega)]at e;cases e)];exact D.has hn hA Bq k z e)
       generalize f si ⟨x.head,mid,(A5 [x]).1⟩=r1 at hcall hst ht0
       obtain⟨h',k,s1⟩:=r1
       dsimp only at hcall hst ht0
       simp only[hup,Yq,Yt,Ye]at hcall
       have hYb:∀s' y j z,hset (AO o E (Ai st s' H)) p y j=some z->j<m3:=λs' y j z e=>by
        by_cases h:j=p
        . omega
        . rw[AD _ _ h]at e;have:=hXb2 s' j z e;omega
       refine Ab 1 [(0,AG l),(3,.bool mid),(4,.fn (.func g) a b),(7,.iptr [AA sc.id,AA sc.a,AA sc.b]),(21,AN 11 o E),(22,AA i),(23,.ptr p 0),(26,.iptr h'.flat),(27,.bool k)] (hset (AO o E (Ai st s1 H)) p (some (.cells [AA x.kind,AA x.code,AA x.id,.str x.text,Af x.head.props,AA x.head.ins,AA x.head.move,Aa x.head.dels,AQ x.head.layers,AG x.flow,Av x.rows]))) m3 ?_ (λm4 hm4=>?_)
       . simp[go_sem,AF.flat,AC]
         refine Ys (by simpa[AF.enc,AF.flat]using hcall _) ?_
         rintro v H' n' ⟨rfl,rfl,rfl⟩
         simp[go_sem,Y0,AC]
         exact⟨AT (Ac (hYb _ _) (Y1 _)) (AC _ _ _),AK (hYb _ _) (AK (hYb _ _) AB)⟩
       refine By 0 [(0,AG l),(3,.bool mid),(4,.fn (.func g) a b),(7,.iptr [AA sc.id,AA sc.a,AA sc.b]),(21,AN 11 o E),(22,AA i),(23,.ptr p 0),(27,.bool k)] (hset (AO o E (Ai st s1 H)) p (some (.cells [AA x.kind,AA x.code,AA x.id,.str x.text,Af h'.props,AA h'.ins,AA h'.move,Aa h'.dels,AQ h'.layers,AG x.flow,Av x.rows]))) m4 ?_ (λm5 hm5=>?_)
       . simp[go_sem,Y0,AF.flat,AC,AY]
       subst hm5
       refine Ab 0 [(0,AG l),(3,.bool mid),(4,.fn (.func g) a b),(7,.iptr [AA sc.id,AA sc.a,AA sc.b]),(21,AN 11 o E),(22,AA i),(23,.ptr p 0),(27,.bool k)] (hset (AO o E (Ai st (LI fl sc mid x s1).2 H)) p (some (.cells [AA x.kind,AA x.code,AA x.id,.str x.text,Af h'.props,AA h'.ins,AA h'.move,Aa h'.dels,AQ h'.layers,AG (LI fl sc mid x s1).1,Av x.rows]))) m4 ?_ (λm5 hm5=>?_)
       . by_cases k6:x.kind=6
         . have hin:LI fl sc mid x s1=fl x.id x.flow sc mid s1:=by rw[LI,if_pos k6]
           have hc3:=λz m (hm:n0<=m)=>hfl x.id x.flow sc mid s1 (hset (AO o E (Ai st s1 H)) p z) m x3 (by rw[<-hin];exact Yo (LK C.up hfu sc mid x.rows _) ht0) hm (hasP s1 z)
           rw[hin]
           clear hst ht0
           generalize fl x.id x.flow sc mid s1=r3 at hc3 ⊢
           obtain⟨q3,s3⟩:=r3
           dsimp only at hc3 ⊢
           simp only[hup,Ah.enc]at hc3
           simp[go_sem,AC,k6]
           refine Ys (hc3 _ _ (by omega)) ?_
           rintro v H' n' ⟨rfl,rfl,rfl⟩
           simp[go_sem,Y0,AC,AY]
         . have hin:LI fl sc mid x s1=(x.flow,s1):=by rw[LI,if_neg k6]
           rw[hin]
           simp[go_sem,Y0,AC,k6]
       generalize LI fl sc mid x s1=w2 at hst ht0 ⊢
       obtain⟨q2,s2⟩:=w2
       dsimp only at hst ht0 ⊢
       obtain⟨BB,hBB⟩:∃B:σ->Hp,∀s',B s'=hset (AO o E (Ai st s' H)) p (some (.cells [AA x.kind,AA x.code,AA x.id,.str x.text,Af h'.props,AA h'.ins,AA h'.move,Aa h'.dels,AQ h'.layers,AG q2,Av x.rows])):=⟨_,λ_=>rfl⟩
       have hBBp:∀s',BB s' p=some (.cells [AA x.kind,AA x.code,AA x.id,.str x.text,Af h'.props,AA h'.ins,AA h'.move,Aa h'.dels,AQ h'.layers,AG q2,Av x.rows]):=λs'=>by rw[hBB,AC]
       have hBBb:∀s' j y,BB s' j=some y->j<m5:=λs' j y e=>by rw[hBB]at e;have:=hYb s' _ j y e;omega
       have hBBu:∀s1 s',Ai st s' (BB s1)=BB s':=λs1 s'=>by rw[hBB,hBB,hup]
       have hBBh:∀s',∀k w,st s' k=some w->BB s' k=some w:=λs'=>by rw[hBB];exact hasP s' _
       rw[<-hBB]
       refine By 0 [(0,AG l),(3,.bool mid),(4,.fn (.func g) a b),(7,.iptr [AA sc.id,AA sc.a,AA sc.b]),(21,AN 11 o E),(22,AA i),(23,.ptr p 0),(27,.bool k),(28,AN 6 none [])] (BB s2) m5 ?_ (λm6 hm6=>?_)
       . simp[go_sem,Y0,AN]
       subst hm6
       obtain⟨V,hV⟩:∃V:Nat->List AW×σ,∀i,V i=(x.rows.take i).foldl (Cb f fl sc mid) ([],s2):=⟨_,λ_=>rfl⟩
       have hV0:V 0=([],s2):=by rw[hV];rfl
       have hVs:∀i y,(h:i<x.rows.length)->x.rows[i]=y->V (i+1)=Cb f fl sc mid (V i) y:=λi y h hy=>by rw[hV,hV,FI _ _ _ _ _ h hy]
       have hVl:V x.rows.length=Ed f fl sc mid x.rows s2:=by rw[hV,Ya];rfl
       have hVn:∀i,(V i).1.length<=i:=λi=>by rw[hV];have:=Mo (f:=f) (fl:=fl) (sc:=sc) (mid:=mid) (x.rows.take i) ([],s2);simp at this;omega
       have hVt:∀j,rk (V j).2<=top:=λj=>by rw[hV];exact Yo (Nc (G:=Cb f fl sc mid) (λq x=>QJ C.up hfu sc mid x q.2) _ _ j) ht0
       clear hV
       refine Bt 1 [(0,AG l),(3,.bool mid),(4,.fn (.func g) a b),(7,.iptr [AA sc.id,AA sc.a,AA sc.b]),(21,AN 11 o E),(22,AA i),(23,.ptr p 0),(27,.bool k),(28,Av (Ed f fl sc mid x.rows s2).1)] (BB (Ed f fl sc mid x.rows s2).2) m5 ?_ (λm6 hm6=>?_)
       . refine By 0 [(0,AG l),(3,.bool mid),(4,.fn (.func g) a b),(7,.iptr [AA sc.id,AA sc.a,AA sc.b]),(21,AN 11 o E),(22,AA i),(23,.ptr p 0),(27,.bool k),(28,AN 6 none []),(29,AA 0)] (BB s2) m5 ?_ (λm6 hm6=>?_)
         . simp[go_sem,Y0]
         subst hm6
         refine AR (BP 0 (α:=Nat×Option Nat) (λq=>[(0,AG l),(3,.bool mid),(4,.fn (.func g) a b),(7,.iptr [AA sc.id,AA sc.a,AA sc.b]),(21,AN 11 o E),(22,AA i),(23,.ptr p 0),(27,.bool k),(28,AN 6 q.2 ((V q.1).1.map AW.enc)),(29,AA q.1)])
          (λq=>AO q.2 ((V q.1).1.map AW.enc) (BB (V q.1).2)) (λq m=>q.1<=x.rows.length/\m5<=m/\A7 m5 m 6 q.2 ((V q.1).1.map AW.enc)) (λq=>x.rows.length-q.1) (0,none) ⟨Y4 _,Y1 _,by simp only[hV0];exact Zs _ _ _⟩ ?_ ?_ ?_)
         . simp only[hV0];simp[go_sem,Aj,Y0]
         . simp only[hV0];exact AB
         rintro⟨j,o2⟩ m6 ⟨hj,hm6,hA2⟩
         dsimp only at hj hA2 ⊢
         have hGn:((V j).1.map AW.enc).length<=j:=by rw[Y5];exact hVn j
         have hpA:∀s' G,A7 m5 m6 6 o2 G->(AO o2 G (BB s')) p=some (.cells [AA x.kind,AA x.code,AA x.id,.str x.text,Af h'.props,AA h'.ins,AA h'.move,Aa h'.dels,AQ h'.layers,AG q2,Av x.rows]):=λs' G hA2=>by
          cases o2 with
          | none=>exact hBBp _
          | some q=>have:=(hA2.lt q rfl).1;simp only[AO];rw[AD _ _ (by omega)];exact hBBp _
         by_cases hjt:j<x.rows.length
         . obtain⟨y,hy⟩:∃y,x.rows[j]=y:=⟨_,rfl⟩
           have hym:y∈x.rows:=by rw[<-hy];exact Yc hjt
           have hgy:(x.rows.map AW.enc)[j]? = some y.enc:=by simp[hjt,hy]
           have hvt:=hVs j y hjt hy
           have w2:=wS j (by omega)
           generalize hSj:(V j).2=sj at hvt
           generalize hGj:(V j).1.map AW.enc=G at hA2 hGn ⊢
           have hZb:∀s' j y,AO o2 G (BB s') j=some y->j<m6:=λs'=>G6 (hBBb s') hm6 hA2
           have hpG:=λs'=>hpA s' G hA2
           have hZh:∀s',∀k w,st s' k=some w->AO o2 G (BB s') k=some w:=λs'=>D.has (by omega) hA2 (hBBh s')
           have hZu:∀s1 s',Ai st s' (AO o2 G (BB s1))=AO o2 G (BB s'):=λs1 s'=>by rw[D.acc (by omega) hA2,hBBu]
           refine By 0 [(0,AG l),(3,.bool mid),(4,.fn (.func g) a b),(7,.iptr [AA sc.id,AA sc.a,AA sc.b]),(21,AN 11 o E),(22,AA i),(23,.ptr p 0),(27,.bool k),(28,AN 6 o2 G),(29,AA j)] (AO o2 G (BB sj)) m6 ?_ (λm' hm'=>?_)
           . simp[go_sem,Y0,hjt,hpG]
           subst hm'
           refine AV 0 (α:=Option Nat) (λo2=>[(0,AG l),(3,.bool mid),(4,.fn (.func g) a b),(7,.iptr [AA sc.id,AA sc.a,AA sc.b]),(21,AN 11 o E),(22,AA i),(23,.ptr p 0),(27,.bool k),(28,AN 6 o2 ((V (j+1)).1.map AW.enc)),(29,AA j)]) (λo2=>AO o2 ((V (j+1)).1.map AW.enc) (BB (V (j+1)).2)) (λo2 m=>m5<=m/\A7 m5 m 6 o2 ((V (j+1)).1.map AW.enc)) ?_ (λo2 m hm=>?_)
           . refine AR ?_
             simp only[Cb,hSj]at hvt
             have hvt2:=hVt (j+1)
             rw[hvt]at hvt2
             have hd:=λ(X:Hp) (m:Nat) (hm:n0<=m) (hX:∀k w,st sj k=some w->X k=some w)=>d181 (mid:=mid) (sc:=sc) C hfl hfu y (x5 y hym) sj hvt2 (H:=X) (n:=m) hm hX
             generalize Gs f fl sc mid y sj=r4 at hd hvt
             obtain⟨ry,kr,s3⟩:=r4
             dsimp only at hd hvt
             have hd0:=λm (hm:n0<=m)=>hd (AO o2 G (BB sj)) m hm (hZh sj)
             have hd1:=λz m (hm:n0<=m)=>hd (hset (AO o2 G (BB sj)) m6 z) m hm (Ep C.lt (by omega) z (hZh sj))
             have hZu1:∀s' z,Ai st s' (hset (AO o2 G (BB sj)) m6 z)=hset (AO o2 G (BB s')) m6 z:=λs' z=>by rw[<-D.hset _ _ (by omega),hZu]
             simp only[hZu,Ah.enc]at hd0
             simp only[hZu1,Ah.enc]at hd1
             clear hd
             have hzb1:∀s' z j y,hset (AO o2 G (BB s')) m6 z j=some y->j<m6+1:=λs' z j y e=>by
              by_cases h:j=m6
              . omega
              . rw[AD _ _ h]at e;have:=hZb s' j y e;omega
             have pm6:p≠m6:=by omega
             refine AV 1 (α:=Unit) (λ_=>[(0,AG l),(3,.bool mid),(4,.fn (.func g) a b),(7,.iptr [AA sc.id,AA sc.a,AA sc.b]),(21,AN 11 o E),(22,AA i),(23,.ptr p 0),(27,.bool k),(28,AN 6 o2 G),(29,AA j),(30,.iptr (ry.head.flat++[BQ ry.cells])),(31,.bool kr)]) (λ_=>AO o2 G (BB s3)) (λ_ m7=>m6<=m7) (B7 trF rfl (by kernel_rfl) (by kernel_rfl) ?_) (λ_ m7 hm7=>?_)
             . simp only[YB]at hd0 hd1
               simp[go_sem,trF,hpG,hjt,hy,AD,pm6,YB]
               refine⟨⟨⟨?_,?_⟩,?_⟩,?_⟩
               all_goals first
                | (refine Ys (hd0 _ (by omega)) ?_
                   rintro v H' n' ⟨rfl,rfl,rfl⟩
                   simp[go_sem,Y0,AF.flat,AC]
                   exact⟨AT (Ac (hZb _) (Y1 _)) (AC _ _ _),AK (hZb _) (AK (hZb _) AB)⟩)
                | (refine Ys (hd1 _ _ (by omega)) ?_
                   rintro v H' n' ⟨rfl,rfl,rfl⟩
                   simp[go_sem,Y0,AF.flat,AC]
                   exact⟨AT (Ac (hZb _) (Y1 _)) (AC _ _ _),AK (hZb _) (AK (hZb _) AB)⟩)
             rw[hvt]
             cases kr with
             | false=>
              simp only[Y7,if_false,hGj]
              refine AI ?_
              simp[go_sem,Y0]
              exact⟨o2,⟨by omega,hA2.mono (by omega)⟩,rfl,AB⟩
             | true =>
              simp only[if_true,Y3,hGj,Yf,YF]
              refine AI ?_
              simp[go_sem,AF.flat]
              have hpush:=hA2.push (j:=m7+1) (m':=m7+1+1) (e:=ry.enc) (AW.E.st _) (AW.E.len _) (by omega) (by omega)
              rw[FU (es:=G) (e:=ry.enc) (o:=o2) (t:=68) (t2:=68) (el:=169) (z:=6) (by simp[go_sem]) (by simp[go_sem]) (by simp[go_sem]) (by simp) (by simp[go_sem]) (by simp[go_sem]) (by simp[go_sem]) (by omega) hA2 (AW.E.len _) ?a1 ?a2]
              case a1=>simp[AC,YB,SV.cells]
              case a2=>
               intro j e
               have:=(hA2.lt j e).2
               rw[AD _ _ (by omega)];exact Dz j e
              have hlive:=Du (p:=m7+1) (v:=.sl (m7+1) 0 6 (G.length+1) false) (e:=ry.enc) (hBBb s3) (by omega) hA2 (H:=hset (AO o2 G (BB s3)) m7 (some (.cells [Af ry.head.props,AA ry.head.ins,AA ry.head.move,Aa ry.head.dels,AQ ry.head.layers,BQ ry.cells]))) (AK (λj z e=>by have:=hBBb s3 j z e;omega) (C8 (hBBb s3) hA2))
              have hvv:AN 6 (some (m7+1)) (G++[ry.enc])=.sl (m7+1) 0 6 (G.length+1) false:=by simp[AN]
              simp[go_sem]
              exact⟨some (m7+1),⟨by omega,hpush⟩,hvv.symm,by simpa[Cs.app,SV.cells]using hlive⟩
           . refine AI ?_
             simp[go_sem,w2,Y0,-Int.natCast_add]
             exact⟨j+1,by omega,o2,⟨by omega,hm.1,hm.2⟩,⟨rfl,rfl⟩,AB⟩
         . have:j=x.rows.length:=by omega
           subst this
           rw[hVl]at hA2 ⊢
           have hpG:=λs'=>hpA s' _ hA2
           refine AI ?_
           simp[go_sem,Y0,hpG]
           exact⟨by omega,AN.fz' (λj hj=>Ac (hBBb _) hj) hA2 AB,C8 (hBBb _) hA2⟩
       generalize Ed f fl sc mid x.rows s2=v2 at hst ⊢
       obtain⟨q3,s3⟩:=v2
       dsimp only at hst ⊢
       have hq0:(((q3.length:Nat):Int)=0)↔q3.length=0:=by omega
       refine By 0 [(0,AG l),(3,.bool mid),(4,.fn (.func g) a b),(7,.iptr [AA sc.id,AA sc.a,AA sc.b]),(21,AN 11 o E),(22,AA i),(23,.ptr p 0),(27,.bool (k && !(decide (x.kind=7)&&decide (q3.length=0)))),(28,Av q3)] (BB s3) m6 ?_ (λm7 hm7=>?_)
       . by_cases k7:x.kind=7
         . by_cases q0:q3=[]
           . subst q0;simp[go_sem,Y0,hBBp,k7]
           . simp[go_sem,Y0,hBBp,k7,q0]
         . simp[go_sem,Y0,hBBp,k7]
       subst hm7
       generalize(k && !(decide (x.kind=7)&&decide (q3.length=0)))=k2 at hst ⊢
       refine By 1 [(0,AG l),(3,.bool mid),(4,.fn (.func g) a b),(7,.iptr [AA sc.id,AA sc.a,AA sc.b]),(21,AN 11 o E),(22,AA i),(23,.iptr [AA x.kind,AA x.code,AA x.id,.str x.text,Af h'.props,AA h'.ins,AA h'.move,Aa h'.dels,AQ h'.layers,AG q2,Av q3]),(27,.bool k2)] (AO o E (Ai st s3 H)) m6 ?_ (λm7 hm7=>?_)
       . simp[go_sem,Y0,hBB,AC,AY]
         exact⟨AT (Ac (hXb2 _) (Y1 _)) (AC _ _ _),AK (hXb2 _) AB⟩
       subst hm7
       rw[hst]
       cases k2 with
       | false=>
        simp only[Y7,if_false,hEi]
        refine AI ?_
        simp[go_sem,Y0]
        exact⟨o,⟨by omega,hA.mono (by omega)⟩,rfl,AB⟩
       | true =>
        simp only[if_true,Y3,hEi,Yf,YF]
        refine AI ?_
        simp[go_sem]
        have hpush:=hA.push (j:=m6+1) (m':=m6+1+1) (e:=(x.put h' q2 q3).enc) (AE.E.st _) (AE.E.len _) (by omega) (by omega)
        rw[FU (es:=E) (e:=(x.put h' q2 q3).enc) (o:=o) (t:=22) (t2:=22) (el:=70) (z:=11) (by simp[go_sem]) (by simp[go_sem]) (by simp[go_sem]) (by simp) (by simp[go_sem]) (by simp[go_sem]) (by simp[go_sem]) (by omega) hA (AE.E.len _) ?a1 ?a2]
        case a1=>simp[AC,Yh,SV.cells,AE.put,AE.kind,AE.code,AE.id,AE.text,AE.head,AE.flow,AE.rows]
        case a2=>
         intro j e
         have:=(hA.lt j e).2
         rw[AD _ _ (by omega)];exact Dz j e
        have hlive:=Du (p:=m6+1) (v:=.sl (m6+1) 0 11 (E.length+1) false) (e:=(x.put h' q2 q3).enc) (hUb s3) (by omega) hA (H:=hset (AO o E (Ai st s3 H)) m6 (some (.cells [AA x.kind,AA x.code,AA x.id,.str x.text,Af h'.props,AA h'.ins,AA h'.move,Aa h'.dels,AQ h'.layers,AG q2,Av q3]))) (AK (λj z e=>by have:=hUb s3 j z e;omega) (C8 (hUb s3) hA))
        have hvv:AN 11 (some (m6+1)) (E++[(x.put h' q2 q3).enc])=.sl (m6+1) 0 11 (E.length+1) false:=by simp[AN]
        simp[go_sem]
        exact⟨some (m6+1),⟨by omega,hpush⟩,hvv.symm,by simpa[Cs.app,SV.cells]using hlive⟩
     . refine AI ?_
       simp[go_sem,w1,Y0,-Int.natCast_add]
       exact⟨i+1,by omega,o,⟨by omega,hm.1,hm.2⟩,⟨rfl,rfl⟩,AB⟩
   . have:i=l.length:=by omega
     subst this
     refine AI ?_
     simp[go_sem]
     exact⟨o,⟨hnm,hA⟩,rfl,AB⟩
 . refine AI ?_
   simp[go_sem]
   rw[hRl]at hm ⊢
   exact hQ ho o m hm.1 hm.2
end
section
variable {σ : Type} {st : σ → Nat → Option BT} {n0 : Nat} {g : FuncId} {a b : List SV} {f : σ → BY → AF × Bool × σ} {ok : AF → Prop} {rk : σ → Nat} {top : Nat} {fl : Int → List AE → Ah → Bool → σ → List AE × σ} {P : List AE → Prop}
theorem QY {X:Hp} {n m:Nat} {o:Option Nat} {es:List SV} (H:A7 n m 11 o es) (hX:∀j,o=some j->X j=some (.cells (es.flatMap SV.cells))) (xs:List AE) (hroom:es.length+xs.length<=1073741824) (p:Nat):
 (xs=[]/\AS Tryz.prog X p .append [22,22] [AN 11 o es,AG xs]=some { val:=AN 11 o es })\/
 (xs≠[]/\AS Tryz.prog X p .append [22,22] [AN 11 o es,AG xs]=some { val:=.sl p 0 11 (es.length+xs.length) false,upd:=o.map λj=>(j,none),new:=some (.cells (es.flatMap SV.cells++(xs.map AE.enc).flatMap SV.cells)) }):=by
 by_cases hx:xs=[]
 . subst hx
   refine .inl ⟨rfl,N6 (len:=es.length) ?_⟩
   cases o with
   | none=>exact .inl rfl
   | some j=>exact .inr ⟨j,rfl⟩
 . refine .inr ⟨hx,?_⟩
   have hxl:xs.length≠0:=by cases xs<;>simp at hx ⊢
   cases o with
   | none=>
    have he:=H.none rfl
    subst he
    have:=Kc (H:=X) (p:=p) (len:=0) (m:=xs.length) (s:=.imm 0 [] true) (x:=AG xs) (xs:=[]) (ys:=(xs.map AE.enc).flatMap SV.cells) (upd:=none) (.inl ⟨rfl,rfl,rfl,rfl⟩) (by simp[Ha]) (by simp[EF]) rfl hxl (by omega)
    simpa[AN]using this
   | some j=>
    have hj:=hX j rfl
    have:=Kc (H:=X) (p:=p) (len:=es.length) (m:=xs.length) (s:=.sl j 0 11 es.length false) (x:=AG xs) (xs:=es.flatMap SV.cells) (ys:=(xs.map AE.enc).flatMap SV.cells) (upd:=some (j,none)) (.inr ⟨j,_,rfl,hj,by simp[Bk,BE H.size];rw[<-BE H.size,Ya],rfl⟩) (by simp[Ha]) (by simp[EF]) rfl hxl (by omega)
    simpa[AN]using this
theorem Hb {h X:Hp} {n m p:Nat} {o:Option Nat} {es:List SV} (hb:∀j y,h j=some y->j<n) (hnm:n<=m) (H:A7 n m 11 o es) (hm:m<=p) (hX:∀j y,AO o es h j=some y->X j=some y) (xs:List AE) (hroom:es.length+xs.length<=1073741824):
 ∃out,AS Tryz.prog X p .append [22,22] [AN 11 o es,AG xs]=some out/\∃o',A7 n (if out.new.isSome=true then p+1 else p) 11 o' (es++xs.map AE.enc)/\out.val=AN 11 o' (es++xs.map AE.enc)/\∀j y,AO o' (es++xs.map AE.enc) h j=some y->(Cs.app X p out) j=some y:=by
 have hX1:∀j,o=some j->X j=some (.cells (es.flatMap SV.cells)):=λj e=>hX j _ (Dz j e)
 have hX2:∀j y,h j=some y->X j=some y:=λj y e=>hX j y (C8 hb H j y e)
 rcases QY H hX1 xs hroom p with⟨rfl,e⟩|⟨hne,e⟩
 . exact⟨_,e,o,by simpa using H.mono hm,by simp,λj y e=>by simp at e;simpa[Cs.app]using hX j y e⟩
 . refine⟨_,e,some p,⟨by simp,λj e=>by cases e;simp;omega,λe he=>?_⟩,by simp[AN],λj y e=>?_⟩
   . rcases Y8.1 he with he|he
     . exact H.size e he
     . exact AE.E.size xs e he
   . simp only[AO,Z7]at e
     by_cases e1:j=p
     . subst e1
       rw[AC]at e
       simp only[Cs.app,AC];exact e
     . rw[AD _ _ e1]at e
       have h1:=hb j y e
       have h2:=hX2 j y e
       cases o with
       | none=>simp[Cs.app,AD _ _ e1,h2]
       | some q=>
        have h3:=(H.lt q rfl).1
        simp[Cs.app,AD _ _ e1,AD _ _ (show j≠q by omega),h2]
theorem Rg (C:Kk st n0 g a b f ok rk top) (hfl:FlC st n0 g a b fl P rk top) (hfu:∀id l sc mid s,rk s<=rk (fl id l sc mid s).2) (l:List AE) (hl:l.length<=1048576) (hr:∀x∈l,okI ok P x) (id:Int) (sc:Ah) (mid:Bool) (hns:¬(id=sc.id/\mid=false)) (s:σ) (ht:rk (BU f fl sc mid l s).2<=top) {H:Hp} {n:Nat} (hn:n0<=n) (hs:∀o y,st s o=some y->H o=some y):
 BM Tryz.prog 115 [AG l,AA id,sc.enc,.bool mid,.fn (.func g) a b] H n (λv h' n'=>v=AG (BU f fl sc mid l s).1/\h'=Ai st (BU f fl sc mid l s).2 H/\n'=n):=by
 have D:=C.cx
 refine T2 (mid:=mid) (sc:=sc) C hfl hfu l hl hr id hns s ht hn hs λho o m hm hA=>?_
 exact Gx (D.old _ hn ho) hA (λe he=>by obtain⟨x,_,rfl⟩:=Yp.1 he;exact AE.cl n x)
set_option maxHeartbeats 2000000 in
theorem d115 (C:Kk st n0 g a b f ok rk top) (hp:AF->Prop) (K:Nat) (hK:K<=349525) (hok:∀h:AF,hp h->ok h/\h.sized):∀N,FlC st n0 g a b (Aq f N) (DM hp K N) rk top
 | 0=>λid l sc mid s H n h=>h.elim
 | N + 1 => fun id l sc mid s H n hl ht hn hs => by
  have ih:=d115 C hp K hK hok N
  have hfu:=Oi C.up N
  have D:=C.cx
  have hsz:=hl.sized (λh e=>(hok h e).2) (by omega)
  have htx:∀x∈l,x.text.size<=1048576:=ZJ hsz.2
  have hparts:∀l,DM hp K (N+1) l->∀x∈l,okI ok (DM hp K N) x:=λl hl x hx=>by
   obtain⟨h1,h2,h3⟩:=Cf.1 hl
   obtain⟨h4,h5,h6,h7⟩:=h3 x hx
   exact⟨(hok _ h4).1,by have:=Iv hx;omega,h5,by omega,λr hr=>⟨(hok _ (h7 r hr).1).1,by have:=(h7 r hr).2.1;omega,λc hc=>⟨(hok _ ((h7 r hr).2.2 c hc).1).1,((h7 r hr).2.2 c hc).2⟩⟩⟩
  by_cases hin:id=sc.id/\mid=false
  . have he:Aq f (N+1) id l sc mid s=((BU f (Aq f N) Ar false (AU l 0 sc.a).1 s).1++(BU f (Aq f N) Ar true (AU l sc.a sc.b).1 (BU f (Aq f N) Ar false (AU l 0 sc.a).1 s).2).1++(BU f (Aq f N) Ar false (AU l sc.b (A5 l).1).1 (BU f (Aq f N) Ar true (AU l sc.a sc.b).1 (BU f (Aq f N) Ar false (AU l 0 sc.a).1 s).2).2).1,(BU f (Aq f N) Ar false (AU l sc.b (A5 l).1).1 (BU f (Aq f N) Ar true (AU l sc.a sc.b).1 (BU f (Aq f N) Ar false (AU l 0 sc.a).1 s).2).2).2):=by rw[Aq,if_pos hin]
    obtain⟨rfl,rfl⟩:=hin
    rw[he]at ht ⊢
    dsimp only at ht
    have l1:=Cv 0 sc.a hl
    have l2:=Cv sc.a sc.b hl
    have l3:=Cv sc.b (A5 l).1 hl
    have n1:=Dv l 0 sc.a
    have n2:=Dv l sc.a sc.b
    have n3:=Dv l sc.b (A5 l).1
    have hlK:=hl.1
    have c1:=QZ l 0 sc.a hsz.1 hsz.2
    have c2:=QZ l sc.a sc.b hsz.1 hsz.2
    have c3:=QZ l sc.b (A5 l).1 hsz.1 hsz.2
    refine Dg Tryz.func115 rfl λho=>?_
    have hU:∀s',E4 (Ai st s' H) n:=λs'=>D.old s' hn ho
    have hUb:∀s' j y,Ai st s' H j=some y->j<n:=λs' j y e=>(hU s' j y e).1
    refine Ab 1 [(0,AG l),(1,AA sc.id),(3,.bool false),(4,.fn (.func g) a b),(7,.iptr [AA sc.id,AA sc.a,AA sc.b])] (Ai st s H) n ?_ (λm hm=>?_)
    . simp[go_sem,Ah.enc,Y0,DP s H hs]
      refine⟨AT (ho.none (Y1 n)) (by simp[hset]),λj y e=>by rw[AD _ _ (by have:=(ho j y e).1;omega)];exact e⟩
    refine Ei ?_
    refine By 0 [(0,AG l),(4,.fn (.func g) a b),(7,.iptr [AA sc.id,AA sc.a,AA sc.b]),(39,.bool true)] (Ai st s H) m ?_ (λm' hm'=>?_)
    . simp[go_sem,Y0]
    subst hm'
    refine Ag (b:=true) (by simp[go_sem]) ?_
    rw[if_pos rfl]
    refine Ab 0 [(0,AG l),(4,.fn (.func g) a b),(7,.iptr [AA sc.id,AA sc.a,AA sc.b]),(11,AG (AU l 0 sc.a).1)] (Ai st s H) m ?_ (λm2 hm2=>?_)
    . simp[go_sem]
      refine Yj c1 ?_
      simp[go_sem,Y0]
    refine Ab 0 [(0,AG l),(4,.fn (.func g) a b),(7,.iptr [AA sc.id,AA sc.a,AA sc.b]),(11,AG (AU l 0 sc.a).1),(13,AG (AU l sc.a sc.b).1)] (Ai st s H) m2 ?_ (λm3 hm3=>?_)
    . simp[go_sem]
      refine Yj c2 ?_
      simp[go_sem,Y0]
    refine Ab 0 [(0,AG l),(4,.fn (.func g) a b),(7,.iptr [AA sc.id,AA sc.a,AA sc.b]),(11,AG (AU l 0 sc.a).1),(13,AG (AU l sc.a sc.b).1),(15,AA (A5 l).1)] (Ai st s H) m3 ?_ (λm4 hm4=>?_)
    . simp[go_sem]
      refine Yj (Sr l hsz.1 htx) ?_
      simp[go_sem,Y0]
    refine Ab 0 [(4,.fn (.func g) a b),(11,AG (AU l 0 sc.a).1),(13,AG (AU l sc.a sc.b).1),(17,AG (AU l sc.b (A5 l).1).1)] (Ai st s H) m4 ?_ (λm5 hm5=>?_)
    . simp[go_sem]
      refine Yj c3 ?_
      simp[go_sem,Y0]
    refine Ab 1 [(4,.fn (.func g) a b),(11,AG (AU l 0 sc.a).1),(13,AG (AU l sc.a sc.b).1),(17,AG (AU l sc.b (A5 l).1).1),(19,.iptr [AA (-1),AA 0,AA 0])] (Ai st s H) m5 ?_ (λm6 hm6=>?_)
    . simp[go_sem,Y0,AC,AY]
      exact⟨AT (Ac (hUb _) (by omega)) (AC _ _ _),AK (λj z e=>by have:=hUb s j z e;omega) AB⟩
    generalize hr1:(AU l 0 sc.a).1=r1 at l1 n1 ht ⊢
    generalize hr2:(AU l sc.a sc.b).1=r2 at l2 n2 ht ⊢
    generalize hr3:(AU l sc.b (A5 l).1).1=r3 at l3 n3 ht ⊢
    have t2:=Yo (Gr C.up hfu Ar false r3 _) ht
    have t1:=Yo (Gr C.up hfu Ar true r2 _) t2
    have hno:¬((-2:Int)=Ar.id/\false=false):=by simp[Ar]
    have hno2:¬((-2:Int)=Ar.id/\true=false):=by simp
    have w1:=λm (hm:n<=m)=>T2 (mid:=false) (sc:=Ar) C ih hfu r1 (by omega) (hparts r1 l1) (-2) hno s t1 (H:=Ai st s H) (n:=m) (by omega) Bq (Q:=λv h' n'=>m<=n'/\∃o,A7 m n' 11 o ((BU f (Aq f N) Ar false r1 s).1.map AE.enc)/\v=AN 11 o ((BU f (Aq f N) Ar false r1 s).1.map AE.enc)/\h'=AO o ((BU f (Aq f N) Ar false r1 s).1.map AE.enc) (Ai st (BU f (Aq f N) Ar false r1 s).2 H)) (λ_ o m' hm' hA=>.inl ⟨hm',o,hA,rfl,by rw[D.up2]⟩)
    have e1:=Gq (f:=f) (fl:=Aq f N) (sc:=Ar) (mid:=false) r1 ([],s)
    have z1:BU f (Aq f N) Ar false r1 s=r1.foldl (Dp f (Aq f N) Ar false) ([],s):=rfl
    rw[<-z1]at e1
    generalize BU f (Aq f N) Ar false r1 s=q1 at w1 e1 t2 ht ⊢
    obtain⟨q1,s1⟩:=q1
    dsimp only at t2 ht
    have w2:=λ(X:Hp) (hX:∀k w,st s1 k=some w->X k=some w) m (hm:n<=m)=>Rg C ih hfu r2 (by omega) (hparts r2 l2) (-2) Ar true hno2 s1 t2 (H:=X) (n:=m) (by omega) hX
    have e2:=Gq (f:=f) (fl:=Aq f N) (sc:=Ar) (mid:=true) r2 ([],s1)
    have z2:BU f (Aq f N) Ar true r2 s1=r2.foldl (Dp f (Aq f N) Ar true) ([],s1):=rfl
    rw[<-z2]at e2
    dsimp only at w1 e1 ⊢
    generalize BU f (Aq f N) Ar true r2 s1=q2 at w2 e2 ht ⊢
    obtain⟨q2,s2⟩:=q2
    dsimp only at ht
    have w3:=λ(X:Hp) (hX:∀k w,st s2 k=some w->X k=some w) m (hm:n<=m)=>Rg C ih hfu r3 (by omega) (hparts r3 l3) (-2) Ar false hno s2 ht (H:=X) (n:=m) (by omega) hX
    have e3:=Gq (f:=f) (fl:=Aq f N) (sc:=Ar) (mid:=false) r3 ([],s2)
    have z3:BU f (Aq f N) Ar false r3 s2=r3.foldl (Dp f (Aq f N) Ar false) ([],s2):=rfl
    rw[<-z3]at e3
    dsimp only at w2 e2 ⊢
    generalize BU f (Aq f N) Ar false r3 s2=q3 at w3 e3 ⊢
    obtain⟨q3,s3⟩:=q3
    dsimp only at w3 e3 ⊢
    simp only[Ah.enc,Ar]at w1 w2 w3
    simp only[Zh,YW]at e1 e2 e3
    have hlo:∀{m m2:Nat} {o:Option Nat} {es:List SV},n<=m->A7 m m2 11 o es->A7 n m2 11 o es:=λh H=>⟨H.none,λj e=>⟨by have:=(H.lt j e).1;omega,(H.lt j e).2⟩,H.size⟩
    refine BG 0 (α:=Option Nat) (λo=>[(4,.fn (.func g) a b),(13,AG r2),(17,AG r3),(19,.iptr [AA (-1),AA 0,AA 0]),(20,AN 11 o (q1.map AE.enc))]) (λo=>AO o (q1.map AE.enc) (Ai st s1 H)) (λo m=>n<=m/\A7 n m 11 o (q1.map AE.enc)) ?_ (λo m7 hm7=>?_)
    . simp[go_sem]
      refine Ys (w1 m6 (by omega)) ?_
      rintro v H' n' ⟨h1,o,h2,rfl,rfl⟩
      simp[go_sem,Y0]
      exact⟨o,⟨by omega,hlo (by omega) h2⟩,rfl,AB⟩
    obtain⟨hm7,hA1⟩:=hm7
    refine BG 0 (α:=Option Nat) (λo=>[(4,.fn (.func g) a b),(17,AG r3),(19,.iptr [AA (-1),AA 0,AA 0]),(20,AN 11 o (q1.map AE.enc++q2.map AE.enc))]) (λo=>AO o (q1.map AE.enc++q2.map AE.enc) (Ai st s2 H)) (λo m=>n<=m/\A7 n m 11 o (q1.map AE.enc++q2.map AE.enc)) ?_ (λo m8 hm8=>?_)
    . have w:=w2 (AO o (q1.map AE.enc) (Ai st s1 H)) (D.has hn hA1 Bq) m7 hm7
      rw[D.acc hn hA1,D.up2]at w
      simp[go_sem]
      refine Ys w ?_
      rintro v H' n' ⟨rfl,rfl,rfl⟩
      obtain⟨out,b1,o',b2,b3,b4⟩:=Hb (h:=Ai st s2 H) (hUb s2) hm7 hA1 (Y1 _) (X:=AO o (q1.map AE.enc) (Ai st s2 H)) AB q2 (by rw[Y5];omega)
      simp[go_sem,Y0,b1]
      exact⟨o',⟨by split<;>omega,b2⟩,b3,b4⟩
    obtain⟨hm8,hA2⟩:=hm8
    refine BG 0 (α:=Option Nat) (λo=>[(10,AN 11 o ((q1++q2++q3).map AE.enc))]) (λo=>AO o ((q1++q2++q3).map AE.enc) (Ai st s3 H)) (λo m=>n<=m/\A7 n m 11 o ((q1++q2++q3).map AE.enc)) ?_ (λo m9 hm9=>?_)
    . have w:=w3 (AO o (q1.map AE.enc++q2.map AE.enc) (Ai st s2 H)) (D.has hn hA2 Bq) m8 hm8
      rw[D.acc hn hA2,D.up2]at w
      simp[go_sem]
      refine Ys w ?_
      rintro v H' n' ⟨rfl,rfl,rfl⟩
      obtain⟨out,b1,o',b2,b3,b4⟩:=Hb (h:=Ai st s3 H) (hUb s3) hm8 hA2 (Y1 _) (X:=AO o (q1.map AE.enc++q2.map AE.enc) (Ai st s3 H)) AB q3 (by simp;omega)
      simp[go_sem,b1]
      simp only[Ye]at b2 b3 b4
      exact⟨o',⟨by split<;>omega,b2⟩,b3,b4⟩
    . refine AI ?_
      simp[go_sem]
      have:=Gx (n':=m9) (hU s3) hm9.2 (λe he=>by obtain⟨x,_,rfl⟩:=Yp.1 he;exact AE.cl n x)
      simp only[AG,Y3,Ye]at this ⊢
      exact this
  . have he:Aq f (N+1) id l sc mid s=BU f (Aq f N) sc mid l s:=by rw[Aq,if_neg hin]
    rw[he]at ht ⊢
    exact Rg C ih hfu l hsz.1 (hparts l hl) id sc mid hin s ht hn hs
end
def E3:AF:=⟨[],0,0,[],[]⟩
def Jc (rev:Int) (s:Int×Int) (x:BY):Int×Int:=
 if x.head.usesM rev then if x.mid then(IntKind.i64.wrap (s.1+x.units),s.2)else(s.1,IntKind.i64.wrap (s.2+x.units))else s
def He (rev:Int) (s:Int×Int) (x:BY):AF×Bool×(Int×Int):=(E3,true,Jc rev s x)
theorem Nb {h h2:Hp} {n n':Nat} {v r:SV} (k:Nat) (ho:E4 h n) (hf:Fz h2 h k v r) (hc:closed n r=true) (hh:∀j y,h j=some y->h2 j=some y):Bz n h2 n' v (λw h' n'=>w=r/\h'=h/\n'=n):=
 .inr ⟨k,r,h,hf,hc,λj x e=>⟨hh j x e,ho j x e⟩,rfl,rfl,rfl⟩
set_option maxHeartbeats 2000000 in
theorem v40 {p q n0:Nat} (hpq:p≠q) (hp:p<n0) (hq:q<n0) (rev:Int):Kk (D8 p q) n0 40 [] [.iptr [AA rev],.ptr p 0,.ptr q 0] (He rev) (λh=>h.sized) where
 lt:=(UF hpq hp hq rev).lt
 dom:=(UF hpq hp hq rev).dom
 cl:=(UF hpq hp hq rev).cl
 call s x H n hx _ hn hs:=by
  have a1:H p=some (.cells [AA s.1]):=hs p _ (by simp[D8])
  have a2:H q=some (.cells [AA s.2]):=hs q _ (by simp[D8,Ne.symm hpq])
  have b1:p≠n+1:=by omega
  have b2:q≠n+1:=by omega
  have b1':n+1≠p:=by omega
  have b2':n+1≠q:=by omega
  have D:Lt (D8 p q) n0 40 [] [.iptr [AA rev],.ptr p 0,.ptr q 0] (He rev) (λ_=>False):=⟨(UF hpq hp hq rev).lt,(UF hpq hp hq rev).dom,(UF hpq hp hq rev).cl,λ_ _ _ _ h=>h.elim⟩
  refine Dg Tryz.func40 rfl λho=>?_
  have hU:∀s',E4 (Ai (D8 p q) s' H) n:=λs'=>D.old s' hn ho
  have hUb:∀s' j y,Ai (D8 p q) s' H j=some y->j<n:=λs' j y e=>(hU s' j y e).1
  refine BV 1 [(1,AA x.units),(2,.bool x.mid),(3,.iptr [AA rev]),(4,.ptr p 0),(5,.ptr q 0),(6,.iptr x.head.flat),(9,.ptr (n+1) 0)] (hset H (n+1) (some (.cells [.imm 0 [] true,AA 0,AA 0,.imm 0 [] true,.imm 0 [] true]))) (λm=>n+2=m) ?_ (λm hm=>?_)
  . simp[go_sem,AF.enc,AF.flat,Y0]
    refine⟨AT (by rw[AD _ _ (by omega)];exact ho.none (Y1 n)) (by simp[hset]),λj y=>?_⟩
    have:=ho j y;simp only[hset];grind
  subst hm
  have hset_st:∀y z,hset (hset (hset H (n+1) z) p y) q (some (.cells [AA s.2]))=hset (hset (hset H (n+1) z) p y) q (some (.cells [AA s.2])):=λ_ _=>rfl
  refine BV 0 [(9,.ptr (n+1) 0)] (hset (Ai (D8 p q) (Jc rev s x) H) (n+1) (some (.cells [.imm 0 [] true,AA 0,AA 0,.imm 0 [] true,.imm 0 [] true]))) (λm=>n+2<=m) ?_ (λm hm=>?_)
  . have hc:=c41 x.head hx rev
    simp[go_sem,AF.flat]
    refine Yj (by simpa[AF.enc,AF.flat]using hc) ?_
    rw[Ni hpq]
    cases hu:x.head.usesM rev with
    | false=>
     have hk:Jc rev s x=s:=by simp[Jc,hu]
     rw[hk]
     simp[go_sem]
     refine Yj (by simpa[AF.enc,AF.flat]using hc) ?_
     simp[go_sem,hu,Y0]
     intro j y e;simp only[hset]at e ⊢;grind
    | true =>
     cases hmid:x.mid with
     | true=>
      have hk:Jc rev s x=(IntKind.i64.wrap (s.1+x.units),s.2):=by simp[Jc,hu,hmid]
      rw[hk]
      simp[go_sem,a1,AD,b1,Y0]
      intro j y e;simp only[hset]at e ⊢;grind
     | false=>
      have hk:Jc rev s x=(s.1,IntKind.i64.wrap (s.2+x.units)):=by simp[Jc,hu,hmid]
      rw[hk]
      simp[go_sem]
      refine Yj (by simpa[AF.enc,AF.flat]using hc) ?_
      simp[go_sem,hu,a2,AD,b2,Y0]
      intro j y e;simp only[hset]at e ⊢;grind
  . refine AI ?_
    simp[go_sem,AC,AY]
    have:=Nb (h:=Ai (D8 p q) (Jc rev s x) H) (h2:=hset (Ai (D8 p q) (Jc rev s x) H) (n+1) (some (.cells [.imm 0 [] true,AA 0,AA 0,.imm 0 [] true,.imm 0 [] true]))) (n':=m) (v:=.tup [.agg [.imm 0 [] true,AA 0,AA 0,.imm 0 [] true,.imm 0 [] true],.bool true]) (r:=.tup [E3.enc,.bool true]) 3 (hU _)
     (.inr ⟨.inr ⟨A9 (by simp),Y0,Y0,A9 (by simp),A9 (by simp),trivial⟩,Y0,trivial⟩) (by simp[closed,closedL,AF.enc,AF.flat,E3]) (AK (λj z e=>by have:=hUb _ j z e;omega) AB)
    simpa[He]using this
section
variable {σ : Type} {st : σ → Nat → Option BT} {n0 : Nat} {g : FuncId} {a b : List SV} {f : σ → BY → AF × Bool × σ} {ok : AF → Prop} {rk : σ → Nat} {top : Nat} {sc : Ah}
def Gt (f:σ->BY->AF×Bool×σ) (sc:Ah) (N:Nat) (d:AH) (revs:List BD) (s:σ):AH×σ:=
 (⟨(Aq f N 0 d.flow sc false s).1,(f (Aq f N 0 d.flow sc false s).2 ⟨d.«end»,false,1⟩).1,revs,d.settings⟩,(f (Aq f N 0 d.flow sc false s).2 ⟨d.«end»,false,1⟩).2.2)
def Db (f:σ->BY->AF×Bool×σ) (sc:Ah) (N:Nat) (d:AH) (s:σ):AH×σ:=Gt f sc N d [] s
set_option maxHeartbeats 2000000 in
theorem d39R (C:Kk st n0 g a b f ok rk top) (hp:AF->Prop) (K:Nat) (hK:K<=349525) (hok:∀h:AF,hp h->ok h/\h.sized) (N:Nat) (d:AH) (revs:List BD) (s:σ) (hl:DM hp K N d.flow) (hend:hp d.«end») (ht:rk (Gt f sc N d revs s).2<=top)
 (h1:(Gt f sc N d revs s).1.sized) (h2:(Gt f sc N d revs s).1.normal.sized) (h3:(BZ [] (AE.usL (An (Gt f sc N d revs s).1.flow)++(Gt f sc N d revs s).1.«end».all)).length<=1048576) {H:Hp} {n:Nat} (hn:n0<=n) (hs:∀o y,st s o=some y->H o=some y):
 BM Tryz.prog 39 [d.enc,sc.enc,Aw revs,.fn (.func g) a b] H n (λv h' n'=>v=(Gt f sc N d revs s).1.normal.enc/\h'=Ai st (Gt f sc N d revs s).2 H/\n'=n):=by
 refine Dg Tryz.func39 rfl λho=>?_
 have D:=C.cx
 have hU:∀s',E4 (Ai st s' H) n:=λs'=>D.old s' hn ho
 have hUb:∀s' j y,Ai st s' H j=some y->j<n:=λs' j y e=>(hU s' j y e).1
 have e1:n+2≠n:=by omega
 have e2:n≠n+2:=by omega
 have hlive:∀s' y z,∀j w,Ai st s' H j=some w->hset (hset (Ai st s' H) n y) (n+2) z j=some w:=λs' y z=>AK (λj z e=>by have:=hUb s' j z e;omega) (AK (hUb s') AB)
 have hup:∀s1 s' y z,Ai st s' (hset (hset (Ai st s1 H) n y) (n+2) z)=hset (hset (Ai st s' H) n y) (n+2) z:=λs1 s' y z=>by rw[<-D.hset _ _ (by omega),<-D.hset _ _ (by omega),D.up2]
 have hhas:∀s' y z,∀k w,st s' k=some w->hset (hset (Ai st s' H) n y) (n+2) z k=some w:=λs' y z=>Ep C.lt (by omega) z (Ep C.lt hn y Bq)
 refine BV 1 [(2,Aw revs),(3,.fn (.func g) a b),(4,.ptr n 0),(5,.iptr [AA sc.id,AA sc.a,AA sc.b]),(8,.ptr (n+2) 0)] (hset (hset (Ai st s H) n (some (.cells ([AG d.flow]++d.«end».flat++[Aw d.revs]++d.settings.flat)))) (n+2) (some (.cells C2))) (λm=>m=n+3) ?_ (λm hm=>?_)
 . simp[go_sem,Ah.enc,Y0,DP s H hs,AH.enc,AF.flat,AJ.flat,Yn,C2]
   refine⟨AT (by rw[AD _ _ (by omega),AD _ _ (by omega)];exact ho.none (by omega)) (by simp[hset]),λj y=>?_⟩
   have:=ho j y;simp only[hset];grind
 subst hm
 have c1:=d115 C hp K hK hok N 0 d.flow sc false s
 simp only[Gt]at h1 h2 h3 ht ⊢
 have ht1:=Yo (C.up _ _) ht
 generalize Aq f N 0 d.flow sc false s=q at c1 h1 h2 h3 ht ht1 ⊢
 obtain⟨q,s1⟩:=q
 dsimp only at c1 h1 h2 h3 ht ht1 ⊢
 refine BV 0 [(2,Aw revs),(3,.fn (.func g) a b),(4,.ptr n 0),(8,.ptr (n+2) 0)] (hset (hset (Ai st s1 H) n (some (.cells ([AG q]++d.«end».flat++[Aw d.revs]++d.settings.flat)))) (n+2) (some (.cells C2))) (λm=>n+3<=m) ?_ (λm hm=>?_)
 . have c2:=λy z m (hm:n<=m)=>c1 (hset (hset (Ai st s H) n y) (n+2) z) m hl ht1 (by omega) (hhas s y z)
   simp only[hup,Ah.enc]at c2
   simp[go_sem,AF.flat,AJ.flat,AC,AD]
   refine Ys (c2 _ _ _ (by omega)) ?_
   rintro v H' n' ⟨rfl,rfl,rfl⟩
   simp[go_sem,Y0,AC,AD,De e2]
 have c3:=λy z m (hm:n<=m)=>C.call s1 ⟨d.«end»,false,1⟩ (hset (hset (Ai st s1 H) n y) (n+2) z) m (hok _ hend).1 ht (by omega) (hhas s1 y z)
 generalize f s1 ⟨d.«end»,false,1⟩=r at c3 h1 h2 h3 ⊢
 obtain⟨h',k,s2⟩:=r
 simp only[hup,Yq,Yt,Ye]at c3
 dsimp only at c3 h1 h2 h3 ⊢
 refine Ab 0 [(2,Aw revs),(4,.ptr n 0),(8,.ptr (n+2) 0)] (hset (hset (Ai st s2 H) n (some (.cells ([AG q]++h'.flat++[Aw d.revs]++d.settings.flat)))) (n+2) (some (.cells C2))) m ?_ (λm2 hm2=>?_)
 . simp[go_sem,AF.flat,AJ.flat,AC,AD]
   refine Ys (c3 _ _ _ (by omega)) ?_
   rintro v H' n' ⟨rfl,rfl,rfl⟩
   simp[go_sem,Y0,AC,AD,De e2,AF.enc,AF.flat]
 refine Ab 0 [(4,.ptr n 0),(8,.ptr (n+2) 0)] (hset (hset (Ai st s2 H) n (some (.cells ([AG q]++h'.flat++[Aw revs]++d.settings.flat)))) (n+2) (some (.cells C2))) m2 ?_ (λm3 hm3=>?_)
 . simp[go_sem,Y0,AF.flat,AJ.flat,AC,AD,De e2]
 generalize hD:(⟨q,h',revs,d.settings⟩:AH)=D at h1 h2 h3 ⊢
 have hDf:q=D.flow/\h'=D.«end»/\revs=D.revs/\d.settings=D.settings:=by rw[<-hD];exact⟨rfl,rfl,rfl,rfl⟩
 obtain⟨f1,f2,f3,f4⟩:=hDf
 rw[f1,f2]at h3
 rw[f1,f2,f3,f4]
 refine AI ?_
 simp[go_sem,AF.flat,AJ.flat,AC,AD]
 refine Yj (by simpa[AH.enc,AF.flat,AJ.flat]using c21 D h1 h2 h3) ?_
 generalize hE:D.normal=E
 have hcl:closed n E.enc=true:=by simp[AH.enc,AF.flat,AJ.flat,closed,closedL,AE.E.closedL,E8.E.closedL,BO.E.closedL,Ax.E.closedL,BD.E.closedL,Az.E.closedL,FQ.E.closedL,As.E.closedL,Fa.E.closedL]
 simp[go_sem,AH.enc,AF.flat,AJ.flat,AC,C2]
 simp only[AH.enc,AF.flat,AJ.flat,Yq,Yt]at hcl
 exact CT (hU s2) hcl (AK (λj z e=>by have:=hUb s2 j z e;omega) (hlive s2 _ _))
theorem d39 (C:Kk st n0 g a b f ok rk top) (hp:AF->Prop) (K:Nat) (hK:K<=349525) (hok:∀h:AF,hp h->ok h/\h.sized) (N:Nat) (d:AH) (s:σ) (hl:DM hp K N d.flow) (hend:hp d.«end») (ht:rk (Db f sc N d s).2<=top)
 (h1:(Db f sc N d s).1.sized) (h2:(Db f sc N d s).1.normal.sized) (h3:(BZ [] (AE.usL (An (Db f sc N d s).1.flow)++(Db f sc N d s).1.«end».all)).length<=1048576) {H:Hp} {n:Nat} (hn:n0<=n) (hs:∀o y,st s o=some y->H o=some y):
 BM Tryz.prog 39 [d.enc,sc.enc,.imm 0 [] true,.fn (.func g) a b] H n (λv h' n'=>v=(Db f sc N d s).1.normal.enc/\h'=Ai st (Db f sc N d s).2 H/\n'=n):=
 Xg (bs:=[d.enc,sc.enc,Aw [],.fn (.func g) a b]) 1 AB ⟨Y0,Y0,A9 (by simp),Y0,trivial⟩ (d39R C hp K hK hok N d [] s hl hend ht h1 h2 h3 hn hs)
end
def Da (N:Nat) (d:AH) (rev:Int) (sc:Ah):Int×Int×Int:=
 if(CG d sc.id).isSome=false then(0,0,8)
 else if CS sc (((CG d sc.id).map Fl.items).getD [])then(0,0,2)
 else if(Bv d.revs rev).2=false then(0,0,22)
 else((Db (He rev) sc N d (0,0)).2.1,(Db (He rev) sc N d (0,0)).2.2,0)
set_option maxHeartbeats 2000000 in
theorem c14n (hp:AF->Prop) (K:Nat) (hK:K<=349525) (hok:∀h:AF,hp h->h.sized) (N:Nat) (d:AH) (rev:Int) (sc:Ah) (hl:DM hp K N d.flow) (hend:hp d.«end») (hr:d.revs.length<=1048576)
 (hfl:∀fl,CG d sc.id=some fl->fl.items.length<=1048576/\∀x∈fl.items,x.text.size<=1048576)
 (h1:(Db (He rev) sc N d (0,0)).1.sized) (h2:(Db (He rev) sc N d (0,0)).1.normal.sized) (h3:(BZ [] (AE.usL (An (Db (He rev) sc N d (0,0)).1.flow)++(Db (He rev) sc N d (0,0)).1.«end».all)).length<=1048576):
 PC 14 [d.enc,AA rev,sc.enc] (.tup [AA (Da N d rev sc).1,AA (Da N d rev sc).2.1,AA (Da N d rev sc).2.2]):=by
 intro h n
 refine Dg Tryz.func14 rfl λho=>?_
 have e0:n+3≠n+4:=by omega
 have e1:n+4≠n+3:=by omega
 have hsz:=hl.sized hok (by omega)
 refine BV 1 [(3,.iptr ([AG d.flow]++d.«end».flat++[Aw d.revs]++d.settings.flat)),(4,.iptr [AA rev]),(5,.iptr [AA sc.id,AA sc.a,AA sc.b]),(6,.ptr (n+3) 0),(7,.ptr (n+4) 0)] (Ai (D8 (n+3) (n+4)) (0,0) h) (λm=>n+5=m) ?_ (λm hm=>?_)
 . rw[Ni e0]
   simp[go_sem,Ah.enc,AH.enc,AF.flat,AJ.flat,Y0,Yn]
   refine⟨⟨AT (by simp[hset];exact ho.none (by omega)) (by simp[hset]),AT (by simp[hset];exact ho.none (by omega)) (by simp[hset]),AT (by simp[hset];exact ho.none (by omega)) (by simp[hset])⟩,λj y=>?_⟩
   have:=ho j y;simp only[hset];grind
 subst hm
 have hend2:∀(x y z:Int) (H:Hp),H (n+3)=some (.cells [AA x])->H (n+4)=some (.cells [AA y])->(∀j w,j<n->h j=some w->H j=some w)->∀m,Bz n H m (.tup [AA x,AA y,AA z]) (Is (.tup [AA x,AA y,AA z]) h n):=λx y z H _ _ hh m=>Au ho (λj w e=>hh j w (ho j w e).1 e) rfl (by simp[closed,closedL])
 have A8:∀s j w,j<n->h j=some w->Ai (D8 (n+3) (n+4)) s h j=some w:=λs j w hj e=>by simp only[Ai,D8];rw[if_neg (by omega),if_neg (by omega)];exact e
 have g3:∀s,Ai (D8 (n+3) (n+4)) s h (n+3)=some (.cells [AA s.1]):=λs=>by simp[Ai,D8]
 have g4:∀s,Ai (D8 (n+3) (n+4)) s h (n+4)=some (.cells [AA s.2]):=λs=>by simp[Ai,D8]
 refine BV 0 [(3,.iptr ([AG d.flow]++d.«end».flat++[Aw d.revs]++d.settings.flat)),(4,.iptr [AA rev]),(5,.iptr [AA sc.id,AA sc.a,AA sc.b]),(6,.ptr (n+3) 0),(7,.ptr (n+4) 0),(9,AG (((CG d sc.id).map Fl.items).getD [])),(10,.bool (CG d sc.id).isSome)] (Ai (D8 (n+3) (n+4)) (0,0) h) (λm=>n+5<=m) ?_ (λm hm=>?_)
 . simp[go_sem,AF.flat,AJ.flat]
   refine Yj (by simpa[AH.enc,AF.flat,AJ.flat]using c34 d sc.id hsz.1 hsz.2) ?_
   simp[go_sem,Y0]
 cases hfd:CG d sc.id with
 | none=>
  have hc:Da N d rev sc=(0,0,8):=by simp[Da,hfd]
  rw[hc]
  refine AI ?_
  simp[go_sem,g3,g4,AC,AD]
  refine hend2 0 0 8 _ ?_ ?_ ?_ _
  . simp[hset]
  . simp[hset]
  . intro j w hj e;rw[AD _ _ (by omega),AD _ _ (by omega)];exact A8 _ j w hj e
 | some fl=>
 obtain⟨hfl1,hfl2⟩:=hfl fl hfd
 dsimp only[Option.map_some,Option.getD_some,Option.isSome_some]
 have hcs:Da N d rev sc=if CS sc fl.items then(0,0,2)else if(Bv d.revs rev).2=false then(0,0,22)else((Db (He rev) sc N d (0,0)).2.1,(Db (He rev) sc N d (0,0)).2.2,0):=by simp[Da,hfd]
 refine By 0 [(3,.iptr ([AG d.flow]++d.«end».flat++[Aw d.revs]++d.settings.flat)),(4,.iptr [AA rev]),(5,.iptr [AA sc.id,AA sc.a,AA sc.b]),(6,.ptr (n+3) 0),(7,.ptr (n+4) 0),(9,AG fl.items)] (Ai (D8 (n+3) (n+4)) (0,0) h) m ?_ (λm2 hm2=>?_)
 . simp[go_sem,Y0]
 subst hm2
 by_cases hb:CS sc fl.items
 . rw[if_pos hb]at hcs
   rw[hcs]
   refine Ei ?_
   refine Ab 0 [(3,.iptr ([AG d.flow]++d.«end».flat++[Aw d.revs]++d.settings.flat)),(4,.iptr [AA rev]),(5,.iptr [AA sc.id,AA sc.a,AA sc.b]),(6,.ptr (n+3) 0),(7,.ptr (n+4) 0),(11,AA (A5 fl.items).1)] (Ai (D8 (n+3) (n+4)) (0,0) h) m ?_ (λm2 hm2=>?_)
   . simp[go_sem]
     refine Yj (Sr fl.items hfl1 hfl2) ?_
     simp[go_sem,Y0]
   have fin:∀y1 y2 m',Bz n (hset (hset (Ai (D8 (n+3) (n+4)) (0,0) h) (n+3) y1) (n+4) y2) m' (.tup [AA 0,AA 0,AA 2]) (Is (.tup [AA 0,AA 0,AA 2]) h n):=λy1 y2 m'=>
    Au ho (λj w e=>by have:=(ho j w e).1;rw[AD _ _ (by omega),AD _ _ (by omega)];exact A8 _ j w this e) rfl (by simp[closed,closedL])
   unfold CS at hb
   refine AI ?_
   by_cases a0:sc.a<0
   . simp[go_sem,g3,g4,AC,AD,a0]
     exact fin _ _ _
   . by_cases a1:sc.b<sc.a
     . simp[go_sem,g3,g4,AC,AD,a0,a1]
       exact fin _ _ _
     . have a2:(A5 fl.items).1<sc.b:=by omega
       simp[go_sem,g3,g4,AC,AD,a0,a1,a2]
       exact fin _ _ _
 rw[if_neg hb]at hcs
 refine Ab 0 [(3,.iptr ([AG d.flow]++d.«end».flat++[Aw d.revs]++d.settings.flat)),(4,.iptr [AA rev]),(5,.iptr [AA sc.id,AA sc.a,AA sc.b]),(6,.ptr (n+3) 0),(7,.ptr (n+4) 0)] (Ai (D8 (n+3) (n+4)) (0,0) h) m ?_ (λm2 hm2=>?_)
 . unfold CS at hb
   have a0:¬sc.a<0:=by omega
   have a1:¬sc.b<sc.a:=by omega
   have a2:¬(A5 fl.items).1<sc.b:=by omega
   simp[go_sem]
   refine Yj (Sr fl.items hfl1 hfl2) ?_
   simp[go_sem,Y0,a0,a1,a2]
 have cr:=c20 d.revs hr rev
 generalize Bv d.revs rev=rf at cr hcs
 obtain⟨rf,kf⟩:=rf
 cases kf with
 | false =>
  have hcs2:Da N d rev sc=(0,0,22):=by simpa using hcs
  rw[hcs2]
  have fin:∀y1 y2 y3 m',n+5<=m'->∀q,m'<=q->∀m'',Bz n (hset (hset (hset (Ai (D8 (n+3) (n+4)) (0,0) h) q y3) (n+3) y1) (n+4) y2) m'' (.tup [AA 0,AA 0,AA 22]) (Is (.tup [AA 0,AA 0,AA 22]) h n):=λy1 y2 y3 m' _ q _ m''=>
   Au ho (λj w e=>by have:=(ho j w e).1;rw[AD _ _ (by omega),AD _ _ (by omega),AD _ _ (by omega)];exact A8 _ j w this e) rfl (by simp[closed,closedL])
  refine AI ?_
  have q1:n+3≠m2:=by omega
  have q2:n+4≠m2:=by omega
  simp[go_sem,AF.flat,AJ.flat]
  refine Yj cr ?_
  simp[go_sem,g3,g4,AC,AD,AY,q1,q2,BD.enc]
  exact fin _ _ _ m2 (by omega) _ (Y1 _) _
 | true =>
  have hcs2:Da N d rev sc=((Db (He rev) sc N d (0,0)).2.1,(Db (He rev) sc N d (0,0)).2.2,0):=by simpa using hcs
  rw[hcs2]
  clear hcs hcs2
  refine Ab 0 [(3,.iptr ([AG d.flow]++d.«end».flat++[Aw d.revs]++d.settings.flat)),(4,.iptr [AA rev]),(5,.iptr [AA sc.id,AA sc.a,AA sc.b]),(6,.ptr (n+3) 0),(7,.ptr (n+4) 0)] (Ai (D8 (n+3) (n+4)) (0,0) h) m2 ?_ (λm3 hm3=>?_)
  . simp[go_sem,AF.flat,AJ.flat]
    refine Yj cr ?_
    simp[go_sem,Y0,AC,AY,BD.enc]
    exact AK (λj z e=>by
     simp only[Ai,D8]at e
     by_cases x1:j=n+3
     . omega
     . by_cases x2:j=n+4
       . omega
       . rw[if_neg x1,if_neg x2]at e;have:=(ho j z e).1;omega) AB
  have c:=d39 (sc:=sc) (v40 (n0:=n+5) e0 (by omega) (by omega) rev) hp K hK (λh e=>⟨hok h e,hok h e⟩) N d (0,0) hl hend (Y1 _) h1 h2 h3 (H:=Ai (D8 (n+3) (n+4)) (0,0) h) (n:=m3) (by omega) Bq
  generalize(Db (He rev) sc N d (0,0)).2=s2 at c ⊢
  have hu2:Ai (D8 (n+3) (n+4)) s2 (Ai (D8 (n+3) (n+4)) (0,0) h)=Ai (D8 (n+3) (n+4)) s2 h:=(v40 (n0:=n+5) e0 (by omega) (by omega) rev).cx.up2 _ _ _
  rw[hu2]at c
  refine Ab 0 [(6,.ptr (n+3) 0),(7,.ptr (n+4) 0)] (Ai (D8 (n+3) (n+4)) s2 h) m3 ?_ (λm4 hm4=>?_)
  . simp[go_sem,AF.flat,AJ.flat]
    refine Xg (bs:=[d.enc,sc.enc,.imm 0 [] true,.fn (.func 40) [] [.iptr [AA rev],.ptr (n+3) 0,.ptr (n+4) 0]]) 1 AB ?_ ?_
    . refine⟨?_,?_,Y0,?_,trivial⟩
      . simp[AH.enc,AF.flat,AJ.flat,Y0]
      . simp[Ah.enc,Y0]
      . exact Y0
    refine Ys c ?_
    rintro v H' n' ⟨rfl,rfl,rfl⟩
    simp[go_sem,Y0]
  have fin:∀y1 y2 m'',Bz n (hset (hset (Ai (D8 (n+3) (n+4)) s2 h) (n+3) y1) (n+4) y2) m'' (.tup [AA s2.1,AA s2.2,AA 0]) (Is (.tup [AA s2.1,AA s2.2,AA 0]) h n):=λy1 y2 m''=>
   Au ho (λj w e=>by have:=(ho j w e).1;rw[AD _ _ (by omega),AD _ _ (by omega)];exact A8 _ j w this e) rfl (by simp[closed,closedL])
  refine AV 0 (α:=Unit) (λ_=>[(6,.ptr (n+3) 0),(7,.ptr (n+4) 0),(8,AA 0)]) (λ_=>Ai (D8 (n+3) (n+4)) s2 h) (λ_ m5=>m4<=m5) (B7 trE rfl (by kernel_rfl) (by kernel_rfl) ?_) (λ_ m5 hm5=>?_)
  . have De:hset (hset (Ai (D8 (n+3) (n+4)) s2 h) (n+3) (some (.cells [AA s2.1]))) (n+4) (some (.cells [AA s2.2]))=Ai (D8 (n+3) (n+4)) s2 h:=by
     funext j;simp only[hset,Ai,D8];grind
    simp[go_sem,trE,Y0,g3,g4,AD,De]
  . refine AI ?_
    simp[go_sem,g3,g4]
    exact Au ho (λj w e=>A8 _ j w (ho j w e).1 e) rfl (by simp[closed,closedL])
def TC (f:FuncId) (args:List SV) (T:SV->Prop):Prop:=∀h n,BM Tryz.prog f args h n (λv h' n'=>T v/\h'=h/\n'=n)
theorem TC.use {E:Br} {f:FuncId} {args:List SV} {T:SV->Prop} (H:TC f args T) {h:Hp} {n:Nat} {K:SV->Hp->Nat->Prop} (hk:∀v,T v->K v h n):Ak E Tryz.prog f args h n K:=
 Ak.lift<|(H h n).mono λv _ _ ⟨e1,e2,e3⟩=>by subst e2;subst e3;exact hk v e1
theorem TC.mono {f:FuncId} {args:List SV} {T T':SV->Prop} (H:TC f args T) (ht:∀v,T v->T' v):TC f args T':=λh n=>(H h n).mono λv _ _ ⟨e1,e2⟩=>⟨ht v e1,e2⟩
theorem PC.t {f:FuncId} {args:List SV} {v:SV} {T:SV->Prop} (H:PC f args v) (hv:T v):TC f args T:=λh n=>(H h n).mono λ_ _ _ ⟨e1,e2,e3⟩=>⟨by rw[e1];exact hv,e2,e3⟩
theorem GL {h h':Hp} {n n':Nat} {v:SV} {T:SV->Prop} (ho:E4 h n) (hh:∀o x,h o=some x->h' o=some x) (hc:closed n v=true) (hT:T v):Bz n h' n' v (λv2 h2 n2=>T v2/\h2=h/\n2=n):=
 Bz.plain hc ho hh ⟨hT,rfl,rfl⟩
theorem UB {h h':Hp} {n n':Nat} {v' v:SV} {T:SV->Prop} (k:Nat) (ho:E4 h n) (hh:∀o x,h o=some x->h' o=some x) (e:Fz h' h k v' v) (hc:closed n v=true) (hT:T v):Bz n h' n' v' (λv2 h2 n2=>T v2/\h2=h/\n2=n):=
 .inr ⟨k,v,h,e,hc,λo x e=>⟨hh o x e,ho o x e⟩,hT,rfl,rfl⟩
theorem TC.lend {E:Br} {f:FuncId} {us bs:List SV} {T:SV->Prop} {h:Hp} {n:Nat} {K:SV->Hp->Nat->Prop} (k:Nat) (H:TC f bs T) (hp:∀v,T v->D7 v=true) (hw:AZ (Fz h (λ_=>none) k) us bs) (hk:∀v,T v->K v h n):Ak E Tryz.prog f us h n K:=by
 refine⟨(H h n).1,λc vs _ R F A=>?_⟩
 have hs:∀o x,(λ_=>none:Hp) o=some x->h o=some x:=λ_ _ e=>by cases e
 have A':AZ (V (c.less λ_=>none)) bs vs:=AZ.trans3 (R:=V c) (S:=Fz h (λ_=>none) k) (T:=V (c.less λ_=>none)) (λa b g h1 h2=>Fz.sound R hs k h2 h1) A hw
 refine((H (λ_=>none) n).2 (c.less λ_=>none) vs trivial (R.less hs) F A').mono ?_
 rintro e w' ⟨u,v',h',n',c',he,⟨hT,rfl,rfl⟩,rfl,hv',R',F',X0⟩
 have hno:∀b,¬(c.less λ_=>none).own b:=λb ⟨o,x,e,_⟩=>by cases e
 have hρ:∀j,c'.ρ j=c.ρ j:=λj=>by
  rcases YX j n' with hj|hj
  . exact X0.same j hj
  . rw[F' j hj,F j hj]
 have X:DD c { c with w:=c'.w }:=⟨λ_ _ e=>e,X0.ext.size,λb hb ho=>⟨ho,(X0.ext.keep b hb (hno b)).2⟩,X0.ext.room,X0.ext.os,X0.ext.out⟩
 refine⟨u,v',h,n',{ c with w:=c'.w },he,hk v' hT,rfl,hv'.plain (hp v' hT),⟨λo x ho=>?_,R.inj2,R.own2⟩,F,⟨X,Y1 _,λ_ _=>rfl⟩⟩
 refine(R.obj o x ho).mono X λb hb=>?_
 exact(X0.ext.keep b ((R.obj o x ho).hold_lt hb) (hno b)).2
def Nt (T:Prop) (v:SV):Prop:=∃e:Int,v=AA e/\(e=0->T)
theorem Nt.plain {T:Prop}:∀v,Nt T v->D7 v=true:=λ_ ⟨_,e,_⟩=>by rw[e];rfl
theorem Nt.mono {T T':Prop} (ht:T->T'):∀v,Nt T v->Nt T' v:=λ_ ⟨e,h1,h2⟩=>⟨e,h1,λg=>ht (h2 g)⟩
theorem Nt.no {T:Prop} {e:Int} (h:e≠0):Nt T (AA e):=⟨e,rfl,λg=>absurd g h⟩
theorem Nt.ok {T:Prop} {e:Int} (h:T):Nt T (AA e):=⟨e,rfl,λ_=>h⟩
def T4 (x:AE):Prop:=(x.kind≠6->x.flow=[])/\(x.kind≠7->x.rows=[])
def Jh (x:AE):Prop:=(x.kind≠6->x.flow=[])/\(x.kind≠7->x.rows=[])/\CW x.text=true
structure Bx where
 b:Bool
set_option maxHeartbeats 2000000 in
theorem t222 (x:AE) (hx:x.sized):TC 222 [x.enc] (Nt (Jh x)):=by
 intro h n
 refine Dg Tryz.func222 rfl λho=>?_
 obtain⟨X,hX⟩:∃X:SV,X=.iptr [AA x.kind,AA x.code,AA x.id,.str x.text,Af x.head.props,AA x.head.ins,AA x.head.move,Aa x.head.dels,AQ x.head.layers,AG x.flow,Av x.rows]:=⟨_,rfl⟩
 refine Ab 1 [(1,X)] h n ?_ (λm hm=>?_)
 . rw[hX]
   simp[go_sem,Yh]
   exact⟨AT (ho.none (Y1 n)) (AC _ _ _),AK (λj z e=>(ho j z e).1) AB⟩
 refine BG 0 (α:=Bx) (λb=>[(1,X),(3,.bool b.b)]) (λ_=>h) (λ_ m=>n<=m) ?_ (λb3 m hm=>?_)
 . rw[hX]
   by_cases k:x.kind=8
   . simp[go_sem,Y0,k,hm];exact⟨⟨_⟩,rfl⟩
   . simp[go_sem,Y0,k,hm];exact⟨⟨_⟩,rfl⟩
 refine BG 0 (α:=Bx) (λb=>[(1,X),(3,.bool b3.b),(4,.bool b.b)]) (λ_=>h) (λ_ m=>n<=m) ?_ (λb4 m hm=>?_)
 . rw[hX]
   by_cases k:x.kind=1
   . simp[go_sem,Y0,k,hm];exact⟨⟨_⟩,rfl⟩
   . by_cases k5:x.kind=5
     . simp[go_sem,Y0,k5,hm];exact⟨⟨_⟩,rfl⟩
     . simp[go_sem,Y0,k,k5,hm];exact⟨⟨_⟩,rfl⟩
 refine BG 0 (α:=Bx) (λb=>[(1,X),(3,.bool b3.b),(4,.bool b4.b),(5,.bool b.b)]) (λ_=>h) (λ_ m=>n<=m) ?_ (λb5 m hm=>?_)
 . rw[hX]
   by_cases k:x.kind=6
   . simp[go_sem,Y0,k,hm];exact⟨⟨_⟩,rfl⟩
   . by_cases k5:x.kind=7
     . simp[go_sem,Y0,k5,hm];exact⟨⟨_⟩,rfl⟩
     . simp[go_sem,Y0,k,k5,hm];exact⟨⟨_⟩,rfl⟩
 obtain⟨b3⟩:=b3
 obtain⟨b4⟩:=b4
 obtain⟨b5⟩:=b5
 dsimp only
 refine Ab 0 [(1,X),(3,.bool b3),(4,.bool b4),(5,.bool b5),(6,.bool true)] h n ?_ (λm hm=>?_)
 . simp[go_sem,Y0,hm]
 refine BG 0 (α:=Bx) (λb=>[(1,X),(3,.bool b3),(4,.bool b4),(5,.bool b5),(6,.bool b.b)]) (λ_=>h) (λ_ m=>n<=m) ?_ (λb6 m hm=>?_)
 . rw[hX]
   by_cases k:x.kind=4
   . simp[go_sem,k]
     refine Yj (Ja _ _ _) ?_
     simp[go_sem,Y0,hm];exact⟨⟨_⟩,rfl⟩
   . by_cases k2:x.kind=6
     . simp[go_sem,k2]
       refine Yj (Ja _ _ _) ?_
       simp[go_sem,Y0,hm];exact⟨⟨_⟩,rfl⟩
     . by_cases k3:x.kind=8
       . simp[go_sem,k3]
         refine Yj (Ja _ _ _) ?_
         simp[go_sem,Y0,hm];exact⟨⟨_⟩,rfl⟩
       . simp[go_sem,Y0,k,k2,k3,hm];exact⟨⟨_⟩,rfl⟩
 obtain⟨b6⟩:=b6
 dsimp only
 refine BG 0 (α:=Bx) (λb=>[(1,X),(3,.bool b3),(4,.bool b4),(5,.bool b5),(6,.bool b6),(7,.bool b.b)]) (λ_=>h) (λ_ m=>n<=m) ?_ (λb7 m hm=>?_)
 . rw[hX]
   by_cases k:x.kind=4
   . simp[go_sem,Y0,k,hm];exact⟨⟨_⟩,rfl⟩
   . by_cases k5:x.kind=6
     . simp[go_sem,Y0,k5,hm];exact⟨⟨_⟩,rfl⟩
     . simp[go_sem,Y0,k,k5,hm];exact⟨⟨_⟩,rfl⟩
 obtain⟨b7⟩:=b7
 dsimp only
 have out:∀(e:Int) (m:Nat),e≠0->Bz n h m (AA e) (λv h' n'=>Nt (Jh x) v/\h'=h/\n'=n):=λe m he=>GL ho AB (by simp[closed]) (Nt.no he)
 refine CB 0 [] h (λm=>n<=m/\Jh x) ?_ (λm hm=>?_)
 . refine AR ?_
   refine BG 0 (α:=Bx) (λb=>[(1,X),(3,.bool b3),(4,.bool b4),(5,.bool b5),(7,.bool b7),(70,.bool b.b)]) (λ_=>h) (λ_ m=>n<=m) ?_ (λb70 m hm=>?_)
   . rw[hX]
     simp[go_sem]
     refine Yj (Ja _ _ _) ?_
     by_cases c:1<=x.kind/\x.kind<=8
     . simp[go_sem,Y0,c,hm];exact⟨⟨_⟩,rfl⟩
     . simp[go_sem,Y0,c,hm];exact⟨⟨_⟩,rfl⟩
   obtain⟨b70⟩:=b70
   dsimp only
   refine Ag (b:=b70) (by simp[go_sem]) ?_
   cases b70 with
   | true=>exact AI (by simp[go_sem];exact out _ _ (by decide))
   | false=>
   simp only[Y7,if_false]
   refine BG 0 (α:=Bx) (λb=>[(1,X),(3,.bool b3),(79,.bool b.b)]) (λ_=>h) (λb m=>n<=m/\(b.b=false->T4 x)) ?_ (λb79 m hm=>?_)
   . rw[hX]
     clear out
     unfold T4
     cases b7 with
     | true =>
      cases b5 with
      | true =>
       cases b4 with
       | true=>
        by_cases k6:x.kind=6
        . by_cases r0:x.rows=[]
          . simp[go_sem,Y0,hm,k6,r0]
            exact⟨⟨false⟩,rfl⟩
          . have r1:0<x.rows.length:=Yi.2 r0
            simp[go_sem,Y0,hm,k6,r1]
            exact⟨⟨true⟩,by simp,rfl⟩
        . by_cases f0:x.flow=[]
          . by_cases k7:x.kind=7
            . simp[go_sem,Y0,hm,f0,k7]
              exact⟨⟨false⟩,rfl⟩
            . by_cases r0:x.rows=[]
              . simp[go_sem,Y0,hm,k6,f0,k7,r0]
                exact⟨⟨false⟩,rfl⟩
              . have r1:0<x.rows.length:=Yi.2 r0
                simp[go_sem,Y0,hm,k6,f0,k7,r1]
                exact⟨⟨true⟩,by simp,rfl⟩
          . have f1:0<x.flow.length:=Yi.2 f0
            simp[go_sem,Y0,hm,k6,f1]
            exact⟨⟨true⟩,by simp,rfl⟩
       | false=>
        by_cases t0:x.text.toList=[]
        . by_cases k6:x.kind=6
          . by_cases r0:x.rows=[]
            . simp[go_sem,Y0,hm,t0,k6,r0]
              exact⟨⟨false⟩,rfl⟩
            . have r1:0<x.rows.length:=Yi.2 r0
              simp[go_sem,Y0,hm,t0,k6,r1]
              exact⟨⟨true⟩,by simp,rfl⟩
          . by_cases f0:x.flow=[]
            . by_cases k7:x.kind=7
              . simp[go_sem,Y0,hm,t0,f0,k7]
                exact⟨⟨false⟩,rfl⟩
              . by_cases r0:x.rows=[]
                . simp[go_sem,Y0,hm,t0,k6,f0,k7,r0]
                  exact⟨⟨false⟩,rfl⟩
                . have r1:0<x.rows.length:=Yi.2 r0
                  simp[go_sem,Y0,hm,t0,k6,f0,k7,r1]
                  exact⟨⟨true⟩,by simp,rfl⟩
            . have f1:0<x.flow.length:=Yi.2 f0
              simp[go_sem,Y0,hm,t0,k6,f1]
              exact⟨⟨true⟩,by simp,rfl⟩
        . simp[go_sem,Y0,hm,t0]
          exact⟨⟨true⟩,by simp,rfl⟩
      | false=>
       by_cases i0:x.id=0
       . cases b4 with
         | true=>
          by_cases k6:x.kind=6
          . by_cases r0:x.rows=[]
            . simp[go_sem,Y0,hm,i0,k6,r0]
              exact⟨⟨false⟩,rfl⟩
            . have r1:0<x.rows.length:=Yi.2 r0
              simp[go_sem,Y0,hm,i0,k6,r1]
              exact⟨⟨true⟩,by simp,rfl⟩
          . by_cases f0:x.flow=[]
            . by_cases k7:x.kind=7
              . simp[go_sem,Y0,hm,i0,f0,k7]
                exact⟨⟨false⟩,rfl⟩
              . by_cases r0:x.rows=[]
                . simp[go_sem,Y0,hm,i0,k6,f0,k7,r0]
                  exact⟨⟨false⟩,rfl⟩
                . have r1:0<x.rows.length:=Yi.2 r0
                  simp[go_sem,Y0,hm,i0,k6,f0,k7,r1]
                  exact⟨⟨true⟩,by simp,rfl⟩
            . have f1:0<x.flow.length:=Yi.2 f0
              simp[go_sem,Y0,hm,i0,k6,f1]
              exact⟨⟨true⟩,by simp,rfl⟩
         | false=>
          by_cases t0:x.text.toList=[]
          . by_cases k6:x.kind=6
            . by_cases r0:x.rows=[]
              . simp[go_sem,Y0,hm,i0,t0,k6,r0]
                exact⟨⟨false⟩,rfl⟩
              . have r1:0<x.rows.length:=Yi.2 r0
                simp[go_sem,Y0,hm,i0,t0,k6,r1]
                exact⟨⟨true⟩,by simp,rfl⟩
            . by_cases f0:x.flow=[]
              . by_cases k7:x.kind=7
                . simp[go_sem,Y0,hm,i0,t0,f0,k7]
                  exact⟨⟨false⟩,rfl⟩
                . by_cases r0:x.rows=[]
                  . simp[go_sem,Y0,hm,i0,t0,k6,f0,k7,r0]
                    exact⟨⟨false⟩,rfl⟩
                  . have r1:0<x.rows.length:=Yi.2 r0
                    simp[go_sem,Y0,hm,i0,t0,k6,f0,k7,r1]
                    exact⟨⟨true⟩,by simp,rfl⟩
              . have f1:0<x.flow.length:=Yi.2 f0
                simp[go_sem,Y0,hm,i0,t0,k6,f1]
                exact⟨⟨true⟩,by simp,rfl⟩
          . simp[go_sem,Y0,hm,i0,t0]
            exact⟨⟨true⟩,by simp,rfl⟩
       . simp[go_sem,Y0,hm,i0]
         exact⟨⟨true⟩,by simp,rfl⟩
     | false=>
      by_cases c0:x.code=0
      . cases b5 with
        | true =>
         cases b4 with
         | true=>
          by_cases k6:x.kind=6
          . by_cases r0:x.rows=[]
            . simp[go_sem,Y0,hm,c0,k6,r0]
              exact⟨⟨false⟩,rfl⟩
            . have r1:0<x.rows.length:=Yi.2 r0
              simp[go_sem,Y0,hm,c0,k6,r1]
              exact⟨⟨true⟩,by simp,rfl⟩
          . by_cases f0:x.flow=[]
            . by_cases k7:x.kind=7
              . simp[go_sem,Y0,hm,c0,f0,k7]
                exact⟨⟨false⟩,rfl⟩
              . by_cases r0:x.rows=[]
                . simp[go_sem,Y0,hm,c0,k6,f0,k7,r0]
                  exact⟨⟨false⟩,rfl⟩
                . have r1:0<x.rows.length:=Yi.2 r0
                  simp[go_sem,Y0,hm,c0,k6,f0,k7,r1]
                  exact⟨⟨true⟩,by simp,rfl⟩
            . have f1:0<x.flow.length:=Yi.2 f0
              simp[go_sem,Y0,hm,c0,k6,f1]
              exact⟨⟨true⟩,by simp,rfl⟩
         | false=>
          by_cases t0:x.text.toList=[]
          . by_cases k6:x.kind=6
            . by_cases r0:x.rows=[]
              . simp[go_sem,Y0,hm,c0,t0,k6,r0]
                exact⟨⟨false⟩,rfl⟩
              . have r1:0<x.rows.length:=Yi.2 r0
                simp[go_sem,Y0,hm,c0,t0,k6,r1]
                exact⟨⟨true⟩,by simp,rfl⟩
            . by_cases f0:x.flow=[]
              . by_cases k7:x.kind=7
                . simp[go_sem,Y0,hm,c0,t0,f0,k7]
                  exact⟨⟨false⟩,rfl⟩
                . by_cases r0:x.rows=[]
                  . simp[go_sem,Y0,hm,c0,t0,k6,f0,k7,r0]
                    exact⟨⟨false⟩,rfl⟩
                  . have r1:0<x.rows.length:=Yi.2 r0
                    simp[go_sem,Y0,hm,c0,t0,k6,f0,k7,r1]
                    exact⟨⟨true⟩,by simp,rfl⟩
              . have f1:0<x.flow.length:=Yi.2 f0
                simp[go_sem,Y0,hm,c0,t0,k6,f1]
                exact⟨⟨true⟩,by simp,rfl⟩
          . simp[go_sem,Y0,hm,c0,t0]
            exact⟨⟨true⟩,by simp,rfl⟩
        | false=>
         by_cases i0:x.id=0
         . cases b4 with
           | true=>
            by_cases k6:x.kind=6
            . by_cases r0:x.rows=[]
              . simp[go_sem,Y0,hm,c0,i0,k6,r0]
                exact⟨⟨false⟩,rfl⟩
              . have r1:0<x.rows.length:=Yi.2 r0
                simp[go_sem,Y0,hm,c0,i0,k6,r1]
                exact⟨⟨true⟩,by simp,rfl⟩
            . by_cases f0:x.flow=[]
              . by_cases k7:x.kind=7
                . simp[go_sem,Y0,hm,c0,i0,f0,k7]
                  exact⟨⟨false⟩,rfl⟩
                . by_cases r0:x.rows=[]
                  . simp[go_sem,Y0,hm,c0,i0,k6,f0,k7,r0]
                    exact⟨⟨false⟩,rfl⟩
                  . have r1:0<x.rows.length:=Yi.2 r0
                    simp[go_sem,Y0,hm,c0,i0,k6,f0,k7,r1]
                    exact⟨⟨true⟩,by simp,rfl⟩
              . have f1:0<x.flow.length:=Yi.2 f0
                simp[go_sem,Y0,hm,c0,i0,k6,f1]
                exact⟨⟨true⟩,by simp,rfl⟩
           | false=>
            by_cases t0:x.text.toList=[]
            . by_cases k6:x.kind=6
              . by_cases r0:x.rows=[]
                . simp[go_sem,Y0,hm,c0,i0,t0,k6,r0]
                  exact⟨⟨false⟩,rfl⟩
                . have r1:0<x.rows.length:=Yi.2 r0
                  simp[go_sem,Y0,hm,c0,i0,t0,k6,r1]
                  exact⟨⟨true⟩,by simp,rfl⟩
              . by_cases f0:x.flow=[]
                . by_cases k7:x.kind=7
                  . simp[go_sem,Y0,hm,c0,i0,t0,f0,k7]
                    exact⟨⟨false⟩,rfl⟩
                  . by_cases r0:x.rows=[]
                    . simp[go_sem,Y0,hm,c0,i0,t0,k6,f0,k7,r0]
                      exact⟨⟨false⟩,rfl⟩
                    . have r1:0<x.rows.length:=Yi.2 r0
                      simp[go_sem,Y0,hm,c0,i0,t0,k6,f0,k7,r1]
                      exact⟨⟨true⟩,by simp,rfl⟩
                . have f1:0<x.flow.length:=Yi.2 f0
                  simp[go_sem,Y0,hm,c0,i0,t0,k6,f1]
                  exact⟨⟨true⟩,by simp,rfl⟩
            . simp[go_sem,Y0,hm,c0,i0,t0]
              exact⟨⟨true⟩,by simp,rfl⟩
         . simp[go_sem,Y0,hm,c0,i0]
           exact⟨⟨true⟩,by simp,rfl⟩
      . simp[go_sem,Y0,hm,c0]
        exact⟨⟨true⟩,by simp,rfl⟩
   obtain⟨b79⟩:=b79
   dsimp only at hm ⊢
   refine Ag (b:=b79) (by simp[go_sem]) ?_
   cases b79 with
   | true=>exact AI (by simp[go_sem];exact out _ _ (by decide))
   | false=>
   simp only[Y7,if_false]
   refine BG 0 (α:=Bx) (λb=>[(1,X),(3,.bool b3),(127,.bool b.b)]) (λ_=>h) (λb m=>n<=m/\(b.b=false->CW x.text=true)) ?_ (λb127 m hm2=>?_)
   . rw[hX]
     simp[go_sem]
     refine Yj (PO x.text (by have:=(Dt hx).2.1;omega)) ?_
     simp[go_sem,Y0,hm.1];exact⟨⟨!CW x.text⟩,by simp,rfl⟩
   obtain⟨b127⟩:=b127
   dsimp only at hm2 ⊢
   obtain⟨hm2,hval⟩:=hm2
   refine Ag (b:=b127) (by simp[go_sem]) ?_
   cases b127 with
   | true=>exact AI (by simp[go_sem];exact out _ _ (by decide))
   | false=>
   simp only[Y7,if_false]
   refine BG 0 (α:=Bx) (λb=>[(1,X),(3,.bool b3),(132,.bool b.b)]) (λ_=>h) (λb m=>n<=m) ?_ (λb132 m hm2=>?_)
   . rw[hX]
     by_cases k1:x.kind=1
     . simp[go_sem,Y0,k1,hm2];exact⟨⟨_⟩,rfl⟩
     . by_cases k5:x.kind=5
       . simp[go_sem,Y0,k5,hm2];exact⟨⟨_⟩,rfl⟩
       . simp[go_sem,Y0,k1,k5,hm2];exact⟨⟨_⟩,rfl⟩
   obtain⟨b132⟩:=b132
   dsimp only
   refine Ag (b:=b132) (by simp[go_sem]) ?_
   cases b132 with
   | true=>exact AI (by simp[go_sem];exact out _ _ (by decide))
   | false=>
   simp only[Y7,if_false]
   refine BG 0 (α:=Bx) (λb=>[(1,X),(3,.bool b3),(146,.bool b.b)]) (λ_=>h) (λb m=>n<=m) ?_ (λb146 m hm2=>?_)
   . rw[hX]
     by_cases k5:x.kind=5
     . simp[go_sem,Y0,k5,hm2];exact⟨⟨_⟩,rfl⟩
     . simp[go_sem,Y0,k5,hm2];exact⟨⟨_⟩,rfl⟩
   obtain⟨b146⟩:=b146
   dsimp only
   refine Ag (b:=b146) (by simp[go_sem]) ?_
   cases b146 with
   | true=>exact AI (by simp[go_sem];exact out _ _ (by decide))
   | false=>
   simp only[Y7,if_false]
   refine BG 0 (α:=Bx) (λb=>[(156,.bool b.b)]) (λ_=>h) (λb m=>n<=m) ?_ (λb156 m hm2=>?_)
   . rw[hX]
     cases b3 with
     | false=>simp[go_sem,hm2];exact⟨⟨_⟩,rfl⟩
     | true=>
      simp[go_sem]
      refine Yj (UR x.text) ?_
      simp[go_sem,hm2];exact⟨⟨_⟩,rfl⟩
   obtain⟨b156⟩:=b156
   dsimp only
   refine Ag (b:=b156) (by simp[go_sem]) ?_
   cases b156 with
   | true=>exact AI (by simp[go_sem];exact out _ _ (by decide))
   | false=>
   refine AI ?_
   simp[go_sem]
   exact⟨hm2,(hm.2 rfl).1,(hm.2 rfl).2,hval rfl⟩
 . refine AI ?_
   simp[go_sem]
   exact GL ho AB (by simp[closed]) (Nt.ok hm.2)
def GR (l:List (Int×Int)):List (SV×SV):=l.map λx=>(AA x.1,AA x.2)
theorem IE (x:Int):∀(l:List (Int×Int)) (i:Nat),C5 (AA x) (GR l) i=some none\/∃j k,C5 (AA x) (GR l) i=some (some (j,AA k))
 | [],i=>.inl rfl
 | a::l,i=>by
  by_cases e:x=a.1
  . exact .inr ⟨i,a.2,by simp[GR,C5,Gp,e]⟩
  . have:(x==a.1)=false:=by simpa using e
    rcases IE x l (i+1)with h|⟨j,k,h⟩
    . left;simp only[GR,Yf,C5,Gp,if_true,this];exact h
    . right;refine⟨j,k,?_⟩;simp only[GR,Yf,C5,Gp,if_true,this];exact h
structure Ck where
 p:Nat
 s0:Nat
 s1:Nat
 s2:Nat
 s3:Nat
 s4:Nat
 m0:List (Int×Int)
 m1:List Int
 m2:List Int
structure Ck.ok (K:Ck) (n0:Nat):Prop where
 nd:[K.p,K.s0,K.s1,K.s2,K.s3,K.s4].Nodup
 lt:∀o∈[K.p,K.s0,K.s1,K.s2,K.s3,K.s4],o<n0
abbrev FY:=List Int×Int
def Ck.cells (K:Ck) (c:Int):List SV:=[.map K.s0,.map K.s1,.map K.s2,.map K.s3,.map K.s4,AA c]
def Ck.st (K:Ck) (s:FY) (o:Nat):Option BT:=
 if o=K.p then some (.cells (K.cells s.2))else if o=K.s3 then some (.map (EU s.1))else if o=K.s0 then some (.map (GR K.m0))else if o=K.s1 then some (.map (EU K.m1))else if o=K.s2 then some (.map (EU K.m2))else if o=K.s4 then some (.map [])else none
section
variable {K : Ck} {n0 : Nat}
theorem Ck.ok.clo (h:K.ok n0):Lt K.st n0 0 [] [] (λs p=>(p.head,true,s)) (λ_=>False) where
 lt s o ho:=by
  have h1:=h.lt
  simp only[Yg,List.not_mem_nil,or_false,forall_eq_or_imp,forall_eq]at h1
  unfold Ck.st
  rw[if_neg (by omega),if_neg (by omega),if_neg (by omega),if_neg (by omega),if_neg (by omega),if_neg (by omega)]
 dom s s' o ho:=by
  unfold Ck.st at ho ⊢
  repeat' split at ho
  all_goals first|cases ho|skip
  simp only[*,if_false]
 cl s o y ho:=by
  have h1:=h.lt
  simp only[Yg,List.not_mem_nil,or_false,forall_eq_or_imp,forall_eq]at h1
  unfold Ck.st at ho
  repeat' split at ho
  all_goals first|cases ho|skip
  . simp[BN,Ck.cells,closed,closedL];omega
  . exact HJ _ _
  . simp[BN,GR,closed]
  . exact HJ _ _
  . exact HJ _ _
  . simp[BN]
 call:=λ_ _ _ _ h=>h.elim
structure Ck.has (K:Ck) (s:FY) (H:Hp):Prop where
 p:H K.p=some (.cells (K.cells s.2))
 s0:H K.s0=some (.map (GR K.m0))
 s1:H K.s1=some (.map (EU K.m1))
 s2:H K.s2=some (.map (EU K.m2))
 s3:H K.s3=some (.map (EU s.1))
 s4:H K.s4=some (.map [])
theorem Ck.ok.has (h:K.ok n0) {s:FY} {H:Hp} (hs:∀o y,K.st s o=some y->H o=some y):K.has s H:=by
 have h1:=h.nd
 simp only[YH,Yg,List.not_mem_nil,or_false,not_or]at h1
 obtain⟨⟨a1,a2,a3,a4,a5⟩,⟨b2,b3,b4,b5⟩,⟨c3,c4,c5⟩,⟨d4,d5⟩,e5,_⟩:=h1
 constructor<;>refine hs _ _ ?_<;>unfold Ck.st<;>simp[*,Ne.symm,eq_comm]
theorem U3 {H:Hp} {n n':Nat} {h2:Hp} (e:Int) {T:Int->Prop} (ho:E4 H n) (hh:∀j y,H j=some y->h2 j=some y) (ht:T e):Bz n h2 n' (AA e) (λv h' n'=>(∃e,v=AA e/\T e)/\h'=H/\n'=n):=
 .inr ⟨0,AA e,H,Y0,by simp[closed],λj x g=>⟨hh j x g,ho j x g⟩,⟨e,rfl,ht⟩,rfl,rfl⟩
set_option maxHeartbeats 1000000 in
theorem d157 (hK:K.ok n0) (s:FY) (kind id:Int) {H:Hp} {n:Nat} (hs:∀o y,K.st s o=some y->H o=some y):
 BM Tryz.prog 157 [.ptr K.p 0,AA kind,AA id] H n (λv h' n'=>(∃e,v=AA e)/\h'=H/\n'=n):=by
 refine gq Tryz.func157 rfl λho=>?_
 obtain⟨hp,h0,h1,h2,h3,h4⟩:=hK.has hs
 have fin:∀(e:Int) (m:Nat),Bz n H m (AA e) (λv h' n'=>(∃e,v=AA e)/\h'=H/\n'=n):=λe m=>by have:=U3 (T:=λ_=>True) (n':=m) e ho AB trivial;simpa using this
 simp only[Ck.cells]at hp
 have main:kind=20\/kind=1\/(kind≠20/\kind≠1):=by omega
 rcases main with e|e|⟨e,e'⟩
 . by_cases i0:id=0
   . simp[go_sem,e,i0]
     refine(I0 _ _).use ?_
     simp[go_sem];exact fin _ _
   . rcases IE id K.m0 0 with f|⟨j,k,f⟩
     . simp[go_sem,e,i0,hp,h0,f,CJ]
       refine(I0 _ _).use ?_
       simp[go_sem];exact fin _ _
     . simp[go_sem,e,i0,hp,h0,f,CJ]
       refine(I0 _ _).use ?_
       simp[go_sem];exact fin _ _
 . by_cases i0:id=0
   . simp[go_sem,e,i0]
     refine(I0 _ _).use ?_
     simp[go_sem];exact fin _ _
   . rcases IE id K.m0 0 with f|⟨j,k,f⟩
     . simp[go_sem,e,i0,hp,h0,f,CJ]
       refine(I0 _ _).use ?_
       simp[go_sem];exact fin _ _
     . simp[go_sem,e,i0,hp,h0,f,CJ]
       refine(I0 _ _).use ?_
       simp[go_sem];exact fin _ _
 . by_cases e3:kind=33
   . by_cases i0:id=0
     . simp[go_sem,e3,i0]
       refine(I0 _ _).use ?_
       simp[go_sem];exact fin _ _
     . by_cases hm:id∈K.m1
       . obtain⟨j,f,_⟩:=DI 0 hm
         simp[go_sem,e3,i0,hp,h1,f,CJ]
         refine(I0 _ _).use ?_
         simp[go_sem];exact fin _ _
       . have f:=Dn 0 hm
         simp[go_sem,e3,i0,hp,h1,f,CJ]
         refine(I0 _ _).use ?_
         simp[go_sem];exact fin _ _
   . simp[go_sem,e,e',e3];exact fin _ _
def CQ (K:Ck) (T:Int->FY->Prop) (H:Hp) (n:Nat):SV->Hp->Nat->Prop:=λv h' n'=>∃e s',v=AA e/\T e s'/\h'=Ai K.st s' H/\n'=n
theorem Ck.ok.ret (hK:K.ok n0) {T:Int->FY->Prop} {H h2:Hp} {n m:Nat} (hn:n0<=n) (ho:E4 H n) (e:Int) (s':FY) (hT:T e s') (hh:∀j y,Ai K.st s' H j=some y->h2 j=some y):Bz n h2 m (AA e) (CQ K T H n):=
 .inr ⟨0,AA e,Ai K.st s' H,Y0,by simp[closed],λj x g=>⟨hh j x g,hK.clo.old s' hn ho j x g⟩,e,s',rfl,hT,rfl,rfl⟩
theorem Ck.ok.no (hK:K.ok n0) {T:Int->FY->Prop} {H h2:Hp} {n m:Nat} (hn:n0<=n) (ho:E4 H n) (s:FY) (hs:∀o y,K.st s o=some y->H o=some y) (e:Int) (hT:T e s) (hh:∀j y,H j=some y->h2 j=some y):Bz n h2 m (AA e) (CQ K T H n):=
 hK.ret hn ho e s hT (by rw[DP s H hs];exact hh)
theorem LE (l:List Int) (x:Int):EU l++[(AA x,.bool true)]=EU (l++[x]):=by simp[EU]
def idT (s:FY) (id:Int) (e:Int) (s':FY):Prop:=e=0->s'=(s.1++[id],s.2)/\1<=id/\id<=1073741824/\id∉s.1
theorem Ck.ok.up_ids (hK:K.ok n0) (s:FY) (l:List Int) {H:Hp} (hs:∀o y,K.st s o=some y->H o=some y):Ai K.st (l,s.2) H=hset H K.s3 (some (.map (EU l))):=by
 have h1:=hK.nd
 simp only[YH,Yg,List.not_mem_nil,or_false,not_or]at h1
 obtain⟨⟨a1,a2,a3,a4,a5⟩,⟨b2,b3,b4,b5⟩,⟨c3,c4,c5⟩,⟨d4,d5⟩,e5,_⟩:=h1
 funext o
 have g:=hs o
 simp only[Ai,Ck.st,hset]at g ⊢
 by_cases q0:o=K.p
 . subst q0;simp only[if_true]at g ⊢;rw[if_neg a4];exact(g _ rfl).symm
 . by_cases q1:o=K.s3
   . have a4':¬K.s3=K.p:=λh=>a4 h.symm
     simp[q1,a4']
   . simp only[q0,q1,if_false]at g ⊢
     split
     . rename_i y hy;exact(g y hy).symm
     . rfl
set_option maxHeartbeats 1000000 in
theorem UX (hK:K.ok n0) (s:FY) (id:Int) {H:Hp} {n:Nat} (hn:n0<=n) (hs:∀o y,K.st s o=some y->H o=some y):
 BM Tryz.prog 223 [.ptr K.p 0,AA id] H n (CQ K (idT s id) H n):=by
 refine gq Tryz.func223 rfl λho=>?_
 obtain⟨hp,h0,h1,h2,h3,h4⟩:=hK.has hs
 have no:∀(e:Int) (m:Nat),e≠0->Bz n H m (AA e) (CQ K (idT s id) H n):=λe m he=>hK.no hn ho s hs e (λg=>absurd g he) AB
 simp only[Ck.cells]at hp
 by_cases r:1<=id/\id<=1073741824
 . have f4:C5 (AA id) [] 0=some none:=rfl
   by_cases hm:id∈s.1
   . obtain⟨j,f,_⟩:=DI 0 hm
     simp[go_sem]
     refine(Ja _ _ _).use ?_
     simp[go_sem,r,hp,h4,h3,f,CJ]
     exact no 7 _ (by decide)
   . have f:=Dn 0 hm
     simp[go_sem]
     refine(Ja _ _ _).use ?_
     simp[go_sem,r,hp,h4,h3,f,CJ]
     refine hK.ret hn ho 0 (s.1++[id],s.2) (λ_=>⟨rfl,r.1,r.2,hm⟩) ?_
     rw[hK.up_ids s _ hs,LE]
     exact AB
 . simp[go_sem]
   refine(Ja _ _ _).use ?_
   simp[go_sem,r]
   exact no 18 _ (by decide)
end
def trL:Tr:=.pure 0<|.pure 1<|.pure 2<|.pure 3<|.pure 5<|.pure 6<|.pure 7<|.pure 8<|.pure 9<|.one 4<|.one 10<|.one 11<|.one 12<|.one 13 .nil
section
variable {K : Ck} {n0 : Nat}
def TT (K:Ck) (s:FY) (x:Ax) (e:Int) (s':FY):Prop:=s'=s/\(e=0->x.rev∈K.m2)
set_option maxHeartbeats 2000000 in
theorem d159 (hK:K.ok n0) (s:FY) (el:Int) (ls:List Ax) (hls:ls.length<=1048576) (i:Nat) (hi:i<ls.length) {H:Hp} {n:Nat} (hn:n0<=n) (hs:∀o y,K.st s o=some y->H o=some y):
 BM Tryz.prog 159 [.ptr K.p 0,AA el,AQ ls,AA i] H n (CQ K (TT K s ls[i]) H n):=by
 refine Dg Tryz.func159 rfl λho=>?_
 obtain⟨x,hx⟩:∃x,ls[i]=x:=⟨_,rfl⟩
 obtain⟨hp,_,_,h2,_,_⟩:=hK.has hs
 simp only[Ck.cells]at hp
 have hKp:K.p<n:=by have:=hK.lt K.p (by simp);omega
 have hKs:K.s2<n:=by have:=hK.lt K.s2 (by simp);omega
 have hHb:=ho.lt
 have no:∀(e:Int) (m:Nat),e≠0->Bz n H m (AA e) (CQ K (TT K s ls[i]) H n):=λe m he=>hK.no hn ho s hs e ⟨rfl,λg=>absurd g he⟩ AB
 refine By 0 [(0,.ptr K.p 0),(1,AA el),(2,AQ ls),(3,AA i)] H n ?_ (λm hm=>?_)
 . simp[go_sem,Y0]
 subst hm
 refine Ab 1 [(0,.ptr K.p 0),(1,AA el),(2,AQ ls),(3,AA i),(9,.iptr [AA x.rev,AA x.key,AA x.before,.bool x.had])] H n ?_ (λm hm=>?_)
 . simp[go_sem,Y0,hi,hx,Ax.enc,AC]
   exact⟨AT (Ac hHb (Y1 _)) (AC _ _ _),AK hHb (AK hHb AB)⟩
 rw[hx]at no ⊢
 refine CB 0 [(0,.ptr K.p 0),(9,.iptr [AA x.rev,AA x.key,AA x.before,.bool x.had])] H (λm=>n<=m/\x.rev∈K.m2) ?_ (λm hm=>?_)
 . refine AR ?_
   refine BG 0 (α:=Bx) (λb=>[(0,.ptr K.p 0),(1,AA el),(2,AQ ls),(3,AA i),(9,.iptr [AA x.rev,AA x.key,AA x.before,.bool x.had]),(14,.bool b.b)]) (λ_=>H) (λb m=>n<=m/\(b.b=false->x.rev∈K.m2)) ?_ (λb m hm=>?_)
   . by_cases hr:x.rev∈K.m2
     . obtain⟨j,f,_⟩:=DI 0 hr
       simp[go_sem,Y0,hp,h2,f,CJ,hm,hr]
       repeat first|refine nq ?_|refine sq ?_|refine aq ?_
       first|exact⟨⟨false⟩,λ_=>hr,rfl⟩|exact⟨⟨false⟩,rfl⟩
     . have f:=Dn 0 hr
       simp[go_sem,Y0,hp,h2,f,CJ,hm,hr]
       repeat first|refine nq ?_|refine sq ?_|refine aq ?_
       first|exact⟨⟨true⟩,by simp,rfl⟩|exact⟨⟨true⟩,rfl⟩
   obtain⟨b⟩:=b
   dsimp only at hm ⊢
   refine Ag (b:=b) (by simp[go_sem]) ?_
   cases b with
   | true=>exact AI (by simp[go_sem];exact no 22 _ (by decide))
   | false=>
   simp only[Y7,if_false]
   have hm2:=hm.2 rfl
   refine BG 0 (α:=Bx) (λb=>[(0,.ptr K.p 0),(1,AA el),(2,AQ ls),(3,AA i),(9,.iptr [AA x.rev,AA x.key,AA x.before,.bool x.had]),(23,.bool b.b)]) (λ_=>H) (λb m=>n<=m) ?_ (λb m hm=>?_)
   . simp[go_sem]
     refine(c220 _ _).use ?_
     simp[go_sem,Y0,hm.1];exact⟨⟨_⟩,rfl⟩
   obtain⟨b⟩:=b
   dsimp only at hm ⊢
   refine Ag (b:=b) (by simp[go_sem]) ?_
   cases b with
   | true=>exact AI (by simp[go_sem];exact no 4 _ (by decide))
   | false=>
   simp only[Y7,if_false]
   refine BG 0 (α:=Bx) (λb=>[(0,.ptr K.p 0),(9,.iptr [AA x.rev,AA x.key,AA x.before,.bool x.had]),(29,.bool b.b)]) (λ_=>H) (λb m=>n<=m) ?_ (λb m hm=>?_)
   . by_cases i0:0<i
     . have hi1:i-1<ls.length:=by omega
       obtain⟨y,hy⟩:∃y,ls[i-1]=y:=⟨_,rfl⟩
       have w:IntKind.i64.wrap ((i:Int)-1)=((i-1:Nat):Int):=by rw[DR]<;>omega
       simp[go_sem,Y0,i0,w,hi1,hy,Ax.enc,hm]
       repeat first|refine nq ?_|refine sq ?_|refine aq ?_
       exact⟨⟨_⟩,rfl⟩
     . simp[go_sem,Y0,i0,hm]
       repeat first|refine nq ?_|refine sq ?_|refine aq ?_
       exact⟨⟨_⟩,rfl⟩
   obtain⟨b⟩:=b
   dsimp only at hm ⊢
   refine Ag (b:=b) (by simp[go_sem]) ?_
   cases b with
   | true=>exact AI (by simp[go_sem];exact no 6 _ (by decide))
   | false=>
   simp only[Y7,if_false]
   refine AI ?_
   cases hh:x.had with
   | false=>
    simp[go_sem]
    refine(I0 _ _).use ?_
    simp[go_sem]
    exact hK.no hn ho s hs _ ⟨rfl,λ_=>hm2⟩ AB
   | true=>
    simp[go_sem,Y0]
    exact⟨hm,hm2⟩
 . have ret:∀(e:Int) (H2:Hp) (m:Nat),(∀j y,H j=some y->H2 j=some y)->Bz n H2 m (AA e) (CQ K (TT K s x) H n):=λe H2 m hh=>hK.no hn ho s hs e ⟨rfl,λ_=>hm.2⟩ hh
   refine AV 0 (α:=Int) (λe=>[(8,AA e)]) (λ_=>H) (λ_ m=>n<=m) (B7 trL rfl (by kernel_rfl) (by kernel_rfl) ?_) (λe m hm=>?_)
   . simp[go_sem,trL]
     refine(US _ _).use ?_
     simp[go_sem]
     refine Ys (d157 hK s x.key x.before hs) ?_
     rintro v H' n' ⟨⟨e,rfl⟩,rfl,rfl⟩
     simp[go_sem]
     refine Xg (bs:=[.imm 1 ([EM x.key x.before,e].map AA) false]) (h2:=H') 1 (AK (λj z e=>by have:=hHb j z e;omega) AB) ⟨?_,trivial⟩ ?_
     . exact Dj (es:=[AA (EM x.key x.before),AA e]) (Ac hHb hm.1) (by simp) (by rw[AC];simp[SV.cells]) (by simp[SV.storable,SV.cells])
     refine(PF _ (by simp)).use ?_
     simp[go_sem]
     first|exact⟨by omega,_,Y0⟩|exact⟨_,by omega,Y0⟩|exact⟨_,Y0⟩
   . refine AI ?_
     simp[go_sem]
     exact ret _ _ _ AB
end
section
variable {K : Ck} {n0 : Nat}
def allT (I:FY->Prop) (e:Int) (s':FY):Prop:=e=0->I s'
theorem d150 (hK:K.ok n0) (N:Nat) (hN:N<=1048576) (g:FuncId) (a b:List SV) (I:Nat->FY->Prop)
 (step:∀i s' H n,i<N->I i s'->n0<=n->(∀o y,K.st s' o=some y->H o=some y)->BM Tryz.prog g (a++[AA i]++b) H n (CQ K (allT (I (i+1))) H n))
 (s:FY) (h0:I 0 s) {H:Hp} {n:Nat} (hn:n0<=n) (hs:∀o y,K.st s o=some y->H o=some y):
 BM Tryz.prog 150 [AA N,.fn (.func g) a b] H n (CQ K (allT (I N)) H n):=by
 have D:=hK.clo
 refine gq Tryz.func150 rfl λho=>?_
 simp[go_sem]
 refine Am 0 (α:=Nat×FY) (λq=>[(1,.fn (.func g) a b),(7,AA N),(8,AA q.1)]) (λq=>Ai K.st q.2 H) (λq m=>q.1<=N/\n<=m/\I q.1 q.2) (λq=>N-q.1) (0,s) ?_ ?_ ?_ ?_
 . exact⟨Y4 _,Y1 _,h0⟩
 . simp[Aj,Fz]
 . rw[DP s H hs];exact AB
 rintro⟨i,s'⟩ m ⟨hi,hnm,hI⟩
 dsimp only at hi hI ⊢
 by_cases hlt:i<N
 . have w1:=wS i (by omega)
   have hc:=step i s' (Ai K.st s' H) m hlt hI (by omega) Bq
   simp only[Ye,Yq,Yt]at hc
   simp[go_sem,hlt]
   refine Ys hc ?_
   rintro v H' n' ⟨e,s2,rfl,hT,rfl,rfl⟩
   rw[D.up2]
   by_cases e0:e=0
   . subst e0
     simp[go_sem,w1,-Int.natCast_add]
     exact⟨i+1,by omega,s2.1,s2.2,⟨by omega,hnm,hT rfl⟩,rfl,AB⟩
   . simp[go_sem,e0]
     exact hK.ret hn ho e s2 (λg=>absurd g e0) AB
 . have:i=N:=by omega
   subst this
   simp[go_sem]
   exact hK.ret hn ho 0 s' (λ_=>hI) AB
theorem d158 (hK:K.ok n0) (s:FY) (el ins mv:Int) (dl:SV) (ls:List Ax) (hls:ls.length<=1048576) (i:Nat) (hi:i<ls.length) {H:Hp} {n:Nat} (hn:n0<=n) (hs:∀o y,K.st s o=some y->H o=some y):
 BM Tryz.prog 158 [AA i,.iptr [.ptr K.p 0],.iptr [AA el],.iptr [AA ins,AA mv,dl,AQ ls]] H n (CQ K (TT K s ls[i]) H n):=by
 refine gq Tryz.func158 rfl λho=>?_
 simp[go_sem]
 refine Ys (d159 hK s el ls hls i hi hn hs) ?_
 rintro v H' n' ⟨e,s2,rfl,hT,rfl,rfl⟩
 simp[go_sem]
 exact hK.ret hn ho e s2 hT AB
end
structure QE (m2:List Int) (h:AF):Prop where
 ins:h.ins=0\/h.ins∈m2
 dlen:h.dels.length<=16
 dels:∀x∈h.dels,x.rev∈m2
 llen:h.layers.length<=64
 layers:∀x∈h.layers,x.rev∈m2
structure Ce (m2:List Int) (h:AF):Prop extends QE m2 h where
 inc:∀i (hi:i<h.dels.length),0<i->h.dels[i-1].rev<h.dels[i].rev
section
variable {K : Ck} {n0 : Nat}
def T5 (K:Ck) (s:FY) (h:AF) (e:Int) (s':FY):Prop:=e=0->s'=s/\Ce K.m2 h
set_option maxHeartbeats 4000000 in
theorem d86 (hK:K.ok n0) (s:FY) (el:Int) (hd:AF) (hsz:hd.sized) {H:Hp} {n:Nat} (hn:n0<=n) (hs:∀o y,K.st s o=some y->H o=some y):
 BM Tryz.prog 86 [.ptr K.p 0,AA el,hd.enc] H n (CQ K (T5 K s hd) H n):=by
 refine Dg Tryz.func86 rfl λho=>?_
 obtain⟨hp,_,_,h2,_,_⟩:=hK.has hs
 simp only[Ck.cells]at hp
 have hKp:K.p<n:=by have:=hK.lt K.p (by simp);omega
 have hKs:K.s2<n:=by have:=hK.lt K.s2 (by simp);omega
 have hHb:=ho.lt
 have no:∀(e:Int) (m:Nat),e≠0->Bz n H m (AA e) (CQ K (T5 K s hd) H n):=λe m he=>hK.no hn ho s hs e (λg=>absurd g he) AB
 refine Ab 1 [(3,.iptr [.ptr K.p 0]),(4,.iptr [AA el]),(5,.iptr hd.flat)] H n ?_ (λm hm=>?_)
 . simp[go_sem,AF.enc,AF.flat,Yn]
   refine⟨⟨AT (Ac hHb (by omega)) (by simp[hset]),AT (Ac hHb (by omega)) (by simp[hset]),AT (Ac hHb (by omega)) (by simp[hset])⟩,λj y=>?_⟩
   have:=hHb j y;simp only[hset];grind
 refine Bt 0 [(3,.iptr [.ptr K.p 0]),(4,.iptr [AA el]),(5,.iptr hd.flat)] H n (AI ?_) (λm hm=>?_)
 . simp[go_sem,AF.flat]
   refine(c156 el hd.props hsz.props).use ?_
   by_cases e0:F9 el hd.props=0
   . simp[go_sem,e0,Y0,hm]
   . simp[go_sem,e0];exact no _ _ e0
 refine Bt 0 [(3,.iptr [.ptr K.p 0]),(4,.iptr [AA el]),(5,.iptr hd.flat)] H n ?_ (λm hm=>?_)
 . refine Ab 0 [(3,.iptr [.ptr K.p 0]),(4,.iptr [AA el]),(5,.iptr hd.flat),(22,Af hd.props),(23,AA hd.props.length),(24,AA 0)] H n ?_ (λm hm=>?_)
   . simp[go_sem,Y0,AF.flat,hm]
   refine AR (BP 0 (α:=Nat) (λi=>[(3,.iptr [.ptr K.p 0]),(4,.iptr [AA el]),(5,.iptr hd.flat),(22,Af hd.props),(23,AA hd.props.length),(24,AA i)]) (λ_=>H) (λi m=>i<=hd.props.length/\n<=m) (λi=>hd.props.length-i) 0 ⟨Y4 _,hm⟩ ?_ AB ?_)
   . simp[go_sem,Aj,Y0]
   rintro i m ⟨hi,hm⟩
   refine AI ?_
   by_cases hlt:i<hd.props.length
   . obtain⟨x,hx⟩:∃x,hd.props[i]=x:=⟨_,rfl⟩
     have w1:IntKind.i64.wrap ((i:Int)+1)=((i+1:Nat):Int):=by have:=hsz.props;rw[DR]<;>omega
     simp[go_sem,hlt,hx,E8.enc,AC]
     refine Ys (d157 hK s x.key x.value (Ep hK.clo.lt (by omega) _ (Ep hK.clo.lt (by omega) _ hs))) ?_
     rintro v H' n' ⟨⟨e,rfl⟩,rfl,rfl⟩
     by_cases e0:e=0
     . subst e0
       simp[go_sem,w1,-Int.natCast_add]
       refine⟨i+1,by omega,⟨by omega,by omega⟩,by simp[Y0],AK (λj z e=>by have:=hHb j z e;omega) (AK (λj z e=>by have:=hHb j z e;omega) AB)⟩
     . simp[go_sem,e0]
       exact hK.no hn ho s hs e (λg=>absurd g e0) (AK (λj z e=>by have:=hHb j z e;omega) (AK (λj z e=>by have:=hHb j z e;omega) AB))
   . simp[go_sem,hlt,Y0,hm]
 refine Ab 1 [(3,.iptr [.ptr K.p 0]),(4,.iptr [AA el]),(11,.iptr [AA hd.ins,AA hd.move,Aa hd.dels,AQ hd.layers])] H n ?_ (λm hm=>?_)
 . simp[go_sem,Y0,AF.flat,AC]
   have hHm:∀j y,H j=some y->j<m:=λj y e=>by have:=hHb j y e;omega
   exact⟨by omega,AT (Ac hHm (Y1 _)) (AC _ _ _),AK hHm (AK hHm AB)⟩
 refine CB 0 [(3,.iptr [.ptr K.p 0]),(4,.iptr [AA el]),(11,.iptr [AA hd.ins,AA hd.move,Aa hd.dels,AQ hd.layers])] H (λm=>n<=m/\(hd.ins=0\/hd.ins∈K.m2)/\hd.dels.length<=16) ?_ (λm hm=>?_)
 . refine AR ?_
   refine BG 0 (α:=Bx) (λb=>[(3,.iptr [.ptr K.p 0]),(4,.iptr [AA el]),(11,.iptr [AA hd.ins,AA hd.move,Aa hd.dels,AQ hd.layers]),(40,.bool b.b)]) (λ_=>H) (λb m=>n<=m/\(b.b=false->hd.ins=0\/hd.ins∈K.m2)) ?_ (λb m hm=>?_)
   . by_cases i0:hd.ins=0
     . simp[go_sem,Y0,i0,hm]
       repeat first|refine nq ?_|refine sq ?_|refine aq ?_
       exact⟨⟨false⟩,rfl⟩
     . by_cases hr:hd.ins∈K.m2
       . obtain⟨j,f,_⟩:=DI 0 hr
         simp[go_sem,Y0,i0,hp,h2,f,CJ,hm,hr]
         repeat first|refine nq ?_|refine sq ?_|refine aq ?_
         exact⟨⟨false⟩,rfl⟩
       . have f:=Dn 0 hr
         simp[go_sem,Y0,i0,hp,h2,f,CJ,hm,hr]
         repeat first|refine nq ?_|refine sq ?_|refine aq ?_
         exact⟨⟨true⟩,by simp,rfl⟩
   obtain⟨b⟩:=b
   dsimp only at hm ⊢
   refine Ag (b:=b) (by simp[go_sem]) ?_
   cases b with
   | true=>exact AI (by simp[go_sem];exact no 22 _ (by decide))
   | false=>
   simp only[Y7,if_false]
   have hm1:=hm.2 rfl
   refine BG 0 (α:=Bx) (λb=>[(3,.iptr [.ptr K.p 0]),(4,.iptr [AA el]),(11,.iptr [AA hd.ins,AA hd.move,Aa hd.dels,AQ hd.layers]),(54,.bool b.b)]) (λ_=>H) (λb m=>n<=m) ?_ (λb m hm=>?_)
   . simp[go_sem]
     refine(Ja _ _ _).use ?_
     by_cases c:0<=hd.move/\hd.move<=1073741824
     . by_cases m0:hd.move=0
       . simp[go_sem,Y0,m0,hm.1];exact⟨⟨_⟩,rfl⟩
       . simp[go_sem,Y0,c,m0,hm.1];exact⟨⟨_⟩,rfl⟩
     . simp[go_sem,Y0,c,hm.1];exact⟨⟨_⟩,rfl⟩
   obtain⟨b⟩:=b
   dsimp only at hm ⊢
   refine Ag (b:=b) (by simp[go_sem]) ?_
   cases b with
   | true=>exact AI (by simp[go_sem];exact no 21 _ (by decide))
   | false=>
   simp only[Y7,if_false]
   refine AI ?_
   by_cases c:(16:Int)<hd.dels.length
   . simp[go_sem,c];exact no 9 _ (by decide)
   . simp[go_sem,c,Y0,hm,hm1];omega
 obtain⟨hm,hi,hdl⟩:=hm
 refine CB 0 [(3,.iptr [.ptr K.p 0]),(4,.iptr [AA el]),(11,.iptr [AA hd.ins,AA hd.move,Aa hd.dels,AQ hd.layers])] H (λm=>n<=m/\∀j (h:j<hd.dels.length),hd.dels[j].rev∈K.m2/\(0<j->hd.dels[j-1].rev<hd.dels[j].rev)) ?_ (λm hm=>?_)
 . refine Ab 0 [(3,.iptr [.ptr K.p 0]),(4,.iptr [AA el]),(11,.iptr [AA hd.ins,AA hd.move,Aa hd.dels,AQ hd.layers]),(75,Aa hd.dels),(76,AA hd.dels.length),(77,AA 0)] H n ?_ (λm hm=>?_)
   . simp[go_sem,Y0,hm]
   refine AR (BP 0 (α:=Nat) (λi=>[(3,.iptr [.ptr K.p 0]),(4,.iptr [AA el]),(11,.iptr [AA hd.ins,AA hd.move,Aa hd.dels,AQ hd.layers]),(75,Aa hd.dels),(76,AA hd.dels.length),(77,AA i)]) (λ_=>H) (λi m=>i<=hd.dels.length/\n<=m/\∀j (h:j<hd.dels.length),j<i->hd.dels[j].rev∈K.m2/\(0<j->hd.dels[j-1].rev<hd.dels[j].rev)) (λi=>hd.dels.length-i) 0 ⟨Y4 _,hm,λj _ h=>by omega⟩ ?_ AB ?_)
   . simp[go_sem,Aj,Y0]
   rintro i m ⟨hi2,hm,hI⟩
   by_cases hlt:i<hd.dels.length
   . obtain⟨x,hx⟩:∃x,hd.dels[i]=x:=⟨_,rfl⟩
     have w1:=wS i (by omega)
     refine Ab 0 [(3,.iptr [.ptr K.p 0]),(4,.iptr [AA el]),(11,.iptr [AA hd.ins,AA hd.move,Aa hd.dels,AQ hd.layers]),(75,Aa hd.dels),(76,AA hd.dels.length),(77,AA i),(78,.bool true)] H n ?_ (λm hm=>?_)
     . simp[go_sem,Y0,hm,hlt]
     refine Ab 0 [(3,.iptr [.ptr K.p 0]),(4,.iptr [AA el]),(11,.iptr [AA hd.ins,AA hd.move,Aa hd.dels,AQ hd.layers]),(75,Aa hd.dels),(76,AA hd.dels.length),(77,AA i)] H n ?_ (λm hm=>?_)
     . simp[go_sem,Y0,hm]
     refine CB 0 [(3,.iptr [.ptr K.p 0]),(4,.iptr [AA el]),(11,.iptr [AA hd.ins,AA hd.move,Aa hd.dels,AQ hd.layers]),(75,Aa hd.dels),(76,AA hd.dels.length),(77,AA i)] H (λm=>n<=m/\x.rev∈K.m2/\(0<i->hd.dels[i-1].rev<x.rev)) ?_ (λm hm=>?_)
     . refine AR ?_
       refine Ab 1 [(3,.iptr [.ptr K.p 0]),(4,.iptr [AA el]),(11,.iptr [AA hd.ins,AA hd.move,Aa hd.dels,AQ hd.layers]),(75,Aa hd.dels),(76,AA hd.dels.length),(77,AA i),(12,AA i),(13,.iptr [AA x.rev,AA x.move])] H n ?_ (λm hm=>?_)
       . simp[go_sem,Y0,hlt,hx,BO.enc,AC]
         have hHm:∀j y,H j=some y->j<m:=λj y e=>by have:=hHb j y e;omega
         exact⟨by omega,AT (Ac hHm (Y1 _)) (AC _ _ _),AK hHm (AK hHm AB)⟩
       refine AR ?_
       refine BG 0 (α:=Bx) (λb=>[(3,.iptr [.ptr K.p 0]),(4,.iptr [AA el]),(11,.iptr [AA hd.ins,AA hd.move,Aa hd.dels,AQ hd.layers]),(75,Aa hd.dels),(76,AA hd.dels.length),(77,AA i),(12,AA i),(13,.iptr [AA x.rev,AA x.move]),(82,.bool b.b)]) (λ_=>H) (λb m=>n<=m/\(b.b=false->x.rev∈K.m2)) ?_ (λb m hm=>?_)
       . by_cases hr:x.rev∈K.m2
         . obtain⟨j,f,_⟩:=DI 0 hr
           simp[go_sem,Y0,hp,h2,f,CJ,hm,hr]
           repeat first|refine nq ?_|refine sq ?_|refine aq ?_
           exact⟨⟨false⟩,rfl⟩
         . have f:=Dn 0 hr
           simp[go_sem,Y0,hp,h2,f,CJ,hm,hr]
           repeat first|refine nq ?_|refine sq ?_|refine aq ?_
           exact⟨⟨true⟩,by simp,rfl⟩
       obtain⟨b⟩:=b
       dsimp only at hm ⊢
       refine Ag (b:=b) (by simp[go_sem]) ?_
       cases b with
       | true=>exact AI (by simp[go_sem];exact no 22 _ (by decide))
       | false=>
       simp only[Y7,if_false]
       have hm1:=hm.2 rfl
       refine BG 0 (α:=Bx) (λb=>[(3,.iptr [.ptr K.p 0]),(4,.iptr [AA el]),(11,.iptr [AA hd.ins,AA hd.move,Aa hd.dels,AQ hd.layers]),(75,Aa hd.dels),(76,AA hd.dels.length),(77,AA i),(13,.iptr [AA x.rev,AA x.move]),(91,.bool b.b)]) (λ_=>H) (λb m=>n<=m/\(b.b=false->0<i->hd.dels[i-1].rev<x.rev)) ?_ (λb m hm=>?_)
       . by_cases i0:0<i
         . have hi1:i-1<hd.dels.length:=by omega
           obtain⟨y,hy⟩:∃y,hd.dels[i-1]=y:=⟨_,rfl⟩
           have w:IntKind.i64.wrap ((i:Int)-1)=((i-1:Nat):Int):=by rw[DR]<;>omega
           simp[go_sem,Y0,i0,w,hi1,hy,BO.enc,hm]
           repeat first|refine nq ?_|refine sq ?_|refine aq ?_
           exact⟨⟨decide (x.rev<=y.rev)⟩,λg=>by simpa using g,rfl⟩
         . simp[go_sem,Y0,i0,hm]
           repeat first|refine nq ?_|refine sq ?_|refine aq ?_
           exact⟨⟨_⟩,rfl⟩
       obtain⟨b⟩:=b
       dsimp only at hm ⊢
       refine Ag (b:=b) (by simp[go_sem]) ?_
       cases b with
       | true=>exact AI (by simp[go_sem];exact no 6 _ (by decide))
       | false=>
       simp only[Y7,if_false]
       have hm2:=hm.2 rfl
       have hm:=hm.1
       refine AI ?_
       simp[go_sem]
       refine(Ja _ _ _).use ?_
       by_cases c:0<=x.move/\x.move<=1073741824
       . simp[go_sem,Y0,c,hm,hm1];exact hm2
       . simp[go_sem,c];exact no 21 _ (by decide)
     . refine AI ?_
       simp[go_sem,w1,Y0,-Int.natCast_add]
       refine⟨i+1,by omega,⟨by omega,hm.1,λj h hj=>?_⟩,rfl⟩
       by_cases h3:j=i
       . subst h3;rw[hx];exact hm.2
       . exact hI j h (by omega)
   . have:i=hd.dels.length:=by omega
     subst this
     refine AI ?_
     simp[go_sem,Y0,hm]
     exact λj hj=>hI j hj hj
 obtain⟨hm,hdr⟩:=hm
 refine CB 0 [(3,.iptr [.ptr K.p 0]),(4,.iptr [AA el]),(11,.iptr [AA hd.ins,AA hd.move,Aa hd.dels,AQ hd.layers])] H (λm=>n<=m/\hd.layers.length<=64) (AI ?_) (λm hm=>?_)
 . by_cases c:(64:Int)<hd.layers.length
   . simp[go_sem,c];exact no 9 _ (by decide)
   . simp[go_sem,c,Y0,hm];omega
 obtain⟨hm,hll⟩:=hm
 refine AI ?_
 simp[go_sem]
 have hd150:=d150 hK hd.layers.length (by omega) 158 [] [.iptr [.ptr K.p 0],.iptr [AA el],.iptr [AA hd.ins,AA hd.move,Aa hd.dels,AQ hd.layers]] (λi s'=>s'=s/\∀j (h:j<hd.layers.length),j<i->hd.layers[j].rev∈K.m2) (λi s' H2 n2 hi hI hn2 hs2=>by
  obtain⟨he,hI⟩:=hI
  refine(d158 hK s' el hd.ins hd.move (Aa hd.dels) hd.layers (by omega) i hi hn2 hs2).mono ?_
  rintro v h' n' ⟨e,s2,rfl,⟨he2,hT⟩,rfl,rfl⟩
  refine⟨e,s2,rfl,λe0=>⟨by rw[he2,he],λj h hj=>?_⟩,rfl,rfl⟩
  by_cases h3:j=i
  . subst h3;exact hT e0
  . exact hI j h (by omega)) s ⟨rfl,λj _ h=>by omega⟩ (H:=H) (n:=m) (by omega) hs
 refine Ys hd150 ?_
 rintro v H' n' ⟨e,s2,rfl,hT,rfl,rfl⟩
 simp[go_sem]
 by_cases e0:e=0
 . obtain⟨he,hT2⟩:=hT e0
   exact hK.ret hn ho e s2 (λ_=>⟨he,⟨hi,hdl,λx hx=>by obtain⟨j,hj,rfl⟩:=ZA hx;exact(hdr j hj).1,hll,λx hx=>by obtain⟨j,hj,rfl⟩:=ZA hx;exact hT2 j hj hj⟩,λj hj h0=>(hdr j hj).2 h0⟩) AB
 . exact hK.ret hn ho e s2 (λg=>absurd g e0) AB
end
def ES:Nat->List AE->List Int
 | 0,_=>[]
 | N+1,l=>l.flatMap λx=>if x.kind=6 then x.id::ES N x.flow else if x.kind=7 then x.id::x.rows.flatMap λr=>r.cells.flatMap λc=>c.id::ES N c.flow else[]
def KP (N:Nat) (r:AW):List Int:=r.cells.flatMap λc=>c.id::ES N c.flow
def EQ (N:Nat) (x:AE):List Int:=if x.kind=6 then x.id::ES N x.flow else if x.kind=7 then x.id::x.rows.flatMap (KP N)else[]
theorem F8 (N:Nat) (l:List AE):ES (N+1) l=l.flatMap (EQ N):=rfl
def Pd (m2:List Int):Nat->List AE->Prop
 | 0,_=>True
 | N+1,l=>∀x∈l,Jh x/\Ce m2 x.head/\Pd m2 N x.flow/\(x.kind=7->x.rows≠[])/\∀r∈x.rows,(Ce m2 r.head/\r.cells≠[])/\∀c∈r.cells,Ce m2 c.head/\Pd m2 N c.flow
def okr (m2:List Int) (N:Nat) (r:AW):Prop:=(Ce m2 r.head/\r.cells≠[])/\∀c∈r.cells,Ce m2 c.head/\Pd m2 N c.flow
def oki (m2:List Int) (N:Nat) (x:AE):Prop:=Jh x/\Ce m2 x.head/\Pd m2 N x.flow/\(x.kind=7->x.rows≠[])/\∀r∈x.rows,okr m2 N r
theorem QM (m2:List Int) (N:Nat):Pd m2 N []:=by cases N<;>simp[Pd]
def more (s s':FY) (ids:List Int):Prop:=s'.1=s.1++ids/\(∀i∈ids,1<=i/\i<=1073741824)/\(s.1.Nodup->s'.1.Nodup)
theorem more.nil {s s':FY} (h:s'.1=s.1):more s s' []:=⟨by simp[h],by simp,by rw[h];exact id⟩
theorem more.trans {s s1 s2:FY} {a b:List Int} (h:more s s1 a) (g:more s1 s2 b):more s s2 (a++b):=
 ⟨by rw[g.1,h.1,Ye],λi hi=>by rcases Y8.1 hi with hi|hi;exact h.2.1 i hi;exact g.2.1 i hi,λn=>g.2.2 (h.2.2 n)⟩
theorem more.one {s s':FY} {id:Int} (h:s'=(s.1++[id],s.2)) (h1:1<=id/\id<=1073741824) (h2:id∉s.1):more s s' [id]:=
 ⟨by rw[h],by simpa using h1,λn=>by rw[h];simp only;rw[List.nodup_append];exact⟨n,by simp,by rintro a ha b hb;rw[Yk.1 hb];rintro rfl;exact h2 ha⟩⟩
def LM (s:FY) (ids:List Int) (P:Prop) (e:Int) (s':FY):Prop:=e=0->more s s' ids/\P
def trP:Tr:=.pure 0<|.pure 1<|.pure 2<|.pure 3<|.pure 4<|.pure 5<|.one 6<|.one 7 .nil
section
variable {K : Ck} {n0 : Nat}
def RO (K:Ck) (n0:Nat) (N:Nat) (x:AE):Prop:=∀(s:FY) (pl:Bb) (H:Hp) (n:Nat),n0<=n->(∀o y,K.st s o=some y->H o=some y)->
 BM Tryz.prog 161 [.ptr K.p 0,x.enc,pl.enc] H n (CQ K (LM s (EQ N x) (oki K.m2 N x)) H n)
def ND (K:Ck) (n0:Nat) (N:Nat) (l:List AE):Prop:=∀(s:FY) (pl:Bb) (H:Hp) (n:Nat),n0<=n->(∀o y,K.st s o=some y->H o=some y)->
 BM Tryz.prog 88 [.ptr K.p 0,AG l,pl.enc] H n (CQ K (LM s (ES N l) (Pd K.m2 N l)) H n)
theorem d160 (hK:K.ok n0) (N:Nat) (l:List AE) (i:Nat) (hi:i<l.length) (h:RO K n0 N l[i]) (s:FY) (pl:Bb) {H:Hp} {n:Nat} (hn:n0<=n) (hs:∀o y,K.st s o=some y->H o=some y):
 BM Tryz.prog 160 [AA i,.iptr [.ptr K.p 0],.iptr [AG l],.iptr [.bool pl.body,.bool pl.note,AA pl.tables]] H n (CQ K (LM s (EQ N l[i]) (oki K.m2 N l[i])) H n):=by
 refine Dg Tryz.func160 rfl λho=>?_
 obtain⟨x,hx⟩:∃x,l[i]=x:=⟨_,rfl⟩
 rw[hx]at h ⊢
 have hgx:(l.map AE.enc)[i]? = some x.enc:=by simp[hi,hx]
 have D:=hK.clo
 refine Ab 0 [(0,AA i),(1,.iptr [.ptr K.p 0]),(2,.iptr [AG l]),(3,.iptr [.bool pl.body,.bool pl.note,AA pl.tables])] H n ?_ (λm hm=>?_)
 . simp[go_sem,Y0]
 refine AV 0 (α:=Int×FY) (λq=>[(5,AA q.1)]) (λq=>Ai K.st q.2 H) (λq m=>n<=m/\LM s (EQ N x) (oki K.m2 N x) q.1 q.2) (B7 trP rfl (by kernel_rfl) (by kernel_rfl) ?_) (λq m hm=>?_)
 . have hc:=h s pl H m (by omega) hs
   simp only[Yh,Bb.enc]at hc
   simp[go_sem,trP,hi,hx,Yh]
   refine Ys hc ?_
   rintro v H' n' ⟨e,s2,rfl,hT,rfl,rfl⟩
   simp[go_sem]
   exact⟨e,s2.1,s2.2,⟨by omega,hT⟩,Y0,AB⟩
 . refine AI ?_
   simp[go_sem]
   exact hK.ret hn ho q.1 q.2 hm.2 AB
theorem HQ {α β:Type} (f:α->List β) (l:List α) (i:Nat) (h:i<l.length):(l.take (i+1)).flatMap f=(l.take i).flatMap f++f l[i]:=by
 rw[Y2 h,Z7];simp
theorem d88 (hK:K.ok n0) (N:Nat) (l:List AE) (hl:l.length<=1048576) (h:∀x∈l,RO K n0 N x):ND K n0 (N+1) l:=λs pl H n hn hs=>by
 refine Dg Tryz.func88 rfl λho=>?_
 have hHb:=ho.lt
 refine Ab 1 [(3,.iptr [.ptr K.p 0]),(4,.iptr [AG l]),(5,.iptr [.bool pl.body,.bool pl.note,AA pl.tables])] H n ?_ (λm hm=>?_)
 . simp[go_sem,Bb.enc,Yn]
   refine⟨⟨AT (Ac hHb (by omega)) (by simp[hset]),AT (Ac hHb (by omega)) (by simp[hset]),AT (Ac hHb (by omega)) (by simp[hset])⟩,λj y=>?_⟩
   have:=hHb j y;simp only[hset];grind
 have hd:=d150 hK l.length hl 160 [] [.iptr [.ptr K.p 0],.iptr [AG l],.iptr [.bool pl.body,.bool pl.note,AA pl.tables]] (λi s'=>more s s' ((l.take i).flatMap (EQ N))/\∀x∈l.take i,oki K.m2 N x) (λi s' H2 n2 hi hI hn2 hs2=>by
  refine(d160 hK N l i hi (h _ (Yc hi)) s' pl hn2 hs2).mono ?_
  rintro v h' n' ⟨e,s2,rfl,hT,rfl,rfl⟩
  refine⟨e,s2,rfl,λe0=>?_,rfl,rfl⟩
  obtain⟨h1,h2⟩:=hT e0
  rw[HQ _ _ _ hi]
  refine⟨hI.1.trans h1,λx hx=>?_⟩
  rw[Y2 hi]at hx
  exact Ek hI.2 h2 x hx) s ⟨more.nil rfl,by simp⟩ (H:=H) (n:=m) (by omega) hs
 refine AI ?_
 simp[go_sem]
 refine Ys hd ?_
 rintro v H' n' ⟨e,s2,rfl,hT,rfl,rfl⟩
 simp[go_sem]
 refine hK.ret hn ho e s2 (λe0=>?_) AB
 have:=hT e0
 rw[Ya]at this
 exact⟨by rw[F8];exact this.1,this.2⟩
end
section
variable {K : Ck} {n0 : Nat}
theorem Ck.ok.up_cnt (_hK:K.ok n0) (s:FY) (c:Int) {H:Hp} (hs:∀o y,K.st s o=some y->H o=some y):Ai K.st (s.1,c) H=hset H K.p (some (.cells (K.cells c))):=by
 funext o
 have g:=hs o
 simp only[Ai,Ck.st,hset]at g ⊢
 by_cases q0:o=K.p
 . simp[q0]
 . simp only[q0,if_false]at g ⊢
   split
   . rename_i y hy;exact(g y hy).symm
   . rfl
def Tq (K:Ck) (n0:Nat) (N:Nat) (l:List AW):Prop:=∀(s:FY) (pl:Bb) (H:Hp) (n:Nat),n0<=n->(∀o y,K.st s o=some y->H o=some y)->
 BM Tryz.prog 224 [.ptr K.p 0,Av l,pl.enc] H n (CQ K (LM s (l.flatMap (KP N)) (l≠[]/\∀r∈l,okr K.m2 N r)) H n)
def Dq (x:AE):List Int:=if x.kind=6\/x.kind=7 then[x.id]else[]
set_option maxHeartbeats 4000000 in
theorem d161 (hK:K.ok n0) (N:Nat) (x:AE) (hx:x.sized) (hfl:ND K n0 N x.flow) (hrw:Tq K n0 N x.rows):RO K n0 N x:=λs pl H n hn hs=>by
 refine Dg Tryz.func161 rfl λho=>?_
 have D:=hK.clo
 have hKp:K.p<n:=by have:=hK.lt K.p (by simp);omega
 have hU:∀s',E4 (Ai K.st s' H) n:=λs'=>D.old s' hn ho
 have hUb:∀s' j y,Ai K.st s' H j=some y->j<n:=λs' j y e=>(hU s' j y e).1
 have hps:∀s',Ai K.st s' H K.p=some (.cells [.map K.s0,.map K.s1,.map K.s2,.map K.s3,.map K.s4,AA s'.2]):=λs'=>(hK.has (s:=s') Bq).p
 have hcnt:∀(q:FY) b,hset (Ai K.st q H) K.p (some (.cells [.map K.s0,.map K.s1,.map K.s2,.map K.s3,.map K.s4,AA b]))=Ai K.st (q.1,b) H:=λq b=>by rw[<-D.up2 q (q.1,b) H,hK.up_cnt q b Bq];rfl
 have no:∀(e:Int) (s':FY) (m:Nat),e≠0->Bz n (Ai K.st s' H) m (AA e) (CQ K (LM s (EQ N x) (oki K.m2 N x)) H n):=λe s' m he=>hK.ret hn ho e s' (λg=>absurd g he) AB
 obtain⟨X,hX⟩:∃X:SV,X=.iptr [AA x.kind,AA x.code,AA x.id,.str x.text,Af x.head.props,AA x.head.ins,AA x.head.move,Aa x.head.dels,AQ x.head.layers,AG x.flow,Av x.rows]:=⟨_,rfl⟩
 obtain⟨Y,hY⟩:∃Y:SV,Y=.iptr [.bool pl.body,.bool pl.note,AA pl.tables]:=⟨_,rfl⟩
 refine Ab 1 [(0,.ptr K.p 0),(4,X),(5,Y)] (Ai K.st s H) n ?_ (λm hm=>?_)
 . rw[DP s H hs,hX,hY]
   have hHb:=ho.lt
   simp[go_sem,Y0,Bb.enc,Yh]
   refine⟨by omega,⟨AT (Ac hHb (by omega)) (by simp[hset]),AT (Ac hHb (by omega)) (by simp[hset])⟩,λj y=>?_⟩
   have:=hHb j y;simp only[hset];grind
 refine CB 0 [(0,.ptr K.p 0),(4,X),(5,Y)] (Ai K.st s H) (λm=>n<=m/\Jh x) (AI ?_) (λm hm=>?_)
 . rw[hX]
   simp[go_sem]
   refine TC.use (by simpa[Yh]using t222 x hx) ?_
   rintro v ⟨e,rfl,hT⟩
   by_cases e0:e=0
   . simp[go_sem,e0,Y0,hm,hT e0]
   . simp[go_sem,e0];exact no e s _ e0
 obtain⟨hm,hform⟩:=hm
 refine BG 0 (α:=Int) (λ_=>[(0,.ptr K.p 0),(4,X),(5,Y)]) (λc=>Ai K.st (s.1,c) H) (λ_ m=>n<=m) ?_ (λc m hm=>?_)
 . simp[go_sem,hps,Y0,hm]
   refine⟨IntKind.i64.wrap (s.2+1),?_⟩
   rw[DP s H hs,hK.up_cnt s _ hs]
   exact AB
 refine AV 0 (α:=FY) (λ_=>[(0,.ptr K.p 0),(4,X),(5,Y)]) (λq=>Ai K.st q H) (λq m=>n<=m/\more s q (Dq x)) ?_ (λq m hm=>?_)
 . refine Ab 0 [(0,.ptr K.p 0),(4,X),(5,Y),(27,AA x.kind)] (Ai K.st (s.1,c) H) n ?_ (λm hm=>?_)
   . rw[hX];simp[go_sem,Y0,hm]
   refine AR (AI ?_)
   by_cases k1:x.kind=1
   . have ow:Dq x=[]:=by simp[Dq,k1]
     rw[ow,hX]
     simp[go_sem,k1]
     refine(c177 x.text (by have:=(Dt hx).2.1;omega)).use ?_
     simp[go_sem,hps,Y0]
     rw[hcnt]
     refine⟨s.1,_,⟨hm,?_⟩,AB⟩
     exact more.nil rfl
   . by_cases k3:x.kind=3
     . have ow:Dq x=[]:=by simp[Dq,k3]
       rw[ow,hX,hY]
       cases hb:pl.body with
       | true=>
        simp[go_sem,k3,Y0]
        refine⟨s.1,_,⟨hm,?_⟩,AB⟩
        exact more.nil rfl
       | false=>
        simp[go_sem,k3]
        exact no 19 _ _ (by decide)
     . by_cases k6:x.kind=6
       . have ow:Dq x=[x.id]:=by simp[Dq,k6]
         rw[ow,hX,hY]
         simp[go_sem,k6]
         refine(I0 _ _).use ?_
         simp[go_sem]
         refine Xg (bs:=[.imm 1 ([if pl.note then(19:Int)else 0].map AA) false]) (h2:=Ai K.st (s.1,c) H) 1 (AK (λj z e=>by have:=hUb _ j z e;omega) AB) ⟨?_,trivial⟩ ?_
         . exact Dj (es:=[AA (if pl.note then(19:Int)else 0)]) (Ac (hUb _) hm) (by simp) (by rw[AC];simp[SV.cells]) (by simp[SV.storable,SV.cells])
         refine(PF _ (by simp)).use ?_
         cases hb:pl.note with
         | true=>simp[go_sem,Bu];exact no 19 _ _ (by decide)
         | false=>
         simp[go_sem,Bu]
         refine Ys (UX hK (s.1,c) x.id (by omega) Bq) ?_
         rintro v H' n' ⟨e,s2,rfl,hT,rfl,rfl⟩
         rw[D.up2]
         by_cases e0:e=0
         . obtain⟨h1,h2,h3,h4⟩:=hT e0
           simp[go_sem,e0,Y0]
           exact⟨s2.1,s2.2,⟨by omega,more.one (s:=s) (s':=(s2.1,s.2)) (by rw[h1]) ⟨h2,h3⟩ h4⟩,AB⟩
         . simp[go_sem,e0]
           exact no e _ _ e0
       . by_cases k7:x.kind=7
         . have ow:Dq x=[x.id]:=by simp[Dq,k7]
           rw[ow,hX,hY]
           by_cases tb:4<=pl.tables
           . simp[go_sem,k7,tb];exact no 17 _ _ (by decide)
           simp[go_sem,k7,tb]
           refine Ys (UX hK (s.1,c) x.id (by omega) Bq) ?_
           rintro v H' n' ⟨e,s2,rfl,hT,rfl,rfl⟩
           rw[D.up2]
           by_cases e0:e=0
           . obtain⟨h1,h2,h3,h4⟩:=hT e0
             simp[go_sem,e0,Y0]
             exact⟨s2.1,s2.2,⟨by omega,more.one (s:=s) (s':=(s2.1,s.2)) (by rw[h1]) ⟨h2,h3⟩ h4⟩,AB⟩
           . simp[go_sem,e0]
             exact no e _ _ e0
         . have ow:Dq x=[]:=by simp[Dq,k6,k7]
           rw[ow,hX,hY]
           by_cases k8:x.kind=8
           . simp[go_sem,k8]
             refine(Ja _ _ _).use ?_
             by_cases c8:1<=x.id/\x.id<=1073741824
             . simp[go_sem,c8,Y0]
               refine⟨s.1,_,⟨hm,?_⟩,AB⟩
               exact more.nil rfl
             . simp[go_sem,c8]
               exact no 18 _ _ (by decide)
           . simp[go_sem,k1,k3,k6,k7,k8,Y0]
             refine⟨s.1,_,⟨hm,?_⟩,AB⟩
             exact more.nil rfl
 obtain⟨hm,hmo⟩:=hm
 refine CB 0 [(0,.ptr K.p 0),(4,X),(5,Y)] (Ai K.st q H) (λm=>n<=m/\Ce K.m2 x.head) (AI ?_) (λm hm=>?_)
 . rw[hX]
   simp[go_sem]
   refine Ys (by simpa[AF.enc,AF.flat]using d86 hK q x.kind x.head (Dt hx).1 (n:=m) (by omega) Bq) ?_
   rintro v H' n' ⟨e,s2,rfl,hT,rfl,rfl⟩
   rw[D.up2]
   by_cases e0:e=0
   . obtain⟨h1,h2⟩:=hT e0
     simp[go_sem,e0,Y0,h1,hm,h2]
   . simp[go_sem,e0];exact no e _ _ e0
 obtain⟨hm,hh⟩:=hm
 refine CB 0 [] (Ai K.st q H) (λm=>x.kind≠6/\x.kind≠7) (AI ?_) (λm hk=>?_)
 . rw[hX,hY]
   by_cases k6:x.kind=6
   . simp[go_sem,k6]
     refine Ys (by simpa[Bb.enc]using hfl q ⟨false,true,pl.tables⟩ (Ai K.st q H) m (by omega) Bq) ?_
     rintro v H' n' ⟨e,s2,rfl,hT,rfl,rfl⟩
     rw[D.up2]
     simp[go_sem]
     refine hK.ret hn ho e s2 (λe0=>?_) AB
     obtain⟨h1,h2⟩:=hT e0
     have h3:=hmo.trans h1
     have e1:Dq x++ES N x.flow=EQ N x:=by simp[Dq,EQ,k6]
     rw[e1]at h3
     exact⟨h3,hform,hh,h2,λh=>absurd h (by omega),by rw[hform.2.1 (by omega)];simp⟩
   . by_cases k7:x.kind=7
     . simp[go_sem,k7]
       refine Ys (by simpa[Bb.enc]using hrw q ⟨false,pl.note,IntKind.i64.wrap (pl.tables+1)⟩ (Ai K.st q H) m (by omega) Bq) ?_
       rintro v H' n' ⟨e,s2,rfl,hT,rfl,rfl⟩
       rw[D.up2]
       simp[go_sem]
       refine hK.ret hn ho e s2 (λe0=>?_) AB
       obtain⟨h1,h2⟩:=hT e0
       have h3:=hmo.trans h1
       have e1:Dq x++x.rows.flatMap (KP N)=EQ N x:=by simp[Dq,EQ,k7]
       rw[e1]at h3
       exact⟨h3,hform,hh,by rw[hform.1 (by omega)];exact QM _ _,λ_=>h2.1,h2.2⟩
     . simp[go_sem,k6,k7]
 . refine AI ?_
   simp[go_sem]
   refine hK.ret hn ho 0 q (λ_=>?_) AB
   have e1:Dq x=EQ N x:=by simp[Dq,EQ,hk.1,hk.2]
   rw[e1]at hmo
   exact⟨hmo,hform,hh,by rw[hform.1 hk.1];exact QM _ _,λh=>absurd h hk.2,by rw[hform.2.1 hk.2];simp⟩
end
end Go.Proofs.YtgakninlhfkkmaaGreat.Sh
