/- A part of the proof (part 8 of 15). -/
import Derived.Test.YtgakninlhfkkmaaGreatM7
namespace Go.Proofs.YtgakninlhfkkmaaGreat.Sh
open Proofs
set_option maxRecDepth 10000
theorem AE.setText_sized {y:AE} (h:y.sized) (a b:Nat):(y.setText (y.text.extract a b)).sized:=by
 cases y with
 | mk k c i t hd f r=>
  simp only[AE.setText,AE.sized,AE.text,AE.kind,AE.code,AE.id,AE.head,AE.flow,AE.rows]at h ⊢
  refine⟨?_,h.2⟩
  have:=h.1
  simp;omega
theorem Ly (cu:Int) (s:List AE×List AE) (p:Int×AE) (hp:p.2.sized) (h1:∀x∈s.1,x.sized) (h2:∀x∈s.2,x.sized):(∀x∈(CN cu s p).1,x.sized)/\∀x∈(CN cu s p).2,x.sized:=by
 unfold CN
 split
 . refine⟨λx hx=>?_,h2⟩
   rcases Y8.1 hx with hx|hx
   . exact h1 x hx
   . rw[Yk.1 hx];exact hp
 . split
   . refine⟨h1,λx hx=>?_⟩
     rcases Y8.1 hx with hx|hx
     . exact h2 x hx
     . rw[Yk.1 hx];exact hp
   . refine⟨λx hx=>?_,λx hx=>?_⟩
     . rcases Y8.1 hx with hx|hx
       . exact h1 x hx
       . rw[Yk.1 hx];exact AE.setText_sized hp _ _
     . rcases Y8.1 hx with hx|hx
       . exact h2 x hx
       . rw[Yk.1 hx];exact AE.setText_sized hp _ _
theorem Id (l:List AE) (cu:Int) (hs:∀x∈l,x.sized):∀k,k<=l.length->(∀x∈(Cq l cu k).1,x.sized)/\∀x∈(Cq l cu k).2,x.sized
 | 0,_=>by simp[Cq]
 | k+1,h=>by
  rw[F3 l cu k h]
  have h2:=Id l cu hs k (by omega)
  exact Ly _ _ _ (hs _ (Yc _)) h2.1 h2.2
theorem HW (l:List AE) (cu:Int) (hs:AE.sizedL l):AE.sizedL (BS l cu).1/\AE.sizedL (BS l cu).2:=
 ⟨Xn (Id l cu (Zu hs) _ (Y1 _)).1,Xn (Id l cu (Zu hs) _ (Y1 _)).2⟩
theorem EJ (l:List AE) (cu:Int):(BS l cu).1.length<=l.length/\(BS l cu).2.length<=l.length:=K1 l cu _ (Y1 _)
theorem AE.sizedL_text {l:List AE} (h:AE.sizedL l):∀x∈l,x.text.size<=1048576:=λx hx=>by
 have:=Zu h x hx
 cases x;simp only[AE.sized,AE.text]at this ⊢;exact this.1
def AU (l:List AE) (a b:Int):List AE×Int:=if EI l a b=0 then(An (BS (BS l b).1 a).2,0)else([],EI l a b)
theorem QZ (l:List AE) (a b:Int) (hl:l.length<=1048576) (hs:AE.sizedL l):PC 180 [AG l,AA a,AA b] (.tup [AG (AU l a b).1,AA (AU l a b).2]):=by
 intro h n
 refine gq Tryz.func180 rfl λho=>?_
 simp[go_sem]
 refine(c250 l a b hl (AE.sizedL_text hs)).use ?_
 by_cases hc:EI l a b=0
 . have s1:=(HW l b hs).1
   have l1:=(EJ l b).1
   have s2:=(HW _ a s1).2
   have l2:=(EJ (BS l b).1 a).2
   simp[go_sem,hc]
   refine(c251 l b hl (AE.sizedL_text hs)).use ?_
   simp[go_sem]
   refine(c251 _ a (by omega) (AE.sizedL_text s1)).use ?_
   simp[go_sem]
   refine(c73 _ (by omega) s2).use ?_
   simp[go_sem]
   refine A3 ho (by simp[closed,closedL,AE.E.closedL]) ?_
   simp[AU,hc]
 . simp[go_sem,hc]
   have e:AU l a b=([],EI l a b):=by simp[AU,hc]
   rw[e]
   exact Dh 2 ho AB (.inr ⟨A9 (by simp),Y0,trivial⟩) (by simp[closed,closedL])
def AF.revs (h:AF):List Int:=(if h.ins=0 then[]else[h.ins])++h.dels.map (·.rev)++h.layers.map (·.rev)
def AF.revsK (h:AF) (i j:Nat):List Int:=(if h.ins=0 then[]else[h.ins])++(h.dels.take i).map (·.rev)++(h.layers.take j).map (·.rev)
theorem AF.revsK_len (h:AF) (i j:Nat) (hi:i<=h.dels.length) (hj:j<=h.layers.length):(h.revsK i j).length<=1+i+j:=by
 unfold AF.revsK
 split<;>simp<;>omega
theorem Kd {H:Hp} {n m k p:Nat} {es:List Int} {x:Int} {o:Option Nat} (hA:A7 n m 1 o (es.map AA)) (hl:es.length<=1073741823) (h1:H k=some (.cells [AA x])) (h2:∀j,o=some j->H j=some (.cells (es.map AA))):
 AS Tryz.prog H p .append [61,61] [AN 1 o (es.map AA),.sl k 0 1 1 true]=some { val:=.sl p 0 1 (es.length+1) false,upd:=o.map λj=>(j,none),new:=some (.cells (es.map AA++[AA x])) }:=by
 have:=FU (P:=Tryz.prog) (H:=H) (t:=61) (t2:=61) (el:=3) (by simp[go_sem]) (by simp[go_sem]) (by simp[go_sem]) (by simp) (by simp[go_sem]) (by simp[go_sem]) (by simp[go_sem]) (by simp;omega) hA (e:=AA x) rfl h1 (λj e=>by rw[h2 j e,Do]) p
 rw[this,Do];simp[SV.cells]
theorem Iy (o:Option Nat) (l:List Int) (h:Hp):AO o (l.map AA) h=match o with|none=>h|some j=>hset h j (some (.cells (l.map AA))):=by
 cases o<;>simp[AO,Do]
theorem c114 (hd:AF) (hs:hd.sized) (hrl:hd.revs.length<=1048576):PC 114 [hd.enc] (.imm 1 ((C6 (CX hd.revs)).map AA) false):=by
 intro h n
 refine Dg Tryz.func114 rfl λho=>?_
 have hn0:=ho.none (Y1 n)
 refine BV 2 [(1,.iptr hd.flat)] h (λm=>m=n+1) ?_ (λm hm=>?_)
 . simp[go_sem,AF.enc]
   exact⟨AT hn0 (by simp[AC]),AP ho (Y1 _) AB⟩
 subst hm
 refine BG 1 (α:=Unit) (λ_=>[(1,.iptr hd.flat),(3,AN 1 none [])]) (λ_=>h) (λ_ m=>m=n+1) (by simp[go_sem,AN]) (λ_ m hm=>?_)
 subst hm
 refine BG 1 (α:=Option Nat) (λo=>[(1,.iptr hd.flat),(3,AN 1 o ((hd.revsK 0 0).map AA))]) (λo=>AO o ((hd.revsK 0 0).map AA) h) (λo m=>n<m/\A7 (n+1) m 1 o ((hd.revsK 0 0).map AA)) ?_ (λo m hm=>?_)
 . by_cases e:hd.ins=0
   . simp[go_sem,AF.flat,e,AF.revsK]
     exact⟨none,Zs _ _ _,Y0,AB⟩
   . have hap:=λ(H:Hp) (k p:Nat) (h1:H k=some (.cells [AA hd.ins]))=>Kd (H:=H) (k:=k) (p:=p) (es:=[]) (x:=hd.ins) (Zs 0 0 1) (by simp) h1 (by simp)
     simp only[YF,Zh,Zy,Yt]at hap
     simp[go_sem,AF.flat,e,AF.revsK]
     rw[hap _ _ _ (by simp[AC])]
     simp[go_sem]
     refine⟨some (n+1+1),?_,?_,?_⟩
     . exact(Zs (n+1) (n+1) 1).push (e:=AA hd.ins) rfl rfl (by omega) (by omega)
     . simp[AN,Y0]
     . intro j y;have:=ho j y;simp only[AO,hset,SV.cells,YC,Zo,Zi];grind
 obtain⟨hnm,hA⟩:=hm
 refine AI ?_
 simp[go_sem,AF.flat]
 refine Am 1 (α:=Nat×Option Nat) (λq=>[(1,.iptr hd.flat),(3,AN 1 q.2 ((hd.revsK q.1 0).map AA)),(20,Aa hd.dels),(21,AA hd.dels.length),(22,AA q.1)]) (λq=>AO q.2 ((hd.revsK q.1 0).map AA) h)
  (λq m=>q.1<=hd.dels.length/\n<m/\A7 (n+1) m 1 q.2 ((hd.revsK q.1 0).map AA)) (λq=>hd.dels.length-q.1) (0,o) ?_ ?_ AB ?_
 . exact⟨Y4 _,hnm,hA⟩
 . simp[Aj,AF.flat]
 clear hA hnm
 rintro⟨i,o⟩ m ⟨hi,hnm,hA⟩
 dsimp only at hi hA ⊢
 have hsd:=hs.dels
 have hsl:=hs.layers
 have hlen:=hd.revsK_len i 0 hi (Y4 _)
 have hon:∀j,o=some j->n<j/\j<m:=λj e=>by have:=hA.lt j e;omega
 by_cases hlt:i<hd.dels.length
 . have w1:=wS i (by omega)
   obtain⟨x,hx⟩:∃x,hd.dels[i]=x:=⟨_,rfl⟩
   have hsn:hd.revsK (i+1) 0=hd.revsK i 0++[x.rev]:=by
    unfold AF.revsK
    rw[Y2 hlt,hx];simp
   simp[go_sem,hlt,hx,BO.enc,AC,AY,AF.flat]
   rw[Kd (x:=x.rev) hA (by omega) (by simp[AC]) (by
    intro j e
    have:=hon j e
    subst e
    simp only[Iy,hset]
    grind)]
   simp[go_sem,w1,-Int.natCast_add]
   refine⟨i+1,by omega,some (m+1+1),⟨by omega,by omega,?_⟩,⟨?_,Y0⟩,?_⟩
   . rw[hsn,Y3];exact hA.push rfl rfl (by omega) (by omega)
   . rw[hsn];simp[AN,Y0]
   . rw[hsn];intro j y;have:=ho j y;have:=hon j
     simp only[Iy];simp only[hset,Y3,Yf,YF]
     cases o<;>simp only[Zy,YN,hset]<;>grind
 . have:i=hd.dels.length:=by omega
   subst this
   simp[go_sem,AF.flat]
   refine Am 1 (α:=Nat×Option Nat) (λq=>[(1,.iptr hd.flat),(3,AN 1 q.2 ((hd.revsK hd.dels.length q.1).map AA)),(34,AQ hd.layers),(35,AA hd.layers.length),(36,AA q.1)]) (λq=>AO q.2 ((hd.revsK hd.dels.length q.1).map AA) h)
    (λq m=>q.1<=hd.layers.length/\n<m/\A7 (n+1) m 1 q.2 ((hd.revsK hd.dels.length q.1).map AA)) (λq=>hd.layers.length-q.1) (0,o) ?_ ?_ AB ?_
   . exact⟨Y4 _,hnm,hA⟩
   . simp[Aj,AF.flat]
   clear hA hnm hlen hon
   rintro⟨i,o⟩ m ⟨hi,hnm,hA⟩
   dsimp only at hi hA ⊢
   have hlen:=hd.revsK_len hd.dels.length i (Y1 _) hi
   have hon:∀j,o=some j->n<j/\j<m:=λj e=>by have:=hA.lt j e;omega
   by_cases hlt:i<hd.layers.length
   . have w1:=wS i (by omega)
     obtain⟨x,hx⟩:∃x,hd.layers[i]=x:=⟨_,rfl⟩
     have hsn:hd.revsK hd.dels.length (i+1)=hd.revsK hd.dels.length i++[x.rev]:=by
      unfold AF.revsK
      rw[Y2 hlt,hx];simp
     simp[go_sem,hlt,hx,Ax.enc,AC,AY,AF.flat]
     rw[Kd (x:=x.rev) hA (by omega) (by simp[AC]) (by
      intro j e
      have:=hon j e
      subst e
      simp only[Iy,hset]
      grind)]
     simp[go_sem,w1,-Int.natCast_add]
     refine⟨i+1,by omega,some (m+1+1),⟨by omega,by omega,?_⟩,⟨?_,Y0⟩,?_⟩
     . rw[hsn,Y3];exact hA.push rfl rfl (by omega) (by omega)
     . rw[hsn];simp[AN,Y0]
     . rw[hsn];intro j y;have:=ho j y;have:=hon j
       simp only[Iy];simp only[hset,Y3,Yf,YF]
       cases o<;>simp only[Zy,YN,hset]<;>grind
   . have:i=hd.layers.length:=by omega
     subst this
     have hR:hd.revsK hd.dels.length hd.layers.length=hd.revs:=by simp[AF.revsK,AF.revs]
     rw[hR]at hA hlen ⊢
     cases o with
     | none=>
      have he:=hA.none rfl
      simp only[List.map_eq_nil_iff]at he
      simp[go_sem,AF.flat,AN,AO]
      refine Xg (bs:=[.imm 1 [.imm 1 (hd.revs.map AA) false] false]) (h2:=h) 2 (AP ho (by omega) AB) ⟨?_,trivial⟩ ((c179 hd.revs hrl).use ?_)
      . rw[he]
        refine .inr ⟨ho.none (show n<=m by omega),by simp,rfl,rfl,[.imm 0 [] true],[.imm 0 [] true],AC _ _ _,by simp[Bk],by simp[SV.storable,SV.cells],?_⟩
        exact⟨A9 (by simp),trivial⟩
      . simp[go_sem]
        exact A3 ho (by simp[closed,GI.closedL]) rfl
     | some q=>
      have hq:=hon q rfl
      simp[go_sem,AF.flat,AN]
      refine Xg (bs:=[.imm 1 [.imm 1 (hd.revs.map AA) false] false]) (h2:=h) 2 (by intro j y;have:=ho j y;simp only[AO,hset];grind) ⟨?_,trivial⟩ ((c179 hd.revs hrl).use ?_)
      . refine .inr ⟨ho.none (show n<=m by omega),by simp,rfl,rfl,_,_,AC _ _ _,by simp[Bk];rfl,by simp[SV.storable,SV.cells],?_⟩
        refine⟨?_,trivial⟩
        have:=Dj (h':=hset (AO (some q) (hd.revs.map AA) h) m (some (.cells [.sl q 0 1 hd.revs.length false]))) (h:=h) (k:=0) (z:=1) (o:=q) (es:=hd.revs.map AA) (full:=false) (full':=false) (ho.none (by omega)) (by simp) (by rw[AD _ _ (by omega)];simp[AO,hset]) (GI.size _)
        simpa using this
      . simp[go_sem]
        exact A3 ho (by simp[closed,GI.closedL]) rfl
theorem Qk (l:List Int) (x:Int):x∈C6 l↔x∈l:=(List.mergeSort_perm l _).mem_iff
theorem NM (l:List Int):(CX l).length<=l.length:=by have:=IA l l.length (Y1 _);simpa using this
def AF.uses (h:AF) (rev:Int):Bool:=decide (rev∈h.revs)
theorem c38 (hd:AF) (hs:hd.sized) (hrl:hd.revs.length<=1048576) (rev:Int):PC 38 [hd.enc,AA rev] (.bool (hd.uses rev)):=by
 intro h n
 refine gq Tryz.func38 rfl λho=>?_
 simp[go_sem,AF.enc,AF.flat,AC]
 refine Yj (by simpa[AF.enc,AF.flat]using c114 hd hs hrl) ?_
 simp[go_sem]
 have hl:(C6 (CX hd.revs)).length<=1048576:=by
  have h1:(C6 (CX hd.revs)).length=(CX hd.revs).length:=ZQ _
  have:=NM hd.revs
  omega
 refine(c113 _ rev hl).use ?_
 simp[go_sem]
 exact Au ho (AP ho (Y1 _) AB) (by simp[AF.uses,Qk,Qb]) rfl
def AF.usesM (h:AF) (rev:Int):Bool:=decide (h.ins=rev)||h.dels.any (λx=>decide (x.rev=rev))||h.layers.any (λx=>decide (x.rev=rev))
theorem c41 (hd:AF) (hs:hd.sized) (rev:Int):PC 41 [hd.enc,AA rev] (.bool (hd.usesM rev)):=by
 intro h n
 refine gq Tryz.func41 rfl λho=>?_
 simp[go_sem,AF.enc,AF.flat,AC]
 have hsd:=hs.dels
 have hsl:=hs.layers
 refine Am 2 (α:=Nat) (λi=>[(1,AA rev),(5,.iptr [AA hd.ins,AA hd.move,Aa hd.dels,AQ hd.layers]),(6,.bool (decide (hd.ins=rev)||(hd.dels.take i).any λx=>decide (x.rev=rev))),(7,AA i)]) (λ_=>h) (λi m=>i<=hd.dels.length/\n<m) (λi=>hd.dels.length-i) 0 ?_ ?_ ?_ ?_
 . simp;omega
 . simp[Aj]
   refine⟨AT (ho.none (YO n)) (by simp[AC]),?_⟩
   by_cases e:hd.ins=rev
   . simp[e,Y0]
   . have e':(hd.ins==rev)=false:=by simpa using e
     simp[e,e',Y0]
 . intro j y;have:=ho j y;simp only[hset];grind
 rintro i m ⟨hi,hnm⟩
 by_cases hlt:i<hd.dels.length
 . have w1:=wS i (by omega)
   obtain⟨x,hx⟩:∃x,hd.dels[i]=x:=⟨_,rfl⟩
   have hsn:(decide (hd.ins=rev)||(hd.dels.take (i+1)).any λx=>decide (x.rev=rev))=((decide (hd.ins=rev)||(hd.dels.take i).any λx=>decide (x.rev=rev))||decide (x.rev=rev)):=by
    rw[Y2 hlt,hx];simp[Bool.or_assoc]
   generalize hb:(decide (hd.ins=rev)||(hd.dels.take i).any λx=>decide (x.rev=rev))=b at hsn ⊢
   cases b
   . have e':(x.rev==rev)=decide (x.rev=rev):=rfl
     simp[go_sem,hlt,hx,BO.enc,w1,-Int.natCast_add]
     exact⟨i+1,by omega,⟨by omega,hnm⟩,by rw[hsn,e',Bool.false_or];exact Y0,Y0⟩
   . simp[go_sem,hlt,w1,-Int.natCast_add]
     exact⟨i+1,by omega,⟨by omega,hnm⟩,by rw[hsn,Bool.true_or];exact Y0,Y0⟩
 . have:i=hd.dels.length:=by omega
   subst this
   rw[Ya]
   simp[go_sem]
   refine Am 2 (α:=Nat) (λi=>[(1,AA rev),(5,.iptr [AA hd.ins,AA hd.move,Aa hd.dels,AQ hd.layers]),(6,.bool ((decide (hd.ins=rev)||hd.dels.any λx=>decide (x.rev=rev))||(hd.layers.take i).any λx=>decide (x.rev=rev))),(8,AA i)]) (λ_=>h) (λi m=>i<=hd.layers.length/\n<m) (λi=>hd.layers.length-i) 0 ?_ ?_ AB ?_
   . simp;omega
   . simp[Aj]
   clear hi hnm m
   rintro i m ⟨hi,hnm⟩
   by_cases hlt:i<hd.layers.length
   . have w1:=wS i (by omega)
     obtain⟨x,hx⟩:∃x,hd.layers[i]=x:=⟨_,rfl⟩
     have hsn:((decide (hd.ins=rev)||hd.dels.any λx=>decide (x.rev=rev))||(hd.layers.take (i+1)).any λx=>decide (x.rev=rev))=(((decide (hd.ins=rev)||hd.dels.any λx=>decide (x.rev=rev))||(hd.layers.take i).any λx=>decide (x.rev=rev))||decide (x.rev=rev)):=by
      rw[Y2 hlt,hx];simp[Bool.or_assoc]
     generalize hb:((decide (hd.ins=rev)||hd.dels.any λx=>decide (x.rev=rev))||(hd.layers.take i).any λx=>decide (x.rev=rev))=b at hsn ⊢
     cases b
     . have e':(x.rev==rev)=decide (x.rev=rev):=rfl
       simp[go_sem,hlt,hx,Ax.enc,w1,-Int.natCast_add]
       exact⟨i+1,by omega,⟨by omega,hnm⟩,by rw[hsn,e',Bool.false_or];exact Y0,Y0⟩
     . simp[go_sem,hlt,w1,-Int.natCast_add]
       exact⟨i+1,by omega,⟨by omega,hnm⟩,by rw[hsn,Bool.true_or];exact Y0,Y0⟩
   . have:i=hd.layers.length:=by omega
     subst this
     rw[Ya]
     simp[go_sem]
     exact A3 ho rfl (by simp[AF.usesM])
def Er (out:List Int) (x:Int):List Int:=if x∈out then out else out++[x]
def BZ (out l:List Int):List Int:=l.foldl Er out
theorem B8 (out a b:List Int):BZ out (a++b)=BZ (BZ out a) b:=Zw
theorem Kp (x:Int):∀(l out:List Int),x∈BZ out l↔x∈out\/x∈l
 | [],out=>by simp[BZ]
 | a::l,out=>by
  have ih:=Kp x l (Er out a)
  have e:BZ out (a::l)=BZ (Er out a) l:=rfl
  rw[e,ih]
  unfold Er
  split
  . rename_i h
    constructor
    . rintro(h1|h1)
      . exact .inl h1
      . exact .inr (Yx _ h1)
    . rintro(h1|h1)
      . exact .inl h1
      . rcases Yg.1 h1 with rfl|h1
        . exact .inl h
        . exact .inr h1
  . simp only[Y8,Yg,List.not_mem_nil,or_false,or_assoc]
theorem IV:∀(l out:List Int),out.Nodup->(BZ out l).Nodup
 | [],_,h=>h
 | a::l,out,h=>by
  have e:BZ out (a::l)=BZ (Er out a) l:=rfl
  rw[e]
  refine IV l _ ?_
  unfold Er
  split
  . exact h
  . rename_i hn
    rw[List.nodup_append]
    refine⟨h,by simp,λx hx y hy=>?_⟩
    simp at hy
    rintro rfl
    subst hy
    exact hn hx
theorem N4:∀(l out:List Int),(BZ out l).length<=out.length+l.length
 | [],out=>by simp[BZ]
 | a::l,out=>by
  have e:BZ out (a::l)=BZ (Er out a) l:=rfl
  rw[e]
  have:=N4 l (Er out a)
  have h2:(Er out a).length<=out.length+1:=by unfold Er;split<;>simp
  simp;omega
theorem Pu (out:List Int) (x:Int):
 (∃i v,C5 (AA x) (EU out) 0=some (some (i,v))/\(EU out).modify i (λ_=>(AA x,.bool true))=EU (Er out x))\/(C5 (AA x) (EU out) 0=some none/\EU out++[(AA x,.bool true)]=EU (Er out x)):=by
 by_cases hm:x∈out
 . obtain⟨j,h1,h2⟩:=DI 0 hm
   refine .inl ⟨0+j,_,h1,?_⟩
   have:=Ir h2
   rw[YW,Er,if_pos hm]
   exact this
 . refine .inr ⟨Dn 0 hm,?_⟩
   rw[Er,if_neg hm];simp[EU]
def AF.all (h:AF):List Int:=h.ins::(h.dels.map (·.rev)++h.layers.map (·.rev))
theorem TE (hd:AF) (hsz:hd.sized) (out:List Int) {H:Hp} {n p s:Nat} (hp:H p=some (.cells [.map s])) (hs:H s=some (.map (EU out))):
 BM Tryz.prog 137 [hd.enc,.ptr p 0] H n (λv h' n'=>v=.tup []/\h'=hset H s (some (.map (EU (BZ out hd.all))))/\n'=n):=by
 refine Dg Tryz.func137 rfl λho=>?_
 have hpn:=(ho p _ hp).1
 have hsn:=(ho s _ hs).1
 have hps:p≠s:=by rintro rfl;rw[hp]at hs;cases hs
 have e1:p≠n:=by omega
 have e2:s≠n:=by omega
 have hsd:=hsz.dels
 have hsl:=hsz.layers
 have A:∀l:List Int,hd.all=hd.ins::l->BZ out hd.all=BZ (Er out hd.ins) l:=λl e=>by rw[e];rfl
 refine BV 2 [(1,.ptr p 0),(2,.iptr hd.flat)] H (λm=>m=n+1) ?_ (λm hm=>?_)
 . simp[go_sem,AF.enc,Y0]
   exact⟨AT (ho.none (Y1 n)) (by simp[AC]),AP ho (Y1 _) AB⟩
 subst hm
 refine BV 1 [(1,.ptr p 0),(2,.iptr hd.flat)] (hset H s (some (.map (EU (Er out hd.ins))))) (λm=>m=n+1) ?_ (λm hm=>?_)
 . rcases Pu out hd.ins with⟨i,v,h1,h2⟩|⟨h1,h2⟩<;>simp[go_sem,AF.flat,hp,hs,h1,h2,CJ]
 subst hm
 refine AI ?_
 simp[go_sem,AF.flat]
 refine Am 1 (α:=Nat) (λi=>[(1,.ptr p 0),(2,.iptr hd.flat),(13,Aa hd.dels),(14,AA hd.dels.length),(15,AA i)]) (λi=>hset H s (some (.map (EU (BZ (Er out hd.ins) ((hd.dels.take i).map (·.rev)))))))
  (λi m=>i<=hd.dels.length/\n<m) (λi=>hd.dels.length-i) 0 ?_ ?_ ?_ ?_
 . exact⟨Y4 _,YD n⟩
 . simp[Aj,AF.flat]
 . exact AB
 rintro i m ⟨hi,hnm⟩
 have e3:p≠m:=by omega
 have e4:s≠m:=by omega
 by_cases hlt:i<hd.dels.length
 . have w1:=wS i (by omega)
   obtain⟨x,hx⟩:∃x,hd.dels[i]=x:=⟨_,rfl⟩
   have hsn:BZ (Er out hd.ins) ((hd.dels.take (i+1)).map (·.rev))=Er (BZ (Er out hd.ins) ((hd.dels.take i).map (·.rev))) x.rev:=by
    rw[Y2 hlt,hx,Y3,B8];rfl
   generalize BZ (Er out hd.ins) ((hd.dels.take i).map (·.rev))=o2 at hsn ⊢
   rcases Pu o2 x.rev with⟨k,v,h1,h2⟩|⟨h1,h2⟩<;>simp[go_sem,AF.flat,hlt,hx,BO.enc,hp,h1,h2,CJ,w1,AC,AD,e3,e4,hps,-Int.natCast_add]
   all_goals
    refine⟨i+1,by omega,⟨by omega,by omega⟩,Y0,?_⟩
    rw[<-ZH,hsn];intro j y;have:=ho j y;simp only[hset];grind
 . have:i=hd.dels.length:=by omega
   subst this
   rw[Ya]
   generalize hO:BZ (Er out hd.ins) (hd.dels.map (·.rev))=out1
   simp[go_sem,AF.flat]
   refine Am 1 (α:=Nat) (λi=>[(1,.ptr p 0),(2,.iptr hd.flat),(25,AQ hd.layers),(26,AA hd.layers.length),(27,AA i)]) (λi=>hset H s (some (.map (EU (BZ out1 ((hd.layers.take i).map (·.rev)))))))
    (λi m=>i<=hd.layers.length/\n<m) (λi=>hd.layers.length-i) 0 ?_ ?_ ?_ ?_
   . exact⟨Y4 _,hnm⟩
   . simp[Aj,AF.flat]
   . exact AB
   clear hi hnm e3 e4 m hlt
   rintro i m ⟨hi,hnm⟩
   have e3:p≠m:=by omega
   have e4:s≠m:=by omega
   by_cases hlt:i<hd.layers.length
   . have w1:=wS i (by omega)
     obtain⟨x,hx⟩:∃x,hd.layers[i]=x:=⟨_,rfl⟩
     have hsn:BZ out1 ((hd.layers.take (i+1)).map (·.rev))=Er (BZ out1 ((hd.layers.take i).map (·.rev))) x.rev:=by
      rw[Y2 hlt,hx,Y3,B8];rfl
     generalize BZ out1 ((hd.layers.take i).map (·.rev))=o2 at hsn ⊢
     rcases Pu o2 x.rev with⟨k,v,h1,h2⟩|⟨h1,h2⟩<;>simp[go_sem,AF.flat,hlt,hx,Ax.enc,hp,h1,h2,CJ,w1,AC,AD,e3,e4,hps,-Int.natCast_add]
     all_goals
      refine⟨i+1,by omega,⟨by omega,by omega⟩,Y0,?_⟩
      rw[<-ZH,hsn];intro j y;have:=ho j y;simp only[hset];grind
   . have:i=hd.layers.length:=by omega
     subst this
     rw[Ya]
     simp[go_sem,AF.flat]
     have hfin:BZ out1 (hd.layers.map (·.rev))=BZ out hd.all:=by
      rw[<-hO,<-B8];exact(A _ rfl).symm
     rw[hfin]
     refine .inr ⟨0,.tup [],_,Y0,by simp[closed,closedL],λo x e=>⟨e,?_⟩,rfl,rfl,rfl⟩
     have:=ho o x
     simp only[hset]at e
     split at e
     . subst_vars
       cases e
       refine⟨hsn,?_⟩
       simp[BN,EU,closed]
     . exact this e
mutual
def AE.us:AE->List Int
 | .mk k _ _ _ h f r=>h.all++(if k=6 then AE.usL f else if k=7 then AW.usL r else[])
def AE.usL:List AE->List Int
 | []=>[]
 | x::l=>x.us++AE.usL l
def AW.us:AW->List Int
 | .mk h c=>h.all++AL.usL c
def AW.usL:List AW->List Int
 | []=>[]
 | x::l=>x.us++AW.usL l
def AL.us:AL->List Int
 | .mk _ h f=>h.all++AE.usL f
def AL.usL:List AL->List Int
 | []=>[]
 | x::l=>x.us++AL.usL l
end
theorem AE.usL_append:∀a b:List AE,AE.usL (a++b)=AE.usL a++AE.usL b
 | [],b=>by simp[AE.usL]
 | x::a,b=>by rw[Yq,AE.usL,AE.usL_append a b,AE.usL,Ye]
theorem AW.usL_append:∀a b:List AW,AW.usL (a++b)=AW.usL a++AW.usL b
 | [],b=>by simp[AW.usL]
 | x::a,b=>by rw[Yq,AW.usL,AW.usL_append a b,AW.usL,Ye]
theorem AL.usL_append:∀a b:List AL,AL.usL (a++b)=AL.usL a++AL.usL b
 | [],b=>by simp[AL.usL]
 | x::a,b=>by rw[Yq,AL.usL,AL.usL_append a b,AL.usL,Ye]
theorem Tf {H h':Hp} {n n' s:Nat} {y:BT} (ho:E4 H n) (hsn:s<n) (hc:BN n y=true) (hh:∀j z,hset H s (some y) j=some z->h' j=some z):
 Bz n h' n' (.tup []) (λv h2 n2=>v=.tup []/\h2=hset H s (some y)/\n2=n):=by
 refine .inr ⟨0,.tup [],_,Y0,by simp[closed,closedL],λo x e=>⟨hh o x e,?_⟩,rfl,rfl,rfl⟩
 simp only[hset]at e
 split at e
 . subst_vars;cases e;exact⟨hsn,hc⟩
 . exact ho o x e
theorem HJ (n:Nat) (out:List Int):BN n (.map (EU out))=true:=by simp[BN,EU,closed]
theorem d138:∀(N:Nat) (l:List AE),SizeOf.sizeOf l<N->l.length<=1048576->AE.sizedL l->∀(out:List Int) (H:Hp) (n p s:Nat),H p=some (.cells [.map s])->H s=some (.map (EU out))->
 BM Tryz.prog 138 [AG l,.fn (.func 137) [] [.ptr p 0]] H n (λv h' n'=>v=.tup []/\h'=hset H s (some (.map (EU (BZ out (AE.usL l)))))/\n'=n):=by
 intro N
 induction N with
 | zero=>intro l h;omega
 | succ N ih=>
 intro l hN hl hs out H n p s hp hsm
 refine gq Tryz.func138 rfl λho=>?_
 have hpn:=(ho p _ hp).1
 have hsn:=(ho s _ hsm).1
 have hps:p≠s:=by rintro rfl;rw[hp]at hsm;cases hsm
 simp[go_sem]
 refine Am 1 (α:=Nat) (λi=>[(1,.fn (.func 137) [] [.ptr p 0]),(10,AG l),(11,AA l.length),(12,AA i)]) (λi=>hset H s (some (.map (EU (BZ out (AE.usL (l.take i)))))))
  (λi m=>i<=l.length/\n<=m) (λi=>l.length-i) 0 ?_ ?_ ?_ ?_
 . exact⟨Y4 _,Y1 n⟩
 . simp[Aj]
 . intro j y;simp only[hset,ZI,AE.usL,BZ,List.foldl_nil];grind
 rintro i m ⟨hi,hnm⟩
 have e3:p≠m:=by omega
 have e4:s≠m:=by omega
 by_cases hlt:i<l.length
 . have w1:=wS i (by omega)
   obtain⟨x,hx⟩:∃x,l[i]=x:=⟨_,rfl⟩
   have hxm:x∈l:=by rw[<-hx];exact Yc hlt
   have hxs:=Zu hs x hxm
   have hxp:=Dt hxs
   have htk:AE.usL (l.take (i+1))=AE.usL (l.take i)++x.us:=by
    rw[Y2 hlt,hx,AE.usL_append];simp[AE.usL]
   have hA:BZ out (AE.usL (l.take (i+1)))=BZ (BZ out (AE.usL (l.take i))) x.us:=by rw[htk,B8]
   generalize BZ out (AE.usL (l.take i))=o2 at hA ⊢
   simp[go_sem,hlt,hx,Yh,AC]
   refine Ys (by simpa[AF.enc,AF.flat]using TE x.head hxp.1 o2 (p:=p) (s:=s) (by simp[hset,e3,hps,hp]) (by simp[hset,e4])) ?_
   rintro v h' n' ⟨rfl,rfl,rfl⟩
   have hxu:x.us=x.head.all++(if x.kind=6 then AE.usL x.flow else if x.kind=7 then AW.usL x.rows else[]):=by cases x;rfl
   by_cases k6:x.kind=6
   . have hxf:x.flow.length<=1048576/\AE.sizedL x.flow:=by cases x;rw[AE.sized]at hxs;exact⟨hxs.2.2.1,hxs.2.2.2.2.1⟩
     simp[go_sem,AC,AD,e4.symm,k6]
     refine Ys (ih x.flow (by have:=MW hxm;omega) hxf.1 hxf.2 (BZ o2 x.head.all) _ _ p s (by simp[hset,e3,hps,hp]) (by simp[hset])) ?_
     rintro v h' n' ⟨rfl,rfl,rfl⟩
     simp[go_sem,w1,-Int.natCast_add]
     refine⟨i+1,by omega,⟨by omega,by omega⟩,Y0,?_⟩
     rw[hA,hxu,if_pos k6,B8]
     intro j y;have:=ho j y;simp only[hset];grind
   . by_cases k7:x.kind=7
     . have hxr:x.rows.length<=1048576/\AW.sizedL x.rows:=by cases x;rw[AE.sized]at hxs;exact⟨hxs.2.2.2.1,hxs.2.2.2.2.2⟩
       rw[if_neg k6,if_pos k7]at hxu
       simp[go_sem,AC,AD,e4.symm,k7]
       generalize hO3:BZ o2 x.head.all=o3
       refine Am 1 (α:=Nat) (λq=>[(1,.fn (.func 137) [] [.ptr p 0]),(10,AG l),(11,AA l.length),(12,AA i),(31,Av x.rows),(32,AA x.rows.length),(33,AA q)]) (λq=>hset H s (some (.map (EU (BZ o3 (AW.usL (x.rows.take q)))))))
        (λq m=>q<=x.rows.length/\n<=m) (λq=>x.rows.length-q) 0 ?_ ?_ ?_ ?_
       . exact⟨Y4 _,by omega⟩
       . simp[Aj]
       . intro j y;have:=ho j y;simp only[hset,ZI,AW.usL,BZ,List.foldl_nil];grind
       clear e3 e4 hnm m
       rintro q m ⟨hq,hnm⟩
       have e3:p≠m:=by omega
       have e4:s≠m:=by omega
       by_cases hqt:q<x.rows.length
       . have w2:=wS q (by omega)
         obtain⟨r,hr⟩:∃r,x.rows[q]=r:=⟨_,rfl⟩
         have hrm:r∈x.rows:=by rw[<-hr];exact Yc hqt
         have hrs:=AW.sizedL_mem hxr.2 r hrm
         have hrk:AW.usL (x.rows.take (q+1))=AW.usL (x.rows.take q)++r.us:=by
          rw[Y2 hqt,hr,AW.usL_append];simp[AW.usL]
         have hB:BZ o3 (AW.usL (x.rows.take (q+1)))=BZ (BZ o3 (AW.usL (x.rows.take q))) r.us:=by rw[hrk,B8]
         have hru:r.us=r.head.all++AL.usL r.cells:=by cases r;rfl
         have hrc:r.head.sized/\r.cells.length<=1048576/\AL.sizedL r.cells:=by cases r;rw[AW.sized]at hrs;exact hrs
         generalize BZ o3 (AW.usL (x.rows.take q))=o4 at hB ⊢
         simp[go_sem,hqt,hr,YB,AC]
         refine Ys (by simpa[AF.enc,AF.flat]using TE r.head hrc.1 o4 (p:=p) (s:=s) (by simp[hset,e3,hps,hp]) (by simp[hset,e4])) ?_
         rintro v h' n' ⟨rfl,rfl,rfl⟩
         simp[go_sem,AC,AD,e4.symm]
         generalize hO5:BZ o4 r.head.all=o5
         refine Am 1 (α:=Nat) (λw=>[(1,.fn (.func 137) [] [.ptr p 0]),(10,AG l),(11,AA l.length),(12,AA i),(31,Av x.rows),(32,AA x.rows.length),(33,AA q),(42,BQ r.cells),(43,AA r.cells.length),(44,AA w)]) (λw=>hset H s (some (.map (EU (BZ o5 (AL.usL (r.cells.take w)))))))
          (λw m=>w<=r.cells.length/\n<=m) (λw=>r.cells.length-w) 0 ?_ ?_ ?_ ?_
         . exact⟨Y4 _,by omega⟩
         . simp[Aj]
         . intro j y;have:=ho j y;simp only[hset,ZI,AL.usL,BZ,List.foldl_nil];grind
         clear e3 e4 hnm m
         rintro w m ⟨hw,hnm⟩
         have e3:p≠m:=by omega
         have e4:s≠m:=by omega
         by_cases hwt:w<r.cells.length
         . have w3:=wS w (by omega)
           obtain⟨c,hc⟩:∃c,r.cells[w]=c:=⟨_,rfl⟩
           have hcm:c∈r.cells:=by rw[<-hc];exact Yc hwt
           have hcs:=AL.sizedL_mem hrc.2.2 c hcm
           have hck:AL.usL (r.cells.take (w+1))=AL.usL (r.cells.take w)++c.us:=by
            rw[Y2 hwt,hc,AL.usL_append];simp[AL.usL]
           have hC:BZ o5 (AL.usL (r.cells.take (w+1)))=BZ (BZ o5 (AL.usL (r.cells.take w))) c.us:=by rw[hck,B8]
           have hcu:c.us=c.head.all++AE.usL c.flow:=by cases c;rfl
           have hcc:c.head.sized/\c.flow.length<=1048576/\AE.sizedL c.flow:=by cases c;rw[AL.sized]at hcs;exact hcs
           generalize BZ o5 (AL.usL (r.cells.take w))=o6 at hC ⊢
           simp[go_sem,hwt,hc,Z9,AC]
           refine Ys (by simpa[AF.enc,AF.flat]using TE c.head hcc.1 o6 (p:=p) (s:=s) (by simp[hset,e3,hps,hp]) (by simp[hset,e4])) ?_
           rintro v h' n' ⟨rfl,rfl,rfl⟩
           simp[go_sem,AC,AD,e4.symm]
           refine Ys (ih c.flow (by have:=ML hxm hrm hcm;omega) hcc.2.1 hcc.2.2 (BZ o6 c.head.all) _ _ p s (by simp[hset,e3,hps,hp]) (by simp[hset])) ?_
           rintro v h' n' ⟨rfl,rfl,rfl⟩
           simp[go_sem,w3,-Int.natCast_add]
           refine⟨w+1,by omega,⟨by omega,by omega⟩,Y0,?_⟩
           rw[hC,hcu,B8]
           intro j y;have:=ho j y;simp only[hset];grind
         . have:w=r.cells.length:=by omega
           subst this
           rw[Ya]
           simp[go_sem,w2,-Int.natCast_add]
           refine⟨q+1,by omega,⟨by omega,by omega⟩,Y0,?_⟩
           rw[hB,hru,B8,hO5]
           exact AB
       . have:q=x.rows.length:=by omega
         subst this
         rw[Ya]
         simp[go_sem,w1,-Int.natCast_add]
         refine⟨i+1,by omega,⟨by omega,by omega⟩,Y0,?_⟩
         rw[hA,hxu,B8,hO3]
         exact AB
     . simp[go_sem,AC,AD,e4.symm,k6,k7,w1,-Int.natCast_add]
       refine⟨i+1,by omega,⟨by omega,by omega⟩,Y0,?_⟩
       rw[hA,hxu,if_neg k6,if_neg k7,Zi]
       intro j y;have:=ho j y;simp only[hset];grind
 . have:i=l.length:=by omega
   subst this
   rw[Ya]
   simp[go_sem]
   exact Tf ho hsn (HJ _ _) λ_ _ e=>e
section
variable {P : Program} {E : Br} {evs : Operand → SV} {o : Oper} {h : Hp} {n : Nat} {K : SV → Hp → Nat → Prop}
theorem I7 {α:Type} (f:α->Nat):∀(L:List α),(L.map f).Nodup->∀(i:Nat) (hi:i<L.length),L.filter (λx=>f x !=f L[i])=L.eraseIdx i
 | a :: L, hn, 0, hi => by
  rw[Yf,YH]at hn
  rw[List.filter_cons]
  simp only[List.getElem_cons_zero,bne_self_eq_false,Y7,if_false,List.eraseIdx_cons_zero]
  exact Zd.2 λx hx=>by
   simp only[bne_iff_ne,ne_eq]
   intro e
   exact hn.1 (e▸Yp.2 ⟨x,hx,rfl⟩)
 | a :: L, hn, i + 1, hi => by
  rw[Yf,YH]at hn
  rw[List.filter_cons]
  simp only[Zc,List.eraseIdx_cons_succ]
  have ha:(f a !=f (L[i]'(by simpa using hi)))=true:=by
   simp only[bne_iff_ne,ne_eq]
   intro e
   exact hn.1 (e▸Yp.2 ⟨_,Yc _,rfl⟩)
  rw[if_pos ha,I7 f L hn.2 i (by simpa using hi)]
theorem Jw {t:TypeId} {x:Operand} {m:Nat} {es:List (SV×SV)} (ho:o.op=.range t x) (ht:(KV P t).isSome=true) (hx:evs x=.map m) (hm:h m=some (.map es))
 (hk:K (.ptr n 0) (hset (hset h m none) n (some (.iter es none))) (n+1)):EB E P evs o h n K:=by
 refine⟨by rw[ho];simp,λc ev _ _ R F hv=>?_⟩
 have hvx:=hv x
 rw[hx,V]at hvx
 obtain⟨bm,hρ,hev⟩:=hvx
 obtain⟨b',ents,clock,g1,g2,g3,g4⟩:=R.obj _ _ hm
 rw[hρ]at g1;cases g1
 obtain⟨⟨kt,e⟩,ht⟩:=Z3.1 ht
 have hu:=Dx ht
 have hgo:(getObj bm).run P c.w=.ok (.map ents clock) c.w:=by simp[getObj,Sem.run,g2]
 have hrun:(execOp ev o).run P c.w=.ok (.value (.pointer (some ⟨c.w.heap.size,0,none⟩))) (c.w.alloc (.mapIter (some bm) clock #[] clock)):=by
  simp[execOp,ho,Instr.range,AM hu,hev,hgo]
 have R1:=R.kill m hm
 have hn1:(c.kill m).ρ n=none:=F n (Y1 _)
 have X1:=c.kill_ext m
 have hlt:bm<c.w.heap.size:=(Yd.1 g2).1
 have X2:=(c.kill m).alloc_ext n (.mapIter (some bm) clock #[] clock) hn1
 have R2:=R1.alloc hn1 (x:=.iter es none) (b:=.mapIter (some bm) clock #[] clock) ⟨c.w.heap.size,bm,ents,clock,#[],by simp[Cx.alloc,Cx.kill],by simp[Cx.alloc,Cx.kill,Be],
  by simp[Cx.alloc,Cx.kill,Be,Z8,ZF hlt,g2],by
   simp only[Cx.alloc,Cx.kill]
   rintro(h1|h1)
   . exact h1.2 0 hρ
   . omega,g4,by
   have:(ents.toList.filter λe=>!(#[]:Array Nat).contains e.born)=ents.toList:=Zd.2 λ_ _=>by simp
   rw[this]
   exact Xm (λ_ _ g=>⟨Xa (X1.trans X2) g.1,Xa (X1.trans X2) g.2⟩) g3,by simp⟩
 refine⟨_,.ptr n 0,_,n+1,(c.kill m).alloc n (.mapIter (some bm) clock #[] clock),by rw[hrun];rfl,?_,R2,λj hj=>?_,⟨X1.trans X2,YO n,λj hj=>?_⟩,hk⟩
 . rw[V];exact⟨c.w.heap.size,0,by simp[Cx.alloc,Cx.kill],rfl⟩
 . simp only[Cx.alloc,Cx.kill]
   rw[if_neg (by omega)];exact F j (by omega)
 . simp only[Cx.alloc,Cx.kill]
   rw[if_neg (by omega)]
theorem Mw {x:Operand} {q:Nat} {left:List (SV×SV)} {p:SV×SV} (ho:o.op=.entry x) (hx:evs x=.ptr q 0) (hq:h q=some (.iter left (some p)))
 (hk:K (.tup [p.1,p.2]) h n):EB E P evs o h n K:=by
 refine⟨by rw[ho];simp,λc ev _ _ R F hv=>?_⟩
 have hvx:=hv x
 rw[hx,V]at hvx
 obtain⟨b,st,hρ,hev⟩:=hvx
 obtain⟨b',bm,ents,clock,seen,g1,g2,g3,g4,g5,g6,g7⟩:=R.obj _ _ hq
 rw[hρ]at g1;cases g1
 obtain⟨e,k1,k2,k3,k4⟩:=g7 p rfl
 have hgo:(getObj b).run P c.w=.ok (.mapIter (some bm) clock seen clock) c.w:=by simp[getObj,Sem.run,g2]
 have hgm:(getObj bm).run P c.w=.ok (.map ents clock) c.w:=by simp[getObj,Sem.run,g3]
 have hfind:ents.find? (λy=>y.born==e.born)=some e:=by
  rw[<-Array.find?_toList]
  have:∀l:List MapEntry,(l.map (·.born)).Nodup->e∈l->l.find? (λy=>y.born==e.born)=some e:=by
   intro l
   induction l with
   | nil=>intro _ h;cases h
   | cons a l ih=>
    intro hn he
    rw[Yf,YH]at hn
    rw[List.find?_cons]
    rcases Yg.1 he with rfl|he
    . simp
    . have:(a.born==e.born)=false:=by
       simp only[beq_eq_false_iff_ne,ne_eq]
       intro h2
       exact hn.1 (h2▸Yp.2 ⟨e,he,rfl⟩)
      rw[this];exact ih hn.2 he
  exact this _ g5.2 k1
 refine⟨.tuple #[e.key,e.val],.tup [p.1,p.2],h,n,c,?_,by simp only[V,VL];exact⟨_,rfl,_,_,rfl,k3,_,_,rfl,k4,rfl⟩,R,F,ZB n c,hk⟩
 simp[execOp,ho,Instr.entry,hev,hgo,k2,hgm,hfind]
theorem LX {x:Operand} {q:Nat} {left:List (SV×SV)} {last:Option (SV×SV)} (ho:o.op=.next x false) (hx:evs x=.ptr q 0) (hq:h q=some (.iter left last))
 (hk:∀(i:Nat) (hi:i<left.length),K (.tup [.bool true,left[i].1,left[i].2]) (hset h q (some (.iter (left.eraseIdx i) (some left[i])))) n) (h0:left=[]->K (.tup [.bool false]) h n):EB E P evs o h n K:=by
 refine⟨by rw[ho];simp,λc ev _ _ R F hv=>?_⟩
 have hvx:=hv x
 rw[hx,V]at hvx
 obtain⟨b,st,hρ,hev⟩:=hvx
 obtain⟨b',bm,ents,clock,seen,g1,g2,g3,g4,g5,g6,g7⟩:=R.obj _ _ hq
 rw[hρ]at g1;cases g1
 have hgo:(getObj b).run P c.w=.ok (.mapIter (some bm) clock seen clock) c.w:=by simp[getObj,Sem.run,g2]
 have hgm:(getObj bm).run P c.w=.ok (.map ents clock) c.w:=by simp[getObj,Sem.run,g3]
 have hgone:(!seen.isEmpty && !ents.isEmpty&&ents.all λy=>decide (y.born ≥ clock))=false:=by
  cases he:ents.isEmpty with
  | true=>simp
  | false =>
   have hne:0<ents.size:=by rcases Nat.eq_zero_or_pos ents.size with h|h;simp[Array.isEmpty,h]at he;exact h
   have:(ents.all λy=>decide (y.born ≥ clock))=false:=by
    rw[Array.all_eq_false]
    refine⟨0,hne,?_⟩
    have:=g5.1 ents[0] (by simp)
    simp;exact this
   simp[this]
 generalize hL:ents.filter (λy=>!seen.contains y.born)=L
 have hLl:L.toList=ents.toList.filter λe=>!seen.contains e.born:=by rw[<-hL];simp
 have A8:L.filter (λy=>decide (y.born<clock))=L:=by
  apply Array.ext'
  rw[Array.toList_filter]
  exact Zd.2 λy hy=>by
   rw[hLl]at hy
   simpa using g5.1 y (List.mem_filter.1 hy).1
 have hnew:L.filter (λy=>decide (y.born ≥ clock)) = #[]:=by
  apply Array.ext'
  rw[Array.toList_filter]
  exact List.filter_eq_nil_iff.2 λy hy=>by
   rw[hLl]at hy
   simpa using g5.1 y (List.mem_filter.1 hy).1
 rw[<-hLl]at g6
 have hlen:left.length=L.size:=by have:=g6.length;simpa using this
 by_cases hz:L.size=0
 . have hl0:left=[]:=ZM (by omega)
   have hL0:L = #[]:=Array.eq_empty_of_size_eq_zero hz
   refine⟨.tuple #[.bool false],.tup [.bool false],h,n,c,?_,by simp[V,VL],R,F,ZB n c,h0 hl0⟩
   subst hL0
   simp only[execOp,ho,Instr.next,hev,Zj,Sem.run_bind,Sem.run_pure,hgo,Result.andThen_ok,hgm,hgone,Y7,if_false,hL,A8,hnew]
   simp[Question.forced]
 . have hch:∃i w1,(choose (.mapNext L.size)).run P c.w=.ok i w1/\i<L.size/\(w1=c.w\/w1=c.w.drew):=by
    rw[run_choose_drew]
    by_cases hf:(Question.mapNext L.size).forced=true
    . rw[if_pos hf];exact⟨0,_,rfl,by omega,.inl rfl⟩
    . rw[if_neg hf];exact⟨_,_,rfl,Nat.mod_lt _ (by omega),.inr rfl⟩
   obtain⟨i,w1,hch,hi,hw1⟩:=hch
   obtain⟨c1,hc1,X1,R1,F1,hρ1⟩:∃c1:Cx,c1.w=w1/\DD c c1/\Bl h c1/\Fr n c1/\c1.ρ=c.ρ:=by
    rcases hw1 with rfl|rfl
    . exact⟨c,rfl,Xk c,R,F,rfl⟩
    . exact⟨c.drew,rfl,c.drew_ext,R.drew,λj hj=>F j hj,rfl⟩
   subst hc1
   have hh1:c1.w.heap=c.w.heap:=by rcases hw1 with e|e<;>rw[e]<;>rfl
   have hil:i<left.length:=by omega
   obtain⟨e,he,hr1,hr2⟩:=g6.get (i:=i) (a:=left[i]) (by simp[hil])
   have heL:L[i]? = some e:=by simpa using he
   have hemem:e∈ents.toList:=by
    have:=YQ he
    rw[hLl]at this;exact(List.mem_filter.1 this).1
   have hisE:L.isEmpty=false:=by cases hb:L.isEmpty with|false=>rfl|true=>(simp at hb;subst hb;simp at hz)
   have hblt:b<c.w.heap.size:=(Yd.1 g2).1
   have hset':∀ob:Obj,(setObj b ob).run P c1.w=.ok () { c1.w with heap:=c1.w.heap.setIfInBounds b ob }:=λob=>by simp[setObj,Sem.run,hh1,g2]
   have hrun:(execOp ev o).run P c.w=.ok (.value (.tuple #[.bool true,e.key,e.val])) { c1.w with heap:=c1.w.heap.setIfInBounds b (.mapIter (some bm) clock (seen.push e.born) clock) }:=by
    have hcand:((if L.isEmpty then #[none]else #[])++(L ++ #[]).map some:Array (Option MapEntry))=L.map some:=by simp[hisE]
    simp only[execOp,ho,Instr.next,hev,Zj,Sem.run_bind,Sem.run_pure,hgo,Result.andThen_ok,hgm,hgone,Y7,if_false,hL,A8,hnew,hcand,Array.size_map,hch]
    simp[heL,hset']
   have hbm:bm≠b:=by rintro rfl;rw[g2]at g3;cases g3
   obtain⟨R2,X2⟩:=R1.write (w':={ c1.w with heap:=c1.w.heap.setIfInBounds b (.mapIter (some bm) clock (seen.push e.born) clock) }) (y:=.iter (left.eraseIdx i) (some left[i])) hq (by rw[hρ1];exact hρ) (by simp)
    (λb' hb'=>by simp[Zf (Ne.symm hb')]) (by simp[rm,hh1,g2]) rfl rfl (λX=>by
      have XX:=X1.trans X
      refine⟨b,bm,ents,clock,seen.push e.born,by show c1.ρ q=_;rw[hρ1];exact hρ,by simp[hh1,hblt],?_,?_,g5,?_,?_⟩
      . show(c1.w.heap.setIfInBounds b _)[bm]? = _
        rw[Zf hbm.symm,hh1];exact g3
      . exact λhb=>(XX.keep bm (Yd.1 g3).1 g4).1 hb
      . have hnd:(L.toList.map (·.born)).Nodup:=by rw[hLl];exact g5.2.sublist (List.filter_sublist.map _)
        have hee:L.toList[i]'(by simpa using hi)=e:=by
         have:=(Y9.1 he).2;exact this
        have h1:=I7 (λx:MapEntry=>x.born) L.toList hnd i (by simpa using hi)
        rw[hee]at h1
        have h2:(ents.toList.filter λx=>!(seen.push e.born).contains x.born)=L.toList.filter λx=>x.born !=e.born:=by
         rw[hLl,List.filter_filter]
         congr 1;funext x
         by_cases hx:x.born=e.born<;>simp[hx]
        rw[h2,h1]
        exact Xm (λ_ _ g=>⟨Xa XX g.1,Xa XX g.2⟩) (AZ.eraseIdx i g6)
      . intro p hp
        cases hp
        exact⟨e,hemem,by simp,Xa XX hr1,Xa XX hr2⟩)
   exact⟨_,.tup [.bool true,left[i].1,left[i].2],_,n,_,hrun,by
    have XX:=X1.trans X2
    simp only[V,VL]
    exact⟨_,rfl,_,_,rfl,rfl,_,_,rfl,Xa XX hr1,_,_,rfl,Xa XX hr2,rfl⟩,R2,λj hj=>F1 j hj,⟨X1.trans X2,Y1 _,λj _=>by show c1.ρ j=_;rw[hρ1]⟩,hk i hil⟩
end
structure YK (E:Br) (l:Nat) (ks0:List Int) (J:List Int->(Nat->Prop)->Hp->Nat->Prop):Prop where
 step:∀ks x D h m,(∃rest,(ks++[x]++rest).Perm ks0)->J ks D h m->FB E Tryz.prog l [AA x] h m (HT (J (ks++[x])) (λ_ _ _=>False) D h m)
 keep:∀ks D h m h' m',J ks D h m->m<=m'->(∀o,D o->h' o=h o)->J ks D h' m'
 lt:∀ks D h m,J ks D h m->∀o,D o->o<m
theorem HG {α β:Type} (f:α->β):∀(l:List α) (i:Nat),(l.eraseIdx i).map f=(l.map f).eraseIdx i
 | [],_=>by simp
 | a::l,0=>by simp
 | a::l,i+1=>by simp[HG f l i]
theorem KB {α:Type}:∀(l:List α) (i:Nat) (hi:i<l.length),(l[i]::l.eraseIdx i).Perm l
 | a::l,0,_=>by simp
 | a::l,i+1,hi=>by
  have ih:=KB l i (by simpa using hi)
  simp only[Zc,List.eraseIdx_cons_succ]
  exact(List.Perm.swap _ _ _).trans (ih.cons a)
theorem LQ {ks lk ks0:List Int} (h:(ks++lk).Perm ks0) {i:Nat} (hi:i<lk.length):(ks++[lk[i]]++lk.eraseIdx i).Perm ks0:=by
 refine List.Perm.trans ?_ h
 rw[Ye]
 refine List.Perm.append_left ks ?_
 exact KB lk i hi
section
variable {E : Br} {yl : Nat} {J : List Int → (Nat → Prop) → Hp → Nat → Prop}
theorem c198 {ks0:List Int} (Y:YK E yl ks0 J) (es:List (SV×SV)) (hk:es.map (·.1)=ks0.map AA) {H:Hp} {n q s:Nat} {D:Nat->Prop} (hq:H q=some (.cells [.map s])) (hs:H s=some (.map es)) (hDs:¬D s) (hJ:J [] D H n):
 Ak E Tryz.prog 198 [.fn (.yield yl) [] [],.ptr q 0] H n (λ_ h' m'=>∃ks D',ks.Perm ks0/\n<=m'/\(∀o,D' o->D o\/(n<=o/\o<m'))/\(∀o,¬D o->o<n->o≠s->h' o=H o)/\J ks D' h' m'):=by
 refine gq Tryz.func198 rfl λho=>?_
 have hqn:=(ho q _ hq).1
 have hsn:=(ho s _ hs).1
 have hDn:=Y.lt _ _ _ _ hJ
 simp[go_sem,hq]
 refine Jw (m:=s) (es:=es) rfl (by simp[go_sem]) (by simp[go_sem]) hs ?_
 simp[go_sem]
 refine Am 1 (α:=(List Int×List Int)×(List (SV×SV)×Option (SV×SV))×(Nat->Prop)×Hp) (λa=>[(0,.fn (.yield yl) [] []),(5,.ptr n 0)]) (λa=>a.2.2.2)
  (λa m=>n<m/\a.2.2.2 n=some (.iter a.2.1.1 a.2.1.2)/\a.2.1.1.map (·.1)=a.1.2.map AA/\(a.1.1++a.1.2).Perm ks0/\J a.1.1 a.2.2.1 a.2.2.2 m/\(∀o,a.2.2.1 o->D o\/(n<o/\o<m))/\(∀o,¬D o->o<n->o≠s->a.2.2.2 o=H o)) (λa=>a.1.2.length)
  (([],ks0),(es,none),D,hset (hset H s none) n (some (.iter es none))) ?_ ?_ AB ?_
 . refine⟨YD n,AC _ _ _,hk,List.Perm.refl _,Y.keep _ _ _ _ _ _ hJ (YO n) λo g=>?_,λo g=>.inl g,λo g1 g2 g3=>?_⟩
   . have:=hDn o g
     show hset (hset H s none) n _ o=H o
     rw[AD _ _ (by omega),AD _ _ (by rintro rfl;exact hDs g)]
   . show hset (hset H s none) n _ o=H o
     rw[AD _ _ (by omega),AD _ _ g3]
 . simp[Aj]
 rintro⟨⟨ks,lk⟩,⟨left,last⟩,D2,h2⟩ m ⟨hnm,hit,hlk,hperm,hJ2,hD2,A8⟩
 dsimp only at hit hlk hperm hJ2 hD2 A8 ⊢
 have hn2:¬D2 n:=λg=>by rcases hD2 n g with g|g;have:=hDn n g;omega;omega
 have hll:left.length=lk.length:=by have:=congrArg List.length hlk;simpa using this
 simp[go_sem]
 refine LX (q:=n) (left:=left) (last:=last) rfl (by simp[go_sem]) hit (λi hi=>?_) λh0=>?_
 . have hil:i<lk.length:=by omega
   have hx:left[i].1=AA lk[i]:=by
    have:=congrArg (λl=>l[i]?) hlk
    simpa[hi,hil]using this
   simp[go_sem]
   refine Mw (q:=n) (left:=left.eraseIdx i) (p:=left[i]) rfl (by simp[go_sem]) (AC _ _ _) ?_
   simp[go_sem,hx]
   refine FB.mono (Y.step ks lk[i] D2 _ _ ⟨_,LQ hperm hil⟩ (Y.keep _ _ _ _ _ _ hJ2 (Y1 m) λo g=>AD _ _ (by rintro rfl;exact hn2 g))) ?_
   rintro v h3 m3 ⟨hm3,D3,hDD,hh3,⟨rfl,hj⟩|⟨_,hj⟩⟩
   . simp[go_sem]
     refine⟨ks++[lk[i]],lk.eraseIdx i,by rw[List.length_eraseIdx];simp[hil];omega,left.eraseIdx i,some left[i],D3,h3,⟨by omega,?_,?_,?_,hj,λo g=>?_,λo g1 g2 g3=>?_⟩,AB⟩
     . rw[hh3 n hn2 hnm];exact AC _ _ _
     . rw[HG,HG,hlk]
     . exact LQ hperm hil
     . rcases hDD o g with g|g
       . rcases hD2 o g with g|g
         . exact .inl g
         . exact .inr (by omega)
       . exact .inr (by omega)
     . have:¬D2 o:=λg=>by rcases hD2 o g with g|g;exact g1 g;omega
       rw[hh3 o this (by omega),AD _ _ (by omega)];exact A8 o g1 g2 g3
   . exact hj.elim
 . have hlk0:lk=[]:=ZM (by rw[<-hll,h0];rfl)
   subst hlk0
   simp[go_sem]
   refine .inl ⟨ks,by simpa using hperm,by omega,D2,λo g=>?_,A8,hJ2⟩
   rcases hD2 o g with g|g
   . exact .inl g
   . exact .inr (by omega)
end
theorem d260 (es:List (SV×SV)) (ks0:List Int) (hk:es.map (·.1)=ks0.map AA) (hlen:ks0.length<=1048576) {H:Hp} {n q s:Nat} (hq:H q=some (.cells [.map s])) (hs:H s=some (.map es)):
 BM Tryz.prog 260 [.imm 0 [] true,.fn (.func 198) [] [.ptr q 0]] H n (λv h' n'=>∃ks:List Int,ks.Perm ks0/\Nz 1 (ks.map AA) (hset H s none) n v h' n'):=by
 refine goM Tryz.func260 rfl (by kernel_rfl) (by kernel_rfl) (by simp[go_sem]) λho B=>?_
 have hqn:=(ho q _ hq).1
 have hsn:=(ho s _ hs).1
 have hqs:q≠s:=by rintro rfl;rw[hq]at hs;cases hs
 simp[go_sem]
 refine FP rfl rfl rfl λE1 l R hY=>?_
 let J:List Int->(Nat->Prop)->Hp->Nat->Prop:=λks D hh m=>∃o:Option Nat,D=(λj=>j=n\/j=n+1\/o=some j)/\n+1<m/\hh n=some (.cells [AN 1 o (ks.map AA)])/\hh (n+1)=some (.loop (R .ready none))/\A7 (n+2) m 1 o (ks.map AA)/\∀j,o=some j->hh j=some (.cells (ks.map AA))
 have Y:YK E1 l ks0 J:=by
  refine⟨?_,?_,?_⟩
  . rintro ks x D hh m ⟨rest,hp⟩ ⟨o,hDe,g0,g1,g2,g3,g4⟩
    have hkl:ks.length+1<=1048576:=by have:=hp.length_eq;simp at this;omega
    refine hY _ _ _ _ g2 rfl (IJ ?_)
    have e1:n≠m:=by omega
    have e2:n+1≠m:=by omega
    have e4:n≠m+1:=by omega
    have hon:∀j,o=some j->n+2<=j/\j<m:=λj e=>g3.lt j e
    simp[go_sem,JT,AD,g1,g2]
    rw[Kd (x:=x) g3 (by omega) (by simp[hset]) (by
     intro j e
     have:=hon j e
     have:=g4 j e
     simp only[hset]
     grind)]
    have done:∀(H2:Hp) (o2:Nat),o2=m+1->(∀j,¬(j=n\/j=n+1\/o=some j)->j<m->H2 j=hh j)->H2 n=some (.cells [.sl o2 0 1 (ks.length+1) false])->H2 o2=some (.cells (ks.map AA++[AA x]))->H2 (n+1)=some (.loop (R .busy none))->
     ∀sa,Hv (n+1) R (HT (J (ks++[x])) (λ_ _ _=>False) D hh m) .normal sa H2 (m+1+1):=by
     rintro H2 o2 rfl k0 k1 k2 k3 sa
     subst hDe
     refine⟨k3,by omega,λj=>j=n\/j=n+1\/some (m+1)=some j,λj g=>?_,λj g1 g2=>?_,.inl ⟨rfl,some (m+1),rfl,by omega,?_,AC _ _ _,?_,λj e=>?_⟩⟩
     . rcases g with g|g|g
       . exact .inl (.inl g)
       . exact .inl (.inr (.inl g))
       . cases g;exact .inr (by omega)
     . rw[AD _ _ (λe=>g1 (.inr (.inl e)))];exact k0 j g1 g2
     . rw[AD _ _ (by omega),k1];simp[AN]
     . rw[Y3];exact g3.push rfl rfl (by omega) (by omega)
     . cases e;rw[AD _ _ (by omega),k2,Y3];rfl
    cases o with
    | none=>
     simp[go_sem,AD,g1,e1,e4,AN]
     refine done _ _ rfl (λj h1 h2=>?_) ?_ ?_ ?_ _
     . simp only[hset];grind
     . simp only[hset];grind
     . simp only[hset];grind
     . simp only[hset];grind
    | some j=>
     have hj:=hon j rfl
     have e3:n≠j:=by omega
     simp[go_sem,AD,g1,e1,e3,e4,AN]
     refine done _ _ rfl (λj h1 h2=>?_) ?_ ?_ ?_ _
     . simp only[hset];grind
     . simp only[hset];grind
     . simp only[hset];grind
     . simp only[hset];grind
  . rintro ks D hh m h' m' ⟨o,rfl,g0,g1,g2,g3,g4⟩ hm hD
    exact⟨o,rfl,by omega,by rw[hD _ (.inl rfl)];exact g1,by rw[hD _ (.inr (.inl rfl))];exact g2,g3.mono hm,λj e=>by rw[hD _ (.inr (.inr e))];exact g4 j e⟩
  . rintro ks D hh m ⟨o,rfl,g0,g1,g2,g3,g4⟩ j (rfl|rfl|e)
    . omega
    . omega
    . exact(g3.lt j e).2
 refine Xc (c198 Y es hk (D:=λj=>j=n\/j=n+1) (s:=s) ?_ ?_ ?_ ?_) ?_
 . simp[hset];rw[if_neg (by omega),if_neg (by omega)];exact hq
 . simp[hset];rw[if_neg (by omega),if_neg (by omega)];exact hs
 . omega
 . exact⟨none,by simp,by omega,by simp[hset,AN],by simp[hset],Zs _ _ _,by simp⟩
 rintro _ h' m' ⟨ks,D',hperm,hm,hD,A8,o,rfl,g0,g1,g2,g3,g4⟩
 refine⟨_,_,g2,by simp,?_⟩
 simp[go_sem,AD,g1]
 refine .inl ⟨ks,hperm,by omega,λj y e=>?_,?_⟩
 . have hjs:j≠s:=by rintro rfl;simp[hset]at e
   rw[AD _ _ hjs]at e
   have:=(ho j y e).1
   rw[AD _ _ (by omega),A8 j (by omega) (by omega) hjs,AD _ _ (by omega),AD _ _ (by omega),e]
 . cases o with
   | none=>
    have he:=g3.none rfl
    exact .inl ⟨he,0,true,rfl⟩
   | some j=>
    have:=g3.lt j rfl
    exact .inr ⟨j,false,by omega,by omega,by simp[AN],by rw[AD _ _ (by omega),Do];exact g4 j rfl⟩
theorem d196 (es:List (SV×SV)) (ks0:List Int) (hk:es.map (·.1)=ks0.map AA) (hlen:ks0.length<=1048576) {H:Hp} {n q s:Nat} (hq:H q=some (.cells [.map s])) (hs:H s=some (.map es)):
 BM Tryz.prog 196 [.fn (.func 198) [] [.ptr q 0]] H n (λv h' n'=>∃ks:List Int,ks.Perm ks0/\Nz 1 (ks.map AA) (hset H s none) n v h' n'):=by
 refine gq Tryz.func196 rfl λho=>?_
 simp[go_sem]
 refine Ys (d260 es ks0 hk hlen hq hs) ?_
 rintro v h' n' ⟨ks,hp,hn⟩
 simp[go_sem]
 exact .inl ⟨ks,hp,hn⟩
theorem Lc {a b:List Int} (h:a.Perm b):C6 a=C6 b:=by
 have tr:∀x y z:Int,decide (x<=y)=true->decide (y<=z)=true->decide (x<=z)=true:=λx y z h1 h2=>by simp only[decide_eq_true_eq]at *;exact Int.le_trans h1 h2
 have to:∀x y:Int,(decide (x<=y)||decide (y<=x))=true:=λx y=>by simp only[Xd,decide_eq_true_eq];exact Int.le_total x y
 refine List.Perm.eq_of_pairwise (le:=λx y=>decide (x<=y)=true) (λx y _ _ h1 h2=>?_) (List.pairwise_mergeSort tr to a) (List.pairwise_mergeSort tr to b) (((List.mergeSort_perm a _).trans h).trans (List.mergeSort_perm b _).symm)
 simp only[decide_eq_true_eq]at h1 h2
 exact Int.le_antisymm h1 h2
theorem d139 (es:List (SV×SV)) (ks0:List Int) (hk:es.map (·.1)=ks0.map AA) (hlen:ks0.length<=1048576) {H:Hp} {n q s:Nat} (hq:H q=some (.cells [.map s])) (hs:H s=some (.map es)):
 BM Tryz.prog 139 [.fn (.func 198) [] [.ptr q 0]] H n (Nz 1 ((C6 ks0).map AA) (hset H s none) n):=by
 refine gq Tryz.func139 rfl λho=>?_
 simp[go_sem]
 refine Ys (d196 es ks0 hk hlen hq hs) ?_
 rintro v h' n' ⟨ks,hp,hle,A8,hv⟩
 have hkl:=hp.length_eq
 rcases hv with⟨he,z',full,rfl⟩|⟨o,full,h1,h2,rfl,h3⟩
 . simp[go_sem]
   refine(Tx z' full).use ?_
   simp[go_sem]
   simp only[List.map_eq_nil_iff]at he
   subst he
   have:ks0=[]:=by simpa using hp.symm
   subst this
   exact .inl ⟨hle,A8,.inl ⟨by simp[C6],z',full,rfl⟩⟩
 . simp[go_sem]
   rw[Do]at h3
   refine Ys (d197 ks (by omega) h3) ?_
   rintro v h4 n4 ⟨rfl,rfl,rfl⟩
   simp[go_sem]
   have hos:o≠s:=by have:=(ho s _ hs).1;omega
   refine .inl ⟨hle,λj y e=>?_,.inr ⟨o,full,h1,h2,?_,?_⟩⟩
   . have hjs:j≠s:=by rintro rfl;simp[hset]at e
     have e2:=e
     rw[AD _ _ hjs]at e2
     have:=(ho j y e2).1
     rw[AD _ _ (by omega)];exact A8 j y e
   . have:(C6 ks0).length=ks.length:=by rw[<-Lc hp];exact ZQ _
     simp[this]
   . rw[AC,Lc hp,Do]
theorem d140 {H:Hp} {n s:Nat}:BM Tryz.prog 140 [.map s] H n (λv h' n'=>v=.fn (.func 198) [] [.ptr n 0]/\h'=hset H n (some (.cells [.map s]))/\n'=n+1):=by
 refine gq Tryz.func140 rfl λho=>?_
 simp[go_sem]
 exact .inl ⟨rfl,rfl,rfl⟩
def IS (d:AH):List Int:=C6 ((BZ [] (AE.usL d.flow++d.«end».all)).filter λx=>decide (x≠0))
theorem R9:∀{l:List Int} (x:Int),l.Nodup->∀(_i j:Nat),l[j]? = some x->(EU l).eraseIdx j=EU (l.filter λy=>decide (y≠x))
 | [],x,_,i,j,h=>by simp at h
 | a :: l, x, hn, i, 0, h => by
  rw[YH]at hn
  simp only[Zx,Y6]at h
  subst h
  have:(a::l).filter (λy=>decide (y≠a))=l:=by
   rw[List.filter_cons]
   simp only[ne_eq,not_true,decide_false,Y7,if_false]
   exact Zd.2 λy hy=>by simp only[decide_eq_true_eq];rintro rfl;exact hn.1 hy
  rw[this];simp[EU]
 | a::l,x,hn,i,j+1,h=>by
  rw[YH]at hn
  have hx:l[j]? = some x:=by simpa using h
  have hax:a≠x:=by rintro rfl;exact hn.1 (YQ hx)
  have ih:=R9 x hn.2 i j hx
  rw[List.filter_cons]
  simp only[ne_eq,hax,not_false_eq_true,decide_true,if_true]
  simp only[EU,Yf,List.eraseIdx_cons_succ]at ih ⊢
  rw[ih]
theorem SB {l:List Int} {x:Int} (h:x∉l):(l.filter λy=>decide (y≠x))=l:=Zd.2 λy hy=>by simp only[decide_eq_true_eq];rintro rfl;exact h hy
theorem c74 (d:AH) (hl:d.flow.length<=1048576) (hs:AE.sizedL d.flow) (he:d.«end».sized) (hu:(BZ [] (AE.usL d.flow++d.«end».all)).length<=1048576):PC 74 [d.enc] (.imm 1 ((IS d).map AA) false):=by
 intro h n
 refine gq Tryz.func74 rfl λho=>?_
 have e1:n+1+1≠n:=by omega
 have e2:n+1≠n:=by omega
 have e3:n+1+1≠n+1:=by omega
 simp[go_sem,AH.enc,AF.flat,AJ.flat,AC,AD,Yn]
 refine Ys (d138 (SizeOf.sizeOf d.flow+1) d.flow (YD _) hl hs [] _ _ (n+2) (n+1) (by simp[hset]) (by simp[hset,EU])) ?_
 rintro v h' n' ⟨rfl,rfl,rfl⟩
 simp[go_sem,AC,AD]
 refine Ys (by simpa[AF.enc,AF.flat]using TE d.«end» he (BZ [] (AE.usL d.flow)) (p:=n+2) (s:=n+1) (by simp[hset]) (by simp[hset])) ?_
 rintro v h' n' ⟨rfl,rfl,rfl⟩
 rw[<-B8]
 have hnd:=IV (AE.usL d.flow++d.«end».all) [] List.nodup_nil
 have hU:IS d=C6 ((BZ [] (AE.usL d.flow++d.«end».all)).filter λx=>decide (x≠0)):=rfl
 generalize BZ [] (AE.usL d.flow++d.«end».all)=out at hnd hu hU ⊢
 have fin:∀(H2:Hp),H2 (n+2)=some (.cells [.map (n+1)])->H2 (n+1)=some (.map (EU (out.filter λx=>decide (x≠0))))->(∀j,j<n->H2 j=h j)->(∀K:SV->Hp->Nat->Prop,(∀v h' n',Bz n h' n' v (Is (.imm 1 ((IS d).map AA) false) h n)->K v h' n')->
  Ak (Br.plain.call false 0) Tryz.prog 139 [.fn (.func 198) [] [.ptr (n+3) 0]] (hset H2 (n+3) (some (.cells [.map (n+1)]))) (n+4) K):=λH2 a1 a2 a3 K hK=>by
  have hfl:(out.filter λx=>decide (x≠0)).length<=1048576:=by have:=Ze (λx=>decide (x≠0)) out;omega
  refine Ys (d139 (EU (out.filter λx=>decide (x≠0))) (out.filter λx=>decide (x≠0)) (by simp[EU]) hfl (s:=n+1) (by simp[hset]) (by rw[AD _ _ (show n+1≠n+3 by omega)];exact a2)) ?_
  rintro v h' n' ⟨hle,A8,hv⟩
  rw[<-hU]at hv
  have hh:∀j y,h j=some y->h' j=some y:=λj y e=>by
   have:=(ho j y e).1
   refine A8 j y ?_
   rw[AD _ _ (by omega),AD _ _ (by omega),a3 j this,e]
  refine hK _ _ _ ?_
  rcases hv with⟨h1,z',full,rfl⟩|⟨o,full,h1,h2,rfl,h3⟩
  . rw[h1];exact JL ho hh (by simp) rfl
  . exact SW GI (full:=full) ho hh (show n<=o by omega) (by simp) h3
 by_cases hm:(0:Int)∈out
 . obtain⟨j,h1,h2⟩:=DI 0 hm
   rw[YW]at h1
   have hkd:=R9 0 hnd 0 j h2
   simp[go_sem,AC,AD,h1,CJ]
   refine Ys d140 ?_
   rintro v h' n' ⟨rfl,rfl,rfl⟩
   simp[go_sem]
   refine fin _ ?_ ?_ ?_ _ ?_
   . simp[hset]
   . rw[<-hkd];simp[hset]
   . intro j hj;simp only[hset];grind
   . intro v h' n' hr
     simp[go_sem];exact hr
 . have h1:=Dn 0 hm
   have hkd:=SB hm
   simp[go_sem,AC,AD,h1,CJ]
   refine Ys d140 ?_
   rintro v h' n' ⟨rfl,rfl,rfl⟩
   simp[go_sem]
   refine fin _ ?_ ?_ ?_ _ ?_
   . simp[hset]
   . rw[hkd];simp[hset]
   . intro j hj;simp only[hset];grind
   . intro v h' n' hr
     simp[go_sem];exact hr
def Gj (z:Nat) (es:List SV) (v:SV) (o:Option Nat) (n m:Nat):Prop:=
 (o=none/\es=[]/\∃z' f,v=.imm z' [] f)\/∃j f,o=some j/\n<=j/\j<m/\v=.sl j 0 z es.length f
def C7 (es:List SV) (o:Option Nat) (h:Hp):Hp:=match o with|none=>h|some j=>hset h j (some (.cells (es.flatMap SV.cells)))
theorem Gj.st {z:Nat} {es:List SV} {v:SV} {o:Option Nat} {n m:Nat} (H:Gj z es v o n m):v.storable=true/\v.cells=[v]:=by
 rcases H with⟨_,_,z',f,rfl⟩|⟨j,f,_,_,_,rfl⟩<;>exact⟨rfl,rfl⟩
theorem Nz.own {z:Nat} {es:List SV} {h h':Hp} {n n':Nat} {v:SV} (H:Nz z es h n v h' n'):∃o,Gj z es v o n n'/\(∀j y,h j=some y->h' j=some y)/\∀j,o=some j->h' j=some (.cells (es.flatMap SV.cells)):=by
 obtain⟨h1,h2,⟨rfl,z',f,rfl⟩|⟨o,f,h3,h4,rfl,h5⟩⟩:=H
 . exact⟨none,.inl ⟨rfl,rfl,z',f,rfl⟩,h2,by simp⟩
 . exact⟨some o,.inr ⟨o,f,rfl,h3,h4,rfl⟩,h2,by rintro j e;cases e;exact h5⟩
theorem Gj.mono {z:Nat} {es:List SV} {v:SV} {o:Option Nat} {n n' m m':Nat} (H:Gj z es v o n m) (hn:n'<=n) (hm:m<=m'):Gj z es v o n' m':=by
 rcases H with⟨h1,h2,z',f,h3⟩|⟨j,f,h1,h2,h3,h4⟩
 . exact .inl ⟨h1,h2,z',f,h3⟩
 . exact .inr ⟨j,f,h1,by omega,by omega,h4⟩
theorem Gj.lt {z:Nat} {es:List SV} {v:SV} {o:Option Nat} {n m:Nat} (H:Gj z es v o n m):∀j,o=some j->n<=j/\j<m:=by
 rcases H with⟨rfl,_⟩|⟨j,f,rfl,h2,h3,_⟩
 . simp
 . rintro i e;cases e;exact⟨h2,h3⟩
theorem I1 {z k i:Nat} {es:List SV} {e c:SV} (hs:∀e∈es,e.storable=true/\e.cells.length=z) (h:es[i]? = some e) (hk:e.cells[k]? = some c):
 i*z+k+1<=(es.flatMap SV.cells).length/\((es.flatMap SV.cells).drop (i*z+k)).take 1=[c]:=by
 obtain⟨g1,g2⟩:=K6 hs h
 have he:=(hs e (YQ h)).2
 have hlt:=(Y9.1 hk).1
 refine⟨by omega,?_⟩
 have h1:(((es.flatMap SV.cells).drop (i*z)).take z).drop k=e.cells.drop k:=by rw[g2]
 rw[List.drop_take,ZW]at h1
 have h2:(((es.flatMap SV.cells).drop (i*z+k)).take (z-k)).take 1=(e.cells.drop k).take 1:=by rw[h1]
 rw[List.take_take,Zz (by omega)]at h2
 rw[h2,YA hlt]
 simp only[YY,ZI]
 rw[(Y9.1 hk).2]
theorem KI {cs:List SV} {off:Nat} {c:SV} (h1:off+1<=cs.length) (h2:(cs.drop off).take 1=[c]):cs.take off++c::cs.drop (off+1)=cs:=by
 have:cs.drop off=c::cs.drop (off+1):=by
  rw[YA (by omega)]at h2 ⊢
  simp only[YY,ZI,List.cons.injEq,and_true]at h2;rw[h2]
 rw[<-this,Z4]
def trC:Tr:=.pure 0<|.pure 1<|.pure 3<|.pure 4<|.pure 6<|.pure 7<|.pure 9<|.pure 10 <|
 .two 2 13
  (.two 5 13 (.two 8 13 (.two 11 13 (.two 12 13 (.one 13 (.one 14 .nil)) (.one 12 (.one 14 .nil))) (.one 11 (.one 12 (.one 14 .nil)))) (.one 8 (.one 11 (.one 12 (.one 14 .nil))))) (.one 5 (.one 8 (.one 11 (.one 12 (.one 14 .nil))))))
  (.one 2 (.one 5 (.one 8 (.one 11 (.one 12 (.one 14 .nil))))))
set_option maxHeartbeats 2000000 in
theorem c144 (s:AJ) (h1:s.styles.length<=1048576) (h2:s.lists.length<=1048576) (h3:s.comments.length<=1048576) (h4:s.vars.length<=1048576) (h5:∀x∈s.styles,x.props.length<=1048576) (h6:∀x∈s.lists,x.levels.length<=1048576):
 PC 144 [s.enc] s.enc:=by
 intro h n
 refine Dg Tryz.func144 rfl λho=>?_
 refine BV 2 [(1,.iptr s.flat),(2,.ptr (n+1) 0)] (hset h (n+1) (some (.cells [.imm 0 [] true,.imm 0 [] true,.imm 0 [] true,.imm 0 [] true]))) (λm=>m=n+2) ?_ (λm hm=>?_)
 . simp[go_sem,AJ.enc,Yn,Y0]
   refine⟨AT (by rw[AD _ _ (by omega)];exact ho.none (Y1 n)) (by simp[hset]),λj y=>?_⟩
   have:=ho j y;simp only[hset];grind
 subst hm
 refine AV 1 (α:=SV×Option Nat×SV×Option Nat×Nat) (λa=>[(2,.ptr (n+1) 0),(3,.ptr a.2.2.2.2 0)])
  (λa=>hset (C7 (s.styles.map Az.enc) a.2.1 (C7 (s.lists.map FQ.enc) a.2.2.2.1 (hset h (n+1) (some (.cells [.imm 0 [] true,.imm 0 [] true,.imm 0 [] true,.imm 0 [] true]))))) a.2.2.2.2 (some (.cells [a.1,a.2.2.1,BW s.comments,FA s.vars])))
  (λa m=>Gj 6 (s.styles.map Az.enc) a.1 a.2.1 (n+2) m/\Gj 2 (s.lists.map FQ.enc) a.2.2.1 a.2.2.2.1 (n+2) m/\n+2<=a.2.2.2.2/\a.2.2.2.2<m/\a.2.1≠some a.2.2.2.2/\a.2.2.2.1≠some a.2.2.2.2/\(∀j,a.2.1=some j->a.2.2.2.1≠some j)) (B7 trC rfl (by kernel_rfl) (by kernel_rfl) ?_) ?_
 . simp[go_sem,trC,AJ.flat]
   iterate 14 (all_goals (try first
    | (refine LC.use (l199 _ h1) ?_;intro v1 H1 m1 W1;have lt1:=W1.1;obtain⟨o1,a1,b1,c1⟩:=W1.own;obtain⟨s1,t1⟩:=a1.st;simp only[SV.storable,SV.cells]at s1 t1;simp[go_sem])
    | (refine LC.use (l200 _ h2) ?_;intro v2 H2 m2 W2;have lt2:=W2.1;obtain⟨o2,a2,b2,c2⟩:=W2.own;obtain⟨s2,t2⟩:=a2.st;simp only[SV.storable,SV.cells]at s2 t2;simp[go_sem])
    | (refine(c201 _ h3).use ?_;simp[go_sem])
    | (refine(c202 _ h4).use ?_;simp[go_sem,s1,t1,s2,t2])
    | refine⟨?_,?_⟩))
   all_goals
    have L1:=a1.lt
    have L2:=a2.lt
    have ZZ:BT:=.cells [.imm 0 [] true,.imm 0 [] true,.imm 0 [] true,.imm 0 [] true]
    first
     | (have hq:=b2 (n+2) _ (b1 (n+2) _ (AC _ _ _));simp[go_sem,hq])
     | (have hq:=b2 m1 _ (AC _ _ _);simp[go_sem,hq])
     | simp[go_sem,AC]
    refine⟨v1,o1,v2,o2,_,⟨a1.mono (by omega) (by omega),a2.mono (by omega) (by omega),?_,?_,λe=>?_,λe=>?_,λj e e'=>?_⟩,Y0,λj y=>?_⟩
    . omega
    . omega
    . have:=L1 _ e;omega
    . have:=L2 _ e;omega
    . have:=L1 _ e;have:=L2 _ e';omega
    . intro hy
      have q1:=b1 j y
      have q2:=b2 j y
      have q3:=c1 j
      have q4:=c2 j
      have r1:=L1 j
      have r2:=L2 j
      have q5:=b2 j (.cells ((s.styles.map Az.enc).flatMap SV.cells))
      have q6:=ho j y
      clear b1 b2 c1 c2 L1 L2 W1 W2 a1 a2
      simp only[hset]at *
      cases o1<;>cases o2<;>simp only[C7,hset]at hy<;>grind
 rintro⟨v1,o1,v2,o2,q⟩ m ⟨a1,a2,hq1,hq2,hn1,hn2,hn12⟩
 dsimp only at a1 a2 hq1 hq2 hn1 hn2 hn12 ⊢
 have L1:=a1.lt
 have L2:=a2.lt
 obtain⟨s1,t1⟩:=a1.st
 obtain⟨s2,t2⟩:=a2.st
 simp only[SV.storable,SV.cells]at s1 t1 s2 t2
 generalize hB:C7 (s.styles.map Az.enc) o1 (C7 (s.lists.map FQ.enc) o2 (hset h (n+1) (some (.cells [.imm 0 [] true,.imm 0 [] true,.imm 0 [] true,.imm 0 [] true]))))=B
 have B1:∀j,o1=some j->B j=some (.cells ((s.styles.map Az.enc).flatMap SV.cells)):=λj e=>by subst e;rw[<-hB];simp[C7,hset]
 have B2:∀j,o2=some j->B j=some (.cells ((s.lists.map FQ.enc).flatMap SV.cells)):=λj e=>by
  subst e;rw[<-hB]
  cases o1 with
  | none=>simp[C7,hset]
  | some i=>have:=hn12 i rfl;simp only[C7,hset];grind
 have B3:B (n+1)=some (.cells [.imm 0 [] true,.imm 0 [] true,.imm 0 [] true,.imm 0 [] true]):=by
  rw[<-hB]
  cases o1<;>cases o2<;>simp only[C7,hset]<;>grind
 have B4:∀j y,h j=some y->B j=some y:=λj y e=>by
  have:=ho j y e
  rw[<-hB]
  cases o1<;>cases o2<;>simp only[C7,hset]<;>grind
 have hqn:∀j,o1=some j->j≠q:=λj e e'=>hn1 (by rw[e,e'])
 have hqn2:∀j,o2=some j->j≠q:=λj e e'=>hn2 (by rw[e,e'])
 clear hB
 refine Bt 1 [(2,.ptr (n+1) 0),(3,.ptr q 0)] (hset B q (some (.cells [v1,v2,BW s.comments,FA s.vars]))) m (AI ?_) (λm' hm'=>?_)
 . rcases a1 with⟨_,he,z',f,rfl⟩|⟨j,f,rfl,hj1,hj2,rfl⟩
   . simp[go_sem,AC]
     refine Am 1 (α:=Unit) (λ_=>[(2,.ptr (n+1) 0),(3,.ptr q 0),(21,AA 0),(22,AA 0)]) (λ_=>hset B q (some (.cells [.imm z' [] f,v2,BW s.comments,FA s.vars]))) (λ_ m'=>m<=m') (λ_=>0) () (Y1 _) (by simp[Aj]) AB ?_
     intro _ m' hm'
     simp[go_sem]
     exact hm'
   . have hjq:=hqn j rfl
     have hBj:=B1 j rfl
     simp[go_sem,AC]
     refine Am 1 (α:=Nat) (λi=>[(2,.ptr (n+1) 0),(3,.ptr q 0),(21,AA s.styles.length),(22,AA i)]) (λ_=>hset B q (some (.cells [.sl j 0 6 s.styles.length f,v2,BW s.comments,FA s.vars]))) (λi m'=>i<=s.styles.length/\m<=m') (λi=>s.styles.length-i) 0 ?_ ?_ ?_ ?_
     . exact⟨Y4 _,Y1 _⟩
     . simp[Aj]
     . simp
     rintro i m' ⟨hi,hm'⟩
     by_cases hlt:i<s.styles.length
     . have w1:=wS i (by omega)
       obtain⟨x,hx⟩:∃x,s.styles[i]=x:=⟨_,rfl⟩
       have hx':(s.styles.map Az.enc)[i]? = some x.enc:=by simp[hlt,hx]
       obtain⟨g1,g2⟩:=I1 (Az.E.size s.styles) hx' (k:=5) (c:=Af x.props) rfl
       have g3:=KI g1 g2
       have hxl:=h5 x (by rw[<-hx];exact Yc hlt)
       have hjm:j<m':=by omega
       have hqm:q<m':=by omega
       have hBj':=hBj
       generalize(s.styles.map Az.enc).flatMap SV.cells=F at hBj' g1 g2 g3
       simp[go_sem,AC,AD,hjq,hBj',hlt,g1,g2,hjm,hqm]
       repeat first|refine nd (by simp[CE,Eo,C4,Ap,Region.binds]<;>omega) ?_|refine sq ?_|refine aq ?_
       refine Z6 _ _ _ _ _ _ (UQ x.props hxl) ?_
       simp[go_sem,AD,hjq,hBj',hlt,g1,g3,hjm,w1,-Int.natCast_add]
       repeat first|refine nd (by simp[CE,Eo,C4,Ap,Region.binds,hjq]<;>omega) ?_|refine sq ?_|refine aq ?_
       refine⟨i+1,by omega,⟨by omega,hm'⟩,Y0,λo y=>?_⟩
       simp only[hset];grind
     . have:i=s.styles.length:=by omega
       subst this
       simp[go_sem]
       exact hm'
 refine Bt 1 [(2,.ptr (n+1) 0),(3,.ptr q 0)] (hset B q (some (.cells [v1,v2,BW s.comments,FA s.vars]))) m (AI ?_) (λm2 hm2=>?_)
 . rcases a2 with⟨_,he,z',f,rfl⟩|⟨j,f,rfl,hj1,hj2,rfl⟩
   . simp[go_sem,AC]
     refine Am 1 (α:=Unit) (λ_=>[(2,.ptr (n+1) 0),(3,.ptr q 0),(40,AA 0),(41,AA 0)]) (λ_=>hset B q (some (.cells [v1,.imm z' [] f,BW s.comments,FA s.vars]))) (λ_ m'=>m<=m') (λ_=>0) () hm' (by simp[Aj]) AB ?_
     intro _ m' hm'
     simp[go_sem]
     exact hm'
   . have hjq:=hqn2 j rfl
     have hBj:=B2 j rfl
     simp[go_sem,AC]
     refine Am 1 (α:=Nat) (λi=>[(2,.ptr (n+1) 0),(3,.ptr q 0),(40,AA s.lists.length),(41,AA i)]) (λ_=>hset B q (some (.cells [v1,.sl j 0 2 s.lists.length f,BW s.comments,FA s.vars]))) (λi m'=>i<=s.lists.length/\m<=m') (λi=>s.lists.length-i) 0 ?_ ?_ ?_ ?_
     . exact⟨Y4 _,hm'⟩
     . simp[Aj]
     . simp
     rintro i m' ⟨hi,hm'⟩
     by_cases hlt:i<s.lists.length
     . have w1:=wS i (by omega)
       obtain⟨x,hx⟩:∃x,s.lists[i]=x:=⟨_,rfl⟩
       have hx':(s.lists.map FQ.enc)[i]? = some x.enc:=by simp[hlt,hx]
       obtain⟨g1,g2⟩:=I1 (FQ.E.size s.lists) hx' (k:=1) (c:=DC x.levels) rfl
       have g3:=KI g1 g2
       have hxl:=h6 x (by rw[<-hx];exact Yc hlt)
       have hjm:j<m':=by omega
       have hqm:q<m':=by omega
       have hBj':=hBj
       generalize(s.lists.map FQ.enc).flatMap SV.cells=F at hBj' g1 g2 g3
       simp[go_sem,AC,AD,hjq,hBj',hlt,g1,g2,hjm,hqm]
       repeat first|refine nd (by simp[CE,Eo,C4,Ap,Region.binds]<;>omega) ?_|refine sq ?_|refine aq ?_
       refine Z6 _ _ _ _ _ _ (c203 x.levels hxl) ?_
       simp[go_sem,AD,hjq,hBj',hlt,g1,g3,hjm,w1,-Int.natCast_add]
       repeat first|refine nd (by simp[CE,Eo,C4,Ap,Region.binds,hjq]<;>omega) ?_|refine sq ?_|refine aq ?_
       refine⟨i+1,by omega,⟨by omega,hm'⟩,Y0,λo y=>?_⟩
       simp only[hset];grind
     . have:i=s.lists.length:=by omega
       subst this
       simp[go_sem]
       exact hm'
 have enq:n+1≠q:=by omega
 have fz1:∀(z:Nat) (es:List SV) (v:SV) (o:Option Nat) (H:Hp),(∀e∈es,e.storable=true/\e.cells.length=z)->Gj z es v o (n+2) m->(∀j,o=some j->H j=some (.cells (es.flatMap SV.cells)))->Fz H h 1 v (.imm z es false):=λz es v o H hsz ha hH=>by
  rcases ha with⟨_,he,z',f,rfl⟩|⟨j,f,rfl,hj1,hj2,rfl⟩
  . rw[he];exact A9 (by simp)
  . exact Dj (ho.none (by omega)) (by simp) (hH j rfl) hsz
 refine AI ?_
 simp[go_sem,AC,AD,enq,B3]
 refine Dh (v:=s.enc) 2 ho (λj y e=>?_) (.inr ⟨fz1 _ _ _ _ _ (Az.E.size _) a1 λj e=>?_,fz1 _ _ _ _ _ (FQ.E.size _) a2 λj e=>?_,Y0,Y0,trivial⟩) ?_
 . have:=ho j y e;have:=B4 j y e;simp only[hset];grind
 . have:=L1 j e;have:=B1 j e;have:=hqn j e;simp only[hset];grind
 . have:=L2 j e;have:=B2 j e;have:=hqn2 j e;simp only[hset];grind
 . simp[AJ.enc,AJ.flat,closed,closedL,Az.E.closedL,FQ.E.closedL,As.E.closedL,Fa.E.closedL]
structure AJ.sized (s:AJ):Prop where
 styles:s.styles.length<=1048576
 lists:s.lists.length<=1048576
 comments:s.comments.length<=1048576
 vars:s.vars.length<=1048576
 props:∀x∈s.styles,x.props.length<=1048576
 levels:∀x∈s.lists,x.levels.length<=1048576
structure AH.sized (d:AH):Prop where
 len:d.flow.length<=1048576
 flow:AE.sizedL d.flow
 «end» : d.«end».sized
 revs:d.revs.length<=1048576
 set:d.settings.sized
theorem c79 (d:AH) (hd:d.sized):PC 79 [d.enc] d.enc:=by
 intro h n
 refine gq Tryz.func79 rfl λho=>?_
 have hs:=hd.set
 simp[go_sem,AH.enc,AF.flat,AJ.flat,AC,AD,Yn]
 repeat first|refine nd (by simp[CE,Eo,C4,Ap,Region.binds]<;>omega) ?_|refine sq ?_|refine aq ?_
 refine Z6 _ _ _ _ _ _ (c110 d.flow hd.len hd.flow) ?_
 simp[go_sem,AC,AD]
 repeat first|refine nd (by simp[CE,Eo,C4,Ap,Region.binds]<;>omega) ?_|refine sq ?_|refine aq ?_
 refine Z6 _ _ _ _ _ _ (by simpa[AF.enc,AF.flat]using PP d.«end» hd.end) ?_
 simp[go_sem,AC,AD]
 repeat first|refine nd (by simp[CE,Eo,C4,Ap,Region.binds]<;>omega) ?_|refine sq ?_|refine aq ?_
 refine Z6 _ _ _ _ _ _ (c76 d.revs hd.revs) ?_
 simp[go_sem,AC,AD]
 repeat first|refine nd (by simp[CE,Eo,C4,Ap,Region.binds]<;>omega) ?_|refine sq ?_|refine aq ?_
 refine Z6 _ _ _ _ _ _ (by simpa[AJ.enc,AJ.flat]using c144 d.settings hs.styles hs.lists hs.comments hs.vars hs.props hs.levels) ?_
 simp[go_sem,AC]
 repeat first|refine nd (by simp[CE,Eo,C4,Ap,Region.binds]<;>omega) ?_|refine sq ?_|refine aq ?_
 exact Au ho (λj y=>by have:=ho j y;simp only[hset];grind) rfl (by simp[closed,closedL,AE.E.closedL,E8.E.closedL,BO.E.closedL,Ax.E.closedL,BD.E.closedL,Az.E.closedL,FQ.E.closedL,As.E.closedL,Fa.E.closedL])
theorem c142 (a b:Int):PC 142 [AA a,AA b] (.bool (decide (a<b))):=by
 intro h n
 refine gq Tryz.func142 rfl λho=>?_
 simp[go_sem]
 refine(UP _).use ?_
 simp[go_sem]
 exact A3 ho rfl rfl
theorem c143 (a:Int):PC 143 [AA a] (.bool false):=by
 intro h n
 refine gq Tryz.func143 rfl λho=>?_
 simp[go_sem]
 exact A3 ho rfl rfl
def NU (l:List Int) (x:Int) (i:Nat):Int:=match l[i]? with|some a=>if a<x then -1 else if a=x then 0 else 1|none=>0
theorem c78 (l:List Int) (x:Int) (hl:l.length<=1048576):PC 78 [.imm 1 (l.map AA) false,AA x] (.tup [AA (BF (NU l x) l.length).1,.bool (BF (NU l x) l.length).2]):=by
 intro h n
 refine gq Tryz.func78 rfl λho=>?_
 simp[go_sem]
 generalize hc:NU l x=c
 refine Am 1 (α:=Nat×Nat) (λq=>[(0,.imm 1 (l.map AA) false),(1,AA x),(6,AA l.length),(7,AA q.1),(8,AA q.2)]) (λ_=>h) (λq m=>q.1<=q.2/\q.2<=l.length/\n<=m/\FG c 0 l.length=FG c q.1 q.2) (λq=>q.2-q.1) (0,l.length) ?_ ?_ AB ?_
 . simp
 . simp[Aj]
 rintro⟨i,j⟩ m ⟨hij,hj,hnm,hf⟩
 dsimp only at hij hj hf
 by_cases hlt:i<j
 . have hm:(i+j) / 2<l.length:=by omega
   have w1:IntKind.i64.wrap ((i:Int)+j)=((i+j:Nat):Int):=by rw[DR]<;>omega
   have w2:IntKind.u64.wrap ((i+j:Nat):Int)=((i+j:Nat):Int):=by rw[Sq]<;>omega
   have w3:(((i+j:Nat):Int)).fdiv 2=(((i+j) / 2:Nat):Int):=by rw[Int.fdiv_eq_ediv_of_nonneg _ (by omega)];omega
   have w4:IntKind.i64.wrap (((i+j) / 2:Nat):Int)=(((i+j) / 2:Nat):Int):=by rw[DR]<;>omega
   have w5:IntKind.i64.wrap ((((i+j) / 2:Nat):Int)+1)=(((i+j) / 2+1:Nat):Int):=by rw[DR]<;>omega
   rw[FG.eq_def c i j]at hf
   have hcv:c ((i+j) / 2)=if l[(i+j) / 2]<x then -1 else if l[(i+j) / 2]=x then 0 else 1:=by rw[<-hc];simp[NU,hm]
   simp[go_sem,hlt,w1,w2,w3,w4,hm,-Int.natCast_add,-Int.natCast_ediv]
   refine Yj (c142 _ _) ?_
   by_cases hb:l[(i+j) / 2]<x
   . have HZ:c ((i+j) / 2)<0:=by rw[hcv,if_pos hb];omega
     simp[hlt,HZ]at hf
     simp[go_sem,hb,w5,-Int.natCast_add,-Int.natCast_ediv]
     exact⟨(i+j) / 2+1,j,by omega,⟨by omega,hj,hnm,hf⟩,Y0,Y0⟩
   . have HZ:¬c ((i+j) / 2)<0:=by rw[hcv,if_neg hb];split<;>omega
     simp[hlt,HZ]at hf
     simp[go_sem,hb,-Int.natCast_add,-Int.natCast_ediv]
     exact⟨i,(i+j) / 2,by omega,⟨by omega,by omega,hnm,hf⟩,Y0,Y0⟩
 . have e:FG c 0 l.length=i:=by rw[hf,FG.eq_def];simp[hlt]
   by_cases hi:i<l.length
   . have hcv:c i=if l[i]<x then -1 else if l[i]=x then 0 else 1:=by rw[<-hc];simp[NU,hi]
     by_cases he:l[i]=x
     . simp[go_sem,hlt,hi,he]
       exact A3 ho rfl (by simp[BF,e,hi,hcv,he])
     . have he':(l[i]==x)=false:=by simpa using he
       simp[go_sem,hlt,hi,he']
       refine(c143 _).use ?_
       simp[go_sem]
       have hne:¬c i=0:=by rw[hcv,if_neg he];split<;>omega
       exact A3 ho rfl (by simp[BF,e,hi,hne])
   . simp[go_sem,hlt,hi]
     exact A3 ho rfl (by simp[BF,e,hi])
theorem c77 (l:List Int) (hl:l.length<=1048576) (r:BD):PC 77 [r.enc,.iptr [.imm 1 (l.map AA) false]] (.bool (!(BF (NU l r.id) l.length).2)):=by
 intro h n
 refine gq Tryz.func77 rfl λho=>?_
 simp[go_sem,BD.enc,AC]
 refine(c78 l r.id hl).use ?_
 simp[go_sem]
 exact Au ho (AP ho (Y1 _) AB) rfl rfl
theorem c75n (z:Nat) (full:Bool) (g:FuncId) (a b:List SV):PC 75 [.imm z [] full,.fn (.func g) a b] (.imm 3 [] false):=by
 intro h n
 refine gq Tryz.func75 rfl λho=>?_
 simp[go_sem]
 have hI:=(c141 [] (by simp) g a b (λ_=>false) (by simp)).wk (us:=[.imm z [] full,.fn (.func g) a b]) 1 ⟨A9 (by simp),Y0,trivial⟩
 refine Yj hI ?_
 have e:BR (λ_=>false) 0 0 = -1:=by rw[BR];simp
 simp[go_sem,e]
 exact JL ho AB (by simp) rfl
def AH.norm1 (d:AH):AH:=⟨An d.flow,d.«end»,d.revs,d.settings⟩
def AH.normal (d:AH):AH:=⟨An d.flow,d.«end»,d.revs.filter λr=>(BF (NU (IS d.norm1) r.id) (IS d.norm1).length).2,d.settings⟩
theorem c21 (d:AH) (hd:d.sized) (hn:d.normal.sized) (hu:(BZ [] (AE.usL (An d.flow)++d.«end».all)).length<=1048576):PC 21 [d.enc] d.normal.enc:=by
 intro h n
 refine gq Tryz.func21 rfl λho=>?_
 have hs:=hd.set
 simp[go_sem,AH.enc,AF.flat,AJ.flat,AC,AD,Yn]
 refine(c73 d.flow hd.len hd.flow).use ?_
 simp[go_sem,AC,AD]
 refine Yj (by simpa[AH.enc,AH.norm1,AF.flat,AJ.flat]using c74 d.norm1 hn.len hn.flow hd.end hu) ?_
 simp[go_sem,AC,AD,AY]
 have hul:(IS d.norm1).length<=1048576:=by
  have h1:(IS d.norm1).length=((BZ [] (AE.usL d.norm1.flow++d.norm1.«end».all)).filter λx=>decide (x≠0)).length:=ZQ _
  have h2:=Ze (λx=>decide (x≠0)) (BZ [] (AE.usL d.norm1.flow++d.norm1.«end».all))
  have h4:(BZ [] (AE.usL d.norm1.flow++d.norm1.«end».all)).length<=1048576:=hu
  omega
 generalize hU:IS d.norm1=us at hul
 refine LC.use (l76 _ hd.revs) ?_
 rintro v1 H1 m1 ⟨hle,A8,hv⟩
 have HA:=A8 n (.cells ([AG (An d.flow)]++d.«end».flat++[Aw d.revs]++d.settings.flat)) (by simp[AC,AD,AF.flat,AJ.flat])
 obtain⟨cz,hcz,HC⟩:∃cz:List SV,cz.length=11/\H1 (n+1)=some (.cells cz):=⟨_,rfl,A8 (n+1) (.cells _) (by simp[AC,AD];rfl)⟩
 have HB:=A8 (n+2) (.cells [.imm 1 (us.map AA) false]) (by simp[AC,<-hU,AH.norm1])
 have HO:∀j y,h j=some y->H1 j=some y:=λj y e=>A8 j y (by have:=ho j y e;simp only[hset];grind)
 clear A8
 have fin2:∀(H2:Hp),(∀j,j=n\/j=n+1\/j<n->H2 j=H1 j)->Bz n (hset (hset H2 n (some (.cells d.normal.enc.cells))) (n+1) (some (.cells d.normal.enc.cells))) m1 d.normal.enc (Is d.normal.enc h n):=λH2 a=>by
  refine Au ho (λj y e=>?_) rfl ?_
  . have h1:=(ho j y e).1
    have h2:=HO j y e
    rw[AD _ _ (by omega),AD _ _ (by omega),a j (by omega),h2]
  . simp[AH.enc,AF.flat,AJ.flat,closed,closedL,AE.E.closedL,E8.E.closedL,BO.E.closedL,Ax.E.closedL,BD.E.closedL,Az.E.closedL,FQ.E.closedL,As.E.closedL,Fa.E.closedL]
 have hrev:d.normal.revs=d.revs.filter λr=>!(!(BF (NU us r.id) us.length).2):=by simp[AH.normal,hU]
 have rest:∀(K:SV->Hp->Nat->Prop),(∀H2:Hp,(∀j,j=n\/j=n+1\/j<n->H2 j=H1 j)->K (.imm 3 (d.normal.revs.map BD.enc) false) H2 m1)->Ak (Br.plain.call false 0) Tryz.prog 75 [v1,.fn (.func 77) [] [.ptr (n+2) 0]] H1 m1 K:=λK hK=>by
  rcases hv with⟨he,z',full,rfl⟩|⟨o,full,h1,h2,rfl,h3⟩
  . have hr:d.normal.revs=[]:=by rw[hrev];simp only[List.map_eq_nil_iff]at he;rw[he];rfl
    rw[hr]at hK
    exact(c75n z' full 77 [] [.ptr (n+2) 0]).use (hK H1 λ_ _=>rfl)
  . rw[hrev]at hK
    simp only[Y5]
    refine Xg (bs:=[.sl o 0 3 d.revs.length full,.fn (.func 77) [] [.iptr [.imm 1 (us.map AA) false]]]) (h2:=hset H1 (n+2) none) 2 (λj y e=>?_) ⟨Y0,.inr ⟨rfl,trivial,AT (AC _ _ _) HB,trivial⟩,trivial⟩ ?_
    . simp only[hset]at e
      split at e
      . cases e
      . exact e
    refine Ys (d75 d.revs hd.revs 77 [] [.iptr [.imm 1 (us.map AA) false]] (λr=>!(BF (NU us r.id) us.length).2) (λx _=>c77 us hul x) (by rw[AD _ _ (by omega)];exact h3)) ?_
    rintro v h' n' ⟨rfl,rfl,rfl⟩
    refine hK _ λj hj=>?_
    rw[AD _ _ (by omega),AD _ _ (by omega)]
 simp[go_sem]
 refine rest _ λH2 a=>?_
 have HA2:H2 n=_:=(a n (.inl rfl)).trans HA
 have HC2:H2 (n+1)=_:=(a (n+1) (.inr (.inl rfl))).trans HC
 have hn1:n+1≠n:=by omega
 simp only[AF.flat,AJ.flat]at HA2
 simp[go_sem,HA2,AC]
 refine Yj (by simpa[AH.enc,AH.normal,AF.flat,AJ.flat]using c79 d.normal hn) ?_
 have hdz:cz.drop 11=[]:=ZC (by omega)
 simp[go_sem,AD,HC2,hcz,AC,hdz]
 have:=fin2 H2 a
 simpa[AH.enc,AH.normal,AF.flat,AJ.flat,SV.cells]using this
theorem Uo {h:Hp} {n:Nat} (k:Nat) (h0:0<k) (h1:k<=1073741824):AS Tryz.prog h n .append [22,3] [.imm 0 [] true,.int .i64 k]=some { val:=.sl n 0 11 k false,new:=some (.cells (List.replicate k (BH Tryz.prog 70).cells).flatten) }:=by
 have e1:A6 Tryz.prog 22=some 70:=by simp[go_sem]
 have e2:Bh Tryz.prog 70=11:=by simp[go_sem]
 have e3:(BH Tryz.prog 70).storable=true:=by simp[go_sem]
 have e4:(BH Tryz.prog 70).cells.length=11:=by simp[go_sem]
 have e5:Bg Tryz.prog 70<=65536:=by simp[go_sem]
 have e6:A6 Tryz.prog 3=none:=by simp[go_sem]
 have e7:Tryz.prog.underlying 3=some (.int .i64):=by kernel_rfl
 simp only[AS,e6,Option.isSome_none,Y7,if_false,FD,e1,e7]
 rw[if_pos ⟨⟨by omega,by omega⟩,by rw[e2];omega,e5,e3,by rw[e4,e2]⟩,e2]
 simp
theorem d256 (k:Nat) (hk:k<=1048576) {h:Hp} {n:Nat}:BM Tryz.prog 256 [.imm 0 [] true,AA k] h n (λv h' n'=>(k=0/\v=.imm 0 [] true/\h'=h/\n'=n)\/(0<k/\∃cs,v=.sl n 0 11 0 false/\h'=hset h n (some (.cells cs))/\n'=n+1)):=by
 refine gq Tryz.func256 rfl λho=>?_
 have h0:¬((k:Int)<0):=by omega
 have w0:IntKind.i64.wrap ((k:Int))=k:=by rw[DR]<;>omega
 have w1:IntKind.i64.wrap 0=0:=by decide
 by_cases hz:k=0
 . subst hz
   simp[go_sem,w1]
   exact .inl ⟨rfl,rfl,rfl⟩
 . have hp:0<k:=by omega
   have hb:(k:Int)<=1073741824:=by omega
   have hmk:=λh n=>Uo (h:=h) (n:=n) k hp (by omega)
   simp[go_sem,h0,w0,w1,hp,hmk]
   exact .inl (.inr ⟨rfl,⟨_,rfl⟩,rfl⟩)
theorem Kc {H:Hp} {p len m:Nat} {s x:SV} {xs ys:List SV} {upd:Option (Nat×Option BT)} (hs:(s=.imm 0 [] true/\xs=[]/\len=0/\upd=none)\/∃j cs,s=.sl j 0 11 len false/\H j=some (.cells cs)/\Bk cs 0 (len*11)=some xs/\upd=some (j,none))
 (hx:Ha 11 x=true) (hm:EF x=some m) (hy:flat H x=some ys) (hm0:m≠0) (hroom:len+m<=1073741824):
 AS Tryz.prog H p .append [22,22] [s,x]=some { val:=.sl p 0 11 (len+m) false,upd:=upd,new:=some (.cells (xs++ys)) }:=by
 have e1:A6 Tryz.prog 22=some 70:=by simp[go_sem]
 have e2:Bh Tryz.prog 70=11:=by simp[go_sem]
 have e3:(BH Tryz.prog 70).storable=true:=by simp[go_sem]
 have e4:(BH Tryz.prog 70).cells.length=11:=by simp[go_sem]
 have e5:Bg Tryz.prog 70<=65536:=by simp[go_sem]
 have hr:DU (len+m) (Bg Tryz.prog 70)=true:=by simp only[DU,Yb,decide_eq_true_eq];exact⟨by omega,e5⟩
 simp only[AS,e1,Zb,if_true,Cw,hm,hy,e2,hx,e3,e4]
 have e6:HM 70=none:=by rfl
 rcases hs with⟨rfl,rfl,rfl,rfl⟩|⟨j,cs,rfl,hj,ht,rfl⟩
 . simp[Ha,hm0,e6]
   simpa using hr
 . simp[Ha,hm0,flat,hj,ht,hr,HS e6]
theorem N6 {H:Hp} {p len:Nat} {s:SV} (hs:s=.imm 0 [] true\/∃j,s=.sl j 0 11 len false):
 AS Tryz.prog H p .append [22,22] [s,AG []]=some { val:=s }:=by
 have e1:A6 Tryz.prog 22=some 70:=by simp[go_sem]
 have e2:Bh Tryz.prog 70=11:=by simp[go_sem]
 have e3:(BH Tryz.prog 70).storable=true:=by simp[go_sem]
 have e4:(BH Tryz.prog 70).cells.length=11:=by simp[go_sem]
 simp only[AS,e1,Zb,if_true,Cw,e2,e3,e4]
 rcases hs with rfl|⟨j,rfl⟩<;>simp[Ha,EF,flat,EA]
def DJ (Ls:List (List AE)) (i:Nat):List AE:=(Ls.take i).flatten
theorem K5 {Ls:List (List AE)} {i:Nat} {x:List AE} (h:i<Ls.length) (hx:Ls[i]=x):DJ Ls (i+1)=DJ Ls i++x:=by
 unfold DJ;rw[Y2 h,hx];simp
theorem Rr (Ls:List (List AE)) (i:Nat):(DJ Ls i).length<=Ls.flatten.length:=by
 have:Ls.flatten=(Ls.take i).flatten++(Ls.drop i).flatten:=by rw[<-List.flatten_append,Z4]
 rw[this,DJ];simp
theorem MV (Ls:List (List AE)):DJ Ls Ls.length=Ls.flatten:=by unfold DJ;rw[Ya]
theorem c189 (Ls:List (List AE)) (hL:Ls.length<=1048576) (hT:Ls.flatten.length<=1048576):PC 189 [.imm 1 (Ls.map AG) false] (AG Ls.flatten):=by
 intro h n
 refine gq Tryz.func189 rfl λho=>?_
 simp[go_sem]
 have hle:=Rr Ls
 refine Am 1 (α:=Nat) (λi=>[(0,.imm 1 (Ls.map AG) false),(3,AA (DJ Ls i).length),(9,.imm 1 (Ls.map AG) false),(10,AA Ls.length),(11,AA i)]) (λ_=>h) (λi m=>i<=Ls.length/\n<=m) (λi=>Ls.length-i) 0 ?_ ?_ AB ?_
 . exact⟨Y4 _,Y1 n⟩
 . simp[Aj,DJ]
 rintro i m ⟨hi,hnm⟩
 by_cases hlt:i<Ls.length
 . have w1:=wS i (by omega)
   obtain⟨x,hx⟩:∃x,Ls[i]=x:=⟨_,rfl⟩
   have hsn:=K5 hlt hx
   have h1:=hle i
   have h2:=hle (i+1)
   have h3:¬((((DJ Ls (i+1)).length:Nat):Int)<0):=by omega
   have w2:IntKind.i64.wrap (((DJ Ls i).length:Int)+(x.length:Int))=(((DJ Ls (i+1)).length:Nat):Int):=by
    have:(DJ Ls (i+1)).length=(DJ Ls i).length+x.length:=by rw[hsn,Ym]
    rw[DR]<;>omega
   simp[go_sem,hlt,hx,w2,h3,w1,-Int.natCast_add]
   exact⟨i+1,by omega,⟨by omega,hnm⟩,Y0,Y0⟩
 . have:i=Ls.length:=by omega
   subst this
   rw[MV]
   generalize hF:Ls.flatten=F at hT
   simp[go_sem]
   refine Ys (d256 F.length hT) ?_
   intro v h' n' hv
   have hst:∃o:Option Nat,(∀j,o=some j->n<=j/\j<n')/\n<=n'/\(∀j y,h j=some y->h' j=some y)/\((o=none/\v=.imm 0 [] true)\/∃j cs,o=some j/\v=.sl j 0 11 0 false/\h' j=some (.cells cs)):=by
    rcases hv with⟨_,rfl,rfl,rfl⟩|⟨_,cs,rfl,rfl,rfl⟩
    . exact⟨none,by simp,hnm,λ_ _ e=>e,.inl ⟨rfl,rfl⟩⟩
    . exact⟨some m,by rintro j e;cases e;omega,by omega,AP ho hnm AB,.inr ⟨m,cs,rfl,rfl,AC _ _ _⟩⟩
   clear hv
   obtain⟨o0,hlt0,hnn,hh0,hv0⟩:=hst
   simp[go_sem]
   refine Am 1 (α:=Nat×Option Nat×SV×Hp) (λa=>[(6,a.2.2.1),(25,.imm 1 (Ls.map AG) false),(26,AA Ls.length),(27,AA a.1)]) (λa=>a.2.2.2)
    (λa m=>a.1<=Ls.length/\n<=m/\(∀j,a.2.1=some j->n<=j/\j<m)/\(∀j y,h j=some y->a.2.2.2 j=some y)/\((a.2.1=none/\a.2.2.1=.imm 0 [] true/\DJ Ls a.1=[])\/∃j cs,a.2.1=some j/\a.2.2.1=.sl j 0 11 (DJ Ls a.1).length false/\a.2.2.2 j=some (.cells cs)/\Bk cs 0 ((DJ Ls a.1).length*11)=some (((DJ Ls a.1).map AE.enc).flatMap SV.cells)))
    (λa=>Ls.length-a.1) (0,o0,v,h') ?_ ?_ AB ?_
   . refine⟨Y4 _,hnn,hlt0,hh0,?_⟩
     rcases hv0 with⟨h1,h2⟩|⟨j,cs,h1,h2,h3⟩
     . exact .inl ⟨h1,h2,rfl⟩
     . exact .inr ⟨j,cs,h1,h2,h3,by simp[Bk,DJ]⟩
   . simp[Aj]
   clear hv0 hh0 hlt0 hnn h' v hnm m hi hlt n' o0
   rintro⟨i,o,v,h'⟩ m ⟨hi,hnm,hon,A8,hv⟩
   dsimp only at hi hon A8 hv ⊢
   by_cases hlt:i<Ls.length
   . have w1:=wS i (by omega)
     obtain⟨x,hx⟩:∃x,Ls[i]=x:=⟨_,rfl⟩
     have hsn:=K5 hlt hx
     have h2:=hle (i+1)
     rw[hF,hsn,Ym]at h2
     have hbt:A6 Tryz.prog 22=some 70:=by simp[go_sem]
     by_cases hx0:x=[]
     . subst hx0
       have hap:=λ(H:Hp) (p:Nat)=>N6 (H:=H) (p:=p) (len:=(DJ Ls i).length) (s:=v) (by
        rcases hv with⟨_,h1,_⟩|⟨j,cs,_,h1,_⟩
        . exact .inl h1
        . exact .inr ⟨j,h1⟩)
       simp[go_sem,hlt,hx,hap,w1,-Int.natCast_add]
       exact⟨i+1,by omega,o,v,h',⟨by omega,hnm,hon,A8,by simpa[Bk,hsn]using hv⟩,⟨Y0,Y0⟩,AB⟩
     . have hxl:x.length≠0:=by cases x<;>simp at hx0 ⊢
       have hxn:∀z:List SV,z=x.map AE.enc->EF (.imm 11 z false)=some x.length:=by rintro z rfl;simp[EF]
       rcases hv with⟨rfl,rfl,h0⟩|⟨j,cs,rfl,rfl,hj,ht⟩
       . rw[h0,Yt]at hsn
         have hap:=λ(p:Nat)=>Kc (H:=h') (p:=p) (len:=0) (m:=x.length) (s:=.imm 0 [] true) (x:=AG x) (xs:=[]) (ys:=(x.map AE.enc).flatMap SV.cells) (upd:=none) (.inl ⟨rfl,rfl,rfl,rfl⟩) (by simp[Ha]) (by simp[EF]) rfl hxl (by omega)
         simp[go_sem,hlt,hx,hap,w1,-Int.natCast_add]
         refine⟨i+1,by omega,some m,.sl m 0 11 x.length false,hset h' m (some (.cells ((x.map AE.enc).flatMap SV.cells))),⟨by omega,by omega,by rintro j e;cases e;omega,?_,.inr ⟨m,rfl,by rw[hsn],_,AC _ _ _,?_⟩⟩,⟨Y0,Y0⟩,AB⟩
         . exact λj y e=>by rw[AD _ _ (by have:=(ho j y e).1;omega)];exact A8 j y e
         . rw[hsn]
           have:=BE (AE.E.size x)
           rw[Y5]at this
           exact⟨by omega,by rw[<-this,Ya]⟩
       . have hjm:=hon j rfl
         have hap:=λ(p:Nat)=>Kc (H:=h') (p:=p) (len:=(DJ Ls i).length) (m:=x.length) (s:=.sl j 0 11 (DJ Ls i).length false) (x:=AG x) (ys:=(x.map AE.enc).flatMap SV.cells) (upd:=some (j,none)) (.inr ⟨j,cs,rfl,hj,ht,rfl⟩) (by simp[Ha]) (by simp[EF]) rfl hxl (by omega)
         simp[go_sem,hlt,hx,hap,w1,-Int.natCast_add]
         refine⟨i+1,by omega,some m,.sl m 0 11 ((DJ Ls i).length+x.length) false,hset (hset h' j none) m (some (.cells (((DJ Ls i).map AE.enc).flatMap SV.cells++(x.map AE.enc).flatMap SV.cells))),⟨by omega,by omega,by rintro j e;cases e;omega,?_,.inr ⟨m,rfl,by rw[hsn,Ym],_,AC _ _ _,?_⟩⟩,⟨Y0,Y0⟩,AB⟩
         . exact λq y e=>by have:=(ho q y e).1;rw[AD _ _ (by omega),AD _ _ (by omega)];exact A8 q y e
         . rw[hsn,Y3,Z7]
           have a1:=BE (AE.E.size (DJ Ls i))
           have a2:=BE (AE.E.size x)
           rw[Y5]at a1 a2
           have a3:(((DJ Ls i).map AE.enc).flatMap SV.cells++(x.map AE.enc).flatMap SV.cells).length=(DJ Ls i++x).length*11:=by rw[Ym,a1,a2,Ym,Zg]
           exact⟨by omega,by rw[<-a3,Ya]⟩
   . have:i=Ls.length:=by omega
     subst this
     rw[MV,hF]at hv
     simp[go_sem]
     rcases hv with⟨rfl,rfl,rfl⟩|⟨j,cs,rfl,rfl,h1,h2⟩
     . exact JL ho A8 (by simp) rfl
     . have hj:=hon j rfl
       have hn:=ho.none hj.1
       have hE:=AE.E.size F
       have hA:∀l:List SV,AZ (Fz h' h 0) l l:=by
        intro l;induction l with
        | nil=>trivial
        | cons a l ih=>exact⟨Y0,ih⟩
       refine Dh (v:=AG F) 1 ho A8 ?_ (AE.E.imm _ _ _ _)
       exact .inr ⟨hn,by simp,by simp,rfl,cs,_,h1,h2,hE,hA _⟩
def Ao (l:List AE):Nat:=(l.map λx=>x.text.size).sum
def DM (hp:AF->Prop) (K:Nat):Nat->List AE->Prop
 | 0,_=>False
 | N+1,l=>l.length<=K/\Ao l<=K/\∀x∈l,hp x.head/\DM hp K N x.flow/\x.rows.length<=K/\∀r∈x.rows,hp r.head/\r.cells.length<=K/\∀c∈r.cells,hp c.head/\DM hp K N c.flow
theorem DM.mono {hp hp':AF->Prop} (hh:∀x,hp x->hp' x) {K K':Nat} (h:K<=K'):∀{N:Nat} {l:List AE},DM hp K N l->DM hp' K' N l
 | N+1,l,H=>⟨by have:=H.1;omega,by have:=H.2.1;omega,λx hx=>by
  obtain⟨a,b,c,d⟩:=H.2.2 x hx
  exact⟨hh _ a,b.mono hh h,by omega,λr hr=>⟨hh _ (d r hr).1,by have:=(d r hr).2.1;omega,λe he=>⟨hh _ ((d r hr).2.2 e he).1,((d r hr).2.2 e he).2.mono hh h⟩⟩⟩⟩
theorem Ci (a b:List AE):Ao (a++b)=Ao a+Ao b:=by simp[Ao]
theorem Iv {l:List AE} {x:AE} (h:x∈l):x.text.size<=Ao l:=by
 induction l with
 | nil=>cases h
 | cons a l ih=>
  have e:Ao (a::l)=a.text.size+Ao l:=by simp[Ao]
  rcases Yg.1 h with rfl|h
  . omega
  . have:=ih h;omega
theorem DM.sized {hp:AF->Prop} (hh:∀x,hp x->x.sized) {K:Nat} (h:K<=1048576):∀{N:Nat} {l:List AE},DM hp K N l->l.length<=1048576/\AE.sizedL l
 | N + 1, l, H => ⟨by have := H.1; omega, Xn fun x hx => by
  obtain⟨a,b,c,d⟩:=H.2.2 x hx
  have ht:=Iv hx
  have ht2:=H.2.1
  have hf:=DM.sized hh h b
  have hr:AW.sizedL x.rows:=AW.sizedL_of λr hr=>by
   obtain⟨e,f,g⟩:=d r hr
   have hc:AL.sizedL r.cells:=AL.sizedL_of λq hq=>by
    obtain⟨u,v⟩:=g q hq
    have hv:=DM.sized hh h v
    cases q;rw[AL.sized];exact⟨hh _ u,hv.1,hv.2⟩
   cases r;rw[AW.sized];exact⟨hh _ e,by simp only[AW.cells]at f;omega,hc⟩
  cases x;rw[AE.sized];exact⟨by simp only[AE.text]at ht;omega,hh _ a,hf.1,by simp only[AE.rows]at c;omega,hf.2,hr⟩⟩
def LG (hp:AF->Prop) (K N:Nat) (x:AE):Prop:=hp x.head/\DM hp K N x.flow/\x.rows.length<=K/\∀r∈x.rows,hp r.head/\r.cells.length<=K/\∀c∈r.cells,hp c.head/\DM hp K N c.flow
theorem Cf {hp:AF->Prop} {K N:Nat} {l:List AE}:DM hp K (N+1) l↔l.length<=K/\Ao l<=K/\∀x∈l,LG hp K N x:=Iff.rfl
theorem Ml {hp:AF->Prop} {K N:Nat} {x:AE} (H:LG hp K N x) (t:ByteArray):LG hp K N (.mk x.kind x.code x.id t x.head x.flow x.rows):=by cases x;exact H
theorem L5 (out:List AE) (x:AE):Ao (BC out x)<=Ao out+x.text.size:=by
 unfold BC
 split
 . omega
 . split
   . rename_i y hy
     obtain⟨ys,rfl⟩:∃ys,out=ys++[y]:=by
      rcases List.eq_nil_or_concat out with rfl|⟨ys,z,rfl⟩
      . simp at hy
      . simp only[List.concat_eq_append]at hy ⊢;rw[ZX]at hy;cases hy;exact⟨ys,rfl⟩
     split
     . simp[Ao,AE.addText,AE.text];omega
     . simp[Ao];omega
   . simp[Ao]
theorem NW {p:AE->Prop} (hp:∀x t,p x->p (.mk x.kind x.code x.id t x.head x.flow x.rows)) {out:List AE} {x:AE} (h1:∀y∈out,p y) (h2:p x):∀y∈BC out x,p y:=λy hy=>by
 rcases JI hy with h|h|⟨z,hz,h⟩
 . exact h1 y h
 . rw[h];exact h2
 . rw[h];exact hp z _ (h1 z hz)
theorem PY (l:List AE) (out:List AE):Ao (l.foldl BC out)<=Ao out+Ao l:=by
 induction l generalizing out with
 | nil=>simp[Ao]
 | cons a l ih=>
  have h1:=ih (BC out a)
  have h2:=L5 out a
  have e:Ao (a::l)=a.text.size+Ao l:=by simp[Ao]
  simp only[YT];omega
theorem K7 (l:List AE) (out:List AE):(l.foldl BC out).length<=out.length+l.length:=by
 induction l generalizing out with
 | nil=>simp
 | cons a l ih=>
  have h1:=ih (BC out a)
  have h2:=JH out a
  simp only[YT,Yy];omega
theorem Jf {p:AE->Prop} (hp:∀x t,p x->p (.mk x.kind x.code x.id t x.head x.flow x.rows)) (l:List AE) (out:List AE) (h1:∀y∈out,p y) (h2:∀y∈l,p y):∀y∈l.foldl BC out,p y:=by
 induction l generalizing out with
 | nil=>exact h1
 | cons a l ih=>exact ih (BC out a) (NW hp h1 (h2 a (by simp))) λy hy=>h2 y (by simp[hy])
theorem FK {hp:AF->Prop} {K:Nat}:∀{N:Nat} {l:List AE},DM hp K N l->DM hp K N (An l)
 | N+1,l,H=>by
  rw[Cf]at H ⊢
  unfold An Dy
  rw[ZT]
  refine⟨?_,?_,?_⟩
  . have:=K7 (l.map AE.nrm) [];simp at this;omega
  . have:=PY (l.map AE.nrm) []
    have e:Ao (l.map AE.nrm)=Ao l:=by simp only[Ao,List.map_map];congr 1;exact YE λx _=>by simp only[Function.comp_apply,(AE.nrm_fields x).2.2.2.1]
    have e0:Ao []=0:=rfl
    rw[e,e0]at this;omega
  . refine Jf (p:=LG hp K N) (λx t h=>Ml h t) _ _ (λy hy=>by cases hy) λy hy=>?_
    obtain⟨x,hx,rfl⟩:=Yp.1 hy
    obtain⟨a,b,c,d⟩:=H.2.2 x hx
    obtain⟨_,_,_,_,e1,e2,e3⟩:=AE.nrm_fields x
    refine⟨by rw[e1];exact a,by rw[e2];exact FK b,?_,?_⟩
    . rw[e3];have:=Ze (λr=>!decide (r.cells.length=0)) (x.rows.map AW.nrm);simp only[Y5]at this;omega
    . rw[e3];intro r hr
      obtain⟨r0,h0,rfl⟩:=Yp.1 (List.mem_filter.1 hr).1
      obtain⟨u,v,w⟩:=d r0 h0
      have er:(AW.nrm r0).head=r0.head/\(AW.nrm r0).cells=r0.cells.map AL.nrm:=by cases r0;rw[AW.nrm,Xj];exact⟨rfl,rfl⟩
      refine⟨by rw[er.1];exact u,by rw[er.2,Y5];exact v,?_⟩
      rw[er.2];intro c hc
      obtain⟨c0,h1,rfl⟩:=Yp.1 hc
      obtain⟨u1,u2⟩:=w c0 h1
      have ec:(AL.nrm c0).head=c0.head/\(AL.nrm c0).flow=An c0.flow:=by cases c0;rw[AL.nrm];exact⟨rfl,rfl⟩
      exact⟨by rw[ec.1];exact u1,by rw[ec.2];exact FK u2⟩
theorem LZ {y:AE} {a b:Nat}:(y.setText (y.text.extract a b)).text.size<=y.text.size:=by
 cases y;simp[AE.setText,AE.text];omega
theorem NN (cu:Int) (s:List AE×List AE) (p:Int×AE):Ao (CN cu s p).1<=Ao s.1+p.2.text.size/\Ao (CN cu s p).2<=Ao s.2+p.2.text.size:=by
 unfold CN
 split
 . exact⟨by simp[Ci];simp[Ao],by simp⟩
 . split
   . exact⟨by simp,by simp[Ci];simp[Ao]⟩
   . dsimp only
     simp only[Ci]
     constructor
     . have:∀x:AE,Ao [x]=x.text.size:=by simp[Ao]
       rw[this]
       have:=@LZ p.2
       exact Nat.add_le_add_left (this) _
     . have:∀x:AE,Ao [x]=x.text.size:=by simp[Ao]
       rw[this]
       have:=@LZ p.2
       exact Nat.add_le_add_left (this) _
theorem MO (l:List AE) (cu:Int):∀k,k<=l.length->Ao (Cq l cu k).1<=Ao (l.take k)/\Ao (Cq l cu k).2<=Ao (l.take k)
 | 0,_=>by simp[Cq,Ao]
 | k+1,h=>by
  rw[F3 l cu k h,Y2 h,Ci]
  have h1:=MO l cu k (by omega)
  have h2:=NN cu (Cq l cu k) (CA (l.take k),l[k])
  have h3:Ao [l[k]]=l[k].text.size:=by simp[Ao]
  dsimp only at h2
  omega
theorem OG {p:AE->Prop} (hp:∀x t,p x->p (.mk x.kind x.code x.id t x.head x.flow x.rows)) (cu:Int) (s:List AE×List AE) (q:Int×AE) (h1:∀y∈s.1,p y) (h2:∀y∈s.2,p y) (h3:p q.2):(∀y∈(CN cu s q).1,p y)/\∀y∈(CN cu s q).2,p y:=by
 have ap:∀(a:List AE) (y:AE),(∀z∈a,p z)->p y->∀z∈a++[y],p z:=λa y h h' z hz=>by
  rcases Y8.1 hz with hz|hz
  . exact h z hz
  . rw[Yk.1 hz];exact h'
 unfold CN
 split
 . exact⟨ap _ _ h1 h3,h2⟩
 . split
   . exact⟨h1,ap _ _ h2 h3⟩
   . exact⟨ap _ _ h1 (hp _ _ h3),ap _ _ h2 (hp _ _ h3)⟩
theorem I4 {p:AE->Prop} (hp:∀x t,p x->p (.mk x.kind x.code x.id t x.head x.flow x.rows)) (l:List AE) (cu:Int) (h:∀y∈l,p y):∀k,k<=l.length->(∀y∈(Cq l cu k).1,p y)/\∀y∈(Cq l cu k).2,p y
 | 0,_=>by simp[Cq]
 | k+1,hk=>by
  rw[F3 l cu k hk]
  have h1:=I4 hp l cu h k (by omega)
  exact OG hp _ _ _ h1.1 h1.2 (h _ (Yc _))
theorem LH {hp:AF->Prop} {K N:Nat} {l:List AE} (cu:Int) (H:DM hp K (N+1) l):DM hp K (N+1) (BS l cu).1/\DM hp K (N+1) (BS l cu).2:=by
 rw[Cf]at H
 have h1:=EJ l cu
 have h2:=MO l cu _ (Y1 _)
 have h3:=I4 (p:=LG hp K N) (λx t h=>Ml h t) l cu H.2.2 _ (Y1 _)
 rw[Ya]at h2
 exact⟨⟨by omega,by have:=h2.1;unfold BS;omega,h3.1⟩,⟨by omega,by have:=h2.2;unfold BS;omega,h3.2⟩⟩
theorem Cv {hp:AF->Prop} {K N:Nat} {l:List AE} (a b:Int) (H:DM hp K (N+1) l):DM hp K (N+1) (AU l a b).1:=by
 unfold AU
 split
 . exact FK (LH a (LH b H).1).2
 . exact⟨by simp,by simp[Ao],by simp⟩
theorem L9 (l:List AE):(An l).length<=l.length:=by
 have:=K7 (AE.nrmL l) [];rw[ZT]at this;unfold An Dy;rw[ZT];simpa using this
theorem Dv (l:List AE) (a b:Int):(AU l a b).1.length<=l.length:=by
 unfold AU
 split
 . have h1:=EJ l b
   have h2:=EJ (BS l b).1 a
   have h3:=L9 (BS (BS l b).1 a).2
   dsimp only;omega
 . simp
structure BY where
 head:AF
 mid:Bool
 units:Int
def BY.enc (p:BY):SV:=.agg (p.head.flat++[.bool p.mid,AA p.units])
structure Ah where
 id:Int
 a:Int
 b:Int
def Ah.enc (s:Ah):SV:=.agg [AA s.id,AA s.a,AA s.b]
def AE.put (x:AE) (h:AF) (f:List AE) (r:List AW):AE:=.mk x.kind x.code x.id x.text h f r
section
variable {σ : Type} (f : σ → BY → AF × Bool × σ) (it : Int → List AE → Bool → σ → List AE × σ) (mid : Bool)
def Dl (q:List AL×σ) (c:AL):List AL×σ:=
 if(f q.2 ⟨c.head,mid,1⟩).2.1 then(q.1++[.mk c.id (f q.2 ⟨c.head,mid,1⟩).1 (it c.id c.flow mid (f q.2 ⟨c.head,mid,1⟩).2.2).1],(it c.id c.flow mid (f q.2 ⟨c.head,mid,1⟩).2.2).2)
 else(q.1,(f q.2 ⟨c.head,mid,1⟩).2.2)
def EP (l:List AL) (s:σ):List AL×σ:=l.foldl (Dl f it mid) ([],s)
def Et (q:List AW×σ) (r:AW):List AW×σ:=
 if(f q.2 ⟨r.head,mid,1⟩).2.1 then(q.1++[.mk (f q.2 ⟨r.head,mid,1⟩).1 (EP f it mid r.cells (f q.2 ⟨r.head,mid,1⟩).2.2).1],(EP f it mid r.cells (f q.2 ⟨r.head,mid,1⟩).2.2).2)
 else(q.1,(f q.2 ⟨r.head,mid,1⟩).2.2)
def Gy (l:List AW) (s:σ):List AW×σ:=l.foldl (Et f it mid) ([],s)
def Cr (x:AE) (s:σ):(List AE×List AW)×σ:=
 if x.kind=6 then(((it x.id x.flow mid s).1,x.rows),(it x.id x.flow mid s).2)
 else if x.kind=7 then((x.flow,(Gy f it mid x.rows s).1),(Gy f it mid x.rows s).2)
 else((x.flow,x.rows),s)
def CK (q:List AE×σ) (x:AE):List AE×σ:=
 let r:=f q.2 ⟨x.head,mid,(A5 [x]).1⟩
 if r.2.1 then(q.1++[x.put r.1 (Cr f it mid x r.2.2).1.1 (Cr f it mid x r.2.2).1.2],(Cr f it mid x r.2.2).2)
 else(q.1,r.2.2)
def BK (l:List AE) (s:σ):List AE×σ:=l.foldl (CK f it mid) ([],s)
end
section
variable {σ : Type} (f : σ → BY → AF × Bool × σ) (sc : Ah)
def DB (id:Int) (l:List AE) (mid:Bool):Bool:=decide (id=sc.id) && !mid&&decide (0<=sc.a)&&decide (sc.a<=sc.b)&&decide (sc.b<=(A5 l).1)
def Al:Nat->Int->List AE->Bool->σ->List AE×σ
 | 0,_,_,_,s=>([],s)
 | N + 1, id, l, mid, s =>
  if DB sc id l mid then
   let p1:=BK f (Al N) false (AU l 0 sc.a).1 s
   let p2:=BK f (Al N) true (AU l sc.a sc.b).1 p1.2
   let p3:=BK f (Al N) false (AU l sc.b (A5 l).1).1 p2.2
   (p1.1++p2.1++p3.1,p3.2)
  else BK f (Al N) mid l s
end
theorem FI {α β:Type} (g:β->α->β) (b:β) (l:List α) (i:Nat) (x:α) (h:i<l.length) (hx:l[i]=x):(l.take (i+1)).foldl g b=g ((l.take i).foldl g b) x:=by
 rw[Y2 h,Zw,hx];rfl
section
variable {σ : Type} {f : σ → BY → AF × Bool × σ} {it : Int → List AE → Bool → σ → List AE × σ} {mid : Bool}
theorem Kw (l:List AL) (z:List AL×σ):(l.foldl (Dl f it mid) z).1.length<=z.1.length+l.length:=by
 induction l generalizing z with
 | nil=>simp
 | cons a l ih=>
  have:=ih (Dl f it mid z a)
  have h2:(Dl f it mid z a).1.length<=z.1.length+1:=by unfold Dl;split<;>simp
  simp only[YT,Yy];omega
theorem Ms (l:List AW) (z:List AW×σ):(l.foldl (Et f it mid) z).1.length<=z.1.length+l.length:=by
 induction l generalizing z with
 | nil=>simp
 | cons a l ih=>
  have:=ih (Et f it mid z a)
  have h2:(Et f it mid z a).1.length<=z.1.length+1:=by unfold Et;split<;>simp
  simp only[YT,Yy];omega
theorem GK (l:List AE) (z:List AE×σ):(l.foldl (CK f it mid) z).1.length<=z.1.length+l.length:=by
 induction l generalizing z with
 | nil=>simp
 | cons a l ih=>
  have:=ih (CK f it mid z a)
  have h2:(CK f it mid z a).1.length<=z.1.length+1:=by unfold CK;dsimp only;split<;>simp
  simp only[YT,Yy];omega
end
section
variable {hp : AF → Prop} {σ : Type} {f : σ → BY → AF × Bool × σ} {it : Int → List AE → Bool → σ → List AE × σ} {mid : Bool} {K N : Nat}
theorem FH {α β:Type} (g:β->α->β) (I:β->Prop):∀(l:List α) (b:β),I b->(∀b x,x∈l->I b->I (g b x))->I (l.foldl g b)
 | [],_,h,_=>h
 | x::l,b,h,H=>FH g I l _ (H b x (by simp) h) λb y hy=>H b y (by simp[hy])
theorem Ek {α:Type} {p:α->Prop} {l:List α} {x:α} (h:∀y∈l,p y) (hx:p x):∀y∈l++[x],p y:=λy hy=>by
 rcases Y8.1 hy with hy|hy
 . exact h y hy
 . rw[Yk.1 hy];exact hx
theorem GJ {sc:Ah} (hf:∀s p,hp p.head->hp (f s p).1):∀(N:Nat) (id:Int) (l:List AE) (mid:Bool) (s:σ),DM hp K N l->DM hp (3*K) N (Al f sc N id l mid s).1/\(Al f sc N id l mid s).1.length<=3*K
 | 0,_,_,_,_,h=>h.elim
 | N + 1, id, l, mid, s, h => by
  have parts:∀mid l s,DM hp K (N+1) l->(BK f (Al f sc N) mid l s).1.length<=K/\Ao (BK f (Al f sc N) mid l s).1<=K/\∀x∈(BK f (Al f sc N) mid l s).1,LG hp (3*K) N x:=by
   clear h
   intro mid l s h
   obtain⟨h1,h2,h3⟩:=Cf.1 h
   have cells:∀(cs:List AL) s,cs.length<=K->(∀c∈cs,hp c.head/\DM hp K N c.flow)->(EP f (Al f sc N) mid cs s).1.length<=3*K/\∀c∈(EP f (Al f sc N) mid cs s).1,hp c.head/\DM hp (3*K) N c.flow:=λcs s hl hc=>by
    refine⟨by have:=Kw (f:=f) (it:=Al f sc N) (mid:=mid) cs ([],s);simp at this;unfold EP;omega,?_⟩
    refine FH _ (λq:List AL×σ=>∀c∈q.1,hp c.head/\DM hp (3*K) N c.flow) cs _ (by simp) λq c hm hq=>?_
    unfold Dl
    split
    . exact Ek hq ⟨hf _ _ (hc c hm).1,(GJ hf N _ _ _ _ (hc c hm).2).1⟩
    . exact hq
   have rows:∀(rs:List AW) s,rs.length<=K->(∀r∈rs,hp r.head/\r.cells.length<=K/\∀c∈r.cells,hp c.head/\DM hp K N c.flow)->(Gy f (Al f sc N) mid rs s).1.length<=3*K/\∀r∈(Gy f (Al f sc N) mid rs s).1,hp r.head/\r.cells.length<=3*K/\∀c∈r.cells,hp c.head/\DM hp (3*K) N c.flow:=λrs s hl hc=>by
    refine⟨by have:=Ms (f:=f) (it:=Al f sc N) (mid:=mid) rs ([],s);simp at this;unfold Gy;omega,?_⟩
    refine FH _ (λq:List AW×σ=>∀r∈q.1,hp r.head/\r.cells.length<=3*K/\∀c∈r.cells,hp c.head/\DM hp (3*K) N c.flow) rs _ (by simp) λq r hm hq=>?_
    unfold Et
    split
    . exact Ek hq ⟨hf _ _ (hc r hm).1,cells _ _ (hc r hm).2.1 (hc r hm).2.2⟩
    . exact hq
   refine⟨by have:=GK (f:=f) (it:=Al f sc N) (mid:=mid) l ([],s);simp at this;unfold BK;omega,?_,?_⟩
   . have:∀(l:List AE) (q:List AE×σ),Ao (l.foldl (CK f (Al f sc N) mid) q).1<=Ao q.1+Ao l:=by
      intro l
      induction l with
      | nil=>intro q;simp
      | cons a l ih =>
       intro q
       have e:Ao (a::l)=a.text.size+Ao l:=by simp[Ao]
       have h1:=ih (CK f (Al f sc N) mid q a)
       have h2:Ao (CK f (Al f sc N) mid q a).1<=Ao q.1+a.text.size:=by
        unfold CK;dsimp only;split
        . rw[Ci];simp[Ao,AE.put,AE.text]
        . dsimp only;omega
       simp only[YT];omega
     have:=this l ([],s)
     have e0:Ao []=0:=rfl
     unfold BK;simp only[e0]at this;omega
   . refine FH _ (λq:List AE×σ=>∀x∈q.1,LG hp (3*K) N x) l _ (by simp) λq x hm hq=>?_
     obtain⟨a1,a2,a3,a4⟩:=h3 x hm
     unfold CK
     dsimp only
     split
     . refine Ek hq ?_
       have m3:K<=3*K:=by omega
       have up:DM hp (3*K) N x.flow:=a2.mono (λ_ h=>h) m3
       have up2:x.rows.length<=3*K/\∀r∈x.rows,hp r.head/\r.cells.length<=3*K/\∀c∈r.cells,hp c.head/\DM hp (3*K) N c.flow:=⟨by omega,λr hr=>⟨(a4 r hr).1,by have:=(a4 r hr).2.1;omega,λc hc=>⟨((a4 r hr).2.2 c hc).1,((a4 r hr).2.2 c hc).2.mono (λ_ h=>h) m3⟩⟩⟩
       unfold Cr
       split
       . exact⟨hf _ _ a1,(GJ hf N _ _ _ _ a2).1,up2⟩
       . split
         . exact⟨hf _ _ a1,up,rows _ _ a3 a4⟩
         . exact⟨hf _ _ a1,up,up2⟩
     . exact hq
  rw[Al]
  split
  . have p1:=parts false _ s (Cv 0 sc.a h)
    generalize BK f (Al f sc N) false (AU l 0 sc.a).1 s=q1 at p1 ⊢
    have p2:=parts true _ q1.2 (Cv sc.a sc.b h)
    dsimp only
    generalize BK f (Al f sc N) true (AU l sc.a sc.b).1 q1.2=q2 at p2 ⊢
    have p3:=parts false _ q2.2 (Cv sc.b (A5 l).1 h)
    generalize BK f (Al f sc N) false (AU l sc.b (A5 l).1).1 q2.2=q3 at p3 ⊢
    refine⟨Cf.2 ⟨by simp;omega,by simp only[Ci];omega,λx hx=>?_⟩,by simp;omega⟩
    simp only[Y8]at hx
    rcases hx with(hx|hx)|hx
    . exact p1.2.2 x hx
    . exact p2.2.2 x hx
    . exact p3.2.2 x hx
  . have p1:=parts mid _ s h
    exact⟨Cf.2 ⟨by omega,by omega,p1.2.2⟩,by omega⟩
end
theorem Pc {hp:AF->Prop} {L:List Int} (hh:∀h,hp h->∀u∈h.all,u∈L) {K:Nat}:∀{N:Nat} {l:List AE},DM hp K N l->∀u∈AE.usL l,u∈L
 | N + 1, l, H => by
  obtain⟨g1,g2,h3⟩:=Cf.1 H
  clear H g1 g2
  induction l with
  | nil=>simp[AE.usL]
  | cons x l ih=>
   intro u hu
   rw[AE.usL,Y8]at hu
   rcases hu with hu|hu
   . obtain⟨a1,a2,a3,a4⟩:=h3 x (by simp)
     cases x with
     | mk k c i t h f r=>
      simp only[AE.us,Y8,AE.head,AE.flow,AE.rows]at *
      rcases hu with hu|hu
      . exact hh h a1 u hu
      . split at hu
        . exact Pc hh a2 u hu
        . split at hu
          . clear a3 h3
            induction r with
            | nil=>simp[AW.usL]at hu
            | cons r rs ihr=>
             rw[AW.usL,Y8]at hu
             rcases hu with hu|hu
             . obtain⟨b1,b2,b3⟩:=a4 r (by simp)
               cases r with
               | mk h2 cs=>
                simp only[AW.us,Y8,AW.head,AW.cells]at *
                rcases hu with hu|hu
                . exact hh h2 b1 u hu
                . clear a4 ihr b2
                  induction cs with
                  | nil=>simp[AL.usL]at hu
                  | cons q cs ihc=>
                   rw[AL.usL,Y8]at hu
                   rcases hu with hu|hu
                   . obtain⟨e1,e2⟩:=b3 q (by simp)
                     cases q with
                     | mk i3 h3 f3=>
                      simp only[AL.us,Y8,AL.head,AL.flow]at *
                      rcases hu with hu|hu
                      . exact hh h3 e1 u hu
                      . exact Pc hh e2 u hu
                   . exact ihc (λc hc=>b3 c (by simp[hc])) hu
             . exact ihr (λr hr=>a4 r (by simp[hr])) hu
          . cases hu
   . exact ih (λx hx=>h3 x (by simp[hx])) u hu
theorem On:∀{l L:List Int},l.Nodup->(∀u∈l,u∈L)->l.length<=L.length
 | [],_,_,_=>by simp
 | a::l,L,h,H=>by
  rw[YH]at h
  have ha:=H a (by simp)
  have:=On (l:=l) (L:=L.erase a) h.2 λu hu=>(List.mem_erase_of_ne (by rintro rfl;exact h.1 hu)).2 (H u (by simp[hu]))
  rw[List.length_erase_of_mem ha]at this
  have hp:0<L.length:=List.length_pos_of_mem ha
  simp only[Yy];omega
theorem Sz {X L:List Int} (h:∀u∈X,u∈L):(BZ [] X).length<=L.length:=
 On (IV X [] List.nodup_nil) λu hu=>h u (by simpa using(Kp u X []).1 hu)
end Go.Proofs.YtgakninlhfkkmaaGreat.Sh
