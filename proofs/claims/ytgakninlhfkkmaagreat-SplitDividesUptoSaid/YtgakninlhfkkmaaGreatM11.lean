/- A part of the proof (part 11 of 15). -/
import Derived.Test.YtgakninlhfkkmaaGreatM10
import Derived.Lib.ConvBytes
import Derived.Lib.UnsafeStr
import Derived.Lib.Builder
import Derived.Laws.Externs
import Derived.BigFrame
import Derived.WalkKit
namespace Go.Proofs.YtgakninlhfkkmaaGreat.Sh
abbrev Xi:=@TC.use
open Proofs
set_option maxRecDepth 10000
def trW2:Tr:=.pure 0<|.pure 1<|.pure 2<|.pure 4<|.pure 5<|.pure 6<|.pure 7<|.pure 9<|.pure 10<|.pure 11<|.pure 12<|.one 3<|.one 8<|.one 13<|.one 14<|.one 15<|.one 16 .nil
section
variable {K : Ck} {n0 : Nat}
def TL (N:Nat) (c:AL):List Int:=c.id::ES N c.flow
theorem TM (N:Nat) (r:AW):KP N r=r.cells.flatMap (TL N):=rfl
def okcl (m2:List Int) (N:Nat) (c:AL):Prop:=Ce m2 c.head/\Pd m2 N c.flow
theorem more.trans' {s s1 s2:FY} {a b c:List Int} (h:more s s1 a) (g:more s1 s2 b) (e:a++b=c):more s s2 c:=by subst e;exact h.trans g
theorem C1 {a:Int} {l:List Int} (h:Bu (a::l)=0):a=0:=by
 rw[Bu]at h
 by_cases g:a=0
 . exact g
 . rw[if_neg g]at h;exact h
theorem PX {a b:Int} {l:List Int} (h:Bu (a::b::l)=0):a=0/\b=0:=by
 have h1:=C1 h
 rw[Bu,if_pos h1]at h
 exact⟨h1,C1 h⟩
set_option maxHeartbeats 4000000 in
theorem d224 (hK:K.ok n0) (N:Nat) (l:List AW) (hl:l.length<=1048576) (hr:∀r∈l,r.head.sized/\r.cells.length<=1048576/\∀c∈r.cells,c.head.sized/\ND K n0 N c.flow):Tq K n0 N l:=λs pl H n hn hs=>by
 refine Dg Tryz.func224 rfl λho=>?_
 have D:=hK.clo
 have hU:∀s',E4 (Ai K.st s' H) n:=λs'=>D.old s' hn ho
 have hUb:∀s' j y,Ai K.st s' H j=some y->j<n:=λs' j y e=>(hU s' j y e).1
 obtain⟨T,hT⟩:∃T,T=LM s (l.flatMap (KP N)) (l≠[]/\∀r∈l,okr K.m2 N r):=⟨_,rfl⟩
 rw[<-hT]
 have no:∀(e:Int) (s':FY) (m:Nat),e≠0->Bz n (Ai K.st s' H) m (AA e) (CQ K T H n):=λe s' m he=>hK.ret hn ho e s' (by rw[hT];exact λg=>absurd g he) AB
 refine Ab 1 [(0,.ptr K.p 0),(1,Av l),(5,.iptr [.bool pl.body,.bool pl.note,AA pl.tables])] (Ai K.st s H) n ?_ (λm hm=>?_)
 . rw[DP s H hs]
   have hHb:=ho.lt
   simp[go_sem,Y0,Bb.enc]
   exact⟨AT (Ac hHb (by omega)) (by simp[hset]),AK hHb AB⟩
 refine CB 0 [(0,.ptr K.p 0),(1,Av l),(5,.iptr [.bool pl.body,.bool pl.note,AA pl.tables])] (Ai K.st s H) (λm=>n<=m/\l≠[]) (AI ?_) (λm hm=>?_)
 . by_cases c:l=[]
   . simp[go_sem,c];exact no 11 _ _ (by decide)
   . simp[go_sem,c,Y0,hm]
 obtain⟨hm,hne⟩:=hm
 refine Bt 0 [(0,.ptr K.p 0),(1,Av l),(5,.iptr [.bool pl.body,.bool pl.note,AA pl.tables])] (Ai K.st s H) n (AI ?_) (λm hm=>?_)
 . by_cases c:(256:Int)<l.length
   . simp[go_sem,c];exact no 9 _ _ (by decide)
   . simp[go_sem,c,Y0,hm]
 refine AV 0 (α:=FY) (λ_=>[]) (λq=>Ai K.st q H) (λq m=>n<=m/\more s q (l.flatMap (KP N))/\∀r∈l,okr K.m2 N r) ?_ (λq m hm=>?_)
 . refine Ab 0 [(0,.ptr K.p 0),(5,.iptr [.bool pl.body,.bool pl.note,AA pl.tables]),(21,Av l),(22,AA l.length),(23,AA 0)] (Ai K.st s H) n ?_ (λm hm=>?_)
   . simp[go_sem,Y0,hm]
   refine AR (BP 0 (α:=Nat×FY) (λq=>[(0,.ptr K.p 0),(5,.iptr [.bool pl.body,.bool pl.note,AA pl.tables]),(21,Av l),(22,AA l.length),(23,AA q.1)]) (λq=>Ai K.st q.2 H) (λq m=>q.1<=l.length/\n<=m/\more s q.2 ((l.take q.1).flatMap (KP N))/\∀r∈l.take q.1,okr K.m2 N r) (λq=>l.length-q.1) (0,s) ⟨Y4 _,hm,more.nil rfl,by simp⟩ ?_ AB ?_)
   . simp[go_sem,Aj,Y0]
   rintro⟨i,s1⟩ m ⟨hi,hm,hmo,hok⟩
   dsimp only at hi hmo hok ⊢
   by_cases hlt:i<l.length
   . obtain⟨x,hx⟩:∃x,l[i]=x:=⟨_,rfl⟩
     have hxm:x∈l:=by rw[<-hx];exact Yc hlt
     obtain⟨x1,x2,x3⟩:=hr x hxm
     have hgx:(l.map AW.enc)[i]? = some x.enc:=by simp[hlt,hx]
     have w1:=wS i (by omega)
     have tk:=HQ (KP N) l i hlt
     rw[hx]at tk
     have tl:l.take (i+1)=l.take i++[x]:=by rw[Y2 hlt,hx]
     refine Ab 0 [(0,.ptr K.p 0),(5,.iptr [.bool pl.body,.bool pl.note,AA pl.tables]),(21,Av l),(22,AA l.length),(23,AA i),(24,.bool true)] (Ai K.st s1 H) n ?_ (λm hm=>?_)
     . simp[go_sem,Y0,hm,hlt]
     refine Ab 0 [(0,.ptr K.p 0),(5,.iptr [.bool pl.body,.bool pl.note,AA pl.tables]),(21,Av l),(22,AA l.length),(23,AA i)] (Ai K.st s1 H) n ?_ (λm hm=>?_)
     . simp[go_sem,Y0,hm]
     refine AV 0 (α:=FY) (λ_=>[(0,.ptr K.p 0),(5,.iptr [.bool pl.body,.bool pl.note,AA pl.tables]),(21,Av l),(22,AA l.length),(23,AA i)]) (λq=>Ai K.st q H) (λq m=>n<=m/\more s q ((l.take (i+1)).flatMap (KP N))/\okr K.m2 N x) ?_ (λq m hm=>?_)
     . refine AR ?_
       refine Ab 1 [(0,.ptr K.p 0),(5,.iptr [.bool pl.body,.bool pl.note,AA pl.tables]),(21,Av l),(22,AA l.length),(23,AA i),(8,.iptr (x.head.flat++[BQ x.cells]))] (Ai K.st s1 H) n ?_ (λm hm=>?_)
       . simp[go_sem,Y0,hlt,hx,YB,AF.flat,AC]
         have hHm:∀j y,Ai K.st s1 H j=some y->j<m:=λj y e=>by have:=hUb _ j y e;omega
         exact⟨by omega,AT (Ac hHm (Y1 _)) (AC _ _ _),AK hHm (AK hHm AB)⟩
       have hd:=d86 hK s1 9 x.head x1 (H:=Ai K.st s1 H) (n:=m) (by omega) Bq
       refine CB 0 [(0,.ptr K.p 0),(5,.iptr [.bool pl.body,.bool pl.note,AA pl.tables]),(21,Av l),(22,AA l.length),(23,AA i),(8,.iptr (x.head.flat++[BQ x.cells]))] (Ai K.st s1 H) (λm=>n<=m/\Ce K.m2 x.head/\x.cells≠[]) ?_ (λm hm=>?_)
       . refine AV 0 (α:=Int×FY) (λq=>[(0,.ptr K.p 0),(5,.iptr [.bool pl.body,.bool pl.note,AA pl.tables]),(21,Av l),(22,AA l.length),(23,AA i),(8,.iptr (x.head.flat++[BQ x.cells])),(9,AA q.1)]) (λq=>Ai K.st q.2 H) (λq m=>n<=m/\(q.1=0->q.2=s1/\Ce K.m2 x.head/\x.cells≠[])) (B7 trW2 rfl (by kernel_rfl) (by kernel_rfl) ?_) (λq m hm=>?_)
         . simp[go_sem,trW2,AF.flat]
           refine Ys (by simpa[AF.enc,AF.flat]using hd) ?_
           rintro v H' n' ⟨e,s2,rfl,hT,rfl,rfl⟩
           rw[D.up2]
           simp[go_sem]
           refine(I0 _ _).use ?_
           simp[go_sem]
           refine(I0 _ _).use ?_
           simp[go_sem]
           have hea:(if x.cells=[]then(11:Int)else 0)=0->x.cells≠[]:=λg=>by intro c;rw[if_pos c]at g;cases g
           generalize(if x.cells=[]then(11:Int)else 0)=ea at hea ⊢
           generalize(if 32<(x.cells.length:Int)then(9:Int)else 0)=eb
           refine Xg (bs:=[.imm 1 ([e,ea,eb].map AA) false]) (h2:=Ai K.st s2 H) 1 (AK (λj z e=>by have:=hUb s2 j z e;omega) AB) ⟨?_,trivial⟩ ?_
           . exact Dj (es:=[AA e,AA ea,AA eb]) (Ac (hUb s2) hm) (by simp) (by rw[AC];simp[SV.cells]) (by simp[SV.storable,SV.cells])
           refine(PF _ (by simp)).use ?_
           generalize hf:Bu [e,ea,eb]=ef
           simp[go_sem,Y0]
           exact⟨ef,s2.1,s2.2,⟨by omega,λh0=>by obtain⟨g1,g2⟩:=PX (by rw[hf];exact h0);obtain⟨t1,t2⟩:=hT g1;exact⟨t1,t2,hea g2⟩⟩,Y0,AB⟩
         obtain⟨e8,s8⟩:=q
         dsimp only at hm ⊢
         by_cases e80:e8=0
         case neg=>exact AI (by simp[go_sem,e80];exact no e8 _ _ e80)
         obtain⟨h81,hhd⟩:=hm.2 e80
         rw[e80,h81]
         exact AI (by simp[go_sem,Y0,hm.1,hhd])
       obtain⟨hm,hhd⟩:=hm
       refine Ab 0 [(0,.ptr K.p 0),(5,.iptr [.bool pl.body,.bool pl.note,AA pl.tables]),(21,Av l),(22,AA l.length),(23,AA i),(47,BQ x.cells),(48,AA x.cells.length),(49,AA 0)] (Ai K.st s1 H) n ?_ (λm hm=>?_)
       . simp[go_sem,Y0,AF.flat,hm]
       refine AR (BP 0 (α:=Nat×FY) (λq=>[(0,.ptr K.p 0),(5,.iptr [.bool pl.body,.bool pl.note,AA pl.tables]),(21,Av l),(22,AA l.length),(23,AA i),(47,BQ x.cells),(48,AA x.cells.length),(49,AA q.1)]) (λq=>Ai K.st q.2 H) (λq m=>q.1<=x.cells.length/\n<=m/\more s1 q.2 ((x.cells.take q.1).flatMap (TL N))/\∀c∈x.cells.take q.1,okcl K.m2 N c) (λq=>x.cells.length-q.1) (0,s1) ⟨Y4 _,hm,more.nil rfl,by simp⟩ ?_ AB ?_)
       . simp[go_sem,Aj,Y0]
       rintro⟨j,s2⟩ m ⟨hj,hm,hmo2,hok2⟩
       dsimp only at hj hmo2 hok2 ⊢
       by_cases hjt:j<x.cells.length
       . obtain⟨y,hy⟩:∃y,x.cells[j]=y:=⟨_,rfl⟩
         have hym:y∈x.cells:=by rw[<-hy];exact Yc hjt
         obtain⟨y1,y2⟩:=x3 y hym
         have w2:=wS j (by omega)
         have tk2:=HQ (TL N) x.cells j hjt
         rw[hy]at tk2
         have tl2:x.cells.take (j+1)=x.cells.take j++[y]:=by rw[Y2 hjt,hy]
         refine Ab 0 [(0,.ptr K.p 0),(5,.iptr [.bool pl.body,.bool pl.note,AA pl.tables]),(21,Av l),(22,AA l.length),(23,AA i),(47,BQ x.cells),(48,AA x.cells.length),(49,AA j),(50,.bool true)] (Ai K.st s2 H) n ?_ (λm hm=>?_)
         . simp[go_sem,Y0,hm,hjt]
         refine Ab 0 [(0,.ptr K.p 0),(5,.iptr [.bool pl.body,.bool pl.note,AA pl.tables]),(21,Av l),(22,AA l.length),(23,AA i),(47,BQ x.cells),(48,AA x.cells.length),(49,AA j)] (Ai K.st s2 H) n ?_ (λm hm=>?_)
         . simp[go_sem,Y0,hm]
         refine AV 0 (α:=FY) (λ_=>[(0,.ptr K.p 0),(5,.iptr [.bool pl.body,.bool pl.note,AA pl.tables]),(21,Av l),(22,AA l.length),(23,AA i),(47,BQ x.cells),(48,AA x.cells.length),(49,AA j)]) (λq=>Ai K.st q H) (λq m=>n<=m/\more s2 q (TL N y)/\okcl K.m2 N y) ?_ (λq m hm=>?_)
         . refine AR ?_
           refine Ab 1 [(0,.ptr K.p 0),(5,.iptr [.bool pl.body,.bool pl.note,AA pl.tables]),(21,Av l),(22,AA l.length),(23,AA i),(47,BQ x.cells),(48,AA x.cells.length),(49,AA j),(11,.iptr ([AA y.id]++y.head.flat++[AG y.flow]))] (Ai K.st s2 H) n ?_ (λm hm=>?_)
           . simp[go_sem,Y0,hjt,hy,Z9,AF.flat,AC]
             have hHm:∀j y,Ai K.st s2 H j=some y->j<m:=λj y e=>by have:=hUb _ j y e;omega
             exact⟨by omega,AT (Ac hHm (Y1 _)) (AC _ _ _),AK hHm (AK hHm AB)⟩
           refine AV 0 (α:=FY) (λ_=>[(0,.ptr K.p 0),(5,.iptr [.bool pl.body,.bool pl.note,AA pl.tables]),(21,Av l),(22,AA l.length),(23,AA i),(47,BQ x.cells),(48,AA x.cells.length),(49,AA j),(11,.iptr ([AA y.id]++y.head.flat++[AG y.flow]))]) (λq=>Ai K.st q H) (λq m=>n<=m/\more s2 q [y.id]) (AI ?_) (λq m hm=>?_)
           . simp[go_sem]
             refine Ys (UX hK s2 y.id (by omega) Bq) ?_
             rintro v H' n' ⟨e,s3,rfl,hT,rfl,rfl⟩
             rw[D.up2]
             by_cases e0:e=0
             . obtain⟨h1,h2,h3,h4⟩:=hT e0
               simp[go_sem,e0,Y0,AF.flat]
               refine⟨s3.1,s3.2,⟨by omega,?_⟩,AB⟩
               exact more.one h1 ⟨h2,h3⟩ h4
             . simp[go_sem,e0]
               exact no e _ _ e0
           obtain⟨hm,hq1⟩:=hm
           refine CB 0 [(0,.ptr K.p 0),(5,.iptr [.bool pl.body,.bool pl.note,AA pl.tables]),(21,Av l),(22,AA l.length),(23,AA i),(47,BQ x.cells),(48,AA x.cells.length),(49,AA j),(11,.iptr ([AA y.id]++y.head.flat++[AG y.flow]))] (Ai K.st q H) (λm=>n<=m/\Ce K.m2 y.head) (AI ?_) (λm hm=>?_)
           . simp[go_sem,AF.flat]
             refine Ys (by simpa[AF.enc,AF.flat]using d86 hK q 10 y.head y1 (H:=Ai K.st q H) (n:=m) (by omega) Bq) ?_
             rintro v H' n' ⟨e,s3,rfl,hT,rfl,rfl⟩
             rw[D.up2]
             by_cases e0:e=0
             . obtain⟨h1,h2⟩:=hT e0
               simp[go_sem,e0,Y0,h1,h2];omega
             . simp[go_sem,e0]
               exact no e _ _ e0
           obtain⟨hm,hh2⟩:=hm
           refine AI ?_
           simp[go_sem,AF.flat]
           refine Ys (by simpa[Bb.enc]using y2 q pl (Ai K.st q H) m (by omega) Bq) ?_
           rintro v H' n' ⟨e,s3,rfl,hT,rfl,rfl⟩
           rw[D.up2]
           by_cases e0:e=0
           . obtain⟨h1,h2⟩:=hT e0
             simp[go_sem,e0,Y0]
             refine⟨s3.1,s3.2,⟨by omega,?_,hh2,h2⟩,AB⟩
             exact hq1.trans' h1 rfl
           . simp[go_sem,e0]
             exact no e _ _ e0
         . refine AI ?_
           simp[go_sem,w2,Y0,-Int.natCast_add]
           refine⟨j+1,by omega,q.1,q.2,⟨by omega,hm.1,hmo2.trans' hm.2.1 tk2.symm,λc hc=>?_⟩,rfl,AB⟩
           rw[tl2]at hc
           exact Ek hok2 hm.2.2 c hc
       . have:j=x.cells.length:=by omega
         subst this
         rw[Ya]at hmo2 hok2
         refine AI ?_
         simp[go_sem,Y0]
         refine⟨s2.1,s2.2,⟨hm,?_,hhd,hok2⟩,AB⟩
         exact hmo.trans' hmo2 (by rw[tk,TM])
     . refine AI ?_
       simp[go_sem,w1,Y0,-Int.natCast_add]
       refine⟨i+1,by omega,q.1,q.2,⟨by omega,hm.1,hm.2.1,λr hr=>?_⟩,rfl,AB⟩
       rw[tl]at hr
       exact Ek hok hm.2.2 r hr
   . have:i=l.length:=by omega
     subst this
     rw[Ya]at hmo hok
     refine AI ?_
     simp[go_sem]
     exact⟨s1.1,s1.2,⟨hm,hmo,hok⟩,AB⟩
 . refine AI ?_
   simp[go_sem]
   exact hK.ret hn ho 0 q (by rw[hT];exact λ_=>⟨hm.2.1,hne,hm.2.2⟩) AB
end
theorem PR {K:Ck} {n0:Nat} (hK:K.ok n0) {B:Nat} (hB:B<=1048576):∀(N:Nat) (l:List AE),DM AF.sized B N l->ND K n0 N l
 | 0,_,h=>h.elim
 | N+1,l,h=>by
  have hs:=h.sized (λ_ e=>e) hB
  obtain⟨_,_,h3⟩:=Cf.1 h
  refine d88 hK N l hs.1 λx hx=>?_
  obtain⟨a1,a2,a3,a4⟩:=h3 x hx
  refine d161 hK N x (Zu hs.2 x hx) (PR hK hB N x.flow a2) (d224 hK N x.rows (by omega) λr hr=>?_)
  obtain⟨b1,b2,b3⟩:=a4 r hr
  exact⟨b1,by omega,λc hc=>⟨(b3 c hc).1,PR hK hB N c.flow (b3 c hc).2⟩⟩
theorem Qw (l:List (Int×Int)) (j:Nat) (x v:Int):∃l',Fj (GR l) j (AA x) (AA v)=GR l':=by
 unfold Fj GR
 exact⟨l.modify j λ_=>(x,v),by apply List.ext_getElem?;intro i;simp only[ZY,Yz];by_cases e:j=i<;>cases l[i]? <;> simp[e]⟩
def hb (h:Hp) (n:Nat) (a0:List (Int×Int)) (a1 a2:List Int):Hp:=
 hset (hset (hset (hset (hset (hset h (n+1) (some (.map (GR a0)))) (n+2) (some (.map (EU a1)))) (n+3) (some (.map (EU a2)))) (n+4) (some (.map []))) (n+5) (some (.map []))) (n+6) (some (.cells [.map (n+1),.map (n+2),.map (n+3),.map (n+4),.map (n+5),AA 0]))
section
variable {h : Hp} {n : Nat} {a0 : List (Int × Int)} {a1 a2 : List Int}
theorem Ue:hb h n a0 a1 a2 (n+6)=some (.cells [.map (n+1),.map (n+2),.map (n+3),.map (n+4),.map (n+5),AA 0]):=by simp[hb,hset]
theorem Ud:hb h n a0 a1 a2 (n+1)=some (.map (GR a0)):=by simp[hb,hset]
theorem HZ:hb h n a0 a1 a2 (n+2)=some (.map (EU a1)):=by simp[hb,hset]
theorem Rx:hb h n a0 a1 a2 (n+3)=some (.map (EU a2)):=by simp[hb,hset]
theorem hb4:hb h n a0 a1 a2 (n+4)=some (.map []):=by simp[hb,hset]
theorem hb5:hb h n a0 a1 a2 (n+5)=some (.map []):=by simp[hb,hset]
theorem hb1s (b:List (Int×Int)):hset (hb h n a0 a1 a2) (n+1) (some (.map (GR b)))=hb h n b a1 a2:=by funext j;simp only[hb,hset];grind
theorem hb2s (b:List Int):hset (hb h n a0 a1 a2) (n+2) (some (.map (EU b)))=hb h n a0 b a2:=by funext j;simp only[hb,hset];grind
theorem hb3s (b:List Int):hset (hb h n a0 a1 a2) (n+3) (some (.map (EU b)))=hb h n a0 a1 b:=by funext j;simp only[hb,hset];grind
theorem QD (ho:∀j y,h j=some y->j<n):∀j y,hb h n a0 a1 a2 j=some y->j<n+7:=λj y e=>by
 have:=ho j y;simp only[hb,hset]at e;grind
theorem Uf (ho:∀j y,h j=some y->j<n):∀j y,h j=some y->hb h n a0 a1 a2 j=some y:=λj y e=>by
 have:=ho j y;simp only[hb,hset];grind
end
def newQ (d:AH) (h:Hp) (n:Nat):SV->Hp->Nat->Prop:=λv h' n'=>∃K:Ck,K.ok n'/\n<=n'/\v=.ptr K.p 0/\(∀o y,K.st ([],0) o=some y->h' o=some y)/\K.m2=BZ [] (d.revs.map (·.id))/\(∀j y,h j=some y->h' j=some y)/\∀o y,K.st ([],0) o=some y->n<=o
set_option maxHeartbeats 2000000 in
theorem d85 (d:AH) (h1:d.settings.styles.length<=1048576) (h2:d.settings.lists.length<=1048576) (h3:d.revs.length<=1048576) {h:Hp} {n:Nat}:BM Tryz.prog 85 [d.enc] h n (newQ d h n):=by
 refine Dg Tryz.func85 rfl λho=>?_
 have hHb:=ho.lt
 obtain⟨X,hX⟩:∃X:SV,X=.iptr ([AG d.flow]++d.«end».flat++[Aw d.revs]++d.settings.flat):=⟨_,rfl⟩
 refine BV 1 [(1,X)] h (λm=>n+1=m) ?_ (λm hm=>?_)
 . rw[hX]
   simp[go_sem,AH.enc,AF.flat,AJ.flat]
   exact⟨AT (Ac hHb (Y1 _)) (AC _ _ _),AK hHb AB⟩
 subst hm
 refine BV 0 [(1,X),(3,.ptr (n+6) 0)] (hb h n [] [] []) (λm=>n+7=m) ?_ (λm hm=>?_)
 . simp[go_sem,Y0,Yn,hb,GR,EU]
 subst hm
 refine AV 0 (α:=List (Int×Int)) (λ_=>[(1,X),(3,.ptr (n+6) 0)]) (λa=>hb h n a [] []) (λ_ m=>n+7<=m) ?_ (λa0 m hm=>?_)
 . refine BV 0 [(1,X),(3,.ptr (n+6) 0),(19,Ad d.settings.styles),(20,AA d.settings.styles.length),(21,AA 0)] (hb h n [] [] []) (λm=>n+7<=m) ?_ (λm hm=>?_)
   . rw[hX];simp[go_sem,Y0,AF.flat,AJ.flat]
   refine AR (BP 0 (α:=Nat×List (Int×Int)) (λq=>[(1,X),(3,.ptr (n+6) 0),(19,Ad d.settings.styles),(20,AA d.settings.styles.length),(21,AA q.1)]) (λq=>hb h n q.2 [] []) (λq m=>q.1<=d.settings.styles.length/\n+7<=m) (λq=>d.settings.styles.length-q.1) (0,[]) ⟨Y4 _,hm⟩ ?_ AB ?_)
   . simp[go_sem,Aj,Y0]
   rintro⟨i,a⟩ m ⟨hi,hm⟩
   dsimp only at hi ⊢
   have hlt7:∀j y,hb h n a [] [] j=some y->j<m:=λj y e=>by have:=QD (h:=h) (n:=n) (λj y e=>hHb j y e) j y e;omega
   refine AI ?_
   by_cases hlt:i<d.settings.styles.length
   . obtain⟨x,hx⟩:∃x,d.settings.styles[i]=x:=⟨_,rfl⟩
     have w1:=wS i (by omega)
     have e6:n+6≠m:=by omega
     have e1:n+1≠m:=by omega
     have fin:∀b z y,∃a',∀j w,hb h n a' [] [] j=some w->hset (hset (hset (hb h n a [] []) m y) m z) (n+1) (some (.map (GR b))) j=some w:=λb z y=>⟨b,λj w e=>by
      have:=QD (h:=h) (n:=n) (λj y e=>hHb j y e) j w e
      rw[<-hb1s (a0:=a)]at e
      simp only[hset]at e ⊢
      split at e
      . rename_i c;rw[if_pos c];exact e
      . rename_i c;rw[if_neg c,if_neg (by omega),if_neg (by omega)];exact e⟩
     rcases IE x.id a 0 with f|⟨j,v,f⟩
     . have hpush:GR a++[(AA x.id,AA x.kind)]=GR (a++[(x.id,x.kind)]):=by simp[GR]
       simp[go_sem,hlt,hx,Az.enc,AC,AD,e6,e1,Ue,Ud,f,CJ,hpush,w1,-Int.natCast_add]
       repeat first|refine nq ?_|refine sq ?_|refine aq ?_
       obtain⟨a2,ha2⟩:=fin (a++[(x.id,x.kind)]) _ _
       exact⟨i+1,by omega,⟨by omega,by omega⟩,a2,rfl,ha2⟩
     . obtain⟨a',ha'⟩:=Qw a j x.id x.kind
       simp only[Fj]at ha'
       simp[go_sem,hlt,hx,Az.enc,AC,AD,e6,e1,Ue,Ud,f,CJ,ha',w1,-Int.natCast_add]
       repeat first|refine nq ?_|refine sq ?_|refine aq ?_
       obtain⟨a2,ha2⟩:=fin a' _ _
       exact⟨i+1,by omega,⟨by omega,by omega⟩,a2,rfl,ha2⟩
   . simp[go_sem,hlt,Y0]
     exact⟨by omega,a,AB⟩
 refine AV 0 (α:=List Int) (λ_=>[(1,X),(3,.ptr (n+6) 0)]) (λa=>hb h n a0 a []) (λa m=>n+7<=m) ?_ (λa1 m hm=>?_)
 . refine BV 0 [(1,X),(3,.ptr (n+6) 0),(36,DW d.settings.lists),(37,AA d.settings.lists.length),(38,AA 0)] (hb h n a0 [] []) (λm=>n+7<=m) ?_ (λm hm=>?_)
   . rw[hX];simp[go_sem,Y0,AF.flat,AJ.flat,hm]
   refine AR (BP 0 (α:=Nat×List Int) (λq=>[(1,X),(3,.ptr (n+6) 0),(36,DW d.settings.lists),(37,AA d.settings.lists.length),(38,AA q.1)]) (λq=>hb h n a0 q.2 []) (λq m=>q.1<=d.settings.lists.length/\n+7<=m/\q.2=BZ [] ((d.settings.lists.take q.1).map (·.id))) (λq=>d.settings.lists.length-q.1) (0,[]) ⟨Y4 _,hm,by simp[BZ]⟩ ?_ AB ?_)
   . simp[go_sem,Aj,Y0]
   rintro⟨i,a⟩ m ⟨hi,hm,ha⟩
   dsimp only at hi ha ⊢
   refine AI ?_
   by_cases hlt:i<d.settings.lists.length
   . obtain⟨x,hx⟩:∃x,d.settings.lists[i]=x:=⟨_,rfl⟩
     have w1:=wS i (by omega)
     have e6:n+6≠m:=by omega
     have e1:n+2≠m:=by omega
     have hnext:BZ [] ((d.settings.lists.take (i+1)).map (·.id))=Er a x.id:=by rw[Y2 hlt,hx,Y3,B8,<-ha];rfl
     have fin:∀b z y,∀j w,hb h n a0 b [] j=some w->hset (hset (hset (hb h n a0 a []) m y) m z) (n+2) (some (.map (EU b))) j=some w:=λb z y j w e=>by
      have:=QD (h:=h) (n:=n) (λj y e=>hHb j y e) j w e
      rw[<-hb2s (a1:=a)]at e
      simp only[hset]at e ⊢
      split at e
      . rename_i c;rw[if_pos c];exact e
      . rename_i c;rw[if_neg c,if_neg (by omega),if_neg (by omega)];exact e
     by_cases hm2:x.id∈a
     . obtain⟨j,f,hj⟩:=DI 0 hm2
       have hss:=Ir hj
       simp only[Fj]at hss
       rw[YW]at f
       simp[go_sem,hlt,hx,FQ.enc,AC,AD,e6,e1,Ue,HZ,f,CJ,hss,w1,-Int.natCast_add]
       repeat first|refine nq ?_|refine sq ?_|refine aq ?_
       refine⟨i+1,by omega,a,⟨by omega,by omega,?_⟩,rfl,fin a _ _⟩
       rw[ZH]at hnext;rw[hnext,Er,if_pos hm2]
     . have f:=Dn 0 hm2
       have hpush:=LE a x.id
       simp[go_sem,hlt,hx,FQ.enc,AC,AD,e6,e1,Ue,HZ,f,CJ,hpush,w1,-Int.natCast_add]
       repeat first|refine nq ?_|refine sq ?_|refine aq ?_
       refine⟨i+1,by omega,a++[x.id],⟨by omega,by omega,?_⟩,rfl,fin _ _ _⟩
       rw[ZH]at hnext;rw[hnext,Er,if_neg hm2]
   . have:i=d.settings.lists.length:=by omega
     subst this
     rw[Ya]at ha
     simp[go_sem,Y0]
     exact⟨by omega,a,AB⟩
 refine AV 0 (α:=List Int) (λ_=>[(1,X),(3,.ptr (n+6) 0)]) (λa=>hb h n a0 a1 a) (λa m=>n+7<=m/\a=BZ [] (d.revs.map (·.id))) ?_ (λa2 m hm=>?_)
 . refine BV 0 [(1,X),(3,.ptr (n+6) 0),(50,Aw d.revs),(51,AA d.revs.length),(52,AA 0)] (hb h n a0 a1 []) (λm=>n+7<=m) ?_ (λm hm=>?_)
   . rw[hX];simp[go_sem,Y0,AF.flat,AJ.flat,hm]
   refine AR (BP 0 (α:=Nat×List Int) (λq=>[(1,X),(3,.ptr (n+6) 0),(50,Aw d.revs),(51,AA d.revs.length),(52,AA q.1)]) (λq=>hb h n a0 a1 q.2) (λq m=>q.1<=d.revs.length/\n+7<=m/\q.2=BZ [] ((d.revs.take q.1).map (·.id))) (λq=>d.revs.length-q.1) (0,[]) ⟨Y4 _,hm,by simp[BZ]⟩ ?_ AB ?_)
   . simp[go_sem,Aj,Y0]
   rintro⟨i,a⟩ m ⟨hi,hm,ha⟩
   dsimp only at hi ha ⊢
   refine AI ?_
   by_cases hlt:i<d.revs.length
   . obtain⟨x,hx⟩:∃x,d.revs[i]=x:=⟨_,rfl⟩
     have w1:=wS i (by omega)
     have e6:n+6≠m:=by omega
     have e1:n+3≠m:=by omega
     have hnext:BZ [] ((d.revs.take (i+1)).map (·.id))=Er a x.id:=by rw[Y2 hlt,hx,Y3,B8,<-ha];rfl
     have fin:∀b z y,∀j w,hb h n a0 a1 b j=some w->hset (hset (hset (hb h n a0 a1 a) m y) m z) (n+3) (some (.map (EU b))) j=some w:=λb z y j w e=>by
      have:=QD (h:=h) (n:=n) (λj y e=>hHb j y e) j w e
      rw[<-hb3s (a2:=a)]at e
      simp only[hset]at e ⊢
      split at e
      . rename_i c;rw[if_pos c];exact e
      . rename_i c;rw[if_neg c,if_neg (by omega),if_neg (by omega)];exact e
     by_cases hm2:x.id∈a
     . obtain⟨j,f,hj⟩:=DI 0 hm2
       have hss:=Ir hj
       simp only[Fj]at hss
       rw[YW]at f
       simp[go_sem,hlt,hx,BD.enc,AC,AD,e6,e1,Ue,Rx,f,CJ,hss,w1,-Int.natCast_add]
       repeat first|refine nq ?_|refine sq ?_|refine aq ?_
       refine⟨i+1,by omega,a,⟨by omega,by omega,?_⟩,rfl,fin a _ _⟩
       rw[ZH]at hnext;rw[hnext,Er,if_pos hm2]
     . have f:=Dn 0 hm2
       have hpush:=LE a x.id
       simp[go_sem,hlt,hx,BD.enc,AC,AD,e6,e1,Ue,Rx,f,CJ,hpush,w1,-Int.natCast_add]
       repeat first|refine nq ?_|refine sq ?_|refine aq ?_
       refine⟨i+1,by omega,a++[x.id],⟨by omega,by omega,?_⟩,rfl,fin _ _ _⟩
       rw[ZH]at hnext;rw[hnext,Er,if_neg hm2]
   . have:i=d.revs.length:=by omega
     subst this
     rw[Ya]at ha
     simp[go_sem,Y0]
     exact⟨a,⟨by omega,ha⟩,AB⟩
 refine AI ?_
 simp[go_sem]
 refine .inl ⟨⟨n+6,n+1,n+2,n+3,n+4,n+5,a0,a1,a2⟩,⟨by simp,by simp;omega⟩,by omega,rfl,λo y e=>?_,hm.2,Uf hHb,λo y e=>?_⟩
 . simp only[Ck.st,Ck.cells,EU]at e
   by_cases c6:o=n+6
   . subst c6;simp at e;rw[Ue];exact congrArg some e
   . by_cases c4:o=n+4
     . subst c4;simp at e;rw[hb4];exact congrArg some e
     . by_cases c1:o=n+1
       . subst c1;simp at e;rw[Ud];exact congrArg some e
       . by_cases c2:o=n+2
         . subst c2;simp at e;rw[HZ];exact congrArg some e
         . by_cases c3:o=n+3
           . subst c3;simp at e;rw[Rx];exact congrArg some e
           . by_cases c5:o=n+5
             . subst c5;simp at e;rw[hb5];exact congrArg some e
             . rw[if_neg c6,if_neg c4,if_neg c1,if_neg c2,if_neg c3,if_neg c5]at e;cases e
 . simp only[Ck.st]at e
   by_cases c:n<=o
   . exact c
   . rw[if_neg (by omega),if_neg (by omega),if_neg (by omega),if_neg (by omega),if_neg (by omega),if_neg (by omega)]at e;cases e
def trK1:Tr:=.pure 0<|.pure 1<|.pure 3<|.pure 4<|.one 2<|.one 5<|.one 6<|.one 7<|.one 8 .nil
def Tj:Tr:=.pure 0<|.pure 1<|.pure 2<|.pure 4<|.pure 5<|.pure 6<|.one 3<|.one 7<|.one 8<|.one 9<|.one 10<|.one 11<|.one 12<|.one 13<|.one 14<|.one 15<|.one 16<|.one 17<|.one 18<|.one 19<|.one 20<|.one 21 .nil
structure GY (N:Nat) (d:AH):Prop where
 flow:Pd (BZ [] (d.revs.map (·.id))) N d.flow
 ids:∀i∈ES N d.flow,1<=i/\i<=1073741824
 nodup:(ES N d.flow).Nodup
 revs:Di d.revs=0
 «end» : Ce (BZ [] (d.revs.map (·.id))) d.«end»
set_option maxHeartbeats 2000000 in
theorem t24 (d:AH) {B N:Nat} (hB:B<=1048576) (hl:DM AF.sized B N d.flow) (he:d.«end».sized) (h1:d.settings.styles.length<=1048576) (h2:d.settings.lists.length<=1048576) (h3:d.revs.length<=1048576) (h4:∀r∈d.revs,r.author.size<=1048576)
 (h83:TC 83 [d.settings.enc] λv=>∃e,v=AA e):TC 24 [d.enc] (Nt (GY N d)):=by
 intro h n
 refine Dg Tryz.func24 rfl λho=>?_
 have hHb:=ho.lt
 obtain⟨X,hX⟩:∃X:SV,X=.iptr ([AG d.flow]++d.«end».flat++[Aw d.revs]++d.settings.flat):=⟨_,rfl⟩
 obtain⟨T,hT⟩:∃T:Prop,T=GY N d:=⟨_,rfl⟩
 rw[<-hT]
 have no:∀(e:Int) (H2:Hp) (m:Nat),e≠0->(∀j y,h j=some y->H2 j=some y)->Bz n H2 m (AA e) (λv h' n'=>Nt T v/\h'=h/\n'=n):=λe H2 m he hh=>GL ho hh (by simp[closed]) (Nt.no he)
 refine Ab 1 [(1,X)] h n ?_ (λm hm=>?_)
 . rw[hX]
   simp[go_sem,AH.enc,AF.flat,AJ.flat]
   exact⟨AT (Ac hHb (Y1 _)) (AC _ _ _),AK hHb AB⟩
 refine CB 0 [(1,X)] h (λm=>n<=m/\Di d.revs=0) ?_ (λm hm=>?_)
 . refine AV 0 (α:=Int) (λe=>[(1,X),(3,AA e)]) (λ_=>h) (λe m=>n<=m/\(e=0->Di d.revs=0)) (B7 trK1 rfl (by kernel_rfl) (by kernel_rfl) ?_) (λe m hm=>?_)
   . have hHm:∀j y,h j=some y->j<m:=λj y e=>by have:=hHb j y e;omega
     rw[hX]
     simp[go_sem,trK1,AF.flat,AJ.flat]
     refine Xi (by simpa[AJ.enc,AJ.flat]using h83) ?_
     rintro v ⟨e,rfl⟩
     simp[go_sem]
     refine(c84 d.revs h3 h4).use ?_
     simp[go_sem]
     refine Xg (bs:=[.imm 1 ([e,Di d.revs].map AA) false]) (h2:=h) 1 (AK hHm AB) ⟨?_,trivial⟩ ?_
     . exact Dj (es:=[AA e,AA (Di d.revs)]) (Ac hHm (Y1 _)) (by simp) (by rw[AC];simp[SV.cells]) (by simp[SV.storable,SV.cells])
     refine(PF _ (by simp)).use ?_
     generalize hf:Bu [e,Di d.revs]=ef
     simp[go_sem,Y0]
     refine⟨ef,⟨by omega,λh0=>?_⟩,Y0⟩
     rw[h0,Bu]at hf
     split at hf
     . exact C1 hf
     . rename_i c;exact absurd hf c
   by_cases e0:e=0
   case neg=>exact AI (by simp[go_sem,e0];exact no e _ _ e0 AB)
   have hrv:=hm.2 e0
   rw[e0]
   exact AI (by simp[go_sem,Y0,hm.1,hrv])
 obtain⟨hm,hrv⟩:=hm
 refine BG 0 (α:=Ck) (λq=>[(1,X),(4,.ptr q.p 0)]) (λq=>Ai q.st ([],0) h) (λq m=>n<=m/\q.ok m/\q.m2=BZ [] (d.revs.map (·.id))/\∀o y,q.st ([],0) o=some y->n<=o) ?_ (λK n1 hq=>?_)
 . rw[hX]
   simp[go_sem,AF.flat,AJ.flat]
   refine Ys (by simpa[AH.enc,AF.flat,AJ.flat]using d85 d h1 h2 h3 (h:=h) (n:=m)) ?_
   rintro v H' n' ⟨K,a1,a2,rfl,a4,a5,a6,a7⟩
   simp[go_sem,Y0]
   refine⟨K,⟨by omega,a1,a5,λo y e=>by have:=a7 o y e;omega⟩,Y0,λo y e=>?_⟩
   simp only[Ai]at e
   cases c:K.st ([],0) o with
   | some z=>rw[c]at e;cases e;exact a4 o y c
   | none=>rw[c]at e;exact a6 o y e
 obtain⟨hn1,hK,hm2,hlo⟩:=hq
 have D:=hK.clo
 have hlos:∀s' o y,K.st s' o=some y->n<=o:=λs' o y e=>by
  cases c:K.st ([],0) o with
  | some z=>exact hlo o z c
  | none=>rw[D.dom ([],0) s' o c]at e;cases e
 have A8:∀s',∀j y,h j=some y->Ai K.st s' h j=some y:=λs' j y e=>by
  simp only[Ai]
  cases c:K.st s' j with
  | some z=>have:=hlos s' j z c;have:=hHb j y e;omega
  | none=>exact e
 have hUb:∀s' j y,Ai K.st s' h j=some y->j<n1:=λs' j y e=>(D.old s' (Y1 _) (λj y e=>⟨by have:=hHb j y e;omega,G8 hn1 (ho j y e).2⟩) j y e).1
 have hps:∀s',Ai K.st s' h K.p=some (.cells [.map K.s0,.map K.s1,.map K.s2,.map K.s3,.map K.s4,AA s'.2]):=λs'=>(hK.has (s:=s') Bq).p
 refine Ab 1 [(1,X),(4,.ptr K.p 0),(5,.iptr [AA d.«end».ins,AA d.«end».move,Aa d.«end».dels,AQ d.«end».layers])] (Ai K.st ([],0) h) n1 ?_ (λm hm=>?_)
 . rw[hX]
   simp[go_sem,Y0,AF.flat,AJ.flat,AC]
   exact⟨AT (Ac (hUb _) (Y1 _)) (AC _ _ _),AK (hUb _) (AK (hUb _) AB)⟩
 refine CB 0 [(1,X),(4,.ptr K.p 0)] (Ai K.st ([],0) h) (λm=>n1<=m/\Ce K.m2 d.«end») ?_ (λm hm=>?_)
 . have hd:=d86 hK ([],0) 3 d.«end» he (H:=Ai K.st ([],0) h) (n:=m) hm Bq
   refine AV 0 (α:=Int×FY) (λq=>[(1,X),(4,.ptr K.p 0),(6,AA q.1)]) (λq=>Ai K.st q.2 h) (λq m=>n1<=m/\(q.1=0->q.2=([],0)/\Ce K.m2 d.«end»)) (B7 Tj rfl (by kernel_rfl) (by kernel_rfl) ?_) (λq m hm=>?_)
   . rw[hX]
     have fin:∀(e ea:Int) (s2:FY) (m1:Nat) (KK:SV->Hp->Nat->Prop),n1<=m1->KK (AA (Bu [e,ea])) (Ai K.st s2 h) (m1+1)->Ak (Br.plain.call false 0) Tryz.prog 82 [.sl m1 0 1 2 true] (hset (Ai K.st s2 h) m1 (some (.cells [AA e,AA ea]))) (m1+1) KK:=λe ea s2 m1 KK hm1 hk=>by
      refine Xg (bs:=[.imm 1 ([e,ea].map AA) false]) (h2:=Ai K.st s2 h) 1 (AK (λj z e=>by have:=hUb s2 j z e;omega) AB) ⟨?_,trivial⟩ ?_
      . exact Dj (es:=[AA e,AA ea]) (Ac (hUb s2) hm1) (by simp) (by rw[AC];simp[SV.cells]) (by simp[SV.storable,SV.cells])
      exact(PF _ (by simp)).use hk
     have hd':∀KK:SV->Hp->Nat->Prop,(∀e s2,(e=0->s2=([],0)/\Ce K.m2 d.«end»)->KK (AA e) (Ai K.st s2 h) m)->Ak (Br.plain.call false 0) Tryz.prog 86 [.ptr K.p 0,AA 3,.agg [Af d.«end».props,AA d.«end».ins,AA d.«end».move,Aa d.«end».dels,AQ d.«end».layers]] (Ai K.st ([],0) h) m KK:=λKK hk=>by
      refine Ys (by simpa[AF.enc,AF.flat]using hd) ?_
      rintro v H' n' ⟨e,s2,rfl,hT2,rfl,rfl⟩
      rw[D.up2]
      exact hk e s2 hT2
     clear hd
     generalize hin:d.«end».ins=ins at hd' ⊢
     generalize hmv:d.«end».move=mv at hd' ⊢
     by_cases i0:ins=0
     . subst i0
       by_cases m0:mv=0
       . subst m0
         simp[go_sem,Tj,AF.flat,hin,hmv]
         refine hd' _ λe s2 hT2=>?_
         simp[go_sem]
         refine(I0 _ _).use ?_
         simp[go_sem]
         refine fin _ _ _ _ _ hm ?_
         generalize hf:Bu [e,_]=ef
         simp[go_sem,Y0]
         exact⟨ef,s2.1,s2.2,⟨by omega,λh0=>by have:=hT2 (C1 (by rw[hf];exact h0));rw[this.1];exact⟨⟨rfl,rfl⟩,this.2⟩⟩,Y0,AB⟩
       . simp[go_sem,Tj,AF.flat,hin,hmv]
         refine hd' _ λe s2 hT2=>?_
         simp[go_sem,m0]
         refine(I0 _ _).use ?_
         simp[go_sem]
         refine fin _ _ _ _ _ hm ?_
         generalize hf:Bu [e,_]=ef
         simp[go_sem,Y0]
         exact⟨ef,s2.1,s2.2,⟨by omega,λh0=>by have:=hT2 (C1 (by rw[hf];exact h0));rw[this.1];exact⟨⟨rfl,rfl⟩,this.2⟩⟩,Y0,AB⟩
     . simp[go_sem,Tj,AF.flat,hin,hmv]
       refine hd' _ λe s2 hT2=>?_
       simp[go_sem,i0]
       refine(I0 _ _).use ?_
       simp[go_sem]
       refine fin _ _ _ _ _ hm ?_
       generalize hf:Bu [e,_]=ef
       simp[go_sem,Y0]
       exact⟨ef,s2.1,s2.2,⟨by omega,λh0=>by have:=hT2 (C1 (by rw[hf];exact h0));rw[this.1];exact⟨⟨rfl,rfl⟩,this.2⟩⟩,Y0,AB⟩
   obtain⟨e8,s8⟩:=q
   dsimp only at hm ⊢
   by_cases e80:e8=0
   case neg=>exact AI (by simp[go_sem,e80];exact no e8 _ _ e80 (A8 _))
   obtain⟨h81,hhd⟩:=hm.2 e80
   rw[e80,h81]
   exact AI (by simp[go_sem,Y0,hm.1,hhd])
 obtain⟨hm,hhd⟩:=hm
 refine AV 0 (α:=FY) (λ_=>[(4,.ptr K.p 0)]) (λq=>Ai K.st q h) (λq m=>n1<=m/\more ([],0) q (ES N d.flow)/\Pd K.m2 N d.flow) (AI ?_) (λq m hm=>?_)
 . rw[hX]
   simp[go_sem,AF.flat,AJ.flat]
   refine Ys (by simpa[Bb.enc]using PR hK hB N d.flow hl ([],0) ⟨true,false,0⟩ (Ai K.st ([],0) h) m hm Bq) ?_
   rintro v H' n' ⟨e,s2,rfl,hT2,rfl,rfl⟩
   rw[D.up2]
   by_cases e0:e=0
   . obtain⟨b1,b2⟩:=hT2 e0
     simp[go_sem,e0,Y0]
     exact⟨s2.1,s2.2,⟨hm,b1,b2⟩,AB⟩
   . simp[go_sem,e0]
     exact no e _ _ e0 (A8 _)
 refine AI ?_
 simp[go_sem,hps]
 refine(I0 _ _).use ?_
 simp[go_sem]
 refine GL ho (A8 _) (by simp[closed]) (Nt.ok ?_)
 rw[hT]
 rw[hm2]at hm hhd
 exact⟨hm.2.2,hm.2.1.2.1,by have:=hm.2.1.2.2 List.nodup_nil;rw[hm.2.1.1]at this;simpa using this,hrv,hhd⟩
def Lv:Nat->List AE->Nat
 | 0,_=>0
 | N+1,l=>(l.map λx=>1+Lv N x.flow+(x.rows.map λr=>(r.cells.map λc=>1+Lv N c.flow).sum).sum).sum
def Lk (N:Nat) (l:List AL):Nat:=(l.map λc=>1+Lv N c.flow).sum
def KW (N:Nat) (l:List AW):Nat:=(l.map λr=>Lk N r.cells).sum
def Ll (N:Nat) (l:List AE):Nat:=(l.map λx=>1+Lv N x.flow+KW N x.rows).sum
theorem Sg (N:Nat) (l:List AE):Lv (N+1) l=Ll N l:=rfl
theorem Li {α:Type} {f:α->Nat} {l:List α} {i:Nat} (hi:i<l.length) {x:α} (hx:l[i]=x):((l.take (i+1)).map f).sum=((l.take i).map f).sum+f x:=by
 rw[Y2 hi,hx];simp
theorem QH (N:Nat):∀l:List AE,l.length<=Ll N l
 | []=>Y1 _
 | x::l=>by
  have:=QH N l
  simp only[Ll,Yf,Zm,Yy]at this ⊢;omega
def Lz:Nat->List AE->Prop
 | 0,_=>False
 | N+1,l=>l.length<=150/\∀x∈l,(x.text.size<=1000/\x.rows.length<=20)/\Lz N x.flow/\∀r∈x.rows,r.cells.length<=20/\∀c∈r.cells,Lz N c.flow
def Uc (N:Nat) (x:AE):Prop:=(x.text.size<=1000/\x.rows.length<=20)/\Lz N x.flow/\∀r∈x.rows,r.cells.length<=20/\∀c∈r.cells,Lz N c.flow
def UW (N:Nat) (l:List AE) (c0:Int) (p:Nat) (H:Hp) (n:Nat):SV->Hp->Nat->Prop:=λv h' n'=>∃b c,v=.bool b/\h'=hset H p (some (.cells [AA c]))/\n'=n/\(b=true->0<=c0/\c0<=150->0<=c/\c+Lv N l<=c0/\Lz N l)
def Sw (N:Nat) (l:List AE):Prop:=∀(dp:Int) (p:Nat) (c0:Int) (H:Hp) (n:Nat),H p=some (.cells [AA c0])->BM Tryz.prog 33 [AG l,AA dp,.ptr p 0] H n (UW N l c0 p H n)
theorem Lh {α:Type} {p:α->Prop} {l:List α} {i:Nat} (hi:i<l.length) {x:α} (hx:l[i]=x) (h:∀y∈l.take i,p y) (h2:p x):∀y∈l.take (i+1),p y:=λy hy=>by
 rw[Y2 hi,hx]at hy
 rcases Y8.1 hy with hy|hy
 . exact h y hy
 . rw[Yk.1 hy];exact h2
set_option maxHeartbeats 4000000 in
theorem d33 (N:Nat) (l:List AE) (hl:l.length<=1048576) (hr:∀x∈l,x.head.props.length<=1048576/\Sw N x.flow/\x.rows.length<=1048576/\∀r∈x.rows,r.cells.length<=1048576/\∀c∈r.cells,Sw N c.flow):Sw (N+1) l:=λdp p c0 H n hp=>by
 refine Dg Tryz.func33 rfl λho=>?_
 have hpn:p<n:=(ho p _ hp).1
 obtain⟨B,hB⟩:∃B:Int->Hp,∀c,B c=hset H p (some (.cells [AA c])):=⟨_,λ_=>rfl⟩
 have hBp:∀c,B c p=some (.cells [AA c]):=λc=>by rw[hB,AC]
 have hBs:∀c c',hset (B c) p (some (.cells [AA c']))=B c':=λc c'=>by rw[hB,hB,AY]
 have hB0 : B c0 = H := by rw [hB]; funext j; simp only [hset]; split; · subst_vars; exact hp.symm
                           . rfl
 have A3:∀(b:Bool) (c:Int) (m:Nat),(b=true->0<=c0/\c0<=150->0<=c/\c+Lv (N+1) l<=c0/\Lz (N+1) l)->Bz n (B c) m (.bool b) (UW (N+1) l c0 p H n):=λb c m hb=>
  .inr ⟨0,.bool b,B c,Y0,by simp[closed],λj y e=>⟨e,by
   rw[hB]at e
   by_cases h:j=p
   . subst h;rw[AC]at e;cases e;exact⟨hpn,by simp[BN,closed,closedL]⟩
   . rw[AD _ _ h]at e;exact ho j y e⟩,b,c,rfl,hB c,rfl,hb⟩
 have ret:∀(c:Int) (m:Nat),Bz n (B c) m (.bool false) (UW (N+1) l c0 p H n):=λc m=>A3 false c m (by simp)
 refine Ab 0 [(0,AG l),(1,AA dp),(2,.ptr p 0)] (B c0) n ?_ (λm hm=>?_)
 . rw[hB0];simp[go_sem,Y0]
 refine AV 0 (α:=Int) (λ_=>[]) (λc=>B c) (λc m=>n<=m/\(0<=c0/\c0<=150->0<=c/\c+Ll N l<=c0/\∀x∈l,Uc N x)) ?_ (λc m hm=>?_)
 . refine Ab 0 [(0,AG l),(1,AA dp),(2,.ptr p 0),(7,AA 0)] (B c0) n ?_ (λm hm=>?_)
   . simp[go_sem,Y0,hm]
   refine AR (BP 0 (α:=Nat×Int) (λq=>[(0,AG l),(1,AA dp),(2,.ptr p 0),(7,AA q.1)]) (λq=>B q.2) (λq m=>q.1<=l.length/\n<=m/\(0<=c0/\c0<=150->0<=q.2/\q.2+Ll N (l.take q.1)<=c0/\∀x∈l.take q.1,Uc N x)) (λq=>l.length-q.1) (0,c0) ⟨Y4 _,hm,λg=>⟨g.1,by simp[Ll],by simp⟩⟩ ?_ AB ?_)
   . simp[go_sem,Aj,Y0]
   rintro⟨i,c⟩ m ⟨hi,hm,hG⟩
   dsimp only at hi hG ⊢
   by_cases hlt:i<l.length
   . obtain⟨x,hx⟩:∃x,l[i]=x:=⟨_,rfl⟩
     have hxm:x∈l:=by rw[<-hx];exact Yc hlt
     obtain⟨x1,x2,x3,x4⟩:=hr x hxm
     have w1:=wS i (by omega)
     refine Ab 0 [(0,AG l),(1,AA dp),(2,.ptr p 0),(7,AA i)] (B c) n ?_ (λm hm=>?_)
     . simp[go_sem,Y0,hm,hlt]
     refine AV 0 (α:=Int) (λ_=>[(0,AG l),(1,AA dp),(2,.ptr p 0),(7,AA i)]) (λc=>B c) (λc m=>n<=m/\(0<=c0/\c0<=150->0<=c/\c+Ll N (l.take (i+1))<=c0/\Uc N x)) ?_ (λc m hm=>?_)
     . refine AR ?_
       refine BG 0 (α:=Int) (λ_=>[(0,AG l),(1,AA dp),(2,.ptr p 0),(7,AA i)]) (λc=>B c) (λc' m=>n<=m/\(0<=c0/\c0<=150->c'=c-1)) ?_ (λc' m hm=>?_)
       . simp[go_sem,Y0,hm,hBp,hBs]
         exact⟨_,λg1 g2=>by obtain⟨q1,q2,_⟩:=hG ⟨g1,g2⟩;rw[DR]<;>omega,AB⟩
       obtain⟨hm,hc'⟩:=hm
       refine AV 0 (α:=Int) (λ_=>[(0,AG l),(1,AA dp),(2,.ptr p 0),(7,AA i)]) (λc=>B c) (λc2 m=>n<=m/\(0<=c0/\c0<=150->0<=c2/\c2+Lv N x.flow<=c'/\(x.text.size<=1000/\x.rows.length<=20)/\Lz N x.flow)) ?_ (λc m hm=>?_)
       . refine BG 0 (α:=Bx×Int) (λq=>[(0,AG l),(1,AA dp),(2,.ptr p 0),(7,AA i),(68,.bool q.1.b)]) (λq=>B q.2) (λq m=>n<=m/\(q.1.b=false->0<=c0/\c0<=150->0<=q.2/\q.2+Lv N x.flow<=c'/\(x.text.size<=1000/\x.rows.length<=20)/\Lz N x.flow)) ?_ (λq m hm=>?_)
         . generalize c'=c at hc' ⊢
           by_cases a1:c<0
           . simp[go_sem,Y0,hm,hBp,a1]
             exact⟨⟨true⟩,c,by simp,rfl,AB⟩
           by_cases a2:dp=0
           . simp[go_sem,Y0,hm,hBp,a1,a2]
             exact⟨⟨true⟩,c,by simp,rfl,AB⟩
           by_cases a3:(1000:Int)<x.text.size
           . simp[go_sem,Y0,hm,hBp,a1,a2,hlt,hx,Yh,a3]
             exact⟨⟨true⟩,c,by simp,rfl,AB⟩
           by_cases a4:(60:Int)<x.head.props.length
           . simp[go_sem,Y0,hm,hBp,a1,a2,hlt,hx,Yh,a3,a4]
             exact⟨⟨true⟩,c,by simp,rfl,AB⟩
           by_cases a5:(20:Int)<x.rows.length
           . simp[go_sem,Y0,hm,hBp,a1,a2,hlt,hx,Yh,a3,a4,a5]
             exact⟨⟨true⟩,c,by simp,rfl,AB⟩
           simp[go_sem,hBp,a1,a2,hlt,hx,Yh,a3,a4,a5]
           refine Ys (x2 _ p c (B c) m (hBp c)) ?_
           rintro v H' n' ⟨b,c2,rfl,rfl,rfl,hb⟩
           rw[hBs]
           simp[go_sem,Y0,hm]
           exact⟨⟨!b⟩,c2,λg ga gb=>by
            have g1:0<=c0/\c0<=150:=⟨ga,gb⟩
            obtain⟨q1,q2,q3⟩:=hG g1
            have e1:=hc' g1
            obtain⟨r1,r2,r3⟩:=hb (by simpa using g) ⟨by omega,by omega⟩
            exact⟨r1,r2,⟨by omega,by omega⟩,r3⟩,rfl,AB⟩
         obtain⟨⟨b⟩,c2⟩:=q
         obtain⟨hm,hb⟩:=hm
         dsimp only at hb ⊢
         cases b with
         | true=>exact AI (by simp[go_sem];exact ret c2 _)
         | false=>exact AI (by simp[go_sem,Y0,hm];exact⟨_,λg1 g2=>hb rfl ⟨g1,g2⟩,AB⟩)
       obtain⟨hm,hx2⟩:=hm
       have hts:=Li (f:=λx=>1+Lv N x.flow+KW N x.rows) hlt hx
       change Ll N _=Ll N _+_ at hts
       obtain⟨S,hS⟩:∃S:Nat,S=Ll N (l.take i)+1+Lv N x.flow:=⟨_,rfl⟩
       have hSt:Ll N (l.take (i+1))=S+KW N x.rows:=by omega
       rw[hSt]
       clear hts
       have hG2:0<=c0/\c0<=150->0<=c/\c+S<=c0/\(x.text.size<=1000/\x.rows.length<=20)/\Lz N x.flow:=λg=>by
        obtain⟨q1,q2,_⟩:=hG g
        obtain⟨r1,r2,r3,r4⟩:=hx2 g
        have:=hc' g
        exact⟨r1,by omega,r3,r4⟩
       clear hG hx2 hc'
       refine Ab 0 [(0,AG l),(1,AA dp),(2,.ptr p 0),(7,AA i),(8,AA 0)] (B c) n ?_ (λm hm=>?_)
       . simp[go_sem,Y0,hm]
       refine AR (BP 0 (α:=Nat×Int) (λq=>[(0,AG l),(1,AA dp),(2,.ptr p 0),(7,AA i),(8,AA q.1)]) (λq=>B q.2) (λq m=>q.1<=x.rows.length/\n<=m/\(0<=c0/\c0<=150->0<=q.2/\q.2+(S+KW N (x.rows.take q.1):Nat)<=c0/\∀r∈x.rows.take q.1,r.cells.length<=20/\∀z∈r.cells,Lz N z.flow)) (λq=>x.rows.length-q.1) (0,c) ⟨Y4 _,hm,λg=>⟨(hG2 g).1,(hG2 g).2.1,by simp⟩⟩ ?_ AB ?_)
       . simp[go_sem,Aj,Y0]
       have hx3:0<=c0/\c0<=150->(x.text.size<=1000/\x.rows.length<=20)/\Lz N x.flow:=λg=>(hG2 g).2.2
       clear hG2
       rintro⟨j,c⟩ m ⟨hj,hm,hG⟩
       dsimp only at hj hG ⊢
       by_cases hjt:j<x.rows.length
       . obtain⟨y,hy⟩:∃y,x.rows[j]=y:=⟨_,rfl⟩
         have hym:y∈x.rows:=by rw[<-hy];exact Yc hjt
         obtain⟨y1,y2⟩:=x4 y hym
         have w2:=wS j (by omega)
         have hts:=Li (f:=λr:AW=>Lk N r.cells) hjt hy
         change KW N _=KW N _+_ at hts
         obtain⟨U,hU⟩:∃U:Nat,U=S+KW N (x.rows.take j):=⟨_,rfl⟩
         have hUt:S+KW N (x.rows.take (j+1))=U+Lk N y.cells:=by omega
         rw[<-hU]at hG
         clear hts
         refine Ab 0 [(0,AG l),(1,AA dp),(2,.ptr p 0),(7,AA i),(8,AA j)] (B c) n ?_ (λm hm=>?_)
         . simp[go_sem,Y0,hm,hlt,hx,Yh,hjt]
         refine AV 0 (α:=Int) (λ_=>[(0,AG l),(1,AA dp),(2,.ptr p 0),(7,AA i),(8,AA j)]) (λc=>B c) (λc m=>n<=m/\(0<=c0/\c0<=150->0<=c/\c+(S+KW N (x.rows.take (j+1)):Nat)<=c0/\y.cells.length<=20/\∀z∈y.cells,Lz N z.flow)) ?_ (λc m hm=>?_)
         . refine AR ?_
           refine CB 0 [(0,AG l),(1,AA dp),(2,.ptr p 0),(7,AA i),(8,AA j)] (B c) (λm=>n<=m/\y.cells.length<=20) (AI ?_) (λm hm=>?_)
           . by_cases a:(20:Int)<y.cells.length
             . simp[go_sem,hlt,hx,Yh,hjt,hy,YB,a]
               exact ret c _
             . simp[go_sem,hlt,hx,Yh,hjt,hy,YB,a,Y0,hm]
               omega
           obtain⟨hm,hyc⟩:=hm
           refine Ab 0 [(0,AG l),(1,AA dp),(2,.ptr p 0),(7,AA i),(8,AA j),(9,AA 0)] (B c) n ?_ (λm hm=>?_)
           . simp[go_sem,Y0,hm]
           refine AR (BP 0 (α:=Nat×Int) (λq=>[(0,AG l),(1,AA dp),(2,.ptr p 0),(7,AA i),(8,AA j),(9,AA q.1)]) (λq=>B q.2) (λq m=>q.1<=y.cells.length/\n<=m/\(0<=c0/\c0<=150->0<=q.2/\q.2+(U+Lk N (y.cells.take q.1):Nat)<=c0/\∀z∈y.cells.take q.1,Lz N z.flow)) (λq=>y.cells.length-q.1) (0,c) ⟨Y4 _,hm,λg=>⟨(hG g).1,(hG g).2.1,by simp⟩⟩ ?_ AB ?_)
           . simp[go_sem,Aj,Y0]
           clear hG
           rintro⟨k,c⟩ m ⟨hk,hm,hG⟩
           dsimp only at hk hG ⊢
           by_cases hkt:k<y.cells.length
           . obtain⟨z,hz⟩:∃z,y.cells[k]=z:=⟨_,rfl⟩
             have hzm:z∈y.cells:=by rw[<-hz];exact Yc hkt
             have z1:=y2 z hzm
             have w3:=wS k (by omega)
             have hts:=Li (f:=λc:AL=>1+Lv N c.flow) hkt hz
             change Lk N _=Lk N _+_ at hts
             refine Ab 0 [(0,AG l),(1,AA dp),(2,.ptr p 0),(7,AA i),(8,AA j),(9,AA k)] (B c) n ?_ (λm hm=>?_)
             . simp[go_sem,Y0,hm,hlt,hx,Yh,hjt,hy,YB,hkt]
             refine AV 0 (α:=Int) (λ_=>[(0,AG l),(1,AA dp),(2,.ptr p 0),(7,AA i),(8,AA j),(9,AA k)]) (λc=>B c) (λc m=>n<=m/\(0<=c0/\c0<=150->0<=c/\c+(U+Lk N (y.cells.take (k+1)):Nat)<=c0/\Lz N z.flow)) ?_ (λc m hm=>?_)
             . refine AR ?_
               refine BG 0 (α:=Int) (λ_=>[(0,AG l),(1,AA dp),(2,.ptr p 0),(7,AA i),(8,AA j),(9,AA k)]) (λc=>B c) (λc' m=>n<=m/\(0<=c0/\c0<=150->c'=c-1)) ?_ (λc' m hm=>?_)
               . simp[go_sem,Y0,hm,hBp,hBs]
                 exact⟨_,λg1 g2=>by obtain⟨q1,q2,_⟩:=hG ⟨g1,g2⟩;rw[DR]<;>omega,AB⟩
               obtain⟨hm,hc'⟩:=hm
               refine BG 0 (α:=Bx×Int) (λq=>[(0,AG l),(1,AA dp),(2,.ptr p 0),(7,AA i),(8,AA j),(9,AA k),(132,.bool q.1.b)]) (λq=>B q.2) (λq m=>n<=m/\(q.1.b=false->0<=c0/\c0<=150->0<=q.2/\q.2+Lv N z.flow<=c'/\Lz N z.flow)) ?_ (λq m hm=>?_)
               . generalize c'=c at hc' ⊢
                 by_cases a1:c<0
                 . simp[go_sem,Y0,hm,hBp,a1]
                   exact⟨⟨true⟩,c,by simp,rfl,AB⟩
                 simp[go_sem,hBp,a1,hlt,hx,Yh,hjt,hy,YB,hkt,hz,Z9]
                 refine Ys (z1 _ p c (B c) m (hBp c)) ?_
                 rintro v H' n' ⟨b,c2,rfl,rfl,rfl,hb⟩
                 rw[hBs]
                 simp[go_sem,Y0,hm]
                 exact⟨⟨!b⟩,c2,λg ga gb=>by
                  have g1:0<=c0/\c0<=150:=⟨ga,gb⟩
                  obtain⟨q1,q2,q3⟩:=hG g1
                  have e1:=hc' g1
                  exact hb (by simpa using g) ⟨by omega,by omega⟩,rfl,AB⟩
               obtain⟨⟨b⟩,c2⟩:=q
               obtain⟨hm,hb⟩:=hm
               dsimp only at hb ⊢
               cases b with
               | true=>exact AI (by simp[go_sem];exact ret c2 _)
               | false=>exact AI (by simp[go_sem,Y0,hm];exact⟨_,λg1 g2=>by
                obtain⟨q1,q2,_⟩:=hG ⟨g1,g2⟩
                obtain⟨r1,r2,r3⟩:=hb rfl ⟨g1,g2⟩
                have:=hc' ⟨g1,g2⟩
                exact⟨r1,by omega,r3⟩,AB⟩)
             . obtain⟨hm,hz2⟩:=hm
               refine AI ?_
               simp[go_sem,w3,Y0,-Int.natCast_add]
               exact⟨k+1,by omega,c,⟨by omega,hm,λga gb=>⟨(hz2 ⟨ga,gb⟩).1,(hz2 ⟨ga,gb⟩).2.1,Lh hkt hz (hG ⟨ga,gb⟩).2.2 (hz2 ⟨ga,gb⟩).2.2⟩⟩,rfl,AB⟩
           . refine AI ?_
             have hkk:k=y.cells.length:=by omega
             rw[hkk,Ya]at hG
             simp[go_sem,hlt,hx,Yh,hjt,hy,YB,hkt,Y0,hm]
             exact⟨c,λg1 g2=>⟨(hG ⟨g1,g2⟩).1,by have:=(hG ⟨g1,g2⟩).2.1;omega,hyc,(hG ⟨g1,g2⟩).2.2⟩,AB⟩
         . obtain⟨hm,hy2⟩:=hm
           refine AI ?_
           simp[go_sem,w2,Y0,-Int.natCast_add]
           exact⟨j+1,by omega,c,⟨by omega,hm,λga gb=>⟨(hy2 ⟨ga,gb⟩).1,(hy2 ⟨ga,gb⟩).2.1,Lh hjt hy (hG ⟨ga,gb⟩).2.2 (hy2 ⟨ga,gb⟩).2.2⟩⟩,rfl,AB⟩
       . refine AI ?_
         have hjj:j=x.rows.length:=by omega
         rw[hjj,Ya]at hG
         simp[go_sem,hlt,hx,Yh,hjt,Y0,hm]
         exact⟨c,λg1 g2=>⟨(hG ⟨g1,g2⟩).1,(hG ⟨g1,g2⟩).2.1,(hx3 ⟨g1,g2⟩).1,(hx3 ⟨g1,g2⟩).2,(hG ⟨g1,g2⟩).2.2⟩,AB⟩
     . obtain⟨hm,hx2⟩:=hm
       refine AI ?_
       simp[go_sem,w1,Y0,-Int.natCast_add]
       exact⟨i+1,by omega,c,⟨by omega,hm,λga gb=>⟨(hx2 ⟨ga,gb⟩).1,by have:=(hx2 ⟨ga,gb⟩).2.1;omega,Lh hlt hx (hG ⟨ga,gb⟩).2.2 (hx2 ⟨ga,gb⟩).2.2⟩⟩,rfl,AB⟩
   . refine AI ?_
     have hii:i=l.length:=by omega
     rw[hii,Ya]at hG
     simp[go_sem,hlt,hm]
     exact⟨c,λg1 g2=>hG ⟨g1,g2⟩,AB⟩
 . obtain⟨hm,hl2⟩:=hm
   refine AI ?_
   simp[go_sem]
   refine A3 true c _ λ_ g=>?_
   obtain⟨q1,q2,q3⟩:=hl2 g
   have:=QH N l
   exact⟨q1,by rw[Sg];exact q2,by omega,q3⟩
theorem UU {B:Nat} (hB:B<=1048576):∀(N:Nat) (l:List AE),DM AF.sized B N l->Sw N l
 | 0,_,h=>h.elim
 | N+1,l,h=>by
  obtain⟨h1,_,h3⟩:=Cf.1 h
  refine d33 N l (by omega) λx hx=>?_
  obtain⟨a1,a2,a3,a4⟩:=h3 x hx
  exact⟨a1.props,UU hB N x.flow a2,by omega,λr hr=>⟨by have:=(a4 r hr).2.1;omega,λc hc=>UU hB N c.flow ((a4 r hr).2.2 c hc).2⟩⟩
def Pn (N:Nat) (d:AH) (v:SV):Prop:=∃b,v=.bool b/\(b=true->GY N d/\Lz N d.flow/\Lv N d.flow<=150)
set_option maxHeartbeats 4000000 in
theorem t12x (d:AH) {B N:Nat} (hB:B<=1048576) (hl:DM AF.sized B N d.flow) (hc:TC 24 [d.enc] (Nt (GY N d))):TC 12 [d.enc] (Pn N d):=by
 intro h n
 refine Dg Tryz.func12 rfl λho=>?_
 have hHb:=ho.lt
 have fin:∀(b:Bool) (c:BT) (m:Nat),(b=true->GY N d/\Lz N d.flow/\Lv N d.flow<=150)->Bz n (hset h (n+1) (some c)) m (.bool b) (λv h' n'=>Pn N d v/\h'=h/\n'=n):=λb c m hb=>GL ho (AK (λj z e=>by have:=hHb j z e;omega) AB) (by simp[closed]) ⟨b,rfl,hb⟩
 refine BV 1 [(1,.iptr ([AG d.flow]++d.«end».flat++[Aw d.revs]++d.settings.flat))] h (λm=>n+1=m) ?_ (λm hm=>?_)
 . simp[go_sem,AH.enc,AF.flat,AJ.flat]
   exact⟨AT (Ac hHb (Y1 _)) (AC _ _ _),AK hHb AB⟩
 subst hm
 refine BV 0 [(1,.iptr ([AG d.flow]++d.«end».flat++[Aw d.revs]++d.settings.flat)),(3,.ptr (n+1) 0)] (hset h (n+1) (some (.cells [AA 150]))) (λm=>n+2=m) ?_ (λm hm=>?_)
 . simp[go_sem,Y0,AC,AY]
 subst hm
 have hGb:∀j y,hset h (n+1) (some (.cells [AA 150])) j=some y->j<n+2:=λj y e=>by
  simp only[hset]at e;split at e
  . omega
  . have:=hHb j y e;omega
 refine BV 1 [(1,.iptr ([AG d.flow]++d.«end».flat++[Aw d.revs]++d.settings.flat)),(3,.ptr (n+1) 0),(4,.iptr d.settings.flat)] (hset h (n+1) (some (.cells [AA 150]))) (λm=>n+2<=m) ?_ (λm hm=>?_)
 . simp[go_sem,Y0,AF.flat,AJ.flat,AC]
   exact⟨AT (Ac hGb (Y1 _)) (AC _ _ _),AK hGb (AK hGb AB)⟩
 refine AI ?_
 have no:=λc m=>fin false c m (by simp)
 by_cases a1:(d.settings.comments.length:Int)<=30
 case neg=>simp[go_sem,AF.flat,AJ.flat,a1];exact no _ _
 by_cases a2:(d.settings.styles.length:Int)<=30
 case neg=>simp[go_sem,AF.flat,AJ.flat,a1,a2];exact no _ _
 by_cases a3:(d.settings.lists.length:Int)<=30
 case neg=>simp[go_sem,AF.flat,AJ.flat,a1,a2,a3];exact no _ _
 by_cases a4:(d.settings.vars.length:Int)<=30
 case neg=>simp[go_sem,AF.flat,AJ.flat,a1,a2,a3,a4];exact no _ _
 by_cases a5:(d.revs.length:Int)<=30
 case neg=>simp[go_sem,AF.flat,AJ.flat,a1,a2,a3,a4,a5];exact no _ _
 simp[go_sem,AF.flat,AJ.flat,a1,a2,a3,a4,a5]
 refine Ys (UU hB N d.flow hl 12 (n+1) 150 (hset h (n+1) (some (.cells [AA 150]))) m (AC _ _ _)) ?_
 rintro v H' n' ⟨b,c,rfl,rfl,rfl,hfew⟩
 rw[AY]
 cases b with
 | false=>simp[go_sem];exact no _ _
 | true=>
 simp[go_sem]
 refine Xi (by simpa[AH.enc,AF.flat,AJ.flat]using hc) ?_
 rintro v ⟨e,rfl,hT⟩
 simp[go_sem]
 obtain⟨f1,f2,f3⟩:=hfew rfl ⟨by omega,by omega⟩
 exact fin _ _ _ λg=>⟨hT (by simpa using g),f3,by omega⟩
def FC (v:SV):Prop:=∃e:Int,v=AA e
def trS:Tr:=.pure 0<|.pure 1<|.pure 3<|.pure 4<|.pure 6<|.pure 7<|.pure 9<|.pure 10<|.one 2<|.one 5<|.one 8<|.one 11<|.one 12<|.one 13<|.one 14 .nil
theorem t83 (s:AJ) (h1:TC 146 [Ad s.styles] FC) (h2:TC 147 [DW s.lists] FC) (h3:TC 148 [BW s.comments] FC) (h4:TC 149 [FA s.vars] FC):TC 83 [s.enc] FC:=by
 intro h n
 refine Dg Tryz.func83 rfl λho=>?_
 have hHb:=ho.lt
 refine Ab 1 [(1,.iptr s.flat)] h n ?_ (λm hm=>?_)
 . simp[go_sem,AJ.enc,AJ.flat]
   exact⟨AT (Ac hHb (Y1 _)) (AC _ _ _),AK hHb AB⟩
 refine AV 0 (α:=Int) (λe=>[(2,AA e)]) (λ_=>h) (λ_ m=>n<=m) (B7 trS rfl (by kernel_rfl) (by kernel_rfl) ?_) (λe m hm=>?_)
 . have hHm:∀j y,h j=some y->j<m:=λj y e=>by have:=hHb j y e;omega
   simp[go_sem,trS,AJ.flat]
   refine Xi h1 ?_
   rintro v ⟨e1,rfl⟩
   simp[go_sem]
   refine Xi h2 ?_
   rintro v ⟨e2,rfl⟩
   simp[go_sem]
   refine Xi h3 ?_
   rintro v ⟨e3,rfl⟩
   simp[go_sem]
   refine Xi h4 ?_
   rintro v ⟨e4,rfl⟩
   simp[go_sem]
   refine Xg (bs:=[.imm 1 ([e1,e2,e3,e4].map AA) false]) (h2:=h) 1 (AK hHm AB) ⟨?_,trivial⟩ ?_
   . exact Dj (es:=[AA e1,AA e2,AA e3,AA e4]) (Ac hHm (Y1 _)) (by simp) (by rw[AC];simp[SV.cells]) (by simp[SV.storable,SV.cells])
   refine(PF _ (by simp)).use ?_
   simp[go_sem]
   exact⟨by omega,_,Y0⟩
 . refine AI ?_
   simp[go_sem]
   exact GL ho AB (by simp[closed]) ⟨e,rfl⟩
theorem U9 (N:Nat) (hN:N<=1048576) (g:FuncId) (a b:List SV) (hF:∀j,j<N->TC g (a++[AA j]++b) FC):TC 150 [AA N,.fn (.func g) a b] FC:=by
 intro h n
 refine gq Tryz.func150 rfl λho=>?_
 simp[go_sem]
 refine Am 0 (α:=Nat) (λk=>[(1,.fn (.func g) a b),(7,AA N),(8,AA k)]) (λ_=>h) (λk m=>k<=N/\n<=m) (λk=>N-k) 0 ⟨Y4 _,Y1 _⟩ ?_ AB ?_
 . simp[Aj,Fz]
 rintro k m ⟨hk,hnm⟩
 by_cases hlt:k<N
 . have w1:=wS k (by omega)
   have F0:=hF k hlt
   simp only[Ye,List.singleton_append]at F0
   simp[go_sem,hlt]
   refine F0.use ?_
   rintro v ⟨e,rfl⟩
   by_cases h0:e=0
   . simp[go_sem,h0,w1,-Int.natCast_add]
     exact⟨k+1,by omega,⟨by omega,hnm⟩,rfl⟩
   . simp[go_sem,h0]
     exact GL ho AB (by simp[closed]) ⟨e,rfl⟩
 . simp[go_sem,hlt]
   exact GL ho AB (by simp[closed]) ⟨0,rfl⟩
def trQ:Tr:=.pure 0<|.pure 1<|.pure 2<|.pure 4<|.pure 5<|.pure 6<|.pure 7<|.one 3<|.one 8<|.one 9<|.one 10<|.one 11 .nil
theorem t147 (l:List FQ) (hl:l.length<=1048576) (hc:∀i,i<l.length->TC 210 [AA i,.iptr [DW l]] FC):TC 147 [DW l] FC:=by
 intro h n
 refine Dg Tryz.func147 rfl λho=>?_
 have hHb:=ho.lt
 refine Ab 1 [(1,.iptr [DW l])] h n ?_ (λm hm=>?_)
 . simp[go_sem]
   exact⟨AT (Ac hHb (Y1 _)) (AC _ _ _),AK hHb AB⟩
 refine AV 0 (α:=Int) (λe=>[(2,AA e)]) (λ_=>h) (λ_ m=>n<=m) (B7 trQ rfl (by kernel_rfl) (by kernel_rfl) ?_) (λe m hm=>?_)
 . have hHm:∀j y,h j=some y->j<m:=λj y e=>by have:=hHb j y e;omega
   have hN:(if(64:Int)<l.length then(64:Int)else l.length)=((min l.length 64:Nat):Int):=by split<;>omega
   simp[go_sem,trQ]
   refine(I0 _ _).use ?_
   simp[go_sem,hN]
   refine(U9 (min l.length 64) (by omega) 210 [] [.iptr [DW l]] (λj hj=>hc j (by omega))).use ?_
   rintro v ⟨e2,rfl⟩
   simp[go_sem]
   generalize(if 64<(l.length:Int)then(9:Int)else 0)=e1
   refine Xg (bs:=[.imm 1 ([e1,e2].map AA) false]) (h2:=h) 1 (AK hHm AB) ⟨?_,trivial⟩ ?_
   . exact Dj (es:=[AA e1,AA e2]) (Ac hHm (Y1 _)) (by simp) (by rw[AC];simp[SV.cells]) (by simp[SV.storable,SV.cells])
   refine(PF _ (by simp)).use ?_
   simp[go_sem]
   exact⟨by omega,_,Y0⟩
 . refine AI ?_
   simp[go_sem]
   exact GL ho AB (by simp[closed]) ⟨e,rfl⟩
theorem t148 (l:List As) (hl:l.length<=1048576) (hc:∀i,i<l.length->TC 213 [AA i,.iptr [BW l]] FC):TC 148 [BW l] FC:=by
 intro h n
 refine Dg Tryz.func148 rfl λho=>?_
 have hHb:=ho.lt
 refine Ab 1 [(1,.iptr [BW l])] h n ?_ (λm hm=>?_)
 . simp[go_sem]
   exact⟨AT (Ac hHb (Y1 _)) (AC _ _ _),AK hHb AB⟩
 refine AV 0 (α:=Int) (λe=>[(2,AA e)]) (λ_=>h) (λ_ m=>n<=m) (B7 trQ rfl (by kernel_rfl) (by kernel_rfl) ?_) (λe m hm=>?_)
 . have hHm:∀j y,h j=some y->j<m:=λj y e=>by have:=hHb j y e;omega
   have hN:(if(1024:Int)<l.length then(1024:Int)else l.length)=((min l.length 1024:Nat):Int):=by split<;>omega
   simp[go_sem,trQ]
   refine(I0 _ _).use ?_
   simp[go_sem,hN]
   refine(U9 (min l.length 1024) (by omega) 213 [] [.iptr [BW l]] (λj hj=>hc j (by omega))).use ?_
   rintro v ⟨e2,rfl⟩
   simp[go_sem]
   generalize(if 1024<(l.length:Int)then(9:Int)else 0)=e1
   refine Xg (bs:=[.imm 1 ([e1,e2].map AA) false]) (h2:=h) 1 (AK hHm AB) ⟨?_,trivial⟩ ?_
   . exact Dj (es:=[AA e1,AA e2]) (Ac hHm (Y1 _)) (by simp) (by rw[AC];simp[SV.cells]) (by simp[SV.storable,SV.cells])
   refine(PF _ (by simp)).use ?_
   simp[go_sem]
   exact⟨by omega,_,Y0⟩
 . refine AI ?_
   simp[go_sem]
   exact GL ho AB (by simp[closed]) ⟨e,rfl⟩
theorem t149 (l:List Fa) (hl:l.length<=1048576) (hc:∀i,i<l.length->TC 218 [AA i,.iptr [FA l]] FC):TC 149 [FA l] FC:=by
 intro h n
 refine Dg Tryz.func149 rfl λho=>?_
 have hHb:=ho.lt
 refine Ab 1 [(1,.iptr [FA l])] h n ?_ (λm hm=>?_)
 . simp[go_sem]
   exact⟨AT (Ac hHb (Y1 _)) (AC _ _ _),AK hHb AB⟩
 refine AV 0 (α:=Int) (λe=>[(2,AA e)]) (λ_=>h) (λ_ m=>n<=m) (B7 trQ rfl (by kernel_rfl) (by kernel_rfl) ?_) (λe m hm=>?_)
 . have hHm:∀j y,h j=some y->j<m:=λj y e=>by have:=hHb j y e;omega
   have hN:(if(128:Int)<l.length then(128:Int)else l.length)=((min l.length 128:Nat):Int):=by split<;>omega
   simp[go_sem,trQ]
   refine(I0 _ _).use ?_
   simp[go_sem,hN]
   refine(U9 (min l.length 128) (by omega) 218 [] [.iptr [FA l]] (λj hj=>hc j (by omega))).use ?_
   rintro v ⟨e2,rfl⟩
   simp[go_sem]
   generalize(if 128<(l.length:Int)then(9:Int)else 0)=e1
   refine Xg (bs:=[.imm 1 ([e1,e2].map AA) false]) (h2:=h) 1 (AK hHm AB) ⟨?_,trivial⟩ ?_
   . exact Dj (es:=[AA e1,AA e2]) (Ac hHm (Y1 _)) (by simp) (by rw[AC];simp[SV.cells]) (by simp[SV.storable,SV.cells])
   refine(PF _ (by simp)).use ?_
   simp[go_sem]
   exact⟨by omega,_,Y0⟩
 . refine AI ?_
   simp[go_sem]
   exact GL ho AB (by simp[closed]) ⟨e,rfl⟩
theorem c211 (l:List FQ) (i:Nat) (hi:i<l.length):PC 211 [AA i,.iptr [DW l]] (AA (l[i]).id):=by
 intro h n
 refine gq Tryz.func211 rfl λho=>?_
 simp[go_sem,hi,FQ.enc]
 exact A3 ho rfl rfl
def trO:Tr:=.pure 0<|.pure 1<|.pure 3<|.pure 4<|.pure 5<|.pure 6<|.pure 7<|.one 2<|.one 8<|.one 9<|.one 10<|.one 11 .nil
theorem t210 (l:List FQ) (hl:l.length<=1048576) (i:Nat) (hi:i<l.length) (hc:TC 212 [DC (l[i]).levels] FC):TC 210 [AA i,.iptr [DW l]] FC:=by
 intro h n
 refine Dg Tryz.func210 rfl λho=>?_
 have hHb:=ho.lt
 obtain⟨x,hx⟩:∃x,l[i]=x:=⟨_,rfl⟩
 rw[hx]at hc
 refine Ab 0 [(0,AA i),(1,.iptr [DW l])] h n ?_ (λm hm=>?_)
 . simp[go_sem,Y0]
 refine AV 0 (α:=Int) (λe=>[(3,AA e)]) (λ_=>h) (λ_ m=>n<=m) (B7 trO rfl (by kernel_rfl) (by kernel_rfl) ?_) (λe m hm=>?_)
 . have hHm:∀j y,h j=some y->j<m:=λj y e=>by have:=hHb j y e;omega
   simp[go_sem,trO,hi,hx,FQ.enc]
   have hF:∀j,j<=i->PC 211 ([]++[AA j]++[.iptr [DW l]]) (AA (match l[j]? with|some r=>r.id|none=>0)):=λj hj=>by
    have hj2:j<l.length:=by omega
    simpa[hj2]using c211 l j hj2
   refine(UO i (by omega) 211 [] [.iptr [DW l]] (λj=>match l[j]? with|some r=>r.id|none=>0) hF).use ?_
   generalize GV (λj=>match l[j]? with|some r=>r.id|none=>0) i=e1
   simp[go_sem]
   refine hc.use ?_
   rintro v ⟨e2,rfl⟩
   simp[go_sem]
   refine Xg (bs:=[.imm 1 ([e1,e2].map AA) false]) (h2:=h) 1 (AK hHm AB) ⟨?_,trivial⟩ ?_
   . exact Dj (es:=[AA e1,AA e2]) (Ac hHm (Y1 _)) (by simp) (by rw[AC];simp[SV.cells]) (by simp[SV.storable,SV.cells])
   refine(PF _ (by simp)).use ?_
   simp[go_sem]
   exact⟨by omega,_,Y0⟩
 . refine AI ?_
   simp[go_sem]
   exact GL ho AB (by simp[closed]) ⟨e,rfl⟩
theorem t212 (l:List CV) (hl:l.length<=1048576) (hc:∀x∈l,∀k:Int,TC 271 [.str x.template,AA k] FC):TC 212 [DC l] FC:=by
 intro h n
 refine Dg Tryz.func212 rfl λho=>?_
 have hHb:=ho.lt
 have out:∀(e:Int) (m:Nat),Bz n h m (AA e) (λv h' n'=>FC v/\h'=h/\n'=n):=λe m=>GL ho AB (by simp[closed]) ⟨e,rfl⟩
 refine Ab 0 [(0,DC l)] h n ?_ (λm hm=>?_)
 . simp[go_sem,Y0]
 refine Bt 0 [(0,DC l)] h n (AI ?_) (λm hm=>?_)
 . by_cases c:l=[]
   . simp[go_sem,c];exact out _ _
   . by_cases c2:(9:Int)<l.length
     . simp[go_sem,c,c2];exact out _ _
     . simp[go_sem,c,c2,Y0,hm]
 refine Bt 0 [] h n ?_ (λm hm=>?_)
 . refine Ab 0 [(14,DC l),(15,AA l.length),(16,AA 0)] h n ?_ (λm hm=>?_)
   . simp[go_sem,Y0,hm]
   refine AR (BP 0 (α:=Nat) (λi=>[(14,DC l),(15,AA l.length),(16,AA i)]) (λ_=>h) (λi m=>i<=l.length/\n<=m) (λi=>l.length-i) 0 ⟨Y4 _,hm⟩ ?_ AB ?_)
   . simp[go_sem,Aj,Y0]
   rintro i m ⟨hi,hm⟩
   by_cases hlt:i<l.length
   . obtain⟨x,hx⟩:∃x,l[i]=x:=⟨_,rfl⟩
     have hxm:x∈l:=by rw[<-hx];exact Yc hlt
     have w1:=wS i (by omega)
     refine Ab 0 [(14,DC l),(15,AA l.length),(16,AA i),(17,.bool true)] h n ?_ (λm hm=>?_)
     . simp[go_sem,Y0,hm,hlt]
     refine Ab 0 [(14,DC l),(15,AA l.length),(16,AA i)] h n ?_ (λm hm=>?_)
     . simp[go_sem,Y0,hm]
     refine Bt 0 [(14,DC l),(15,AA l.length),(16,AA i)] h n ?_ (λm hm=>?_)
     . refine AR ?_
       refine Ab 1 [(14,DC l),(15,AA l.length),(16,AA i),(3,AA i),(4,.iptr [AA x.format,AA x.start,.str x.template,AA x.restart])] h n ?_ (λm hm=>?_)
       . have hHm:∀j y,h j=some y->j<m:=λj y e=>by have:=hHb j y e;omega
         simp[go_sem,Y0,hlt,hx,CV.enc,AC]
         exact⟨by omega,AT (Ac hHm (Y1 _)) (AC _ _ _),AK hHm (AK hHm AB)⟩
       refine AV 0 (α:=Unit) (λ_=>[(14,DC l),(15,AA l.length),(16,AA i),(3,AA i),(4,.iptr [AA x.format,AA x.start,.str x.template,AA x.restart])]) (λ_=>h) (λ_ m=>n<=m) (AR (AI ?_)) (λ_ m hm=>?_)
       . by_cases a1:x.format<1
         . simp[go_sem,a1];exact out _ _
         by_cases a2:7<x.format
         . simp[go_sem,a1,a2];exact out _ _
         by_cases a3:x.start<0
         . simp[go_sem,a1,a2,a3];exact out _ _
         by_cases a4:32767<x.start
         . simp[go_sem,a1,a2,a3,a4];exact out _ _
         simp[go_sem,a1,a2,a3,a4,Y0,hm]
       refine Bt 0 [(14,DC l),(15,AA l.length),(16,AA i),(3,AA i),(4,.iptr [AA x.format,AA x.start,.str x.template,AA x.restart])] h n (AI ?_) (λm hm=>?_)
       . simp[go_sem,w1,-Int.natCast_add]
         refine(hc x hxm _).use ?_
         rintro v ⟨e,rfl⟩
         by_cases e0:e=0
         . simp[go_sem,e0,Y0,hm]
         . simp[go_sem,e0];exact out _ _
       refine AI ?_
       by_cases a1:x.restart<0
       . simp[go_sem,a1];exact out _ _
       by_cases a2:(i:Int)<x.restart
       . simp[go_sem,a1,a2];exact out _ _
       simp[go_sem,a1,a2,Y0,hm]
     . refine AI ?_
       simp[go_sem,w1,Y0,-Int.natCast_add]
       exact⟨i+1,by omega,⟨by omega,hm⟩,rfl⟩
   . refine AI ?_
     simp[go_sem,hlt,hm]
 . refine AI ?_
   simp[go_sem]
   exact out _ _
theorem c216 (l:List As) (i:Nat) (hi:i<l.length):PC 216 [AA i,.iptr [BW l]] (AA (l[i]).id):=by
 intro h n
 refine gq Tryz.func216 rfl λho=>?_
 simp[go_sem,hi,As.enc]
 exact A3 ho rfl rfl
theorem c215 (x y:As):PC 215 [y.enc,.iptr [AA x.id,AA x.parent,.str x.author,AA x.time,.str x.text,.bool x.done]] (.bool (decide (y.id=x.parent))):=by
 intro h n
 refine gq Tryz.func215 rfl λho=>?_
 simp[go_sem,As.enc,AC]
 exact Au ho (AP ho (Y1 _) AB) (by by_cases h:y.id=x.parent<;>simp[h]) rfl
def trT:Tr:=.pure 0<|.pure 1<|.pure 3<|.pure 4<|.pure 6<|.pure 7<|.pure 11<|.pure 12<|.pure 16<|.pure 17<|.one 2<|.one 5<|.one 8<|.one 9<|.one 10<|.one 13<|.one 14<|.one 15<|.one 18<|.one 19<|.one 20<|.one 21 .nil
theorem t213 (l:List As) (hl:l.length<=1048576) (hs:∀x∈l,x.author.size<=1048576/\x.text.size<=1048576) (i:Nat) (hi:i<l.length):TC 213 [AA i,.iptr [BW l]] FC:=by
 intro h n
 refine Dg Tryz.func213 rfl λho=>?_
 have hHb:=ho.lt
 obtain⟨x,hx⟩:∃x,l[i]=x:=⟨_,rfl⟩
 have hxs:=hs x (by rw[<-hx];exact Yc hi)
 obtain⟨X,hX⟩:∃X:SV,X=.iptr [AA x.id,AA x.parent,.str x.author,AA x.time,.str x.text,.bool x.done]:=⟨_,rfl⟩
 refine By 0 [(0,AA i),(1,.iptr [BW l])] h n ?_ (λm hm=>?_)
 . simp[go_sem,Y0]
 subst hm
 refine Ab 1 [(0,AA i),(1,.iptr [BW l]),(4,X)] h n ?_ (λm hm=>?_)
 . rw[hX]
   simp[go_sem,Y0,hi,hx,As.enc,AC]
   exact⟨AT (Ac hHb (Y1 _)) (AC _ _ _),AK hHb (AK hHb AB)⟩
 refine BG 0 (α:=Bx) (λb=>[(0,AA i),(1,.iptr [BW l]),(4,X),(5,.bool b.b)]) (λ_=>h) (λ_ m=>n<=m) ?_ (λb m hm=>?_)
 . rw[hX]
   by_cases p0:x.parent=0
   . simp[go_sem,p0,Y0,hm];exact⟨⟨_⟩,rfl⟩
   . have hle:i<=l.length:=by omega
     have hc:=c214 (l.take i) (by simp;omega) 215 [] [.iptr [AA x.id,AA x.parent,.str x.author,AA x.time,.str x.text,.bool x.done]] (λj=>match(l.take i)[j]? with|some y=>decide (y.id=x.parent)|none=>false) (λj hj=>by rw[Yr hj];exact c215 x _)
     generalize QW (λj=>match(l.take i)[j]? with|some y=>decide (y.id=x.parent)|none=>false) (l.take i).length=ba at hc
     rw[ZH]at hc
     simp[go_sem,p0,hle,-List.map_take]
     refine Yj hc ?_
     simp[go_sem,Y0,hm,p0];exact⟨⟨ba⟩,Y0⟩
 obtain⟨b⟩:=b
 dsimp only
 refine AV 0 (α:=Int) (λe=>[(3,AA e)]) (λ_=>h) (λ_ m=>n<=m) (B7 trT rfl (by kernel_rfl) (by kernel_rfl) ?_) (λe m hm=>?_)
 . have hHm:∀j y,h j=some y->j<m:=λj y e=>by have:=hHb j y e;omega
   rw[hX]
   simp[go_sem,trT]
   have hF:∀j,j<=i->PC 216 ([]++[AA j]++[.iptr [BW l]]) (AA (match l[j]? with|some r=>r.id|none=>0)):=λj hj=>by
    have hj2:j<l.length:=by omega
    simpa[hj2]using c216 l j hj2
   refine(UO i (by omega) 216 [] [.iptr [BW l]] (λj=>match l[j]? with|some r=>r.id|none=>0) hF).use ?_
   generalize GV (λj=>match l[j]? with|some r=>r.id|none=>0) i=e1
   simp[go_sem]
   refine(I0 _ _).use ?_
   simp[go_sem]
   refine(c154 x.author (by omega)).use ?_
   simp[go_sem]
   refine(I0 _ _).use ?_
   simp[go_sem]
   refine(Ja _ _ _).use ?_
   simp[go_sem]
   refine(I0 _ _).use ?_
   simp[go_sem]
   refine(c217 x.text (by omega)).use ?_
   simp[go_sem]
   generalize(if b=false then(8:Int)else 0)=e2
   generalize(if EE x.author=false then(39:Int)else 0)=e3
   generalize(if x.time<0\/1099511627776<x.time then(40:Int)else 0)=e4
   generalize No x.text=e5
   refine Xg (bs:=[.imm 1 ([e1,e2,e3,e4,e5].map AA) false]) (h2:=h) 1 (AK hHm AB) ⟨?_,trivial⟩ ?_
   . exact Dj (es:=[AA e1,AA e2,AA e3,AA e4,AA e5]) (Ac hHm (Y1 _)) (by simp) (by rw[AC];simp[SV.cells]) (by simp[SV.storable,SV.cells])
   refine(PF _ (by simp)).use ?_
   simp[go_sem]
   exact⟨by omega,_,Y0⟩
 . refine AI ?_
   simp[go_sem]
   exact GL ho AB (by simp[closed]) ⟨e,rfl⟩
section
variable {P : Program} {E : Br} {evs : Operand → SV} {o : Oper} {h : Hp} {n : Nat} {K : SV → Hp → Nat → Prop}
abbrev EC (b:UInt8):SV:=.int .u8 b.toNat
theorem Qt {src dst e:TypeId} {x:Operand} {s:ByteArray} (ho:o.op=.convert src dst x) (hs:Ey P src=true) (hd:A6 P dst=some e) (he:KU P e=some .u8) (hx:evs x=.str s)
 (hk:K (.imm 1 (s.data.toList.map EC) false) h n):EB E P evs o h n K:=by
 refine⟨by rw[ho];simp,λc ev _ _ R F hv=>?_⟩
 have hvx:=hv x
 rw[hx]at hvx
 have hvx:=KX hvx
 have hrun:=Lib.run_convert_string_bytes (P:=P) c.w src dst e s (Ez hs) (Ay hd) (GA he)
 have hsz:=Lib.bytesWorld_size c.w e s
 have X:DD c { c with w:=Lib.bytesWorld c.w e s }:=by
  refine⟨λ_ _ e=>e,by simp[hsz],λb hb hn=>⟨hn,Lib.bytesWorld_at_old c.w e s b hb⟩,λb=>?_,?_,?_⟩
  . unfold rm
    rcases YX b c.w.heap.size with hx|hx
    . simp only[Lib.bytesWorld_at_old c.w e s b hx];exact Y1 _
    . simp[Z2 hx]
  . simp only[Lib.bytesWorld,World.freeze];split<;>rfl
  . simp only[Lib.bytesWorld,World.freeze];split<;>rfl
 have hcap:s.size<=grownCap c.w s.size 0 e:=by unfold grownCap;exact Nat.le_add_right _ _
 have hlen:s.data.toList.length=s.size:=by rw[Zq];rfl
 refine⟨.slice (some ⟨c.w.heap.size,0,none⟩) s.size (grownCap c.w s.size 0 e),.imm 1 (s.data.toList.map EC) false,h,n,{ c with w:=Lib.bytesWorld c.w e s },by simp only[execOp,ho,hvx,Sem.run_bind,hrun,Result.andThen_ok,Sem.run_pure],?_,⟨λo x e=>(R.obj o x e).mono X λb hb=>?_,R.inj2,R.own2⟩,F,⟨X,Y1 _,λ_ _=>rfl⟩,hk⟩
 . rw[V]
   refine .inr ⟨⟨c.w.heap.size,0,none⟩,grownCap c.w s.size 0 e,s.data.toList.map (λb=>Value.int .u8 b.toNat),by simp[hlen],by simp[hlen];exact hcap,by simp,⟨λ_=>rfl,λ_ hb=>?_,λi x hi=>?_,λx hx=>?_⟩,?_⟩
   . obtain⟨o',x,e1,e2⟩:=(R.own2 _).1 hb
     exact Nat.lt_irrefl _ ((R.obj o' x e1).hold_lt e2)
   . rw[Yz,YI]at hi
     obtain⟨b,hb,rfl⟩:=hi
     have hil:=(Y9.1 hb).1
     have:=Lib.bytesWorld_cell c.w e s i (by omega)
     rw[List.getD_eq_getElem?_getD,hb]at this
     simpa using this
   . obtain⟨b,_,rfl⟩:=Yp.1 hx;rfl
   . rw[IU]
     refine⟨s.data.toList.map (λb=>Value.int .u8 b.toNat),AZ.map (R:=λa b=>a=b) (λa b e=>by subst e;simp[V]) ?_,?_,?_,?_⟩
     . have:∀l:List UInt8,AZ (λa b=>a=b) l l:=λl=>by induction l with|nil=>trivial|cons a l ih=>exact⟨rfl,ih⟩
       exact this _
     . intro u hu;obtain⟨b,_,rfl⟩:=Yp.1 hu;rfl
     . intro u hu;obtain⟨b,_,rfl⟩:=Yp.1 hu;rfl
     . have:∀l:List UInt8,l.map (λb=>Value.int .u8 b.toNat)=(l.map (λb=>Value.int .u8 b.toNat)).flatMap (·.cells.toList):=λl=>by induction l with|nil=>rfl|cons a l ih=>rw[Yf,YC,<-ih];rfl
       exact this _
 . exact Lib.bytesWorld_at_old c.w _ s b ((R.obj o x e).hold_lt hb)
theorem MA {x:Operand} {ts:Array TypeId} {j off z len:Nat} {full:Bool} (ho:o.op=.call { callee:=.builtin .unsafeSliceData,args:=#[x],argTypes:=ts }) (hx:evs x=.sl j off z len full) (hl:len≠0)
 (hk:K (.ptr j off) h n):EB E P evs o h n K:=by
 refine⟨by rw[ho];simp,λc ev _ _ R F hv=>?_⟩
 have hvx:=hv x
 rw[hx,V]at hvx
 obtain⟨b,st,cap,hρ,hu,hcap,_⟩:=hvx
 refine⟨.pointer (some ⟨b,st+off,none⟩),.ptr j off,h,n,c,?_,by rw[V];exact⟨b,st,hρ,rfl⟩,R,F,ZB n c,hk⟩
 refine Bc (P:=P) (ev:=ev) ho _ _ _ λcs=>?_
 have hr:=Lib.run_unsafeSliceData_row (P:=P) c.w ts o.type ⟨b,st+off,none⟩ len cap (by omega)
 simp only[BigFrame.builtin_unsafeSliceData,Sem.run_bind,Sem.run_pure]
 simp only[List.map_toArray,Yf,YF,hu]at hr ⊢
 rw[hr];rfl
theorem Jy {x y:Operand} {pt it e:TypeId} {j:Nat} {bs:List UInt8} (ho:o.op=.call { callee:=.builtin .unsafeString,args:=#[x,y],argTypes:=#[pt,it] }) (hpt:P.underlying pt=some (.pointer e)) (hc:P.cellsOf e=1)
 (hx:evs x=.ptr j 0) (hy:evs y=.int .i64 bs.length) (hj:h j=some (.cells (bs.map EC) (some e))) (hne:bs≠[]) (h63:bs.length<=9223372036854775807)
 (hk:K (.str ⟨bs.toArray⟩) (hset h j none) n):EB E P evs o h n K:=by
 refine⟨by rw[ho];simp,λc ev _ _ R F hv=>?_⟩
 have hvx:=hv x
 rw[hx,V]at hvx
 obtain⟨b,st,hρ,hu⟩:=hvx
 have hvy:=hv y
 rw[hy]at hvy
 have hvy:=DQ hvy
 obtain⟨b',st',arr,e',vs,g1,g2,g3,g4,g5,g6⟩:=R.obj _ _ hj
 rw[hρ]at g1;cases g1
 obtain⟨hst,rfl⟩:=g6 e rfl
 subst hst
 have hl:=g4.length
 rw[Y5]at hl
 have hblt:=(Yd.1 g2).1
 have hsz:bs.length<=arr.size:=by
  rcases Nat.eq_zero_or_pos bs.length with h0|h0
  . omega
  . have hlast:vs[bs.length-1]? = some vs[bs.length-1]:=Yr (by omega)
    have:=(Yd.1 (g3 _ _ hlast)).1
    omega
 have hcell:∀i x,bs[i]? = some x->c.w.cell? ((⟨b,0,none⟩:Addr).add i)=some (.int .u8 x.toNat):=λi x hi=>by
  have h1:(bs.map EC)[i]? = some (EC x):=by rw[Yz,hi];rfl
  obtain⟨v,hv1,hv2⟩:=g4.get h1
  have:=DQ hv2
  subst this
  have h3:=g3 i _ hv1
  rw[Cj rfl]
  simp only[World.cell?,g2]
  simpa using h3
 have hr:=Lib.run_unsafeString_row (P:=P) c.w pt it o.type e' hpt hc b arr.size (by simp[World.shape?,g2]) bs hne hsz h63 hcell
 have hfz:∀k,k≠b->(c.w.freeze ⟨b,0,none⟩ bs.length).heap[k]? = c.w.heap[k]?:=λk hk=>by
  unfold World.freeze;split
  . rfl
  . simp only[ZR];rw[if_neg (Ne.symm hk)]
 have hfs:(c.w.freeze ⟨b,0,none⟩ bs.length).heap.size=c.w.heap.size:=by unfold World.freeze;split<;>simp
 have hown:c.own b:=R.ownI ⟨j,_,0,hj,hρ⟩
 have Rk:=R.kill j hj
 have hrm:∀k,rm c.w k<=rm (c.w.freeze ⟨b,0,none⟩ bs.length) k:=λk=>by
  by_cases hk:k=b
  . subst hk
    have h0:¬bs.length=0:=by simpa using hne
    unfold rm World.freeze
    rw[if_neg h0]
    simp only[ZR,if_true,g2,YN]
    exact Y1 _
  . unfold rm;rw[hfz k hk];exact Y1 _
 have hko:∀k,¬c.own k->¬(c.kill j).own k:=λk hk h2=>by
  obtain⟨o',x',e1,e2⟩:=(Rk.own2 k).1 h2
  simp only[hset]at e1
  split at e1
  . cases e1
  . exact hk ((R.own2 k).2 ⟨o',x',e1,e2⟩)
 have X:DD c { (c.kill j)with w:=c.w.freeze ⟨b,0,none⟩ bs.length }:=
  ⟨λ_ _ e=>e,by simp[hfs],λk hk hn=>⟨hko k hn,hfz k (by rintro rfl;exact hn hown)⟩,hrm,by unfold World.freeze;split<;>rfl,by unfold World.freeze;split<;>rfl⟩
 refine⟨.string ⟨bs.toArray⟩,.str ⟨bs.toArray⟩,hset h j none,n,{ (c.kill j)with w:=c.w.freeze ⟨b,0,none⟩ bs.length },?_,by rw[V],⟨λo x e=>?_,Rk.inj2,Rk.own2⟩,F,⟨X,Y1 _,λ_ _=>rfl⟩,hk⟩
 . refine Bc (P:=P) (ev:=ev) ho _ _ _ λcs=>?_
   simp only[BigFrame.builtin_unsafeString,Sem.run_bind,Sem.run_pure]
   simp only[List.map_toArray,Yf,YF,hu,hvy,Zj]at hr ⊢
   rw[hr];rfl
 . simp only[hset]at e
   split at e
   . cases e
   . rename_i hoj
     refine(R.obj o x e).mono0 X.to0 λk hk=>hfz k ?_
     intro e0
     rw[e0]at hk
     exact hoj (R.inj2 o j x _ b e hj hk (.inl ⟨0,hρ⟩))
end
set_option maxRecDepth 100000 in
set_option maxHeartbeats 2000000 in
theorem TD (b:Nat) (w:World) (h0:w.cell? ⟨b,2,none⟩=some (.pointer (some ⟨b,2,none⟩))):
 Calls Tryz.prog 335 #[.pointer (some ⟨b,2,none⟩)] w λe w'=>e=.returned (.tuple #[])/\w'=w:=by
 obtain⟨j,hj,_⟩:=YI.1 (show(Tryz.prog.info? 386).map (·.size)=some 2 by kernel_rfl)
 go_enter Tryz.func335,Tryz.ntmps335
 go_wp2
 rw[Lib.run_neq_ptr_same w _ Tryz.underlying384 hj]
 go_wp2
 go_end0
 exact⟨rfl,rfl⟩
theorem liesB (m:Nat):liesAt Tryz.prog Tryz.prog.depth 388 (m+1) 2 386 1=true:=by kernel_rfl
theorem Rb:Tryz.prog.cellsOf 388=7:=by kernel_rfl
set_option maxRecDepth 100000 in
set_option maxHeartbeats 2000000 in
theorem Ra (b k:Nat) (w:World) (h0:w.cell? ⟨b,2,none⟩=some (.pointer none)) (hsh:w.shape? b=some (388,k)) (hk:7<=k) (hfz:w.frozen? ⟨b,2,none⟩=false):
 Calls Tryz.prog 335 #[.pointer (some ⟨b,2,none⟩)] w λe w'=>e=.returned (.tuple #[])/\w'=w.setCell ⟨b,2,none⟩ (.pointer (some ⟨b,2,none⟩)):=by
 obtain⟨j,hj,hjs⟩:=YI.1 (show(Tryz.prog.info? 386).map (·.size)=some 2 by kernel_rfl)
 obtain⟨m,hm⟩:∃m,k / Tryz.prog.cellsOf 388=m+1:=⟨k / 7-1,by rw[Rb];omega⟩
 have hlies:=liesB m
 rw[<-hm]at hlies
 go_enter Tryz.func335,Tryz.ntmps335
 go_wp2
 rw[Lib.run_to_unsafe w ⟨b,2,none⟩ Tryz.underlying384 Tryz.underlying403 hj (by rw[hjs];decide) hsh (by simp;omega)]
 simp only[Result.andThen]
 rw[Oper.upon_value]
 go_wp2
 rw[run_callFunc_extern Tryz.func341 (by kernel_rfl) (by kernel_rfl) (by kernel_rfl) (e:=Extern.AbiNoEscape.same) (by kernel_rfl)]
 rw[Lib.run_noEscape]
 simp only[Result.andThen]
 rw[Oper.upon_value]
 go_wp2
 rw[Lib.run_from_unsafe w ⟨b,2,none⟩ Tryz.underlying403 Tryz.underlying384 hj hsh hlies]
 simp only[Result.andThen]
 rw[Oper.upon_value]
 go_wp2
 go_end0
 exact⟨rfl,rfl⟩
theorem ok335:L6 Tryz.prog 335=true:=by unfold L6;rw[Tryz.func335];kernel_rfl
theorem d335 {H:Hp} {n q:Nat} {a b p buf:SV} {r:List SV} (hH:H q=some (.cells (a::b::p::buf::r) (some 388))) (hp:p=.nilp\/p=.ptr q 2) (hr:r.length=3):
 BM Tryz.prog 335 [.ptr q 2] H n (λv h' n'=>v=.tup []/\h'=hset H q (some (.cells (a::b::.ptr q 2::buf::r) (some 388)))/\n'=n):=by
 refine⟨ok335,λc vs _ R F A=>?_⟩
 obtain⟨u,rfl,hv⟩:=A.single
 rw[V]at hv
 obtain⟨b0,st,hρ,rfl⟩:=hv
 obtain⟨b',st',arr,e,us,g1,g2,g3,g4,g5,g6⟩:=R.obj q _ hH
 rw[hρ]at g1;cases g1
 obtain⟨hst,rfl⟩:=g6 388 rfl
 subst hst
 obtain⟨v2,hv2,hvp⟩:=g4.get (i:=2) (a:=p) rfl
 have h2:=g3 2 _ hv2
 have hcell:c.w.cell? ⟨b0,2,none⟩=some v2:=by simp only[World.cell?,g2];simpa using h2
 have hlen:=g4.length
 simp only[Yy,hr]at hlen
 have hsz:7<=arr.size:=by
  have hlast:us[6]? = some us[6]:=Yr (by omega)
  have:=(Yd.1 (g3 _ _ hlast)).1
  omega
 have hself:V c (.ptr q 2) (.pointer (some ⟨b0,2,none⟩)):=by rw[V];exact⟨b0,0,hρ,by simp⟩
 simp only[YW]
 rcases hp with rfl|rfl
 . rw[V]at hvp
   subst hvp
   obtain⟨w',hrun,R',X⟩:=II (P:=Tryz.prog) (off:=2) (xs:=[.ptr q 2]) (us:=[.pointer (some ⟨b0,2,none⟩)]) R hH hρ (by simp) (by simp) ⟨hself,trivial⟩ (by simp[Value.oneCell'])
   have hrun2:=run_storeCells_cells (P:=Tryz.prog) b0 2 [.pointer (some ⟨b0,2,none⟩)] 0 c.w (by intro j hj;simp at hj;subst hj;simp[hcell]) (by intro j hj;simp at hj;subst hj;simp[World.frozen?,g2]) (by simp[Value.oneCell'])
   simp only[YW,Zj]at hrun hrun2
   rw[hrun]at hrun2
   simp only[Result.ok.injEq,true_and]at hrun2
   refine(Ra b0 arr.size c.w hcell (by simp[World.shape?,g2]) hsz (by simp[World.frozen?,g2])).mono ?_
   rintro e w2 ⟨rfl,rfl⟩
   have hw:w'=c.w.setCell ⟨b0,2,none⟩ (.pointer (some ⟨b0,2,none⟩)):=by rw[hrun2];rfl
   subst hw
   exact⟨.tuple #[],.tup [],_,n,{ c with w:=c.w.setCell ⟨b0,2,none⟩ (.pointer (some ⟨b0,2,none⟩)) },rfl,⟨rfl,rfl,rfl⟩,rfl,by simp[V,VL],by simpa using R',F,⟨X,Y1 _,λ_ _=>rfl⟩⟩
 . rw[V]at hvp
   obtain⟨b1,st1,hρ1,rfl⟩:=hvp
   rw[hρ]at hρ1;cases hρ1
   have hself2:hset H q (some (.cells (a::b::.ptr q 2::buf::r) (some 388)))=H:=by
    funext k
    by_cases hk:k=q
    . subst hk;rw[OU,hH]
    . simp[hset,hk]
   refine(TD b0 c.w (by simpa using hcell)).mono ?_
   rintro e w2 ⟨rfl,rfl⟩
   exact⟨.tuple #[],.tup [],_,n,c,rfl,⟨rfl,hself2.symm,rfl⟩,rfl,by simp[V,VL],R,F,ZB n c⟩
def Eg (ob:Option Nat) (bs:List UInt8):SV:=AN 1 ob (bs.map EC)
theorem appB {H:Hp} {k p:Nat} {ob:Option Nat} {bs:List UInt8} {x:UInt8} (h0:ob=none->bs=[]) (h1:H k=some (.cells [EC x])) (h2:∀j,ob=some j->H j=some (.cells (bs.map EC) (some 5))) (hroom:bs.length+1<=1073741824):
 AS Tryz.prog H p .append [381,381] [Eg ob bs,.sl k 0 1 1 true]=some { val:=.sl p 0 1 (bs.length+1) false,upd:=ob.map λj=>(j,none),new:=some (.cells ((bs++[x]).map EC) (some 5)) }:=by
 have e1:A6 Tryz.prog 381=some 5:=by simp[go_sem]
 have e2:Bh Tryz.prog 5=1:=by simp[go_sem]
 have e3:(BH Tryz.prog 5).storable=true:=by simp[go_sem]
 have e4:(BH Tryz.prog 5).cells.length=1:=by simp[go_sem]
 have e5:Bg Tryz.prog 5<=65536:=by simp[go_sem]
 have e6:HM 5=some 5:=by rfl
 have hfl:flat H (.sl k 0 1 1 true)=some [EC x]:=by simp[flat,h1,Bk]
 have hr:DU (bs.length+1) (Bg Tryz.prog 5)=true:=by simp only[DU,Yb,decide_eq_true_eq];exact⟨by omega,e5⟩
 simp only[AS,e1,Zb,if_true,Cw,EF,hfl,e2,e3,e4]
 cases ob with
 | none=>
  have:=h0 rfl
  subst this
  simp[Eg,AN,Ha,e6]
  simpa using hr
 | some j=>
  have hj:=h2 j rfl
  have hf:flat H (.sl j 0 1 bs.length false)=some (bs.map EC):=by simp[flat,hj,Bk];exact Yl (by simp)
  have ht:G2 H 5 j 0=some 5:=by simp[G2,e6,VC,hj]
  simp[Eg,AN,Ha,hf,hr,ht]
theorem d329 {G:Hp} {n q:Nat} {a at_ p pr pl e:SV} {ob:Option Nat} {bs:List UInt8} {x:UInt8} (hG:G q=some (.cells [a,at_,p,Eg ob bs,pr,pl,e] (some 388))) (hp:p=.nilp\/p=.ptr q 2)
 (h0:ob=none->bs=[]) (h2:∀j,ob=some j->j≠q/\G j=some (.cells (bs.map EC) (some 5))) (hroom:bs.length+1<=1073741824):
 BM Tryz.prog 329 [.ptr q 2,EC x] G n (λ_ h' n'=>∃j,(∀o y,o≠q->ob≠some o->G o=some y->h' o=some y)/\h' q=some (.cells [a,at_,.ptr q 2,Eg (some j) (bs++[x]),pr,pl,e] (some 388))/\
  h' j=some (.cells ((bs++[x]).map EC) (some 5))/\n<=j/\j<n'):=by
 refine Dg Tryz.func329 rfl λho=>?_
 have hqn:q<n:=(ho q _ hG).1
 have hjn:∀j,ob=some j->j<n:=λj e=>(ho j _ (h2 j e).2).1
 refine By 0 [(0,.ptr q 2),(1,EC x)] G n ?_ (λm hm=>?_)
 . simp[go_sem,Y0]
 subst hm
 refine By 0 [(0,.ptr q 2),(1,EC x)] (hset G q (some (.cells [a,at_,.ptr q 2,Eg ob bs,pr,pl,e] (some 388)))) n ?_ (λm hm=>?_)
 . simp[go_sem]
   refine Ys (d335 hG hp rfl) ?_
   rintro v H' n' ⟨rfl,rfl,rfl⟩
   simp[go_sem,Y0]
 subst hm
 refine AI ?_
 have hne:q≠n:=by omega
 have hne1:q≠n+1:=by omega
 simp[go_sem,AC]
 have hap:∀p,AS Tryz.prog (hset (hset G q (some (.cells [a,at_,.ptr q 2,Eg ob bs,pr,pl,e] (some 388)))) n (some (.cells [EC x]))) p .append [381,381] [Eg ob bs,.sl n 0 1 1 true]=_:=λp=>
  appB h0 (AC _ _ _) (λj e=>by rw[AD _ _ (by have:=hjn j e;omega),AD _ _ (h2 j e).1];exact(h2 j e).2) hroom
 have hbv:Eg (some (n+1)) (bs++[x])=.sl (n+1) 0 1 (bs.length+1) false:=by simp[Eg,AN]
 cases ob with
 | none=>
  simp[go_sem,hap,AC,AD,hne,hne1]
  refine .inl ⟨λo y h1 h3=>?_,n+1,by rw[AC,hbv],by rw[AD _ _ (Ne.symm hne1),AC],by omega,by omega⟩
  have:=(ho o y h3).1
  rw[AD _ _ h1,AD _ _ (by omega),AD _ _ (by omega),AD _ _ h1];exact h3
 | some j=>
  have hjq:=(h2 j rfl).1
  have hjl:=hjn j rfl
  have hqj:q≠j:=Ne.symm hjq
  simp[go_sem,hap,AC,AD,hne,hne1,hqj]
  refine .inl ⟨λo y h1 h2 h3=>?_,n+1,by rw[AC,hbv],by rw[AD _ _ (Ne.symm hne1),AC],by omega,by omega⟩
  have:=(ho o y h3).1
  rw[AD _ _ h1,AD _ _ (by omega),AD _ _ (Ne.symm h2),AD _ _ (by omega),AD _ _ h1];exact h3
theorem UV:Tryz.prog.cellsOf 5=1:=by kernel_rfl
theorem d336 {G:Hp} {n q:Nat} {a at_ p pr pl e:SV} {ob:Option Nat} {bs:List UInt8} (hG:G q=some (.cells [a,at_,p,Eg ob bs,pr,pl,e] (some 388))) (h0:ob=none->bs=[]):
 BM Tryz.prog 336 [.ptr q 2] G n (λv h' n'=>v=AA bs.length/\h'=G/\n'=n):=by
 refine Dg Tryz.func336 rfl λho=>?_
 have hqn:q<n:=(ho q _ hG).1
 refine AI ?_
 cases ob with
 | none=>
  have:=h0 rfl
  subst this
  simp[go_sem,hG,Eg,AN]
  exact A3 ho rfl rfl
 | some j=>
  simp[go_sem,hG,Eg,AN]
  exact A3 ho rfl rfl
def trSt:Tr:=.pure 0 (.pure 1 (.pure 2 (.pure 5 (.pure 6 (.pure 7 (.two 3 8 (.two 4 8 (.one 8 (.one 9 (.one 10 (.one 11 .nil)))) (.two 4 9 (.one 9 (.one 10 (.one 11 .nil))) (.one 4 (.one 10 (.one 11 .nil))))) (.two 3 9 (.two 4 9 (.one 9 (.one 10 (.one 11 .nil))) (.one 4 (.one 10 (.one 11 .nil)))) (.one 3 (.one 4 (.one 10 (.one 11 .nil)))))))))))
theorem d337 {G:Hp} {n q j:Nat} {a at_ p pr pl e:SV} {bs:List UInt8} (hG:G q=some (.cells [a,at_,p,Eg (some j) bs,pr,pl,e] (some 388))) (hj:G j=some (.cells (bs.map EC) (some 5))) (_hjq:j≠q) (hne:bs≠[]) (hlen:bs.length<=1073741824):
 BM Tryz.prog 337 [.ptr q 2] G n (λv h' n'=>v=.str ⟨bs.toArray⟩/\h'=hset G j none/\n'=n):=by
 refine Dg Tryz.func337 rfl λho=>?_
 have hqn:q<n:=(ho q _ hG).1
 have hl0:bs.length≠0:=by simpa using hne
 refine By 0 [(0,.ptr q 2)] G n ?_ (λm hm=>?_)
 . simp[go_sem,Y0]
 subst hm
 refine AV 0 (α:=Unit) (λ_=>[(2,.str ⟨bs.toArray⟩)]) (λ_=>hset G j none) (λ_ m=>n=m) (B7 trSt rfl (by kernel_rfl) (by kernel_rfl) ?_) (λ_ m hm=>?_)
 . have hb:Eg (some j) bs=.sl j 0 1 bs.length false:=by simp[Eg,AN]
   rw[hb]at hG
   simp[go_sem,trSt,hG]
   have hA:∀{E:Br} {evs:Operand->SV} {o:Oper} {n:Nat} {K:SV->Hp->Nat->Prop} {x:Operand} {ts:Array TypeId},o.op=.call { callee:=.builtin .unsafeSliceData,args:=#[x],argTypes:=ts }->evs x=.sl j 0 1 bs.length false->K (.ptr j 0) G n->EB E Tryz.prog evs o G n K:=λe1 e2 k=>MA e1 e2 hl0 k
   have hB:∀{E:Br} {evs:Operand->SV} {o:Oper} {n:Nat} {K:SV->Hp->Nat->Prop} {x y:Operand} {it:TypeId},o.op=.call { callee:=.builtin .unsafeString,args:=#[x,y],argTypes:=#[405,it] }->evs x=.ptr j 0->evs y=AA bs.length->K (.str ⟨bs.toArray⟩) (hset G j none) n->EB E Tryz.prog evs o G n K:=λe1 e2 e3 k=>Jy e1 Tryz.underlying405 UV e2 e3 hj hne (by omega) k
   refine⟨⟨?_,?_,?_⟩,⟨?_,?_⟩,?_⟩
   all_goals
    refine hA rfl rfl ?_
    simp[go_sem,hG]
    refine hB rfl rfl rfl ?_
    simp[go_sem,Y0]
 subst hm
 refine AI ?_
 simp[go_sem]
 refine .inl ⟨rfl,rfl,rfl⟩
theorem d338 {G:Hp} {n q:Nat} {a at_ p b pr pl e:SV} (hG:G q=some (.cells [a,at_,p,b,pr,pl,e] (some 388))):
 BM Tryz.prog 338 [.ptr q 2] G n (λv h' n'=>v=.tup []/\h'=hset G q (some (.cells [a,at_,.nilp,.imm 0 [] true,pr,pl,e] (some 388)))/\n'=n):=by
 refine Dg Tryz.func338 rfl λho=>?_
 refine AI ?_
 simp[go_sem,hG,AC,AY]
 refine .inl ⟨rfl,rfl,rfl⟩
theorem NE {E:Br} {N:Nat} {a:Code} {Q:Cc} {sa:SA} {h:Hp} {n:Nat} (H:E4 h n->SP E N a Q sa h n):SP E N a Q sa h n:=
 λhd c act I R F A=>H (λo x e=>G9 F (R.obj o x e)) hd c act I R F A
structure Scd (G:Hp) (q B:Nat) (s:ByteArray) (at_:Int) (bs:List UInt8) (ps:List Bs) (pl e:Int) (p:SV) (ob op:Option Nat):Prop where
 le:B<=q
 cells:G q=some (.cells [.str s,AA at_,p,Eg ob bs,AN 3 op (ps.map Bs.enc),AA pl,AA e] (some 388))
 p:p=.nilp\/p=.ptr q 2
 b0:ob=none->bs=[]
 b1:∀j,ob=some j->B<=j/\j≠q/\bs≠[]/\G j=some (.cells (bs.map EC) (some 5))
 o0:op=none->ps=[]
 o1:∀j,op=some j->B<=j/\j≠q/\ob≠some j/\G j=some (.cells ((ps.map Bs.enc).flatMap SV.cells))
def RF (G:Hp) (q B:Nat) (s:ByteArray) (at_:Int) (bs:List UInt8) (ps:List Bs) (pl e:Int):Prop:=∃p ob op,Scd G q B s at_ bs ps pl e p ob op
def Ts (q B:Nat) (s:ByteArray) (G:Hp) (n:Nat) (R:Int->List UInt8->List Bs->Int->Int->Prop):SV->Hp->Nat->Prop:=λ_ h' n'=>
 ∃at_ bs ps pl e,R at_ bs ps pl e/\RF h' q B s at_ bs ps pl e/\(∀o y,o<B->G o=some y->h' o=some y)/\n<=n'
theorem Bs.len (p:Bs):p.enc.cells.length=3:=rfl
theorem Bs.size (ps:List Bs):∀e∈ps.map Bs.enc,e.storable=true/\e.cells.length=3:=λe he=>by obtain⟨x,_,rfl⟩:=Yp.1 he;exact⟨rfl,rfl⟩
theorem appP {X:Hp} {k p:Nat} {op:Option Nat} {ps:List Bs} {x:Bs} (h0:op=none->ps=[]) (h1:X k=some (.cells x.enc.cells)) (h2:∀j,op=some j->X j=some (.cells ((ps.map Bs.enc).flatMap SV.cells))) (hroom:ps.length+1<=1073741824):
 AS Tryz.prog X p .append [361,361] [AN 3 op (ps.map Bs.enc),.sl k 0 3 1 true]=some { val:=.sl p 0 3 (ps.length+1) false,upd:=op.map λj=>(j,none),new:=some (.cells ((ps.map Bs.enc).flatMap SV.cells++x.enc.cells)) }:=by
 have hA:A7 0 ((op.getD 0)+1) 3 op (ps.map Bs.enc):=⟨λe=>by rw[h0 e];rfl,λj e=>by rw[e];simp,Bs.size ps⟩
 have:=FU (P:=Tryz.prog) (H:=X) (t:=361) (t2:=361) (el:=366) (e:=x.enc) (by simp[go_sem]) (by simp[go_sem]) (by simp[go_sem]) (by simp) (by simp[go_sem]) (by simp[go_sem]) (by simp[go_sem]) (by simpa using hroom) hA (Bs.len x) h1 h2 p
 simpa using this
def FlP (G:Hp) (B q n:Nat) (C:Nat->List SV) (es:List SV) (z:Hp×Nat) (m:Nat):Prop:=
 n<=m/\z.1 q=some (.cells (C z.2) (some 388))/\z.1 z.2=some (.cells (es.flatMap SV.cells))/\n<=z.2/\z.2<m/\∀o y,o<B->G o=some y->z.1 o=some y
def VB:Tr:=.pure 0 (.pure 1 (.pure 2 (.pure 3 (.pure 5 (.pure 6 (.pure 7 (.two 4 8 (.one 8 (.one 9 (.one 10 (.one 11 (.one 12 (.one 13 (.one 14 .nil))))))) (.two 4 9 (.one 9 (.one 10 (.one 11 (.one 12 (.one 13 (.one 14 .nil)))))) (.two 4 10 (.one 10 (.one 11 (.one 12 (.one 13 (.one 14 .nil))))) (.one 4 (.one 11 (.one 12 (.one 13 (.one 14 .nil))))))))))))))
set_option maxHeartbeats 1000000 in
theorem d330 {G:Hp} {n q B:Nat} {s:ByteArray} {at_ pl e:Int} {bs:List UInt8} {ps:List Bs} (S:RF G q B s at_ bs ps pl e) (hb:bs.length<=1048576) (hps:ps.length<=1048576):
 BM Tryz.prog 330 [.ptr q 0] G n (Ts q B s G n λat' bs' ps' pl' e'=>at'=at_/\bs'=[]/\ps'.length<=ps.length+1/\pl'=pl/\e'=e):=by
 refine Dg Tryz.func330 rfl λho=>?_
 obtain⟨p,ob,op,S⟩:=S
 have hqn:q<n:=(ho q _ S.cells).1
 by_cases c:bs=[]
 . refine By 0 [(0,.ptr q 0),(6,.bool false)] G n ?_ (λm hm=>?_)
   . simp[go_sem]
     refine Ys (d336 S.cells S.b0) ?_
     rintro v H' n' ⟨rfl,rfl,rfl⟩
     simp[go_sem,Y0,c]
   subst hm
   refine AI ?_
   simp[go_sem]
   exact .inl ⟨at_,[],ps,pl,e,⟨rfl,rfl,by omega,rfl,rfl⟩,⟨p,ob,op,by rw[<-c];exact S⟩,λo y _ h=>h,Y1 _⟩
 . refine By 0 [(0,.ptr q 0),(6,.bool true)] G n ?_ (λm hm=>?_)
   . simp[go_sem]
     refine Ys (d336 S.cells S.b0) ?_
     rintro v H' n' ⟨rfl,rfl,rfl⟩
     have:0<bs.length:=by cases bs<;>simp at c ⊢
     simp[go_sem,Y0,this]
   subst hm
   refine Ag (b:=true) (by simp[go_sem]) ?_
   simp only[if_true]
   cases ob with
   | none=>exact absurd (S.b0 rfl) c
   | some j=>
   obtain⟨j1,j2,j3,j4⟩:=S.b1 j rfl
   have hjn:j<n:=(ho j _ j4).1
   have hcells:=S.cells
   have x1:q≠j:=Ne.symm j2
   have x2:q≠n:=by omega
   have x3:q≠n+1:=by omega
   obtain⟨x,hx⟩:∃x:Bs,x=⟨⟨bs.toArray⟩,0,false⟩:=⟨_,rfl⟩
   obtain⟨E,hE⟩:∃E,E=(ps++[x]).map Bs.enc:=⟨_,rfl⟩
   have hle:=S.le
   refine AV 0 (α:=Hp×Nat) (λ_=>[(0,.ptr q 0)]) (λz=>z.1) (FlP G B q n (λk=>[.str s,AA at_,p,Eg (some j) bs,AN 3 (some k) E,AA pl,AA e]) E)
    (B7 VB rfl (by kernel_rfl) (by kernel_rfl) ?_) (λz m hm=>?_)
   . have hap:∀(X:Hp) (k p:Nat),X k=some (.cells [.str ⟨bs.toArray⟩,AA 0,.bool false])->(∀j,op=some j->X j=some (.cells ((ps.map Bs.enc).flatMap SV.cells)))->_:=λX k p g1 g2=>appP (x:=x) (p:=p) S.o0 (by rw[hx];exact g1) g2 (by omega)
     have hfin:∀(X:Hp),X q=some (.cells [.str s,AA at_,p,Eg (some j) bs,.sl (n+1) 0 3 (ps.length+1) false,AA pl,AA e] (some 388))->X (n+1)=some (.cells ((ps.map Bs.enc).flatMap SV.cells++x.enc.cells))->(∀o y,o<B->G o=some y->X o=some y)->
      FlP G B q n (λk=>[.str s,AA at_,p,Eg (some j) bs,AN 3 (some k) E,AA pl,AA e]) E (X,n+1) (n+2):=λX g1 g2 g3=>⟨by omega,by show X q=_;rw[g1,hE];simp[AN],by show X (n+1)=_;rw[g2,hE];simp,by show n<=n+1;omega,by show n+1<n+2;omega,g3⟩
     have step:Ak (Br.plain.call false 0) Tryz.prog 337 [.ptr q 2] G n (λv h' n'=>v=.str ⟨bs.toArray⟩/\h'=hset G j none/\n=n'):=Ys (d337 hcells j4 j2 j3 (by omega)) λv h' n' ⟨a,b,c⟩=>⟨a,b,c.symm⟩
     cases op with
     | none =>
      have leaf:∃a,(∃x_1,FlP G B q n (λk=>[.str s,AA at_,p,Eg (some j) bs,AN 3 (some k) E,AA pl,AA e]) E (a,x_1) (n+1+1))/\∀(o:Nat) (y:BT),a o=some y->hset (hset (hset (hset G j none) n (some (BT.cells [.str ⟨bs.toArray⟩,AA 0,.bool false]))) (n+1) (some (.cells (List.flatMap SV.cells (List.map Bs.enc ps)++x.enc.cells)))) q (some (.cells [.str s,AA at_,p,Eg (some j) bs,.sl (n+1) 0 3 (ps.length+1) false,AA pl,AA e] (some 388))) o=some y:=
       ⟨_,⟨_,hfin _ (AC _ _ _) ((AD _ _ (Ne.symm x3)).trans (AC _ _ _)) λo y g1 g2=>by have:=(ho o y g2).1;rw[AD _ _ (by omega),AD _ _ (by omega),AD _ _ (by omega),AD _ _ (by omega)];exact g2⟩,AB⟩
      simp[go_sem,VB,hcells]
      refine⟨?_,?_⟩
      . refine Xc step ?_
        rintro v H' n' ⟨rfl,rfl,rfl⟩
        simp[go_sem,hap,AC,AD,hcells,x1,x2,x3]
        exact leaf
      . refine Xc step ?_
        rintro v H' n' ⟨rfl,rfl,rfl⟩
        simp[go_sem,hap,AC,AD,hcells,x1,x2,x3]
        exact leaf
     | some i =>
      obtain⟨i1,i2,i3,i4⟩:=S.o1 i rfl
      have hin:i<n:=(ho i _ i4).1
      have hij:i≠j:=by rintro rfl;exact i3 rfl
      have y1:i≠n:=by omega
      have y2:q≠i:=Ne.symm i2
      have leaf:∃a,(∃x_1,FlP G B q n (λk=>[.str s,AA at_,p,Eg (some j) bs,AN 3 (some k) E,AA pl,AA e]) E (a,x_1) (n+1+1))/\∀(o:Nat) (y:BT),a o=some y->hset (hset (hset (hset (hset G j none) n (some (BT.cells [.str ⟨bs.toArray⟩,AA 0,.bool false]))) i none) (n+1) (some (.cells (List.flatMap SV.cells (List.map Bs.enc ps)++x.enc.cells)))) q (some (.cells [.str s,AA at_,p,Eg (some j) bs,.sl (n+1) 0 3 (ps.length+1) false,AA pl,AA e] (some 388))) o=some y:=
       ⟨_,⟨_,hfin _ (AC _ _ _) ((AD _ _ (Ne.symm x3)).trans (AC _ _ _)) λo y g1 g2=>by have:=(ho o y g2).1;rw[AD _ _ (by omega),AD _ _ (by omega),AD _ _ (by omega),AD _ _ (by omega),AD _ _ (by omega)];exact g2⟩,AB⟩
      simp[go_sem,VB,hcells]
      refine⟨?_,?_⟩
      . refine Xc step ?_
        rintro v H' n' ⟨rfl,rfl,rfl⟩
        simp[go_sem,hap,AC,AD,hcells,x1,x2,x3,y1,y2,hij,i4]
        exact leaf
      . refine Xc step ?_
        rintro v H' n' ⟨rfl,rfl,rfl⟩
        simp[go_sem,hap,AC,AD,hcells,x1,x2,x3,y1,y2,hij,i4]
        exact leaf
   obtain⟨H,k⟩:=z
   obtain⟨m1,m2,m3,m4,m5,m6⟩:=hm
   dsimp only at m2 m3 m4 m6 ⊢
   rw[hE]at m2 m3
   refine AI ?_
   simp[go_sem]
   refine Ys (d338 m2) ?_
   rintro v H' n' ⟨rfl,rfl,rfl⟩
   simp[go_sem]
   have:=S.le
   refine .inl ⟨at_,[],ps++[x],pl,e,⟨rfl,rfl,?_,rfl,rfl⟩,⟨.nilp,none,some k,⟨S.le,by rw[AC];simp[Eg,AN],.inl rfl,λ_=>rfl,by simp,by simp,?_⟩⟩,λo y g1 g2=>?_,by omega⟩
   . simp
   . rintro i hi;cases hi
     exact⟨by omega,by omega,by simp,by rw[AD _ _ (by omega)];exact m3⟩
   . rw[AD _ _ (by omega)];exact m6 o y g1 g2
def DgQ (s:ByteArray) (k:Int) (G:Hp) (n:Nat):SV->Hp->Nat->Prop:=λv h' n'=>(∃b,v=.bool b/\(b=true->k<s.size))/\h'=G/\n'=n
theorem d333 {G:Hp} {n q B:Nat} {s:ByteArray} {at_ pl e:Int} {bs:List UInt8} {ps:List Bs} (S:RF G q B s at_ bs ps pl e) (k:Int) (hk:0<=k):
 BM Tryz.prog 333 [.ptr q 0,AA k] G n (DgQ s k G n):=by
 refine Dg Tryz.func333 rfl λho=>?_
 obtain⟨p,ob,op,S⟩:=S
 have hc:=S.cells
 refine AI ?_
 by_cases c:k<s.size
 . have hkl:k.toNat<s.size:=by omega
   obtain⟨x,hx⟩:∃x,s[k.toNat]'hkl=x:=⟨_,rfl⟩
   have hb:s[k.toNat]? = some x:=by rw[RX hkl,hx]
   by_cases c1:(49:Int)<=x.toNat
   . simp[go_sem,hc,c,hk,hx,c1]
     exact .inl ⟨⟨_,rfl,λ_=>c⟩,rfl,rfl⟩
   . simp[go_sem,hc,c,hk,hx,c1]
     exact .inl ⟨⟨_,rfl,λ_=>c⟩,rfl,rfl⟩
 . simp[go_sem,hc,c]
   exact .inl ⟨⟨false,rfl,by simp⟩,rfl,rfl⟩
def PlP (G:Hp) (B q n:Nat) (s:ByteArray) (at_ pl e:Int) (N:Nat) (z:Hp×List Bs) (m:Nat):Prop:=n<=m/\RF z.1 q B s at_ [] z.2 pl e/\z.2.length<=N/\∀o y,o<B->G o=some y->z.1 o=some y
set_option maxHeartbeats 1000000 in
theorem d334 {G:Hp} {n q B:Nat} {s:ByteArray} {at_ pl e d:Int} {b:Bool} {bs:List UInt8} {ps:List Bs} (S:RF G q B s at_ bs ps pl e) (hb:bs.length<=1048576) (hps:ps.length<=1048576):
 BM Tryz.prog 334 [.ptr q 0,.int .u8 d,.bool b] G n (Ts q B s G n λat' bs' ps' _ e'=>at'=at_/\bs'=[]/\ps'.length<=ps.length+2/\e'=e):=by
 refine Dg Tryz.func334 rfl λho=>?_
 refine BG 0 (α:=Hp×List Bs) (λ_=>[(0,.ptr q 0),(1,.int .u8 d),(2,.bool b)]) (λz=>z.1) (PlP G B q n s at_ pl e (ps.length+1)) ?_ (λz m hm=>?_)
 . simp[go_sem]
   refine Ys (d330 S hb hps) ?_
   rintro v H' n' ⟨a1,a2,a3,a4,a5,⟨rfl,rfl,r3,rfl,rfl⟩,r6,r7,r8⟩
   simp[go_sem,Y0]
   exact⟨H',⟨a3,r8,r6,r3,r7⟩,AB⟩
 obtain⟨X,ps1⟩:=z
 obtain⟨hm,S1,hl1,hk1⟩:=hm
 dsimp only at S1 hl1 hk1 ⊢
 refine NE λhX=>?_
 have hlt:∀o y,X o=some y->o<m:=λo y e=>(hX o y e).1
 refine BG 0 (α:=Hp×List Bs) (λ_=>[(0,.ptr q 0)]) (λz=>z.1) (PlP G B q n s at_ pl e (ps.length+2)) ?_ (λz m hm=>?_)
 . have hle0:=S1.choose_spec.choose_spec.choose_spec.le
   obtain⟨p,ob,op,S1⟩:=S1
   cases ob with
   | some j=>exact absurd rfl (S1.b1 j rfl).2.2.1
   | none=>
   have hcells:=S1.cells
   obtain⟨x,hx⟩:∃x:Bs,x=⟨.empty,IntKind.i64.wrap (IntKind.u8.wrap (d-48)),b⟩:=⟨_,rfl⟩
   have hap:∀(X:Hp) (k p:Nat),X k=some (.cells [.str .empty,AA (IntKind.i64.wrap (IntKind.u8.wrap (d-48))),.bool b])->(∀j,op=some j->X j=some (.cells ((ps1.map Bs.enc).flatMap SV.cells)))->_:=λX k p g1 g2=>appP (x:=x) (p:=p) S1.o0 (by rw[hx];exact g1) g2 (by omega)
   have hqm:q<m:=hlt q _ hcells
   have x2:q≠m:=by omega
   have x3:q≠m+1:=by omega
   have hsc:∀(Y:Hp),Y q=some (.cells [.str s,AA at_,p,Eg none [],.sl (m+1) 0 3 (ps1.length+1) false,AA pl,AA e] (some 388))->Y (m+1)=some (.cells ((ps1.map Bs.enc).flatMap SV.cells++x.enc.cells))->RF Y q B s at_ [] (ps1++[x]) pl e:=λY g1 g2=>
    ⟨p,none,some (m+1),S1.le,by rw[g1];simp[AN],S1.p,λ_=>rfl,by simp,by simp,by rintro i hi;cases hi;exact⟨by omega,by omega,by simp,by rw[g2];simp⟩⟩
   cases op with
   | none =>
    have leaf:∃a,(∃x_1,PlP G B q n s at_ pl e (ps.length+2) (a,x_1) (m+1+1))/\∀(o:Nat) (y:BT),a o=some y->hset (hset (hset X m (some (BT.cells [.str .empty,AA (IntKind.i64.wrap (IntKind.u8.wrap (d-48))),.bool b]))) (m+1) (some (.cells (List.flatMap SV.cells (List.map Bs.enc ps1)++x.enc.cells)))) q (some (.cells [.str s,AA at_,p,Eg none [],.sl (m+1) 0 3 (ps1.length+1) false,AA pl,AA e] (some 388))) o=some y:=
     ⟨_,⟨ps1++[x],by omega,hsc _ (AC _ _ _) ((AD _ _ (Ne.symm x3)).trans (AC _ _ _)),by simp;omega,λo y g1 g2=>by have:=(ho o y g2).1;dsimp only;rw[AD _ _ (by omega),AD _ _ (by omega),AD _ _ (by omega)];exact hk1 o y g1 g2⟩,AB⟩
    simp[go_sem,hcells,AC,AD,x2,x3,hap]
    exact leaf
   | some i =>
    obtain⟨i1,i2,i3,i4⟩:=S1.o1 i rfl
    have hin:i<m:=hlt i _ i4
    have y1:i≠m:=by omega
    have y2:q≠i:=Ne.symm i2
    have leaf:∃a,(∃x_1,PlP G B q n s at_ pl e (ps.length+2) (a,x_1) (m+1+1))/\∀(o:Nat) (y:BT),a o=some y->hset (hset (hset (hset X m (some (BT.cells [.str .empty,AA (IntKind.i64.wrap (IntKind.u8.wrap (d-48))),.bool b]))) i none) (m+1) (some (.cells (List.flatMap SV.cells (List.map Bs.enc ps1)++x.enc.cells)))) q (some (.cells [.str s,AA at_,p,Eg none [],.sl (m+1) 0 3 (ps1.length+1) false,AA pl,AA e] (some 388))) o=some y:=
     ⟨_,⟨ps1++[x],by omega,hsc _ (AC _ _ _) ((AD _ _ (Ne.symm x3)).trans (AC _ _ _)),by simp;omega,λo y g1 g2=>by have:=(ho o y g2).1;dsimp only;rw[AD _ _ (by omega),AD _ _ (by omega),AD _ _ (by omega),AD _ _ (by omega)];exact hk1 o y g1 g2⟩,AB⟩
    simp[go_sem,hcells,AC,AD,x2,x3,hap,y1,y2,i4]
    exact leaf
 obtain⟨X2,ps2⟩:=z
 obtain⟨hm2,S2,hl2,hk2⟩:=hm
 dsimp only at S2 hl2 hk2 ⊢
 refine AI ?_
 obtain⟨p,ob,op,S2⟩:=S2
 have hc2:=S2.cells
 simp[go_sem,hc2]
 have hle:=S2.le
 refine .inl ⟨at_,[],ps2,IntKind.i64.wrap (pl+1),e,⟨rfl,rfl,hl2,rfl⟩,⟨p,ob,op,S2.le,AC _ _ _,S2.p,S2.b0,λj g=>absurd rfl (S2.b1 j g).2.2.1,S2.o0,λj g=>?_⟩,λo y g1 g2=>?_,hm2⟩
 . obtain⟨i1,i2,i3,i4⟩:=S2.o1 j g
   exact⟨i1,i2,i3,by rw[AD _ _ i2];exact i4⟩
 . rw[AD _ _ (by omega)];exact hk2 o y g1 g2
def PreT (a b:ByteArray) (v:SV):Prop:=∃x,v=.bool x/\(x=true->b.size<=a.size)
theorem t340 (a b:ByteArray):TC 340 [.str a,.str b] (PreT a b):=by
 intro h n
 refine Dg Tryz.func340 rfl λho=>?_
 refine AI ?_
 by_cases c:(b.size:Int)<=a.size
 . simp[go_sem,c]
   exact GL ho AB (by simp[closed]) ⟨_,rfl,λ_=>by omega⟩
 . simp[go_sem,c]
   exact GL ho AB (by simp[closed]) ⟨_,rfl,by simp⟩
theorem t332 (a b:ByteArray):TC 332 [.str a,.str b] (PreT a b):=by
 intro h n
 refine Dg Tryz.func332 rfl λho=>?_
 refine AI ?_
 simp[go_sem]
 refine Xi (t340 a b) ?_
 rintro v ⟨x,rfl,hx⟩
 simp[go_sem]
 exact GL ho AB (by simp[closed]) ⟨x,rfl,hx⟩
theorem Scd.upd {G:Hp} {q B:Nat} {s:ByteArray} {at_ pl e:Int} {bs:List UInt8} {ps:List Bs} {p:SV} {ob op:Option Nat} (S:Scd G q B s at_ bs ps pl e p ob op) (at' pl' e':Int):
 RF (hset G q (some (.cells [.str s,AA at',p,Eg ob bs,AN 3 op (ps.map Bs.enc),AA pl',AA e'] (some 388)))) q B s at' bs ps pl' e':=
 ⟨p,ob,op,S.le,AC _ _ _,S.p,S.b0,λj g=>by obtain⟨a,b,c,d⟩:=S.b1 j g;exact⟨a,b,c,by rw[AD _ _ b];exact d⟩,S.o0,λj g=>by obtain⟨a,b,c,d⟩:=S.o1 j g;exact⟨a,b,c,by rw[AD _ _ b];exact d⟩⟩
theorem T3 {G:Hp} {n q B:Nat} {s:ByteArray} {at_ pl e:Int} {bs:List UInt8} {ps:List Bs} (S:RF G q B s at_ bs ps pl e) (ho:E4 G n) (hb:bs.length<=1048576) (x:UInt8):
 BM Tryz.prog 329 [.ptr q 2,EC x] G n (Ts q B s G n λat' bs' ps' pl' e'=>at'=at_/\bs'=bs++[x]/\ps'=ps/\pl'=pl/\e'=e):=by
 obtain⟨p,ob,op,S⟩:=S
 have hqn:=(ho q _ S.cells).1
 have hle:=S.le
 refine(d329 (x:=x) S.cells S.p S.b0 (λj g=>⟨(S.b1 j g).2.1,(S.b1 j g).2.2.2⟩) (by omega)).mono ?_
 rintro v h' n' ⟨j,g1,g2,g3,g4,g5⟩
 refine⟨at_,bs++[x],ps,pl,e,⟨rfl,rfl,rfl,rfl,rfl⟩,⟨.ptr q 2,some j,op,S.le,g2,.inr rfl,by simp,λi hi=>?_,S.o0,λi hi=>?_⟩,λo y h1 h2=>g1 o y (by omega) (λg=>?_) h2,by omega⟩
 . cases hi;exact⟨by omega,by omega,by simp,g3⟩
 . obtain⟨i1,i2,i3,i4⟩:=S.o1 i hi
   have:=(ho i _ i4).1
   exact⟨i1,i2,λg=>by cases g;omega,g1 i _ i2 i3 i4⟩
 . have:=(S.b1 o g).1;omega
def trPa:Tr:=.pure 0 (.pure 1 (.pure 2 (.pure 4 (.pure 5 (.pure 6 (.two 3 7 (.one 7 (.one 8 (.one 9 (.pure 10 .nil)))) (.one 3 (.one 8 (.one 9 (.pure 10 .nil))))))))))
def Tk:Tr:=.pure 0 (.pure 1 (.pure 2 (.pure 3 (.pure 5 (.pure 6 (.pure 7 (.two 4 8 (.one 8 (.pure 9 (.one 10 (.one 11 .nil)))) (.pure 9 (.one 4 (.one 10 (.one 11 .nil)))))))))))
def trPc:Tr:=.pure 0 (.pure 1 (.pure 2 (.pure 4 (.pure 5 (.pure 6 (.two 3 7 (.one 7 (.one 8 (.one 9 (.pure 10 (.pure 11 (.pure 12 (.pure 13 (.pure 14 (.one 15 (.pure 16 (.one 17 (.pure 18 (.pure 19 .nil))))))))))))) (.one 3 (.one 8 (.one 9 (.pure 10 (.pure 11 (.pure 12 (.pure 13 (.pure 14 (.one 15 (.pure 16 (.one 17 (.pure 18 (.pure 19 .nil)))))))))))))))))))
def BkP (n:Nat) (P:Prop) (b:Bx) (m:Nat):Prop:=n<=m/\(b.b=true->P)
def Sy (G:Hp) (q B n:Nat) (s:ByteArray) (R:Int->List UInt8->List Bs->Int->Int->Prop) (z:Hp) (m:Nat):Prop:=n<=m/\∃at_ bs ps pl e,R at_ bs ps pl e/\RF z q B s at_ bs ps pl e/\∀o y,o<B->G o=some y->z o=some y
theorem Ts.st {q B:Nat} {s:ByteArray} {G:Hp} {n0 n:Nat} {R:Int->List UInt8->List Bs->Int->Int->Prop} {v:SV} {h':Hp} {n':Nat} (H:Ts q B s G n R v h' n') (hn:n0<=n):Sy G q B n0 s R h' n':=by
 obtain⟨a1,a2,a3,a4,a5,h1,h2,h3,h4⟩:=H
 exact⟨by omega,a1,a2,a3,a4,a5,h1,h2,h3⟩
def PcR (s:ByteArray) (at_ e:Int) (bs:List UInt8) (ps:List Bs):Int->List UInt8->List Bs->Int->Int->Prop:=λat' bs' ps' _ e'=>
 ((at_<at'/\at'<=s.size/\e'=e)\/(at'=at_/\e'=14))/\bs'.length<=bs.length+1/\ps'.length<=ps.length+2
set_option maxHeartbeats 2000000 in
theorem d328 {G:Hp} {n q B:Nat} {s:ByteArray} {at_ pl e:Int} {bs:List UInt8} {ps:List Bs} (S:RF G q B s at_ bs ps pl e) (h0:0<=at_) (h1:at_<s.size) (hs:s.size<=1048576) (hb:bs.length<=1048576) (hps:ps.length<=1048576):
 BM Tryz.prog 328 [.ptr q 0] G n (Ts q B s G n (PcR s at_ e bs ps)):=by
 refine Dg Tryz.func328 rfl λho=>?_
 obtain⟨p0,ob0,op0,S0⟩:=id S
 have hc:=S0.cells
 have w1:IntKind.i64.wrap (at_+1)=at_+1:=by rw[DR]<;>omega
 have w2:IntKind.i64.wrap (at_+2)=at_+2:=by rw[DR]<;>omega
 have w3:IntKind.i64.wrap (at_+3)=at_+3:=by rw[DR]<;>omega
 have fin:∀(z:Hp) (m:Nat) (a1 e1 at' pl1 pl' e':Int) (bs':List UInt8) (ps':List Bs) (p:SV) (ob op:Option Nat),Scd z q B s a1 bs' ps' pl1 e1 p ob op->(∀o y,o<B->G o=some y->z o=some y)->n<=m->PcR s at_ e bs ps at' bs' ps' pl' e'->
  Bz n (hset z q (some (.cells [.str s,AA at',p,Eg ob bs',AN 3 op (ps'.map Bs.enc),AA pl',AA e'] (some 388)))) m (.tup []) (Ts q B s G n (PcR s at_ e bs ps)):=λz m a1 e1 at' pl1 pl' e' bs' ps' p ob op T hk hm hR=>
  .inl ⟨at',bs',ps',pl',e',hR,T.upd at' pl' e',λo y g1 g2=>by have:=T.le;rw[AD _ _ (by omega)];exact hk o y g1 g2,hm⟩
 refine AR ?_
 refine AV 0 (α:=Bx) (λb=>[(0,.ptr q 0),(5,.bool b.b)]) (λ_=>G) (BkP n (at_+2<=s.size)) (B7 trPa rfl (by kernel_rfl) (by kernel_rfl) ?_) (λb m hm=>?_)
 . have hpre:∀{K:SV->Hp->Nat->Prop},(∀b:Bx,BkP n (at_+2<=s.size) b n->K (.bool b.b) G n)->Ak (Br.plain.call false 0) Tryz.prog 332 [.str (s.extract at_.toNat s.size),.str ⟨#[37,37]⟩] G n K:=λhK=>
    Xi (t332 _ _) λv ⟨x,e1,e2⟩=>by
     rw[e1]
     refine hK ⟨x⟩ ⟨Y1 _,λg=>?_⟩
     have:=e2 g
     simp at this
     have h9:(⟨#[37,37]⟩:ByteArray).size=2:=rfl
     omega
   simp[go_sem,trPa,hc,h0]
   have:=Int.le_of_lt h1
   simp[this]
   refine⟨?_,?_⟩ <;>
   . refine hpre λb hb=>?_
     simp[go_sem,Y0]
     exact⟨b,hb,rfl⟩
 obtain⟨b⟩:=b
 obtain⟨hm,hbb⟩:=hm
 dsimp only at hbb ⊢
 cases b with
 | true=>
  have hbb:=hbb rfl
  refine Ag (b:=true) (by simp[go_sem]) ?_
  simp only[if_true]
  refine NE λhom=>?_
  refine BG 0 (α:=Hp) (λ_=>[(0,.ptr q 0)]) (λz=>z) (Sy G q B n s λat' bs' ps' pl' e'=>at'=at_/\bs'=bs++[37]/\ps'=ps/\pl'=pl/\e'=e) ?_ (λz m hm=>?_)
  . simp[go_sem]
    refine Ys (show BM Tryz.prog 329 [.ptr q 2,.int .u8 37] G _ _ from T3 S hom hb 37) ?_
    rintro v H' n' hq
    simp[go_sem,Y0]
    exact⟨H',hq.st hm,AB⟩
  obtain⟨hm,a1,a2,a3,a4,a5,⟨rfl,rfl,rfl,rfl,rfl⟩,⟨p,ob,op,T⟩,hk⟩:=hm
  refine AI ?_
  have hT:=T.cells
  simp[go_sem,hT,w2]
  exact fin _ _ _ _ _ _ _ _ _ _ _ _ _ T hk hm ⟨.inl ⟨by omega,hbb,rfl⟩,by simp,by omega⟩
 | false =>
  refine Ag (b:=false) (by simp[go_sem]) ?_
  simp only[Y7,if_false]
  refine BG 0 (α:=Bx) (λb=>[(0,.ptr q 0),(27,.bool b.b)]) (λ_=>G) (BkP n (at_+1<s.size)) ?_ (λb m hm=>?_)
  . simp[go_sem,hc,w1]
    refine Ys (d333 S (at_+1) (by omega)) ?_
    rintro v H' n' ⟨⟨b,rfl,HZ⟩,rfl,rfl⟩
    simp[go_sem,Y0]
    exact⟨⟨b⟩,⟨hm,HZ⟩,rfl⟩
  obtain⟨b⟩:=b
  obtain⟨hm,hbb⟩:=hm
  dsimp only at hbb ⊢
  cases b with
  | true=>
   have hbb:=hbb rfl
   refine Ag (b:=true) (by simp[go_sem]) ?_
   simp only[if_true]
   refine AV 0 (α:=Hp) (λ_=>[(0,.ptr q 0)]) (λz=>z) (Sy G q B n s λat' bs' ps' _ e'=>at'=at_/\bs'=[]/\ps'.length<=ps.length+2/\e'=e) (B7 Tk rfl (by kernel_rfl) (by kernel_rfl) ?_) (λz m hm=>?_)
   . have hkl:(at_+1).toNat<s.size:=by omega
     obtain⟨x,hx⟩:∃x,s[(at_+1).toNat]'hkl=x:=⟨_,rfl⟩
     have hgx:s[(at_+1).toNat]? = some x:=by rw[RX hkl,hx]
     have h01:0<=at_+1:=by omega
     simp[go_sem,Tk,hc,w1,h01,hgx]
     refine⟨?_,?_⟩ <;>
     . refine Ys (d334 S hb hps) ?_
       rintro v H' n' hq
       simp[go_sem,Y0]
       exact⟨H',hq.st hm,AB⟩
   obtain⟨hm,a1,a2,a3,a4,a5,⟨rfl,rfl,hl,rfl⟩,⟨p,ob,op,T⟩,hk⟩:=hm
   refine AI ?_
   have hT:=T.cells
   simp[go_sem,hT,w2]
   exact fin _ _ _ _ _ _ _ _ _ _ _ _ _ T hk hm ⟨.inl ⟨by omega,by omega,rfl⟩,by simp,hl⟩
  | false =>
   refine Ag (b:=false) (by simp[go_sem]) ?_
   simp only[Y7,if_false]
   refine AV 0 (α:=Bx) (λb=>[(0,.ptr q 0),(54,.bool b.b)]) (λ_=>G) (BkP n (at_+2<s.size)) (B7 trPc rfl (by kernel_rfl) (by kernel_rfl) ?_) (λb m hm=>?_)
   . have h1':=Int.le_of_lt h1
     simp[go_sem,trPc,hc,h0,h1']
     refine⟨?_,?_⟩ <;>
     . refine Xi (t332 _ _) ?_
       rintro v ⟨b,rfl,_⟩
       cases b with
       | false=>
        simp[go_sem,Y0]
        exact⟨⟨false⟩,⟨hm,by simp⟩,rfl⟩
       | true=>
        simp[go_sem,hc,w2]
        refine Ys (d333 S (at_+2) (by omega)) ?_
        rintro v H' n' ⟨⟨b,rfl,HZ⟩,rfl,rfl⟩
        simp[go_sem,Y0]
        exact⟨⟨b⟩,⟨hm,HZ⟩,rfl⟩
   obtain⟨b⟩:=b
   obtain⟨hm,hbb⟩:=hm
   dsimp only at hbb ⊢
   cases b with
   | true=>
    have hbb:=hbb rfl
    refine Ag (b:=true) (by simp[go_sem]) ?_
    simp only[if_true]
    refine AV 0 (α:=Hp) (λ_=>[(0,.ptr q 0)]) (λz=>z) (Sy G q B n s λat' bs' ps' _ e'=>at'=at_/\bs'=[]/\ps'.length<=ps.length+2/\e'=e) (B7 Tk rfl (by kernel_rfl) (by kernel_rfl) ?_) (λz m hm=>?_)
    . have hkl:(at_+2).toNat<s.size:=by omega
      obtain⟨x,hx⟩:∃x,s[(at_+2).toNat]'hkl=x:=⟨_,rfl⟩
      have hgx:s[(at_+2).toNat]? = some x:=by rw[RX hkl,hx]
      have h01:0<=at_+2:=by omega
      simp[go_sem,Tk,hc,w2,h01,hgx]
      refine⟨?_,?_⟩ <;>
      . refine Ys (d334 S hb hps) ?_
        rintro v H' n' hq
        simp[go_sem,Y0]
        exact⟨H',hq.st hm,AB⟩
    obtain⟨hm,a1,a2,a3,a4,a5,⟨rfl,rfl,hl,rfl⟩,⟨p,ob,op,T⟩,hk⟩:=hm
    refine AI ?_
    have hT:=T.cells
    simp[go_sem,hT,w3]
    exact fin _ _ _ _ _ _ _ _ _ _ _ _ _ T hk hm ⟨.inl ⟨by omega,by omega,rfl⟩,by simp,hl⟩
   | false=>
    refine Ag (b:=false) (by simp[go_sem]) ?_
    simp only[Y7,if_false]
    refine AI ?_
    simp[go_sem,hc]
    exact fin _ _ _ _ _ _ _ _ _ _ _ _ _ S0 (λ_ _ _ h=>h) hm ⟨.inr ⟨rfl,rfl⟩,by omega,by omega⟩
end Go.Proofs.YtgakninlhfkkmaaGreat.Sh
