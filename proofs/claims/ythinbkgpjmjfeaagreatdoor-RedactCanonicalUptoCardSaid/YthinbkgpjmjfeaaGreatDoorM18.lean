/- A part of the proof (part 18 of 18). -/
import Derived.Test.YthinbkgpjmjfeaaGreatDoorM17
import Derived.Test.YthinbkgpjmjfeaaGreatDoorTie
import Derived.Test.YthinbkgpjmjfeaaGreatDoorCards
import Derived.Deep.DeepHandedRow
import Derived.Deep.DeepWitnessRowRef
import Derived.Lib.LaidIn
import Derived.SevenTiedAt
import Derived.Test.YthinbkgpjmjfeaaGreatDoorMF
namespace Go.Proofs.YthinbkgpjmjfeaaGreatDoor.Sh
open Go.Proofs.Tryz
open Proofs
set_option maxRecDepth 10000
set_option maxHeartbeats 4000000
theorem lr:(BY prog 68).map (λf=>(f.name == "_",f.type,f.offset))=[(false,3,0),(false,9,1),(false,3,2)]:=by kernel_rfl
theorem gn(x:CI):CM prog [AA x.id,.str x.O,AA x.time] [AA x.id,.str x.O,AA x.time] (BY prog 68)=some true:=by
 rw[Cy,lr];cases x;simp[DH,DW,go_sem]
theorem gr:(BY prog 71).map (λf=>(f.name == "_",f.type,f.offset))=[(false,3,0),(false,3,1),(false,9,2),(false,3,3),(false,9,4),(false,4,5)]:=by kernel_rfl
theorem dH(x:AX):CM prog [AA x.id,AA x.parent,.str x.O,AA x.time,.str x.J,.bool x.done] [AA x.id,AA x.parent,.str x.O,AA x.time,.str x.J,.bool x.done] (BY prog 71)=some true:=by
 rw[Cy,gr];cases x;simp[DH,DW,go_sem]
theorem gt:(BY prog 88).map (λf=>(f.name == "_",f.type,f.offset))=[(false,9,0),(false,9,1)]:=by kernel_rfl
theorem dI(x:Gq):CM prog [.str x.name,.str x.value] [.str x.name,.str x.value] (BY prog 88)=some true:=by
 rw[Cy,gt];cases x;simp[DH,DW,go_sem]
theorem gp:(BY prog 115).map (λf=>(f.name == "_",f.type,f.offset))=[(false,3,0),(false,3,1),(false,9,2),(false,3,3)]:=by kernel_rfl
theorem dG(x:Cv):CM prog [AA x.format,AA x.start,.str x.template,AA x.restart] [AA x.format,AA x.start,.str x.template,AA x.restart] (BY prog 115)=some true:=by
 rw[Cy,gp];cases x;simp[DH,DW,go_sem]
theorem q59(l:List CI)(hl:l.length<=1048576):PC 69 [.x 3 (l.map CI.h) false,.x 3 (l.map CI.h) false] (.bool true):=by
 intro h n;refine gq func69 rfl λc=>?_;simp[go_sem];refine A9 1 (α:=Nat) (λk=>[(0,.x 3 (l.map CI.h) false),(1,.x 3 (l.map CI.h) false),(12,AA l.length),(13,AA k)]) (λ_=>h) (λk m=>k<=l.length/\n<=m) (λk=>l.length-k) 0 ?_ ?_ AE ?_;simp;simp[look];rintro k m ⟨hk,b⟩;by_cases a:k<l.length
 . have e:=wS k nN;obtain⟨x,d⟩:∃x,l[k]=x:=⟨_,rfl⟩
   simp[go_sem,a,d,CI.h]
   repeat first|refine nq ?_|refine sq ?_|refine aq ?_
   refine⟨_,C7 rfl (.inr rfl) nQ nQ nQ rfl rfl (gn x),?_⟩;simp[go_sem]
   repeat first|refine nq ?_|refine sq ?_|refine aq ?_
   simp[go_sem,e,-Int.natCast_add];exact⟨k+1,by omega,⟨by omega,b⟩,Or⟩
 simp[go_sem,a];exact An c rfl rfl
theorem q62(l:List AX)(hl:l.length<=1048576):PC 72 [.x 6 (l.map AX.h) false,.x 6 (l.map AX.h) false] (.bool true):=by
 intro h n;refine gq func72 rfl λc=>?_;simp[go_sem];refine A9 1 (α:=Nat) (λk=>[(0,.x 6 (l.map AX.h) false),(1,.x 6 (l.map AX.h) false),(12,AA l.length),(13,AA k)]) (λ_=>h) (λk m=>k<=l.length/\n<=m) (λk=>l.length-k) 0 ?_ ?_ AE ?_;simp;simp[look];rintro k m ⟨hk,b⟩;by_cases a:k<l.length
 . have e:=wS k nN;obtain⟨x,d⟩:∃x,l[k]=x:=⟨_,rfl⟩
   simp[go_sem,a,d,AX.h]
   repeat first|refine nq ?_|refine sq ?_|refine aq ?_
   refine⟨_,C7 rfl (.inr rfl) nQ nQ nQ rfl rfl (dH x),?_⟩;simp[go_sem]
   repeat first|refine nq ?_|refine sq ?_|refine aq ?_
   simp[go_sem,e,-Int.natCast_add];exact⟨k+1,by omega,⟨by omega,b⟩,Or⟩
 simp[go_sem,a];exact An c rfl rfl
theorem q63(l:List Gq)(hl:l.length<=1048576):PC 73 [.x 2 (l.map Gq.h) false,.x 2 (l.map Gq.h) false] (.bool true):=by
 intro h n;refine gq func73 rfl λc=>?_;simp[go_sem];refine A9 1 (α:=Nat) (λk=>[(0,.x 2 (l.map Gq.h) false),(1,.x 2 (l.map Gq.h) false),(12,AA l.length),(13,AA k)]) (λ_=>h) (λk m=>k<=l.length/\n<=m) (λk=>l.length-k) 0 ?_ ?_ AE ?_;simp;simp[look];rintro k m ⟨hk,b⟩;by_cases a:k<l.length
 . have e:=wS k nN;obtain⟨x,d⟩:∃x,l[k]=x:=⟨_,rfl⟩
   simp[go_sem,a,d,Gq.h]
   repeat first|refine nq ?_|refine sq ?_|refine aq ?_
   refine⟨_,C7 rfl (.inr rfl) nQ nQ nQ rfl rfl (dI x),?_⟩;simp[go_sem]
   repeat first|refine nq ?_|refine sq ?_|refine aq ?_
   simp[go_sem,e,-Int.natCast_add];exact⟨k+1,by omega,⟨by omega,b⟩,Or⟩
 simp[go_sem,a];exact An c rfl rfl
theorem q56(l:List Cv)(hl:l.length<=1048576):PC 66 [.x 4 (l.map Cv.h) false,.x 4 (l.map Cv.h) false] (.bool true):=by
 intro h n;refine gq func66 rfl λc=>?_;simp[go_sem];refine A9 1 (α:=Nat) (λk=>[(0,.x 4 (l.map Cv.h) false),(1,.x 4 (l.map Cv.h) false),(12,AA l.length),(13,AA k)]) (λ_=>h) (λk m=>k<=l.length/\n<=m) (λk=>l.length-k) 0 ?_ ?_ AE ?_;simp;simp[look];rintro k m ⟨hk,b⟩;by_cases a:k<l.length
 . have e:=wS k nN;obtain⟨x,d⟩:∃x,l[k]=x:=⟨_,rfl⟩
   simp[go_sem,a,d,Cv.h]
   repeat first|refine nq ?_|refine sq ?_|refine aq ?_
   refine⟨_,C7 rfl (.inr rfl) nQ nQ nQ rfl rfl (dG x),?_⟩;simp[go_sem]
   repeat first|refine nq ?_|refine sq ?_|refine aq ?_
   simp[go_sem,e,-Int.natCast_add];exact⟨k+1,by omega,⟨by omega,b⟩,Or⟩
 simp[go_sem,a];exact An c rfl rfl
theorem q61(l:List Fb)(hl:l.length<=1048576)(g:FuncId)(hg:∀x∈l,PC g [x.h,x.h] (.bool true)):PC 71 [.x 2 (l.map Fb.h) false,.x 2 (l.map Fb.h) false,.fn (.func g) [] []] (.bool true):=by
 intro h n;refine gq func71 rfl λb=>?_;simp[go_sem];refine A9 1 (α:=Nat) (λk=>[(1,.x 2 (l.map Fb.h) false),(2,.fn (.func g) [] []),(15,.x 2 (l.map Fb.h) false),(16,AA l.length),(17,AA k)]) (λ_=>h) (λk m=>k<=l.length/\n<=m) (λk=>l.length-k) 0 ?_ ?_ AE ?_;simp;simp[look];rintro k m ⟨hk,hnm⟩;by_cases a:k<l.length
 . have d:=wS k nN;obtain⟨x,c⟩:∃x,l[k]=x:=⟨_,rfl⟩
   have H:=hg x (by rw[<-c];exact qp a);rw[Fb.h]at H;simp[go_sem,a,c,Fb.h,AC,AB];refine qO H ?_;simp[go_sem,d,-Int.natCast_add];exact⟨k+1,by omega,⟨by omega,by omega⟩,Or,by repeat(first|exact AE|refine AY b nN ?_)⟩
 simp[go_sem,a];exact An b rfl rfl
theorem mf(l:List Al)(hl:l.length<=1048576)(g:FuncId)(hg:∀x∈l,PC g [x.h,x.h] (.bool true)):PC 129 [.x 6 (l.map Al.h) false,.x 6 (l.map Al.h) false,.fn (.func g) [] []] (.bool true):=by
 intro h n;refine gq func129 rfl λb=>?_;simp[go_sem];refine A9 1 (α:=Nat) (λk=>[(1,.x 6 (l.map Al.h) false),(2,.fn (.func g) [] []),(15,.x 6 (l.map Al.h) false),(16,AA l.length),(17,AA k)]) (λ_=>h) (λk m=>k<=l.length/\n<=m) (λk=>l.length-k) 0 ?_ ?_ AE ?_;simp;simp[look];rintro k m ⟨hk,hnm⟩;by_cases a:k<l.length
 . have d:=wS k nN;obtain⟨x,c⟩:∃x,l[k]=x:=⟨_,rfl⟩
   have H:=hg x (by rw[<-c];exact qp a);rw[Al.h]at H;simp[go_sem,a,c,Al.h,AC,AB];refine qO H ?_;simp[go_sem,d,-Int.natCast_add];exact⟨k+1,by omega,⟨by omega,by omega⟩,Or,by repeat(first|exact AE|refine AY b nN ?_)⟩
 simp[go_sem,a];exact An b rfl rfl
theorem mb(l:List AD)(hl:l.length<=1048576)(g:FuncId)(hg:∀x∈l,PC g [x.h,x.h] (.bool true)):PC 124 [.x 11 (l.map AD.h) false,.x 11 (l.map AD.h) false,.fn (.func g) [] []] (.bool true):=by
 intro h n;refine gq func124 rfl λb=>?_;simp[go_sem];refine A9 1 (α:=Nat) (λk=>[(1,.x 11 (l.map AD.h) false),(2,.fn (.func g) [] []),(15,.x 11 (l.map AD.h) false),(16,AA l.length),(17,AA k)]) (λ_=>h) (λk m=>k<=l.length/\n<=m) (λk=>l.length-k) 0 ?_ ?_ AE ?_;simp;simp[look];rintro k m ⟨hk,hnm⟩;by_cases a:k<l.length
 . have d:=wS k nN;obtain⟨x,c⟩:∃x,l[k]=x:=⟨_,rfl⟩
   have H:=hg x (by rw[<-c];exact qp a);rw[qz]at H;simp[go_sem,a,c,qz,AC,AB];refine qO H ?_;simp[go_sem,d,-Int.natCast_add];exact⟨k+1,by omega,⟨by omega,by omega⟩,Or,by repeat(first|exact AE|refine AY b nN ?_)⟩
 simp[go_sem,a];exact An b rfl rfl
theorem mj(l:List AM)(hl:l.length<=1048576)(g:FuncId)(hg:∀x∈l,PC g [x.h,x.h] (.bool true)):PC 180 [.x 6 (l.map AM.h) false,.x 6 (l.map AM.h) false,.fn (.func g) [] []] (.bool true):=by
 intro h n;refine gq func180 rfl λb=>?_;simp[go_sem];refine A9 1 (α:=Nat) (λk=>[(1,.x 6 (l.map AM.h) false),(2,.fn (.func g) [] []),(15,.x 6 (l.map AM.h) false),(16,AA l.length),(17,AA k)]) (λ_=>h) (λk m=>k<=l.length/\n<=m) (λk=>l.length-k) 0 ?_ ?_ AE ?_;simp;simp[look];rintro k m ⟨hk,hnm⟩;by_cases a:k<l.length
 . have d:=wS k nN;obtain⟨x,c⟩:∃x,l[k]=x:=⟨_,rfl⟩
   have H:=hg x (by rw[<-c];exact qp a);rw[qR]at H;simp[go_sem,a,c,qR,AC,AB];refine qO H ?_;simp[go_sem,d,-Int.natCast_add];exact⟨k+1,by omega,⟨by omega,by omega⟩,Or,by repeat(first|exact AE|refine AY b nN ?_)⟩
 simp[go_sem,a];exact An b rfl rfl
theorem mn(l:List AG)(hl:l.length<=1048576)(g:FuncId)(hg:∀x∈l,PC g [x.h,x.h] (.bool true)):PC 239 [.x 7 (l.map AG.h) false,.x 7 (l.map AG.h) false,.fn (.func g) [] []] (.bool true):=by
 intro h n;refine gq func239 rfl λb=>?_;simp[go_sem];refine A9 1 (α:=Nat) (λk=>[(1,.x 7 (l.map AG.h) false),(2,.fn (.func g) [] []),(15,.x 7 (l.map AG.h) false),(16,AA l.length),(17,AA k)]) (λ_=>h) (λk m=>k<=l.length/\n<=m) (λk=>l.length-k) 0 ?_ ?_ AE ?_;simp;simp[look];rintro k m ⟨hk,hnm⟩;by_cases a:k<l.length
 . have d:=wS k nN;obtain⟨x,c⟩:∃x,l[k]=x:=⟨_,rfl⟩
   have H:=hg x (by rw[<-c];exact qp a);rw[vB]at H;simp[go_sem,a,c,vB,AC,AB];refine qO H ?_;simp[go_sem,d,-Int.natCast_add];exact⟨k+1,by omega,⟨by omega,by omega⟩,Or,by repeat(first|exact AE|refine AY b nN ?_)⟩
 simp[go_sem,a];exact An b rfl rfl
def AH.j(d:AH):List SV:=[AI d.W]++d.T0.j++[Cq d.V]++d.S.j
theorem jk(x:AF)(a:x.D):PC 68 [x.h,x.h] (.bool true):=by simpa using c58 x x a a
theorem me(l:List Fd)(a:l.length<=1048576):PC 126 [AU l,AU l] (.bool true):=by simpa using fq l l a a
theorem mh(l:List Fd)(a:l.length<=1048576):PC 131 [AU l,AU l] (.bool true):=by
 intro h n;refine gq func131 rfl λb=>?_;simp[go_sem];refine(me l a).use ?_;simp[go_sem];exact An b rfl rfl
theorem q55(x:Fb)(b:x.levels.length<=1048576):PC 65 [x.h,x.h] (.bool true):=by
 intro h n;refine gq func65 rfl λa=>?_;have hh:∀y z,∀o x,h o=some x->h_ (h_ h n y) (n+1) z o=some x:=λy z=>by repeat(first|exact AE|refine AY a nN ?_)
 simp[go_sem,Fb.h,AC,AB];refine(q56 _ b).use ?_;simp[go_sem];exact Bq a (hh _ _) rfl rfl
theorem mg(x:Al)(b:x.Q.length<=1048576):PC 130 [x.h,x.h] (.bool true):=by
 intro h n;refine gq func130 rfl λa=>?_;have hh:∀y z,∀o x,h o=some x->h_ (h_ h n y) (n+1) z o=some x:=λy z=>by repeat(first|exact AE|refine AY a nN ?_)
 simp[go_sem,Al.h,AC,AB];refine(mh _ b).use ?_;simp[go_sem];exact Bq a (hh _ _) rfl rfl
theorem q60(l:List Al)(a:l.length<=1048576)(hp:∀x∈l,x.Q.length<=1048576):PC 70 [AW l,AW l] (.bool true):=by
 intro h n;refine gq func70 rfl λb=>?_;simp[go_sem];refine(mf l a _ λx c=>mg x (hp x c)).use ?_;simp[go_sem];exact An b rfl rfl
theorem mq(x:AG)(c:x.H.D)(b:PC 67 [AI x.W,AI x.W] (.bool true)):PC 240 [x.h,x.h] (.bool true):=by
 intro h n;refine gq func240 rfl λa=>?_;have hh:∀y z,∀o x,h o=some x->h_ (h_ h n y) (n+1) z o=some x:=λy z=>by repeat(first|exact AE|refine AY a nN ?_)
 have e:=jk _ c;rw[AF.h,AF.j]at e;simp[go_sem,vB,AC,AB];refine e.use ?_;simp[go_sem,AC,AB];refine b.use ?_;simp[go_sem];exact Bq a (hh _ _) rfl rfl
theorem ml(x:AM)(f:x.H.D)(d:x.cells.length<=1048576)(b:∀c∈x.cells,PC 240 [c.h,c.h] (.bool true)):PC 181 [x.h,x.h] (.bool true):=by
 intro h n;refine gq func181 rfl λa=>?_;have hh:∀y z,∀o x,h o=some x->h_ (h_ h n y) (n+1) z o=some x:=λy z=>by repeat(first|exact AE|refine AY a nN ?_)
 have e:=jk _ f;rw[AF.h,AF.j]at e;simp[go_sem,qR,AC,AB];refine e.use ?_;simp[go_sem,AC,AB];refine(mn _ d _ b).use ?_;simp[go_sem];exact Bq a (hh _ _) rfl rfl
theorem mc(x:AD)(d:x.H.D)(b:PC 67 [AI x.W,AI x.W] (.bool true))(c:x.R.length<=1048576)(hr:∀r∈x.R,PC 181 [r.h,r.h] (.bool true)):PC 125 [x.h,x.h] (.bool true):=by
 intro h n;refine gq func125 rfl λa=>?_;have hh:∀y z,∀o x,h o=some x->h_ (h_ h n y) (n+1) z o=some x:=λy z=>by repeat(first|exact AE|refine AY a nN ?_)
 have e:=jk _ d;rw[AF.h,AF.j]at e;simp[go_sem,qz,AC,AB];refine e.use ?_;simp[go_sem,AC,AB];refine b.use ?_;simp[go_sem,AC,AB];refine(mj _ c _ hr).use ?_;simp[go_sem];exact Bq a (hh _ _) rfl rfl
theorem mr{hp:AF->Prop}(hh:∀x,hp x->x.D){K:Nat}(f:K<=1048576):∀(N:Nat)(l:List AD),lim hp K N l->PC 67 [AI l,AI l] (.bool true)
 | 0,_,H=>H.elim
 | N + 1, l, H => by
  obtain⟨h1,h2,i⟩:=CX.1 H;have hi:∀x∈l,PC 125 [x.h,x.h] (.bool true):=λx k=>by
   obtain⟨a,b,c,d⟩:=i x k;exact mc x (hh _ a) (mr hh f N _ b) nN λr hr=>ml r (hh _ (d r hr).1) (by have:=(d r hr).2.1;omega) λe g=>mq e (hh _ ((d r hr).2.2 e g).1) (mr hh f N _ ((d r hr).2.2 e g).2)
  intro h n;refine gq func67 rfl λj=>?_;simp[go_sem];refine(mb l nN _ hi).use ?_;simp[go_sem];exact An j rfl rfl
theorem ms(l:List Fb)(a:l.length<=1048576)(hp:∀x∈l,x.levels.length<=1048576):PC 71 [CA l,CA l,.fn (.func 65) [] []] (.bool true):=q61 l a _ λx b=>q55 x (hp x b)
def cL:Tr:=.pure 0<|.pure 1<|.pure 2<|.pure 3<|.two 4 5 (.one 5 (.one 6 (.one 7 .nil))) (.one 4 (.one 6 (.one 7 .nil)))
theorem q17{hp:AF->Prop}(hh:∀x,hp x->x.D){K:Nat}(k:K<=1048576)(N:Nat)(d:AH)(o:lim hp K N d.W)(l:d.T0.D)(hr:d.V.length<=1048576)(a:d.S.D):PC 24 [d.h,d.h] (.bool true):=by
 intro h n;refine E8 func24 rfl λf=>?_;have b:=f.lt;obtain⟨X,i⟩:∃X:SV,X=.q ([AI d.W]++d.T0.j++[Cq d.V]++d.S.j):=⟨_,rfl⟩
 refine Ao 1 [(2,X),(3,X)] h n ?_ (λm hm=>?_);rw[i];simp[go_sem,AH.h,AF.j,AO.j];exact⟨by omega,⟨Ak (f.none nN) (by simp[h_]),Ak (f.none nN) (by simp[h_])⟩,λj y e=>by have:=b j y e;simp only[h_];grind⟩;have c:∀j y,h j=some y->j<m:=λj y e=>by have:=b j y e;omega
 refine AR 1 (α:=Unit) (λ_=>[(2,X),(3,X),(5,.q d.S.j),(6,.q d.S.j)]) (λ_=>h) (λ_ m=>n<=m) (CJ cL rfl nQ nQ ?_) (λ_ m hm=>?_);rw[i];simp[go_sem,cL,AF.j,AO.j,AC,AB];have g:∀q,m<=q->h q=none:=λq hq=>by cases e:h q with|none=>rfl|some y=>(have:=c q y e;omega)
 refine⟨⟨by omega,⟨Ak (g _ nN) (by simp[h_]),Ak (g _ nN) (by simp[h_])⟩,λj y e=>?_⟩,by omega,⟨Ak (g _ nN) (by simp[h_]),Ak (g _ nN) (by simp[h_])⟩,λj y e=>?_⟩ <;>
 . have:=c j y e;simp only[h_];grind
 have e:=jk _ l;rw[AF.h,AF.j]at e;refine AJ ?_;rw[i];simp[go_sem,AF.j,AO.j];refine(mr hh k N _ o).use ?_;simp[go_sem];refine e.use ?_;simp[go_sem];refine(q59 _ hr).use ?_;simp[go_sem];refine(q60 _ a.A a.Q).use ?_;simp[go_sem];refine(ms _ a.L a.levels).use ?_;simp[go_sem];refine(q62 _ a.C).use ?_;simp[go_sem];refine(q63 _ a.vars).use ?_;simp[go_sem];exact An f rfl rfl
theorem Q4:∀(a pre L:List AX),L=pre++a->(∀i j (hi:i<L.length) (f:j<i),1<=L[i].id/\L[j].id<L[i].id)->(∀i (hi:i<L.length),1<=L[i].id/\(L[i].parent=0\/L[i].parent∈(L.take i).map (·.id)))->GS (pre.map (·.id)) a
 | [],_,_,_,_,_=>trivial
 | c::a,pre,L,hL,h1,h2=>by
  have b:=Q4 a (pre++[c]) L (by simp[hL]) h1 h2;have k:pre.length<L.length:=by simp[hL]
  have h:L[pre.length]=c:=by simp[hL]
  have d:=h2 pre.length k;have l:L.take pre.length=pre:=by simp[hL]
  rw[h,l]at d;refine⟨λe=>by have:=d.1;rw[e]at this;omega,λg=>?_,d.2,by simpa using b⟩;obtain⟨x,o,e⟩:=qb.1 g;obtain⟨j,f,rfl⟩:=vZ o;have m:=(h1 pre.length j k f).2;have n:L[j]=pre[j]:=by simp[hL,List.getElem_append_left f]
  rw[h,n,e]at m;omega
theorem Zy{l:List AX}(h:Mj l=0):l.length<=1024/\GS [] l:=by
 unfold Mj at h;rw[FD]at h;obtain⟨h1,h2⟩:=h;have hl:l.length<=1024:=by
  by_cases c:(1024:Int)<l.length;rw[nS c]at h1;exact absurd h1 (by decide);omega
 rw[vQ hl]at h2;have key:∀i (hi:i<l.length),(1<=l[i].id/\(0<i->∀(hj:i-1<l.length),l[i-1].id<l[i].id))/\(l[i].parent=0\/l[i].parent∈(l.take i).map (·.id)):=λi hi=>by
  have h3:=Hk h2 i hi;unfold VJ at h3;rw[qm hi]at h3;dsimp only at h3;obtain⟨k1,k2⟩:=Su h3;obtain⟨a1,_,a3⟩:=UP k1;rw[qm hi]at a1 a3;refine⟨⟨a1,λi0 hj=>?_⟩,?_⟩;have:=a3 i0;rw[qm hj]at this;exact this
  . by_cases p0:l[i].parent=0;exact .inl p0
    . right;split at k2;exact absurd k2 (by decide)
      next g=>
      rw[vO,vU,decide_eq_true_eq,Zh,LT]at g;obtain⟨j,hj,e⟩:=g.resolve_left p0;rw[qm hj]at e;exact qb.2 ⟨_,qp hj,of_decide_eq_true e⟩
 have inc:∀i j (hi:i<l.length) (hj:j<i),l[j].id<l[i].id:=λi=>by
  induction i with
  | zero=>intro j _ hj;omega
  | succ i ih=>
   intro j hi hj;have s:=(key (i+1) hi).1.2 nN nN;simp only[Nat.add_sub_cancel]at s;by_cases e:j=i;subst e;exact s;have:=ih j nN nN;omega
 exact⟨hl,Q4 l [] l rfl (λi j hi hj=>⟨(key i hi).1.1,inc i j hi hj⟩) λi hi=>⟨(key i hi).1.1,(key i hi).2⟩⟩
theorem XE{a b c d:Int}(h:BH [a,b,c,d]=0):c=0:=by
 simp only[BH]at h;by_cases h1:a=0<;>by_cases h2:b=0<;>by_cases h3:c=0<;>simp_all
theorem V9{s:AO}(h:bE s=0):Mj s.C=0:=XE h
structure Qg(m2:List Int)(N:Nat)(d:AH):Prop where
 lim:lim (ZO m2) 150000 N d.W
 T0 : ZO m2 d.T0
 mlen:m2.length<=1000
 rlen:d.V.length<=1048576
 set:d.S.D
 clen:d.S.C.length<=1024
 heads:(AD.hdL d.W).length<=3150
section
variable{m2:List Int}{N:Nat}{d e:AH}
theorem Fk.zero(H:Fk N e):IC N e:=⟨H.wf,H.endi,H.endm,H.endd,H.endl,H.revn,H.rev0,H.coms,H.anch⟩
theorem Qg.doc(F:Qg m2 N d):d.D/\d.normal.D/\(BD [] (AD.U (Ae d.W)++d.T0.all)).length<=1048576:=Wz F.mlen nN F.lim F.T0 F.rlen F.set
theorem Qg.rn(F:Qg m2 N d){hp:AF->Prop}{T:Int->Prop}(hw:wf hp T N d.W):Qg m2 N d.normal.renum/\(Cz 0 d.normal.W).2<=1099511627776:=by
 have h1:=La hw;have h2:=QK (Ae d.W) 0;have h3:=F.heads;refine⟨⟨TE 0 (G7 F.lim),F.T0,F.mlen,qy (vA _ _) F.rlen,F.set,F.clen,?_⟩,?_⟩;show(AD.hdL (Cz 0 (Ae d.W)).1).length<=_;rw[N8];omega;show(Cz 0 (Ae d.W)).2<=_;omega
theorem JO{hp:AF->Prop}{K:Nat}{T:Int->Prop}{g:AF->Prop}:∀{N:Nat} {l:List AD},wf g T N l->Sh.lim hp K N l->wf hp T N l
 | 0,_,h,_=>h.elim
 | N+1,l,H,L=>DP.2 λx j=>by
  obtain⟨a,b,c,q,e,f,w⟩:=DP.1 H x j;obtain⟨k,m,x3,i⟩:=(CX.1 L).2.2 x j;exact⟨k,b,c,q,e,JO f m,λr hr=>⟨(i r hr).1,(w r hr).2.1,λy d=>⟨((w r hr).2.2 y d).1,((i r hr).2.2 y d).1,JO ((w r hr).2.2 y d).2.2 ((i r hr).2.2 y d).2⟩⟩⟩
theorem Qg.Y(F:Qg m2 N d){hp:AF->Prop}{T:Int->Prop}(hw:wf hp T N d.W):∀h∈AD.hdL d.W,h.Y.length<=16:=λh hh=>(Jm (JO hw F.lim) h hh).2.dlen
theorem Qg.mvs(F:Qg m2 N d){hp:AF->Prop}{T:Int->Prop}(hw:wf hp T N d.W):(C0 (AD.hdL d.W)).length<=53550:=by
 have:=aR (F.Y hw);have:=F.heads;omega
theorem Q0{R:List Int}{e:Int->Int->Int}(h0:(0:Int)∉R){x:AF}(h1:ZO m2 x)(h2:HR R x):ZO (R.map (Am R)) (LW R e x):=by
 obtain⟨⟨a1,a2,a3⟩,⟨b1,c,b3,d,b5⟩⟩:=h1;refine⟨⟨a1,by show(x.Y.map _).length<=_;rw[qj];exact a2,by show(x.Z.map _).length<=_;rw[qj];exact a3⟩,⟨?_,by show(x.Y.map _).length<=_;rw[qj];exact c,λy a=>?_,by show(x.Z.map _).length<=_;rw[qj];exact d,λy a=>?_⟩⟩;by_cases g:x.I=0;left;show Am R x.I=0;rw[g,CU.2 h0];exact .inr (qb.2 ⟨_,h2.I g,rfl⟩);obtain⟨z,b,rfl⟩:=qb.1 (show y∈x.Y.map _ from a);exact qb.2 ⟨_,h2.Y z b,rfl⟩;obtain⟨z,b,rfl⟩:=qb.1 (show y∈x.Z.map _ from a);exact qb.2 ⟨_,h2.lays z b,rfl⟩
theorem Qg.can(F:Qg m2 N e)(H:Gm N e)(hr:e.V.length<=1000):Qg ((A5 e).map (Am (A5 e))) N (Ip e):=by
 obtain⟨T,hw⟩:=H.wf;have a:HR (A5 e) e.T0:=⟨λg=>absurd H.endi g,λ_=>H.endm,λd hd=>(by rw[H.endd]at hd;cases hd),H.endl⟩
 have b:(Ip e).W=AD.gmL (LW (A5 e) (Ch (A5 e) (KX e))) (WJ (EB (IA e))) id e.W:=Lg _ _ _;refine⟨?_,Q0 H.rev0 F.T0 a,by simp only[qj];exact hr,?_,?_,?_,?_⟩;rw[b];refine TA (hp:=λh=>ZO m2 h/\HR (A5 e) h) (λx h=>Q0 H.rev0 h.1 h.2) ?_;have i:=JO hw F.lim;exact TD F.lim λh hh=>⟨Jm i h hh,Jm hw h hh⟩
 show(EP e.V 0).length<=_;rw[G8];omega;obtain⟨s1,s2,s3,s4,c,f⟩:=F.set;exact⟨s1,s2,by show(e.S.C.map _).length<=_;rw[qj];exact s3,s4,c,f⟩;show(e.S.C.map _).length<=_;rw[qj];exact F.clen;rw[b,Np,qj];exact F.heads
theorem T9(H:Gm N e):OT ((CE e.S.C 0 [(0,0)]).2,[]) ([],Es e):=by
 obtain⟨a,_⟩:=Nb e.S.C _ [] In.zero H.coms;simp only[qK,vL,Int.natCast_zero]at a;exact⟨a,⟨λx=>rfl,rfl,λp hp=>by cases hp⟩⟩
theorem Zf(e:AH):(IA e).1.length<=(AD.hdL e.W).length/\(IA e).2.length<=e.S.C.length+(AD.hdL e.W).length:=by
 have h:=Pg e.W;unfold IA;rw[Jh];have h1:=Ka (((AD.anL e.W).filter λa=>decide (a.1<=2)).map (·.2)) [];have h2:=Ka (((AD.anL e.W).filter λa=>!decide (a.1<=2)).map (·.2)) (Es e);have h3:=vA (λa:Int×Int=>decide (a.1<=2)) (AD.anL e.W);have h4:=vA (λa:Int×Int=>!decide (a.1<=2)) (AD.anL e.W);simp only[qj,vL]at h1 h2;dsimp only;omega
theorem Xm(F:Qg m2 N e)(H:Gm N e):(Hf N e).length<=1048576:=by
 obtain⟨T,hw⟩:=H.wf;have h1:=PD (C0 (AD.hdL e.W++[e.T0])) [];have h2:C0 (AD.hdL e.W++[e.T0])=C0 (AD.hdL e.W)++C0 [e.T0]:=by simp[C0]
 have h3:(C0 [e.T0]).length=1:=by simp[C0,AF.mvs,H.endd]
 have h4:=F.mvs hw;rw[P3 hw];rw[h2,qk]at h1;simp only[vL]at h1;rw[h2];omega
theorem aP(F:Qg m2 N e)(H:Gm N e):bj N (A5 e) e.W=KX e/\ML (KX e)<=1048576:=by
 obtain⟨T,hw⟩:=H.wf;refine⟨?_,?_⟩;unfold bj KX;rw[(LE N _ hw).2,N0];have h1:=YE (A5 e) (C0 (AD.hdL e.W)) (List.replicate (A5 e).length []);have h2:=F.mvs hw;have a:∀n,ML (List.replicate n [])=0:=λn=>by induction n with|zero=>rfl|succ n ih=>rw[List.replicate_succ];simp[ML]
 rw[a]at h1;unfold KX;omega
theorem NW(C:IC N d)(F:Qg m2 N d)(hr:d.V.length<=1000):PC 25 [d.h] (HT N d).h/\PC 27 [d.h] (HT N d).h/\IC N (HT N d)/\(∃m3,Qg m3 N (HT N d))/\(HT N d).V.length<=1000:=by
 obtain⟨T,hw⟩:=C.wf;have H:=C.two;obtain⟨f1,f2,f3⟩:=F.doc;obtain⟨G,f4⟩:=F.rn hw;obtain⟨c1,k⟩:=NV H;have b:d.normal.renum.V.length<=1000:=qy (vA _ _) hr;have j:=G.can H.toGm b;obtain⟨g1,g2,g3⟩:=G.doc;obtain⟨l,m,n⟩:=j.doc;have o:lim AF.D 150000 N d.normal.renum.W:=G.lim.mono (λ_ g=>g.1) (IO _);have met:=Xm G H.toGm;obtain⟨f,i⟩:=aP G H.toGm;obtain⟨an1,an2⟩:=Zf d.normal.renum;have heads:=G.heads;have clen:=G.clen;have e:=T8 H.toGm;have c:=Zw H.toGm;obtain⟨T',a⟩:=H.wf;have v:(Qz d.normal.renum).D:=by
  obtain⟨s1,s2,s3,s4,w⟩:=g1;obtain⟨x,t2,t3,t4,t5,y⟩:=w;exact⟨s1,s2,s3,by show(EP _ 0).length<=_;rw[G8];exact s4,⟨x,t2,by show(CE _ 0 _).1.length<=_;rw[Ki];exact t3,t4,t5,y⟩⟩
 refine⟨?_,?_,?_,⟨_,by rw[c1];exact j⟩,?_⟩;refine w25 d f1 f2 f3 f4 (K:=150000) (N:=N) nN g1 o met v ?_ (by rw[e];exact l) (by rw[e];exact m) (by rw[e];exact n);have r:(Ia (MU (FL (DM (Hf N d.normal.renum))).2 (Df d.normal.renum.V 0 [(0,0)])) N (Qz d.normal.renum) ((CE d.normal.renum.S.C 0 [(0,0)]).2,[])).2=(AD.anL d.normal.renum.W).foldl HG ((CE d.normal.renum.S.C 0 [(0,0)]).2,[]):=by
  have p:=(T9 H.toGm).cm;have q:∀mv rv (E:AH) s,(Ia (MU mv rv) N E s).2=(Au (MU mv rv) N 0 E.W s).2:=λ_ _ _ _=>rfl;rw[q,show(Qz d.normal.renum).W=d.normal.renum.W from rfl,Wg a _ _ _ _ (λg=>by have:=p.len;dsimp only at g this;rw[g]at this;simp at this)]
 rw[r];have S:=((T9 H.toGm).fold H.anch).bm.len;have:(List.foldl Db ([],Es d.normal.renum) (AD.anL d.normal.renum.W)).1.length<=3150:=by
  have:IA d.normal.renum=List.foldl Db ([],Es d.normal.renum) (AD.anL d.normal.renum.W):=rfl;rw[<-this];omega
 omega;have t:(Ho N d.normal.renum).normal=HT N d:=by rw[c,c1,k.normal]
 rw[<-t];refine w27 d f1 f2 f3 f4 (K:=150000) (N:=N) nN g1 o (λs=>?_) ?_ ?_ (by rw[c];exact l) (by rw[c];exact m) (by rw[c];exact n);rw[(LE N _ a).2 0 s,(LE N _ a).2 0 s.1];exact Z7 (F:=jZ (d.normal.renum.V.map (·.id))) (G:=λs h=>h.mvs.foldl (BA (d.normal.renum.V.map (·.id))) s) (λs:Mt (d.normal.renum.V.map (·.id))=>s.1) (λ_ _=>rfl) _ _;have:=f;unfold A5 at this;rw[this];exact i;rw[T7 a];have u:(AD.anL d.normal.renum.W).foldl Db ([],d.normal.renum.S.C.map (·.id))=IA d.normal.renum:=rfl;dsimp only;rw[u];omega;rw[c1];exact k.zero;rw[c1];show(EP d.normal.renum.V 0).length<=_;rw[G8];exact b
theorem Sn(F:Qg m2 N d):PC 24 [d.h,d.h] (.bool true):=q17 (hp:=ZO m2) (λx g=>g.1) (K:=150000) nN N d F.lim F.T0.1 F.rlen F.set
theorem XK{B:Nat}(b:lim AF.D B N d.W)(e:d.T0.D)(f:d.S.D)(G:D8 N d)(a:MW N d.W)(ht:M2 N d.W<=150):IC N d/\(∃m3,Qg m3 N d)/\d.V.length<=1000:=by
 have hd:=G.ok;obtain⟨c1,c⟩:=Zy (V9 G.S);have hrl:=MK hd.V;have hm:(BD [] (d.V.map (·.id))).length<=1000:=by
  have:=Ka (d.V.map (·.id)) [];simp at this;omega
 have hh:=S4 a;exact⟨IC.good b G.W G.endH G.endI G.endM G.endD (Vd hd) c,⟨_,Pu b a hd.W,⟨e,hd.T0.toUM⟩,hm,by omega,f,c1,by omega⟩,by omega⟩
end
theorem TC.wk{f:FuncId}{us bs:List SV}{T:SV->Prop}(k:Nat)(H:TC f bs T)(hw:AT (Fz (λ_=>none) (λ_=>none) k) us bs):TC f us T:=λh n=>
 wT k (λ_ _ e=>e) (hw.mono λ_ _=>Fz.any k) (H h n)
def PW:IX:=⟨[],.empty,false,false,false,false,[]⟩
theorem ig(d:AH)(r:IX){B N:Nat}(t:B<=1048576)(hd:d.sizedT B N)(R:Rsz r):TC 12 [d.h,r.h] (KP (D8 N d) N d):=by
 intro h n;refine gq func12 rfl λg=>?_;have u:∀(a b:Option A7),∀o z,h o=some z->h_ (h_ h n a) (n+1) b o=some z:=λa b=>bg g;have fin:∀(b:Bool)(a c:Option A7)(m:Nat),(b=true->D8 N d/\MW N d.W/\M2 N d.W<=150)->Cb n (h_ (h_ h n a) (n+1) c) m (.bool b) (λv h' n'=>(KP (D8 N d) N d) v/\h'=h/\n'=n):=λb a c m hb=>Rp g (u _ _) (by simp[C_]) ⟨b,rfl,hb⟩;have e:∀(b:Bool)(m:Nat),(b=true->D8 N d/\MW N d.W/\M2 N d.W<=150)->Cb n h m (.bool b) (λv h' n'=>(KP (D8 N d) N d) v/\h'=h/\n'=n):=λb m hb=>Rp g AE (by simp[C_]) ⟨b,rfl,hb⟩;have hvl:=R.hv;by_cases h1:(30:Int)<r.ranges.length;simp[go_sem,IX.h,AH.h,AF.j,AO.j,AC,qw,h1];exact fin _ _ _ _ nO;by_cases h2:(30:Int)<r.vars.length;simp[go_sem,IX.h,AH.h,AF.j,AO.j,AC,qw,h1,h2];exact fin _ _ _ _ nO;by_cases l:(200:Int)<r.marker.size;simp[go_sem,IX.h,AH.h,AF.j,AO.j,AC,qw,h1,h2,l];exact fin _ _ _ _ nO;simp[go_sem,IX.h,AH.h,AF.j,AO.j,AC,qw,h1,h2,l];refine A9 1 (α:=Nat) (λk=>[(2,.q (dcs d)),(3,.q (rcs r)),(5,AA k)]) (λ_=>h) (λk m=>k<=r.vars.length/\n<=m) (λk=>r.vars.length-k) 0 ?_ ?_ (bg g) ?_;simp;intro p hp;simp only[qd,vC,or_false]at hp;rcases hp with rfl|rfl|rfl;exact Ak (UF g n (IO _)) (by simp[AC,AB,AF.j,AO.j]);exact Ak (UF g (n+1) nN) (by simp[AC]);exact Or;rintro k m ⟨hk,i⟩;by_cases f:k<r.vars.length;have w:=wS k nN;by_cases s:(200:Int)<(r.vars[k]).size;simp[go_sem,f,s];exact e _ _ nO;simp[go_sem,f,s,w,-Int.natCast_add];exact⟨k+1,by omega,⟨by omega,i⟩,Or⟩;simp[go_sem,f,AF.j,AO.j];refine TC.use (by simpa[AH.h,AF.j,AO.j]using il d t hd) ?_;rintro v ⟨b,rfl,hb⟩;simp[go_sem];exact e _ _ hb
theorem ij(d:AH){B N:Nat}(a:B<=1048576)(hd:d.sizedT B N):TC 12 [d.h,.agg [.x 0 [] true,.str .empty,.bool false,.bool false,.bool false,.bool false,.x 0 [] true]] (KP (D8 N d) N d):=
 (ig d PW a hd ⟨by simp[PW],by simp[PW],by simp[PW]⟩).wk 2 ⟨Or,.inr ⟨.inr ⟨by simp,.inl rfl,trivial,by simp[PW]⟩,Or,Or,Or,Or,Or,.inr ⟨by simp,.inl rfl,trivial,by simp[PW]⟩,trivial⟩,trivial⟩
def tr9:Tr:=(.pure 0 (.pure 1 (.one 2 (.one 3 (.pure 4 (.two 5 7 (.two 6 7 (.one 7 (.one 8 (.pure 9 (.pure 10 .nil)))) (.one 6 (.one 8 (.pure 9 (.pure 10 .nil))))) (.one 5 (.one 6 (.one 8 (.pure 9 (.pure 10 .nil)))))))))))
theorem g9(ja:GC 11 [] (.bool true))(d:AH){B N:Nat}(A:B<=1048576)(hd:d.sizedT B N):GC 9 [d.h] (.bool true):=by
 intro E hI h n;refine E8 func9 rfl λg=>?_;have l:=g.lt;refine Ao 1 [(1,.q (CF d)),(2,.bool false)] h n ?_ (λm hm=>?_);rw[CF];simp[go_sem,Or,AH.h,AF.j,AO.j];refine⟨Ak (g.none (IO n)) (by simp[h_]),λj y=>?_⟩;have:=g j y;simp only[h_];grind;have c:=ij d A hd;rw[F9]at c;refine LN ?_;refine EF 0 (α:=Bx) (λx=>[(1,.q (CF d)),(11,.bool (!x.b))]) (λ_=>h) (λx m=>n<=m/\(x.b=true->D8 N d/\MW N d.W/\M2 N d.W<=150)) ?_ (λx m hm=>?_);simp[go_sem];refine ja.use hI ?_;simp[go_sem,CF];refine TC.use (by simpa[CF]using c) ?_;rintro v ⟨b,rfl,hb⟩;simp[go_sem,Or];exact⟨⟨b⟩,⟨hm,hb⟩,rfl⟩;obtain⟨hm,hb⟩:=hm;rcases x with⟨b⟩
 cases b with
 | false=>
  refine Av (b:=true) nP ?_;rw[nS rfl];refine AJ ?_;simp[go_sem];refine ja.use hI ?_;simp[go_sem];exact An g rfl rfl
 | true=>
  obtain⟨hg,o,p⟩:=hb rfl;obtain⟨c1,⟨m3,u⟩,w⟩:=XK hd.W hd.T0 hd.S.1 hg o p;obtain⟨r,s,D,⟨m4,t⟩,p5⟩:=NW c1 u w;obtain⟨k,q2,q3,⟨m5,q4⟩,q5⟩:=NW D t p5;have i:=Sm c1.two;rw[i]at k;have a:=Sn t;refine Av (b:=false) nP ?_;rw[nR nO];obtain⟨z,C⟩:∃z,z=HT N d:=⟨_,rfl⟩
  rw[<-C]at r s k a;rw[F9 d,F9 z]at r s;rw[F9 z]at k a;have f:∀j y,h j=some y->j<m:=λj y e=>by have:=l j y e;omega
  refine NE ?_;show SP _ _ _ _ _ _ _;refine Ao 1 [(1,.q (CF d)),(3,.q (CF z))] h n ?_ (λm hm=>?_);simp[go_sem,CF];refine qO (by simpa[CF]using r) ?_;simp[go_sem,Or,AC,AZ];refine⟨by omega,Ak (Ac f (IO _)) (by rw[AC]),λj y e=>by have:=f j y e;rw[AB _ _ nN];exact e⟩;refine AR 0 (α:=Unit) (λ_=>[(2,.bool true)]) (λ_=>h) (λ_ m=>n<=m) (CJ tr9 rfl nQ nQ ?_) (λ_ m hm=>?_)
  . simp[go_sem,tr9,CF];refine qO (by simpa[CF]using s) ?_;simp[go_sem];refine qO (by simpa[CF]using a) ?_;simp[go_sem]
    repeat' (with_reducible refine And.intro ?_ ?_)
    all_goals refine qO (by simpa[CF]using k) ?_
    all_goals simp[go_sem]
    all_goals refine qO (by simpa[CF]using a) ?_
    all_goals simp[go_sem,Or,hm]
  . refine AJ ?_;simp[go_sem];exact An g rfl rfl
end Go.Proofs.YthinbkgpjmjfeaaGreatDoor.Sh
namespace Go.Proofs.YthinbkgpjmjfeaaGreatDoor.redactCanonical
open Go.Proofs.Tryz
open Go.ChangeShapes Go.WideShapes Go.ChangeAt Go.RowKit
open Go.Proofs.YthinbkgpjmjfeaaGreatDoor.Sh
set_option maxRecDepth 10000
set_option maxHeartbeats 4000000
theorem own:ownKnob prog.godebug=none:=by kernel_rfl
theorem contract(H:Type)(enc:TypeId×Value->H)(W:World)(base:Nat)(args:Array Value)(r s:List (DataW H))(before:List MemPlace)
 (a:∀(j:Nat) t v,Tryz.f9.params[j]? = some t->args[j]? = some v->Value.okWide prog W .any base t v)
 (w:DataW.Whole enc prog Tryz.f9.params.toList Rows.redactCanonicalSpec.vars false W args.toList r s before) (hk:Rows.uptoSmall H (r++s)=true) (n:W.ShapedOpen prog):
 Calls prog 9 args W λe o=>∃v,e=.returned v/\Rows.redactCanonicalSpec.post enc prog Tryz.f9 false true false false W args v o:=by
 have m:=w;obtain⟨p,q,c,f,rfl,hfz,hnd⟩:=w;rw[Tryz.params9]at c a;obtain⟨v0,vs0,y,ds0,p0,q0,hargs,rfl,rfl,⟨n0,h0⟩,r0⟩:=trodAll_cons c;obtain⟨rfl,rfl,rfl⟩:=trodAll_nil r0;obtain rfl:args = #[v0]:=by cases args;simp_all
 obtain⟨rfl,rfl⟩:=trodVars_none f;rw[vp]at hk;have hb:Rows.uptoBulkAll [y]<=1048576:=of_decide_eq_true hk;simp only[Rows.uptoBulkAll]at hb;obtain⟨d,a1,a2⟩:=(Vh n0).arg Tryz.underlying38 (a 0 38 v0 rfl rfl) h0 (by unfold BB;dsimp only;omega);have k:BB<=1048576:=by unfold BB;exact IO _
 have g:=Sh.g9 ja d k a2;have z:=(g EI (λ_ i=>i) (λ_=>none) 0).2 (bT W) [v0] ⟨Tryz.sIdx.s1_3 W n,λh=>h⟩ (m8 W) (λ_ _=>rfl) ⟨a1,trivial⟩;refine Calls.mono z ?_;rintro e o ⟨u,v',h',n',c',rfl,⟨rfl,_⟩,rfl,f,_,_,c⟩;have l:=c.ext;have A:u=.bool true:=by rw[V]at f;exact f
 subst A;refine⟨_,rfl,TQ (x:=.lit (.bool true)) m rfl (by rw[Tryz.params9];exact of_decide_eq_true (by kernel_rfl)) l.os l.out (λb hb=>VQ l hb) rfl (λ_ _ _=>trodAll_cons_mk (shut_bool Tryz.underlying4 _) trodAll_mk0) (ok_one (by kernel_rfl) rfl (okWide_bool_mk Tryz.underlying4 _))⟩
def zi:Value:=.int .i64 0
def zl:Value:=.slice none 0 0
def witD:Value:=.agg #[zl,zl,zi,zi,zl,zl,zl,zl,zl,zl,zl]
def wit:Array Value:=#[witD]
def li{H:Type}:DataW H:=.lit (.int .i64 0)
def litV:DataW Unit->Value
 | .lit (.int k n)=>.int k n
 | _=>.bool false
def aggV:DataW Unit->Array Value
 | .agg l=>(l.map litV).toArray
 | _=>#[]
noncomputable def laidWorld(os:Os):World:=
 let w0:=World.holding prog os ⟨#[],#[],[]⟩
 let put (h:Array Obj) (g:Nat) (cs:Array Value):Array Obj:=h.modify g fun
  | .cells _ t frozen=>.cells cs t frozen
  | o=>o
 { w0 with heap:=put (put (put w0.heap 1 (aggV Rows.laid_internal_strconv_uint64pow10)) 2 (aggV Rows.laid_math_bits_deBruijn32tab)) 3 (aggV Rows.laid_math_bits_deBruijn64tab) }
theorem laid_met(os:Os):laidMet prog Rows.redactCanonicalUptoRow.laid ((laidWorld os).forCall (λ_ _=>0) ⟨#[],wit,[]⟩).memory:=
 (LaidIn.of_run (l:=[("math/bits.deBruijn32tab",Rows.laid_math_bits_deBruijn32tab),("math/bits.deBruijn64tab",Rows.laid_math_bits_deBruijn64tab),("internal/strconv.uint64pow10",Rows.laid_internal_strconv_uint64pow10)]) [1,2,3] 8 (by kernel_rfl) (by kernel_rfl) (by kernel_rfl) (by kernel_rfl)).met
theorem witness_row(os:Os){H:Type}(enc:TypeId×Value->H):
 (Rows.OpenSpec.upto Rows.redactCanonicalSpec).preRow enc prog Tryz.f9 Rows.redactCanonicalUptoRow.domain false Rows.redactCanonicalUptoRow.laid ((laidWorld os).forCall (λ_ _=>0) ⟨#[],wit,[]⟩).memory wit:=by
 have hw:(DataW.whole enc prog ((laidWorld os).forCall (λ_ _=>0) ⟨#[],wit,[]⟩).memory Tryz.f9.params.toList (Rows.OpenSpec.upto Rows.redactCanonicalSpec).vars false wit.toList 12).map (λx=>(x.1,x.2.1)) =
  some ([.agg [.nil,.agg [.nil,.agg [li,li,.nil,.nil]],.nil,.agg [.nil,.nil,.nil,.nil]]],[]):=by kernel_rfl
 obtain⟨⟨x1,x2,x3⟩,b,a⟩:=qQ.1 hw;simp only[Prod.mk.injEq]at a;obtain⟨rfl,rfl⟩:=a;exact OpenSpec.preRow_of_cond 12 b (by kernel_rfl) (λk hk=>by cases hk;kernel_rfl) (by kernel_rfl) (laid_met os)
set_option maxRecDepth 100000 in
theorem lifted(os:Os)(a:os.Started)(H:Type)(enc:TypeId×Value->H)(F:Stop.Interp):
 ReturnsInHanded {} Tryz.checked os 9 .any ((Rows.OpenSpec.upto Rows.redactCanonicalSpec).preRow enc prog Tryz.f9 Rows.redactCanonicalUptoRow.domain false Rows.redactCanonicalUptoRow.laid) (((Rows.OpenSpec.upto Rows.redactCanonicalSpec).at F).post enc prog Tryz.f9 false true false false):=by
 refine returnsInHanded_of_row (C:=Tryz.checked) (s:=Rows.OpenSpec.upto Rows.redactCanonicalSpec) own a (by kernel_rfl) func9
  (witness_row_atRef (enc:=enc) (C:=Tryz.checked) false (laidWorld os) wit rfl (by kernel_rfl) (by kernel_rfl) (by kernel_rfl) (witness_row os enc)) ?_
 intro W base args d e before b f _ hk _ _ c _;exact contract H enc W base args d e before b f (hk _ rfl) c
theorem named:Tryz.checked.prog.funcNamed Rows.redactCanonicalUptoRow.func=some 9:=by kernel_rfl
theorem inst:Tryz.f9.isInstance Tryz.checked.prog Rows.redactCanonicalUptoRow.origin Rows.redactCanonicalUptoRow.targs:=of_decide_eq_true (by kernel_rfl)
theorem wrap:Tryz.f9.isWrapper Tryz.checked.prog Rows.redactCanonicalUptoRow.wrapper Rows.redactCanonicalUptoRow.mainSum:=by unfold Func.isWrapper;first|(rw[if_pos (by decide +kernel)];kernel_rfl)|(rw[if_neg (by decide +kernel)];exact⟨rfl,rfl⟩)
theorem holds:Rows.RedactCanonicalUptoSaid:=
 OpenClaim.holds_of_cond 9 Tryz.f9 rfl rfl rfl rfl rfl rfl rfl ⟨rfl,rfl,rfl,rfl,rfl⟩ rfl rfl rfl rfl rfl named func9 facts inst wrap
  (λos a H enc _ F=>by rw[OpenClaim.pre_eq_preRow];exact lifted os a H enc F)
theorem looks:false=prog.looks []:=by kernel_rfl
theorem proved:Rows.RedactCanonicalUptoCardSaid:=
 Claim7.holds_tied_plain_at .later [] [.data,.data,.data] true (true,"ef56d7b56468dc3211ac09fe492ba78587841a53dc1d8aea719d901f9a3fe7d6") false
  holds (λ_ h=>by cases h) (by kernel_rfl) (λ_ h=>by cases h) redactCanonicalUpto_row_tie rfl ⟨rfl,rfl⟩ (by kernel_rfl) rfl
  (λf fn c a=>by
    obtain rfl:f=9:=Option.some.inj (named.symm.trans c) |>.symm;obtain rfl:fn=Tryz.f9:=(Option.some.inj (func9.symm.trans a)).symm;exact⟨looks,λj t ht=>by
     rw[Tryz.params9]at ht;have b:t=38:=by
      rcases j with _|j;simpa using ht.symm;simp at ht
     subst b;exact(show prog.wantsStandIn 38=false by kernel_rfl)⟩)
  (by kernel_rfl)
#print axioms proved
end Go.Proofs.YthinbkgpjmjfeaaGreatDoor.redactCanonical
