/- A part of the proof (part 5 of 15). -/
import Derived.Test.YtgakninlhfkkmaaGreatM4
import Derived.OrdersHeld
import Derived.OrdersIn
import Derived.Shelf.SortM.Plain
import Derived.Shelf.SortM.SortNone
import Derived.Test.YtgakninlhfkkmaaGreatProg
namespace Go.Proofs.YtgakninlhfkkmaaGreat.Sh
abbrev Xn:=@AE.sizedL_of
abbrev Zu:=@AE.sizedL_mem
open Proofs
set_option maxRecDepth 10000
def AE.units (x:AE):Int:=if x.kind=1 then(if CW x.text then C9 x.text x.text.size else 0)else 1
def AE.uerr (x:AE):Int:=if x.kind=1 then(if CW x.text then 0 else 12)else 0
theorem AE.units_le (x:AE) (h:x.text.size<=1048576):0<=x.units/\x.units<=1048576:=by
 unfold AE.units
 have:=HE x.text x.text.size
 split<;>(try split)<;>omega
theorem UN (x:AE) (hs:x.text.size<=1048576):PC 111 [x.enc] (.tup [AA x.units,AA x.uerr]):=by
 intro h n
 refine gq Tryz.func111 rfl λho=>?_
 by_cases h1:x.kind=1
 . simp[go_sem,Yh,AC,h1]
   refine(c177 x.text (by omega)).use ?_
   simp[go_sem]
   exact Au ho (AP ho (Y1 _) AB) (by simp[AE.units,AE.uerr,h1]) rfl
 . simp[go_sem,Yh,AC,h1]
   exact Au ho (AP ho (Y1 _) AB) (by simp[AE.units,AE.uerr,h1]) rfl
def CA:List AE->Int
 | []=>0
 | x::l=>x.units+CA l
def NA (l:List AE):Bool:=l.any λx=>decide (x.uerr≠0)
theorem Gi:∀(a b:List AE),CA (a++b)=CA a+CA b
 | [],b=>by simp[CA]
 | x::a,b=>by simp[CA,Gi a b];omega
theorem IM:∀(l:List AE),(∀x∈l,x.text.size<=1048576)->0<=CA l/\CA l<=l.length*1048576
 | [],_=>by simp[CA]
 | x::l,h=>by
  have h1:=IM l λy hy=>h y (by simp[hy])
  have h2:=x.units_le (h x (by simp))
  simp only[CA,Yy]
  omega
def A5 (l:List AE):Int×Int:=if NA l then(0,12)else(CA l,0)
theorem Sr (l:List AE) (hl:l.length<=1048576) (hs:∀x∈l,x.text.size<=1048576):PC 35 [AG l] (.tup [AA (A5 l).1,AA (A5 l).2]):=by
 intro h n
 refine gq Tryz.func35 rfl λho=>?_
 simp[go_sem]
 refine Am 1 (α:=Nat) (λk=>[(4,AA (CA (l.take k))),(9,AG l),(10,AA l.length),(11,AA k)]) (λ_=>h) (λk m=>k<=l.length/\n<=m/\NA (l.take k)=false) (λk=>l.length-k) 0 ?_ ?_ AB ?_
 . simp[NA]
 . simp[Aj,CA]
 rintro k m ⟨hk,hnm,hf⟩
 by_cases hlt:k<l.length
 . have w1:=wS k (by omega)
   obtain⟨x,hx⟩:∃x,l[k]=x:=⟨_,rfl⟩
   have hxm:x∈l:=by rw[<-hx];exact Yc hlt
   have hxs:=hs x hxm
   have htk:l.take (k+1)=l.take k++[x]:=by rw[Y2 hlt,hx]
   have Ud:=IM (l.take k) λy hy=>hs y (Yw hy)
   have HZ:=x.units_le hxs
   have hlk:((l.take k).length:Int)<=1048576:=by simp;omega
   have w2:IntKind.i64.wrap (CA (l.take k)+x.units)=CA (l.take (k+1)):=by
    rw[DR,htk,Gi]
    . simp[CA]
    . omega
    . have:((l.take k).length:Int)*1048576<=1048576*1048576:=by omega
      omega
   simp[go_sem,hlt,hx,Yh,AC]
   refine Yj (by simpa[Yh]using UN x hxs) ?_
   by_cases he:x.uerr=0
   . simp[go_sem,he,w1,w2,-Int.natCast_add]
     refine⟨k+1,by omega,⟨by omega,by omega,?_⟩,⟨Y0,Y0⟩,by repeat(first|exact AB|refine AP ho (by omega) ?_)⟩
     rw[htk];simp only[NA,List.any_append]at hf ⊢;rw[hf];simp[he]
   . simp[go_sem,he]
     have:NA l=true:=by simp only[NA,List.any_eq_true];exact⟨x,hxm,by simpa using he⟩
     exact Au ho (by repeat(first|exact AB|refine AP ho (by omega) ?_)) (by simp[A5,this]) rfl
 . simp[go_sem,hlt]
   have:k=l.length:=by omega
   subst this
   rw[Ya]at hf ⊢
   exact A3 ho rfl (by simp[A5,hf])
def EI (l:List AE) (a b:Int):Int:=if(A5 l).2=0 then if a<0\/b<a\/(A5 l).1<b then 2 else 0 else(A5 l).2
theorem c250 (l:List AE) (a b:Int) (hl:l.length<=1048576) (hs:∀x∈l,x.text.size<=1048576):PC 250 [AG l,AA a,AA b] (AA (EI l a b)):=by
 intro h n
 refine gq Tryz.func250 rfl λho=>?_
 simp[go_sem]
 refine(Sr l hl hs).use ?_
 by_cases h0:(A5 l).2=0
 . by_cases h1:a<0
   . simp[go_sem,h0,h1];exact A3 ho rfl (by simp[EI,h0,h1])
   . by_cases h2:b<a
     . simp[go_sem,h0,h1,h2];exact A3 ho rfl (by simp[EI,h0,h2])
     . by_cases h3:(A5 l).1<b<;>simp[go_sem,h0,h1,h2,h3]<;>exact A3 ho rfl (by simp[EI,h0,h1,h2,h3])
 . simp[go_sem,h0];exact A3 ho rfl (by simp[EI,h0])
theorem fo193:(Bd Tryz.prog 193).map (λf=>(f.name == "_",f.type,f.offset))=[(false,3,0),(false,3,1)]:=by kernel_rfl
theorem fo166:(Bd Tryz.prog 166).map (λf=>(f.name == "_",f.type,f.offset))=[(false,3,0),(false,3,1)]:=by kernel_rfl
theorem fo164:(Bd Tryz.prog 164).map (λf=>(f.name == "_",f.type,f.offset))=[(false,3,0),(false,3,1),(false,3,2),(false,4,3)]:=by kernel_rfl
theorem eq193 (a b:E8):B9 Tryz.prog [AA a.key,AA a.value] [AA b.key,AA b.value] (Bd Tryz.prog 193)=some (decide (a=b)):=by
 rw[CO,fo193]
 cases a;cases b
 rename_i a1 a2 b1 b2
 by_cases h1:a1=b1<;>by_cases h2:a2=b2<;>simp[Cu,DG,go_sem,h1,h2]
theorem eq166 (a b:BO):B9 Tryz.prog [AA a.rev,AA a.move] [AA b.rev,AA b.move] (Bd Tryz.prog 166)=some (decide (a=b)):=by
 rw[CO,fo166]
 cases a;cases b
 rename_i a1 a2 b1 b2
 by_cases h1:a1=b1<;>by_cases h2:a2=b2<;>simp[Cu,DG,go_sem,h1,h2]
theorem eq164 (a b:Ax):B9 Tryz.prog [AA a.rev,AA a.key,AA a.before,.bool a.had] [AA b.rev,AA b.key,AA b.before,.bool b.had] (Bd Tryz.prog 164)=some (decide (a=b)):=by
 rw[CO,fo164]
 cases a;cases b
 rename_i a1 a2 a3 a4 b1 b2 b3 b4
 by_cases h1:a1=b1<;>by_cases h2:a2=b2<;>by_cases h3:a3=b3<;>by_cases h4:a4=b4<;>simp[Cu,DG,go_sem,h1,h2,h3,h4]
theorem c125 (a b:List E8) (ha:a.length<=1048576) (hb:b.length<=1048576):PC 125 [.imm 2 (a.map E8.enc) false,.imm 2 (b.map E8.enc) false] (.bool (decide (a=b))):=by
 intro h n
 refine gq Tryz.func125 rfl λho=>?_
 by_cases hlen:(a.length:Int)=b.length
 . have hlen':a.length=b.length:=by omega
   simp[go_sem,hlen]
   refine Am 1 (α:=Nat) (λk=>[(0,.imm 2 (a.map E8.enc) false),(1,.imm 2 (b.map E8.enc) false),(12,AA a.length),(13,AA k)]) (λ_=>h) (λk m=>k<=a.length/\n<=m/\a.take k=b.take k) (λk=>a.length-k) 0 ?_ ?_ AB ?_
   . simp
   . simp[Aj,hlen]
   rintro k m ⟨hk,hnm,hf⟩
   by_cases hlt:k<a.length
   . have w1:=wS k (by omega)
     have hlt2:k<b.length:=by omega
     obtain⟨x,hx⟩:∃x,a[k]=x:=⟨_,rfl⟩
     obtain⟨y,hy⟩:∃y,b[k]=y:=⟨_,rfl⟩
     simp[go_sem,hlt,hlt2,hx,hy,E8.enc]
     repeat first|refine nq ?_|refine sq ?_|refine aq ?_
     refine⟨_,DY rfl (.inr rfl) (by kernel_rfl) (by kernel_rfl) (by kernel_rfl) rfl rfl (eq193 x y),?_⟩
     simp[go_sem]
     repeat first|refine nq ?_|refine sq ?_|refine aq ?_
     by_cases he:x=y
     . simp[go_sem,he,w1,-Int.natCast_add]
       exact⟨k+1,by omega,⟨by omega,hnm,by rw[Y2 hlt,Y2 hlt2,hx,hy,hf,he]⟩,Y0⟩
     . simp[go_sem,he]
       have:a≠b:=by rintro rfl;exact he (by rw[<-hx,<-hy])
       exact A3 ho rfl (by simp[this])
   . simp[go_sem,hlt]
     have:a=b:=by rw[Yl (by omega),Yl (by omega)]at hf;exact hf
     exact A3 ho rfl (by simp[this])
 . simp[go_sem,hlen]
   have:a≠b:=by rintro rfl;exact hlen rfl
   exact A3 ho rfl (by simp[this])
theorem c126 (a b:List BO) (ha:a.length<=1048576) (hb:b.length<=1048576):PC 126 [.imm 2 (a.map BO.enc) false,.imm 2 (b.map BO.enc) false] (.bool (decide (a=b))):=by
 intro h n
 refine gq Tryz.func126 rfl λho=>?_
 by_cases hlen:(a.length:Int)=b.length
 . have hlen':a.length=b.length:=by omega
   simp[go_sem,hlen]
   refine Am 1 (α:=Nat) (λk=>[(0,.imm 2 (a.map BO.enc) false),(1,.imm 2 (b.map BO.enc) false),(12,AA a.length),(13,AA k)]) (λ_=>h) (λk m=>k<=a.length/\n<=m/\a.take k=b.take k) (λk=>a.length-k) 0 ?_ ?_ AB ?_
   . simp
   . simp[Aj,hlen]
   rintro k m ⟨hk,hnm,hf⟩
   by_cases hlt:k<a.length
   . have w1:=wS k (by omega)
     have hlt2:k<b.length:=by omega
     obtain⟨x,hx⟩:∃x,a[k]=x:=⟨_,rfl⟩
     obtain⟨y,hy⟩:∃y,b[k]=y:=⟨_,rfl⟩
     simp[go_sem,hlt,hlt2,hx,hy,BO.enc]
     repeat first|refine nq ?_|refine sq ?_|refine aq ?_
     refine⟨_,DY rfl (.inr rfl) (by kernel_rfl) (by kernel_rfl) (by kernel_rfl) rfl rfl (eq166 x y),?_⟩
     simp[go_sem]
     repeat first|refine nq ?_|refine sq ?_|refine aq ?_
     by_cases he:x=y
     . simp[go_sem,he,w1,-Int.natCast_add]
       exact⟨k+1,by omega,⟨by omega,hnm,by rw[Y2 hlt,Y2 hlt2,hx,hy,hf,he]⟩,Y0⟩
     . simp[go_sem,he]
       have:a≠b:=by rintro rfl;exact he (by rw[<-hx,<-hy])
       exact A3 ho rfl (by simp[this])
   . simp[go_sem,hlt]
     have:a=b:=by rw[Yl (by omega),Yl (by omega)]at hf;exact hf
     exact A3 ho rfl (by simp[this])
 . simp[go_sem,hlen]
   have:a≠b:=by rintro rfl;exact hlen rfl
   exact A3 ho rfl (by simp[this])
theorem c127 (a b:List Ax) (ha:a.length<=1048576) (hb:b.length<=1048576):PC 127 [.imm 4 (a.map Ax.enc) false,.imm 4 (b.map Ax.enc) false] (.bool (decide (a=b))):=by
 intro h n
 refine gq Tryz.func127 rfl λho=>?_
 by_cases hlen:(a.length:Int)=b.length
 . have hlen':a.length=b.length:=by omega
   simp[go_sem,hlen]
   refine Am 1 (α:=Nat) (λk=>[(0,.imm 4 (a.map Ax.enc) false),(1,.imm 4 (b.map Ax.enc) false),(12,AA a.length),(13,AA k)]) (λ_=>h) (λk m=>k<=a.length/\n<=m/\a.take k=b.take k) (λk=>a.length-k) 0 ?_ ?_ AB ?_
   . simp
   . simp[Aj,hlen]
   rintro k m ⟨hk,hnm,hf⟩
   by_cases hlt:k<a.length
   . have w1:=wS k (by omega)
     have hlt2:k<b.length:=by omega
     obtain⟨x,hx⟩:∃x,a[k]=x:=⟨_,rfl⟩
     obtain⟨y,hy⟩:∃y,b[k]=y:=⟨_,rfl⟩
     simp[go_sem,hlt,hlt2,hx,hy,Ax.enc]
     repeat first|refine nq ?_|refine sq ?_|refine aq ?_
     refine⟨_,DY rfl (.inr rfl) (by kernel_rfl) (by kernel_rfl) (by kernel_rfl) rfl rfl (eq164 x y),?_⟩
     simp[go_sem]
     repeat first|refine nq ?_|refine sq ?_|refine aq ?_
     by_cases he:x=y
     . simp[go_sem,he,w1,-Int.natCast_add]
       exact⟨k+1,by omega,⟨by omega,hnm,by rw[Y2 hlt,Y2 hlt2,hx,hy,hf,he]⟩,Y0⟩
     . simp[go_sem,he]
       have:a≠b:=by rintro rfl;exact he (by rw[<-hx,<-hy])
       exact A3 ho rfl (by simp[this])
   . simp[go_sem,hlt]
     have:a=b:=by rw[Yl (by omega),Yl (by omega)]at hf;exact hf
     exact A3 ho rfl (by simp[this])
 . simp[go_sem,hlen]
   have:a≠b:=by rintro rfl;exact hlen rfl
   exact A3 ho rfl (by simp[this])
theorem c58 (a b:AF) (ha:a.sized) (hb:b.sized):PC 58 [a.enc,b.enc] (.bool (decide (a=b))):=by
 intro h n
 refine gq Tryz.func58 rfl λho=>?_
 have hh:∀y z,∀o x,h o=some x->hset (hset h n y) (n+1) z o=some x:=λy z=>by repeat(first|exact AB|refine AP ho (by omega) ?_)
 simp[go_sem,AF.enc,AF.flat,AC,AD]
 refine(c125 _ _ ha.props hb.props).use ?_
 by_cases h1:a.props=b.props
 . by_cases h2:a.ins=b.ins
   . by_cases h3:a.move=b.move
     . simp[go_sem,h1,h2,h3,AC,AD]
       refine(c126 _ _ ha.dels hb.dels).use ?_
       by_cases h4:a.dels=b.dels
       . simp[go_sem,h4,AC,AD]
         refine(c127 _ _ ha.layers hb.layers).use ?_
         simp[go_sem]
         refine Au ho (hh _ _) ?_ rfl
         cases a;cases b;simp at h1 h2 h3 h4;simp[h1,h2,h3,h4]
       . simp[go_sem,h4]
         refine Au ho (hh _ _) ?_ rfl
         have:a≠b:=by rintro rfl;exact h4 rfl
         simp[this]
     . simp[go_sem,h1,h2,h3,AC,AD]
       refine Au ho (hh _ _) ?_ rfl
       have:a≠b:=by rintro rfl;exact h3 rfl
       simp[this]
   . simp[go_sem,h1,h2,AC,AD]
     refine Au ho (hh _ _) ?_ rfl
     have:a≠b:=by rintro rfl;exact h2 rfl
     simp[this]
 . simp[go_sem,h1]
   refine Au ho (hh _ _) ?_ rfl
   have:a≠b:=by rintro rfl;exact h1 rfl
   simp[this]
theorem Hk {p:Nat->Bool} {n k:Nat} (e:BR p n k = -1):∀i,k<=i->i<n->p i=false:=by
 intro i hk hi
 rw[BR]at e
 rw[dif_pos (by omega)]at e
 by_cases hp:p k=true
 . rw[if_pos hp]at e;omega
 . rw[if_neg hp]at e
   by_cases h:i=k
   . subst h;simpa using hp
   . exact Hk e i (by omega) hi
termination_by n-k
theorem Hl {p:Nat->Bool} {n k i0:Nat} (e:BR p n k=i0):∀i,k<=i->i<i0->p i=false:=by
 intro i hk hi
 rw[BR]at e
 split at e
 . by_cases hp:p k=true
   . rw[if_pos hp]at e;omega
   . rw[if_neg hp]at e
     by_cases h:i=k
     . subst h;simpa using hp
     . exact Hl e i (by omega) hi
 . omega
termination_by n-k
def Bm {α:Type} (p:α->Bool) (l:List α) (i:Nat):List α:=((l.take i).filter λx=>!p x)++l.drop ((l.take i).filter λx=>!p x).length
theorem d133 (l:List AW) (hl:l.length<=1048576) (g:FuncId) (a b:List SV) (p:AW->Bool) (hp:∀x∈l,PC g (a++[x.enc]++b) (.bool (p x))) {H:Hp} {n o:Nat} {full:Bool} (hH:H o=some (.cells ((l.map AW.enc).flatMap SV.cells))):
 BM Tryz.prog 133 [.sl o 0 6 l.length full,.fn (.func g) a b] H n (λv h' n'=>v=.imm 6 ((l.filter λx=>!p x).map AW.enc) false/\h'=hset H o none/\n'=n):=by
 refine gq Tryz.func133 rfl λho=>?_
 have hon:o<n:=(ho o _ hH).1
 have hI:=c193 l hl g a b (λi=>match l[i]? with|some x=>p x|none=>false) (λi hi=>by simpa[hi]using hp l[i] (Yc hi))
 have fin:∀(kp:List AW) (h':Hp) (n':Nat) (cs:List SV) (f2:Bool),(l.filter λx=>!p x)=kp->(∀j y,j≠o->H j=some y->h' j=some y)->h' o=some (.cells cs)->kp.length*6<=cs.length->cs.take (kp.length*6)=(kp.map AW.enc).flatMap SV.cells->
  Bz n h' n' (.sl o 0 6 kp.length f2) (λv h' n'=>v=.imm 6 ((l.filter λx=>!p x).map AW.enc) false/\h'=hset H o none/\n'=n):=λkp h' n' cs f2 hk hh hc h1 h2=>by
  refine .inr ⟨1,.imm 6 (kp.map AW.enc) false,hset H o none,.inr ⟨AC _ _ _,by simp,by simp,rfl,cs,(kp.map AW.enc).flatMap SV.cells,hc,by simp[Bk,h1,h2],AW.E.size kp,?_⟩,AW.E.imm _ _ _ _,λj y e=>?_,by rw[hk],rfl,rfl⟩
  . have:∀l:List SV,AZ (Fz h' (hset H o none) 0) l l:=by
     intro l;induction l with
     | nil=>trivial
     | cons a l ih=>exact⟨Y0,ih⟩
    exact this _
  . by_cases e1:j=o
    . subst e1;rw[AC]at e;cases e
    . rw[AD _ _ e1]at e;exact⟨hh j y e1 e,ho j y e⟩
 simp[go_sem]
 refine hI.lend 2 rfl ⟨?_,Y0,trivial⟩ ?_
 . have:=Dj (h':=H) (h:=λ_=>none) (k:=1) (z:=6) (es:=l.map AW.enc) (full:=full) (full':=false) (o:=o) rfl (by simp) hH (AW.E.size l)
   rw[Y5]at this;exact this
 rcases Fm (λi=>match l[i]? with|some x=>p x|none=>false) l.length 0 with e|⟨i0,_,hi0,e,hpi⟩
 . simp[go_sem,e]
   have hall:(l.filter λx=>!p x)=l:=Zd.2 λx hx=>by
    obtain⟨i,hi,rfl⟩:=ZA hx
    have:=Hk e i (Y4 _) hi
    simpa[hi]using this
   exact fin l H n _ full hall (λj y _ e=>e) hH (by rw[BE (AW.E.size l),Y5];exact Y1 _) (Yl (by rw[BE (AW.E.size l),Y5];exact Y1 _))
 . have w0:=wS i0 (by omega)
   have ne1:¬((i0:Int) = -1):=by omega
   simp[go_sem,e,w0,ne1,-Int.natCast_add]
   have hpi':p l[i0]=true:=by simpa[hi0]using hpi
   have hbefore:(l.take i0).filter (λx=>!p x)=l.take i0:=Zd.2 λx hx=>by
    obtain⟨i,hi,rfl⟩:=ZA hx
    have hi2:i<i0:=by simp at hi;omega
    have:=Hl e i (Y4 _) hi2
    simpa[show i<l.length by omega]using this
   refine Am 1 (α:=Nat) (λi=>[(0,.sl o 0 6 l.length full),(1,.fn (.func g) a b),(5,AA ((l.take i).filter λx=>!p x).length),(6,AA i)]) (λi=>hset H o (some (.cells (((Bm p l i).map AW.enc).flatMap SV.cells))))
    (λi m=>i0<i/\i<=l.length/\n<=m) (λi=>l.length-i) (i0+1) ?_ ?_ ?_ ?_
   . exact⟨YD _,hi0,Y1 _⟩
   . have:((l.take (i0+1)).filter λx=>!p x).length=i0:=by
      rw[Y2 hi0,YV,hbefore];simp[hpi'];omega
     simp[Aj,this,-Int.natCast_add]
   . have:Bm p l (i0+1)=l:=by
      unfold Bm
      rw[Y2 hi0,YV,hbefore];simp[hpi',Zz (ZG hi0)]
     rw[this]
     intro j y e
     simp only[hset]at e
     split at e
     . rename_i h;subst h;rw[hH];exact e
     . exact e
   rintro i m ⟨hi1,hi2,hnm⟩
   have hkl:((l.take i).filter λx=>!p x).length<i:=by
    have h1:l.take i=l.take (i0+1)++(l.drop (i0+1)).take (i-(i0+1)):=by
     rw[<-List.take_add];congr 1;omega
    have h2:((l.take (i0+1)).filter λx=>!p x).length=i0:=by
     rw[Y2 hi0,YV,hbefore];simp[hpi'];omega
    rw[h1,YV,Ym,h2]
    have:=Ze (λx=>!p x) ((l.drop (i0+1)).take (i-(i0+1)))
    simp at this ⊢;omega
   have hkeep:(Bm p l i).length=l.length:=by unfold Bm;simp;omega
   generalize hkp:(l.take i).filter (λx=>!p x)=kp at hkl ⊢
   have hne:o≠m:=by omega
   have hsz:=AW.E.size (Bm p l i)
   by_cases hlt:i<l.length
   . have w1:=wS i (by omega)
     have w2:IntKind.i64.wrap ((kp.length:Int)+1)=((kp.length+1:Nat):Int):=by rw[DR]<;>omega
     obtain⟨x,hx⟩:∃x,l[i]=x:=⟨_,rfl⟩
     have hget:(Bm p l i)[i]? = some x:=by
      unfold Bm;rw[hkp,YR (by omega),YM]
      have:kp.length+(i-kp.length)=i:=by omega
      rw[this,Yr hlt,hx]
     obtain⟨g1,g2⟩:=K6 hsz (i:=i) (e:=x.enc) (by simp[hget])
     have hset':=OO hsz (j:=kp.length) (e:=x.enc) (by simp[hkeep];omega)
     have g3:kp.length*6+6<=(((Bm p l i).map AW.enc).flatMap SV.cells).length:=by
      rw[BE hsz,Y5,hkeep];omega
     have hcl:=AW.E.len x
     generalize hF:((Bm p l i).map AW.enc).flatMap SV.cells=F at g1 g2 g3 hset' ⊢
     have H1:=hp x (by rw[<-hx];exact Yc hlt)
     simp only[Ye,Yq,Yt]at H1
     have hpre:=AW.E.st x
     simp[YB,SV.cells]at g2
     simp[go_sem,hlt,AC,g1,g2]
     refine Yj (by simpa[YB]using H1) ?_
     by_cases hpx:p x=true
     . simp[go_sem,hpx,w1,-Int.natCast_add]
       have hk1:(l.take (i+1)).filter (λx=>!p x)=kp:=by rw[Y2 hlt,YV,hkp,hx];simp[hpx]
       have hk2:Bm p l (i+1)=Bm p l i:=by unfold Bm;rw[hk1,hkp]
       refine⟨i+1,by omega,⟨by omega,by omega,by omega⟩,⟨by rw[hk1];exact Y0,Y0⟩,λj y e=>?_⟩
       rw[hk2,hF]at e
       by_cases e1:j=o
       . subst e1;rw[AC]at e;rw[AD _ _ hne,AD _ _ hne,AC];exact e
       . rw[AD _ _ e1]at e;have:=(ho j y e).1;rw[AD _ _ (by omega),AD _ _ (by omega),AD _ _ e1];exact e
     . have hpx':p x=false:=by simpa using hpx
       have hkl':(kp.length:Int)<l.length:=by omega
       simp[YB,SV.cells]at hset'
       simp[go_sem,hpx',AC,AD,hne,hkl',g3,hset',w1,w2,-Int.natCast_add]
       have hk1:(l.take (i+1)).filter (λx=>!p x)=kp++[x]:=by rw[Y2 hlt,YV,hkp,hx];simp[hpx']
       have hk2:(Bm p l (i+1)).map AW.enc=((Bm p l i).map AW.enc).set kp.length x.enc:=by
        have:Bm p l (i+1)=(Bm p l i).set kp.length x:=by
         unfold Bm;rw[hk1,hkp,ZP _ _ (Y1 _),Nat.sub_self]
         simp
         rw[YA (show kp.length<l.length by omega),List.set_cons_zero]
        rw[this,List.map_set]
       rw[YB]at hk2
       refine⟨i+1,by omega,⟨by omega,by omega,by omega⟩,⟨by rw[hk1,Ym];exact Y0,Y0⟩,λj y e=>?_⟩
       rw[hk2]at e
       by_cases e1:j=o
       . subst e1;rw[AC]at e ⊢;exact e
       . rw[AD _ _ e1]at e ⊢;have:=(ho j y e).1;rw[AD _ _ (by omega),AD _ _ (by omega),AD _ _ e1];exact e
   . have:i=l.length:=by omega
     subst this
     have q1:kp.length<=l.length:=by omega
     have q2:¬((kp.length:Int)=l.length):=by omega
     have q3:¬(l.length-kp.length=0):=by omega
     rw[Ya]at hkp
     have hF:((Bm p l l.length).map AW.enc).flatMap SV.cells=(kp.map AW.enc).flatMap SV.cells++((l.drop kp.length).map AW.enc).flatMap SV.cells:=by unfold Bm;rw[Ya,hkp];simp
     have hlk:((kp.map AW.enc).flatMap SV.cells).length=kp.length*6:=by rw[BE (AW.E.size kp),Y5]
     have hFl:(((Bm p l l.length).map AW.enc).flatMap SV.cells).length=l.length*6:=by rw[BE hsz,Y5,hkeep]
     have q4:kp.length*6+(l.length-kp.length)*6<=(((Bm p l l.length).map AW.enc).flatMap SV.cells).length:=by rw[hFl,<-Zg];apply Za;omega
     have htk:(((Bm p l l.length).map AW.enc).flatMap SV.cells).take (kp.length*6)=(kp.map AW.enc).flatMap SV.cells:=by rw[hF,<-hlk,List.take_left]
     generalize((Bm p l l.length).map AW.enc).flatMap SV.cells=F at q4 htk ⊢
     simp[go_sem,AC,q1,q2,q3,q4]
     refine fin kp _ _ _ _ hkp (λj y hj e=>by rw[AD _ _ hj,AD _ _ hj];exact e) (AC _ _ _) ?_ ?_
     . rw[htk,Ym,hlk];omega
     . rw[htk,<-hlk,List.take_left]
theorem d75 (l:List BD) (hl:l.length<=1048576) (g:FuncId) (a b:List SV) (p:BD->Bool) (hp:∀x∈l,PC g (a++[x.enc]++b) (.bool (p x))) {H:Hp} {n o:Nat} {full:Bool} (hH:H o=some (.cells ((l.map BD.enc).flatMap SV.cells))):
 BM Tryz.prog 75 [.sl o 0 3 l.length full,.fn (.func g) a b] H n (λv h' n'=>v=.imm 3 ((l.filter λx=>!p x).map BD.enc) false/\h'=hset H o none/\n'=n):=by
 refine gq Tryz.func75 rfl λho=>?_
 have hon:o<n:=(ho o _ hH).1
 have hI:=c141 l hl g a b (λi=>match l[i]? with|some x=>p x|none=>false) (λi hi=>by simpa[hi]using hp l[i] (Yc hi))
 have fin:∀(kp:List BD) (h':Hp) (n':Nat) (cs:List SV) (f2:Bool),(l.filter λx=>!p x)=kp->(∀j y,j≠o->H j=some y->h' j=some y)->h' o=some (.cells cs)->kp.length*3<=cs.length->cs.take (kp.length*3)=(kp.map BD.enc).flatMap SV.cells->
  Bz n h' n' (.sl o 0 3 kp.length f2) (λv h' n'=>v=.imm 3 ((l.filter λx=>!p x).map BD.enc) false/\h'=hset H o none/\n'=n):=λkp h' n' cs f2 hk hh hc h1 h2=>by
  refine .inr ⟨1,.imm 3 (kp.map BD.enc) false,hset H o none,.inr ⟨AC _ _ _,by simp,by simp,rfl,cs,(kp.map BD.enc).flatMap SV.cells,hc,by simp[Bk,h1,h2],BD.E.size kp,?_⟩,BD.E.imm _ _ _ _,λj y e=>?_,by rw[hk],rfl,rfl⟩
  . have:∀l:List SV,AZ (Fz h' (hset H o none) 0) l l:=by
     intro l;induction l with
     | nil=>trivial
     | cons a l ih=>exact⟨Y0,ih⟩
    exact this _
  . by_cases e1:j=o
    . subst e1;rw[AC]at e;cases e
    . rw[AD _ _ e1]at e;exact⟨hh j y e1 e,ho j y e⟩
 simp[go_sem]
 refine hI.lend 2 rfl ⟨?_,Y0,trivial⟩ ?_
 . have:=Dj (h':=H) (h:=λ_=>none) (k:=1) (z:=3) (es:=l.map BD.enc) (full:=full) (full':=false) (o:=o) rfl (by simp) hH (BD.E.size l)
   rw[Y5]at this;exact this
 rcases Fm (λi=>match l[i]? with|some x=>p x|none=>false) l.length 0 with e|⟨i0,_,hi0,e,hpi⟩
 . simp[go_sem,e]
   have hall:(l.filter λx=>!p x)=l:=Zd.2 λx hx=>by
    obtain⟨i,hi,rfl⟩:=ZA hx
    have:=Hk e i (Y4 _) hi
    simpa[hi]using this
   exact fin l H n _ full hall (λj y _ e=>e) hH (by rw[BE (BD.E.size l),Y5];exact Y1 _) (Yl (by rw[BE (BD.E.size l),Y5];exact Y1 _))
 . have w0:=wS i0 (by omega)
   have ne1:¬((i0:Int) = -1):=by omega
   simp[go_sem,e,w0,ne1,-Int.natCast_add]
   have hpi':p l[i0]=true:=by simpa[hi0]using hpi
   have hbefore:(l.take i0).filter (λx=>!p x)=l.take i0:=Zd.2 λx hx=>by
    obtain⟨i,hi,rfl⟩:=ZA hx
    have hi2:i<i0:=by simp at hi;omega
    have:=Hl e i (Y4 _) hi2
    simpa[show i<l.length by omega]using this
   refine Am 1 (α:=Nat) (λi=>[(0,.sl o 0 3 l.length full),(1,.fn (.func g) a b),(5,AA ((l.take i).filter λx=>!p x).length),(6,AA i)]) (λi=>hset H o (some (.cells (((Bm p l i).map BD.enc).flatMap SV.cells))))
    (λi m=>i0<i/\i<=l.length/\n<=m) (λi=>l.length-i) (i0+1) ?_ ?_ ?_ ?_
   . exact⟨YD _,hi0,Y1 _⟩
   . have:((l.take (i0+1)).filter λx=>!p x).length=i0:=by
      rw[Y2 hi0,YV,hbefore];simp[hpi'];omega
     simp[Aj,this,-Int.natCast_add]
   . have:Bm p l (i0+1)=l:=by
      unfold Bm
      rw[Y2 hi0,YV,hbefore];simp[hpi',Zz (ZG hi0)]
     rw[this]
     intro j y e
     simp only[hset]at e
     split at e
     . rename_i h;subst h;rw[hH];exact e
     . exact e
   rintro i m ⟨hi1,hi2,hnm⟩
   have hkl:((l.take i).filter λx=>!p x).length<i:=by
    have h1:l.take i=l.take (i0+1)++(l.drop (i0+1)).take (i-(i0+1)):=by
     rw[<-List.take_add];congr 1;omega
    have h2:((l.take (i0+1)).filter λx=>!p x).length=i0:=by
     rw[Y2 hi0,YV,hbefore];simp[hpi'];omega
    rw[h1,YV,Ym,h2]
    have:=Ze (λx=>!p x) ((l.drop (i0+1)).take (i-(i0+1)))
    simp at this ⊢;omega
   have hkeep:(Bm p l i).length=l.length:=by unfold Bm;simp;omega
   generalize hkp:(l.take i).filter (λx=>!p x)=kp at hkl ⊢
   have hne:o≠m:=by omega
   have hsz:=BD.E.size (Bm p l i)
   by_cases hlt:i<l.length
   . have w1:=wS i (by omega)
     have w2:IntKind.i64.wrap ((kp.length:Int)+1)=((kp.length+1:Nat):Int):=by rw[DR]<;>omega
     obtain⟨x,hx⟩:∃x,l[i]=x:=⟨_,rfl⟩
     have hget:(Bm p l i)[i]? = some x:=by
      unfold Bm;rw[hkp,YR (by omega),YM]
      have:kp.length+(i-kp.length)=i:=by omega
      rw[this,Yr hlt,hx]
     obtain⟨g1,g2⟩:=K6 hsz (i:=i) (e:=x.enc) (by simp[hget])
     have hset':=OO hsz (j:=kp.length) (e:=x.enc) (by simp[hkeep];omega)
     have g3:kp.length*3+3<=(((Bm p l i).map BD.enc).flatMap SV.cells).length:=by
      rw[BE hsz,Y5,hkeep];omega
     have hcl:=BD.E.len x
     generalize hF:((Bm p l i).map BD.enc).flatMap SV.cells=F at g1 g2 g3 hset' ⊢
     have H1:=hp x (by rw[<-hx];exact Yc hlt)
     simp only[Ye,Yq,Yt]at H1
     have hpre:=BD.E.st x
     simp[BD.enc,SV.cells]at g2
     simp[go_sem,hlt,AC,g1,g2]
     refine Yj (by simpa[BD.enc]using H1) ?_
     by_cases hpx:p x=true
     . simp[go_sem,hpx,w1,-Int.natCast_add]
       have hk1:(l.take (i+1)).filter (λx=>!p x)=kp:=by rw[Y2 hlt,YV,hkp,hx];simp[hpx]
       have hk2:Bm p l (i+1)=Bm p l i:=by unfold Bm;rw[hk1,hkp]
       refine⟨i+1,by omega,⟨by omega,by omega,by omega⟩,⟨by rw[hk1];exact Y0,Y0⟩,λj y e=>?_⟩
       rw[hk2,hF]at e
       by_cases e1:j=o
       . subst e1;rw[AC]at e;rw[AD _ _ hne,AD _ _ hne,AC];exact e
       . rw[AD _ _ e1]at e;have:=(ho j y e).1;rw[AD _ _ (by omega),AD _ _ (by omega),AD _ _ e1];exact e
     . have hpx':p x=false:=by simpa using hpx
       have hkl':(kp.length:Int)<l.length:=by omega
       simp[BD.enc,SV.cells]at hset'
       simp[go_sem,hpx',AC,AD,hne,hkl',g3,hset',w1,w2,-Int.natCast_add]
       have hk1:(l.take (i+1)).filter (λx=>!p x)=kp++[x]:=by rw[Y2 hlt,YV,hkp,hx];simp[hpx']
       have hk2:(Bm p l (i+1)).map BD.enc=((Bm p l i).map BD.enc).set kp.length x.enc:=by
        have:Bm p l (i+1)=(Bm p l i).set kp.length x:=by
         unfold Bm;rw[hk1,hkp,ZP _ _ (Y1 _),Nat.sub_self]
         simp
         rw[YA (show kp.length<l.length by omega),List.set_cons_zero]
        rw[this,List.map_set]
       rw[BD.enc]at hk2
       refine⟨i+1,by omega,⟨by omega,by omega,by omega⟩,⟨by rw[hk1,Ym];exact Y0,Y0⟩,λj y e=>?_⟩
       rw[hk2]at e
       by_cases e1:j=o
       . subst e1;rw[AC]at e ⊢;exact e
       . rw[AD _ _ e1]at e ⊢;have:=(ho j y e).1;rw[AD _ _ (by omega),AD _ _ (by omega),AD _ _ e1];exact e
   . have:i=l.length:=by omega
     subst this
     have q1:kp.length<=l.length:=by omega
     have q2:¬((kp.length:Int)=l.length):=by omega
     have q3:¬(l.length-kp.length=0):=by omega
     rw[Ya]at hkp
     have hF:((Bm p l l.length).map BD.enc).flatMap SV.cells=(kp.map BD.enc).flatMap SV.cells++((l.drop kp.length).map BD.enc).flatMap SV.cells:=by unfold Bm;rw[Ya,hkp];simp
     have hlk:((kp.map BD.enc).flatMap SV.cells).length=kp.length*3:=by rw[BE (BD.E.size kp),Y5]
     have hFl:(((Bm p l l.length).map BD.enc).flatMap SV.cells).length=l.length*3:=by rw[BE hsz,Y5,hkeep]
     have q4:kp.length*3+(l.length-kp.length)*3<=(((Bm p l l.length).map BD.enc).flatMap SV.cells).length:=by rw[hFl,<-Zg];apply Za;omega
     have htk:(((Bm p l l.length).map BD.enc).flatMap SV.cells).take (kp.length*3)=(kp.map BD.enc).flatMap SV.cells:=by rw[hF,<-hlk,List.take_left]
     generalize((Bm p l l.length).map BD.enc).flatMap SV.cells=F at q4 htk ⊢
     simp[go_sem,AC,q1,q2,q3,q4]
     refine fin kp _ _ _ _ hkp (λj y hj e=>by rw[AD _ _ hj,AD _ _ hj];exact e) (AC _ _ _) ?_ ?_
     . rw[htk,Ym,hlk];omega
     . rw[htk,<-hlk,List.take_left]
def AE.addText (y:AE) (t:ByteArray):AE:=.mk y.kind y.code y.id (y.text++t) y.head y.flow y.rows
def Co (x:AE):Prop:=(x.kind=7/\x.rows=[])\/(x.kind=1/\x.text.size=0)
instance (x:AE):Decidable (Co x):=by unfold Co;cases h:x.rows<;>simp<;>infer_instance
def BC (out:List AE) (x:AE):List AE:=
 if Co x then out else match out.getLast? with
  | some y=>if x.kind=1/\y.kind=1/\y.head=x.head then out.dropLast++[y.addText x.text]else out++[x]
  | none=>out++[x]
def Dy (l:List AE):List AE:=l.foldl BC []
mutual
def AE.nrm:AE->AE
 | .mk k c i t h f r=>.mk k c i t h (Dy (AE.nrmL f)) ((AW.nrmL r).filter λr=>!decide (r.cells.length=0))
def AE.nrmL:List AE->List AE
 | []=>[]
 | x::l=>AE.nrm x::AE.nrmL l
def AW.nrm:AW->AW
 | .mk h c=>.mk h (AL.nrmL c)
def AW.nrmL:List AW->List AW
 | []=>[]
 | x::l=>AW.nrm x::AW.nrmL l
def AL.nrm:AL->AL
 | .mk i h f=>.mk i h (Dy (AE.nrmL f))
def AL.nrmL:List AL->List AL
 | []=>[]
 | x::l=>AL.nrm x::AL.nrmL l
end
theorem AE.nrmL_eq:∀l:List AE,AE.nrmL l=l.map AE.nrm
 | []=>by rw[AE.nrmL];rfl
 | x::l=>by rw[AE.nrmL,AE.nrmL_eq l];rfl
theorem AW.nrmL_eq:∀l:List AW,AW.nrmL l=l.map AW.nrm
 | []=>by rw[AW.nrmL];rfl
 | x::l=>by rw[AW.nrmL,AW.nrmL_eq l];rfl
theorem AL.nrmL_eq:∀l:List AL,AL.nrmL l=l.map AL.nrm
 | []=>by rw[AL.nrmL];rfl
 | x::l=>by rw[AL.nrmL,AL.nrmL_eq l];rfl
def An (l:List AE):List AE:=Dy (AE.nrmL l)
theorem c133n (z:Nat) (full:Bool):PC 133 [.imm z [] full,.fn (.func 136) [] []] (.imm 6 [] false):=by
 intro h n
 refine gq Tryz.func133 rfl λho=>?_
 simp[go_sem]
 have hI:=(c193 [] (by simp) 136 [] [] (λ_=>false) (by simp)).wk (us:=[.imm z [] full,.fn (.func 136) [] []]) 1 ⟨A9 (by simp),Y0,trivial⟩
 refine Yj hI ?_
 have e:BR (λ_=>false) 0 0 = -1:=by rw[BR];simp
 simp[go_sem,e]
 exact JL ho AB (by simp) rfl
theorem c136 (r:AW):PC 136 [r.enc] (.bool (decide (r.cells.length=0))):=by
 intro h n
 refine gq Tryz.func136 rfl λho=>?_
 simp[go_sem,YB,AC]
 exact Au ho (AP ho (Y1 _) AB) (by cases r.cells<;>simp;omega) rfl
theorem SX {E:Br} (l:List AW) (hl:l.length<=1048576) (H:∀(i:Nat) (h:i<l.length),PC 135 [(l[i]).enc] (AW.nrm l[i]).enc) {h:Hp} {n:Nat} {K:SV->Hp->Nat->Prop}
 (hk:∀v h' n',n<=n'->(∀o x,h o=some x->h' o=some x)->Ak E Tryz.prog 133 [v,.fn (.func 136) [] []] h' n' (λv2 h2 n2=>(∀o x,o<n->h o=some x->h2 o=some x)/\n<=n2/\v2=.imm 6 (((l.map AW.nrm).filter λr=>!decide (r.cells.length=0)).map AW.enc) false)->K v h' n'):
 Ak E Tryz.prog 134 [Av l,.fn (.func 135) [] []] h n K:=by
 refine(l134 l hl 135 [] [] AW.nrm (λi hi=>H i hi)).use λv h' n' ⟨hn,hh,hv⟩=>hk v h' n' hn hh ?_
 rcases hv with⟨he,z',full,rfl⟩|⟨o,full,h1,h2,rfl,h3⟩
 . refine Yj (c133n z' full) ⟨λo x _ e=>hh o x e,hn,?_⟩
   have:l.map AW.nrm=[]:=by simpa using he
   rw[this];rfl
 . rw[Y5]
   refine Ak.lift ((d133 (l.map AW.nrm) (by simpa using hl) 136 [] [] (λr=>decide (r.cells.length=0)) (λr _=>c136 r) (n:=n') (full:=full) h3).mono ?_)
   rintro v2 h2 n2 ⟨rfl,rfl,rfl⟩
   exact⟨λj x g e=>by rw[AD _ _ (by omega)];exact hh j x e,hn,rfl⟩
theorem AE.nrm_fields (x:AE):x.nrm.kind=x.kind/\x.nrm.code=x.code/\x.nrm.id=x.id/\x.nrm.text=x.text/\x.nrm.head=x.head/\x.nrm.flow=An x.flow/\x.nrm.rows=(x.rows.map AW.nrm).filter λr=>!decide (r.cells.length=0):=by
 cases x;rw[AE.nrm];simp[AE.kind,AE.code,AE.id,AE.text,AE.head,AE.flow,AE.rows,An,AW.nrmL_eq]
theorem Ih (l:List AE) (k:Nat) (h:k<l.length):Dy (AE.nrmL (l.take (k+1)))=BC (Dy (AE.nrmL (l.take k))) l[k].nrm:=by
 rw[Y2 h,AE.nrmL_eq,Y3,Dy,Zw,AE.nrmL_eq];rfl
theorem JH (out:List AE) (x:AE):(BC out x).length<=out.length+1:=by
 unfold BC
 split
 . omega
 . split
   . split<;>simp
   . simp
theorem Ma (l:List AE):∀k,k<=l.length->(Dy (AE.nrmL (l.take k))).length<=k
 | 0,_=>by simp[AE.nrmL,Dy]
 | k+1,h=>by
  rw[Ih l k h]
  have:=JH (Dy (AE.nrmL (l.take k))) l[k].nrm
  have:=Ma l k (by omega)
  omega
theorem JI {out:List AE} {x y:AE} (h:y∈BC out x):y∈out\/y=x\/∃z∈out,y=z.addText x.text:=by
 unfold BC at h
 split at h
 . exact .inl h
 . split at h
   . rename_i z hz
     split at h
     . rcases Y8.1 h with h|h
       . exact .inl ((List.dropLast_sublist out).subset h)
       . exact .inr (.inr ⟨z,List.mem_of_getLast? hz,Yk.1 h⟩)
     . rcases Y8.1 h with h|h
       . exact .inl h
       . exact .inr (.inl (Yk.1 h))
   . rcases Y8.1 h with h|h
     . exact .inl h
     . exact .inr (.inl (Yk.1 h))
theorem Jg (l:List AE) (hs:∀x∈l,x.head.sized/\x.text.size<=1048576):∀k,k<=l.length->∀y∈Dy (AE.nrmL (l.take k)),y.head.sized/\y.text.size<=k*1048576
 | 0,_,y,hy=>by simp[AE.nrmL,Dy]at hy
 | k+1,h,y,hy=>by
  rw[Ih l k h]at hy
  have hx:=hs l[k] (Yc h)
  obtain⟨_,_,_,f4,f5,_,_⟩:=(l[k]).nrm_fields
  rcases JI hy with h1|rfl|⟨z,hz,rfl⟩
  . have:=Jg l hs k (by omega) y h1
    exact⟨this.1,by omega⟩
  . rw[f4,f5];exact⟨hx.1,by omega⟩
  . have:=Jg l hs k (by omega) z hz
    refine⟨by simpa[AE.addText,AE.head]using this.1,?_⟩
    have e:(z.addText (l[k]).nrm.text).text.size=z.text.size+(l[k]).text.size:=by show(z.text++(l[k]).nrm.text).size=_;rw[ByteArray.size_append,f4]
    omega
theorem N7 (s:ByteArray):(s.toList==ByteArray.empty.toList)=decide (s.size=0):=by
 rw[<-beq_toListBytes]
 by_cases h:s.size=0
 . have:s=ByteArray.empty:=by
    obtain⟨⟨l⟩⟩:=s
    cases l with
    | nil=>rfl
    | cons a l=>simp[ByteArray.size]at h
   subst this;rfl
 . have:s≠ByteArray.empty:=by rintro rfl;exact h rfl
   have e:(s==ByteArray.empty)=false:=by
    rw[Bool.eq_false_iff];intro e;exact this ((PM _ _).1 e)
   rw[e];simp[h]
theorem G7 (s:ByteArray):s.toList=[]↔s.size=0:=by
 have h:=N7 s
 have e:ByteArray.empty.toList=[]:=by
  have:=N7 ByteArray.empty
  rw[ByteArray.toList_eq];rfl
 rw[e]at h
 constructor
 . intro g;rw[g]at h;simpa using h.symm
 . intro g;rw[decide_eq_true g]at h;simpa using h
set_option maxHeartbeats 4000000 in
theorem PQ (l:List AE) (hl:l.length<=1048576) (hs:∀x∈l,x.head.sized/\x.text.size<=1048576/\x.rows.length<=1048576)
 (H1:∀x∈l,PC 73 [AG x.flow] (AG (An x.flow))) (H2:∀x∈l,∀(i:Nat) (h:i<x.rows.length),PC 135 [(x.rows[i]).enc] (AW.nrm x.rows[i]).enc):LC 73 [AG l] 11 ((An l).map AE.enc):=by
 intro h n
 refine gq Tryz.func73 rfl λho=>?_
 simp[go_sem]
 refine Am 2 (α:=Nat×Option Nat) (λq=>[(3,AN 11 q.2 ((Dy (AE.nrmL (l.take q.1))).map AE.enc)),(7,AG l),(8,AA l.length),(9,AA q.1)]) (λq=>AO q.2 ((Dy (AE.nrmL (l.take q.1))).map AE.enc) h)
  (λq m=>q.1<=l.length/\n<=m/\A7 n m 11 q.2 ((Dy (AE.nrmL (l.take q.1))).map AE.enc)) (λq=>l.length-q.1) (0,none) ?_ ?_ AB ?_
 . exact⟨Y4 _,Y1 _,by simp[AE.nrmL,Dy];exact Zs _ _ _⟩
 . simp[Aj,AN]
 rintro⟨k,o⟩ m ⟨hk,hnm,hA⟩
 dsimp only at hk hA ⊢
 by_cases hlt:k<l.length
 . have w1:=wS k (by omega)
   obtain⟨x,hx⟩:∃x,l[k]=x:=⟨_,rfl⟩
   have hxm:x∈l:=by rw[<-hx];exact Yc hlt
   obtain⟨hxh,hxt,hxr⟩:=hs x hxm
   have hft:=Ih l k hlt
   rw[hx]at hft
   obtain⟨f1,f2,f3,f4,f5,f6,f7⟩:=x.nrm_fields
   have hfl:=Ma l k hk
   generalize hys:Dy (AE.nrmL (l.take k))=ys at hA hft hfl ⊢
   have hlo:∀j,o=some j->j<m:=λj e=>(hA.lt j e).2
   simp[go_sem,hlt,hx,Yh,AC]
   refine Yj (by simpa[AF.enc,AF.flat]using PP x.head hxh) ?_
   simp[go_sem,AC]
   refine(H1 x hxm).use ?_
   simp[go_sem,AC]
   refine SX x.rows hxr (λi hi=>H2 x hxm i hi) λv h1 m1 hm1 hh1 hcall=>?_
   simp[go_sem]
   refine Xc hcall ?_
   rintro v2 h2 m2 ⟨hh2,hm2,rfl⟩
   rw[<-f7]
   generalize hR:x.nrm.rows=R at f7 ⊢
   have em0:=hh2 m _ (YD m) (AC _ _ _)
   have ho2:∀j,o=some j->h2 j=some (.cells ((ys.map AE.enc).flatMap SV.cells)):=λj e=>by
    have:=hlo j e
    exact hh2 j _ (by omega) (by rw[AD _ _ (by omega),AD _ _ (by omega),AD _ _ (by omega),AD _ _ (by omega)];exact Dz j e)
   have hacc:∀j y,AO o (ys.map AE.enc) h j=some y->j<m/\h2 j=some y:=λj y e=>by
    have hjm:j<m:=by
     cases o with
     | none=>have:=(ho j y e).1;omega
     | some i=>
      simp only[AO,hset]at e
      split at e
      . rename_i h;subst h;exact hlo _ rfl
      . have:=(ho j y e).1;omega
    exact⟨hjm,hh2 j _ (by omega) (by rw[AD _ _ (by omega),AD _ _ (by omega),AD _ _ (by omega),AD _ _ (by omega)];exact e)⟩
   have A8:∀j y,h j=some y->h2 j=some y:=λj y e=>(hacc j y (AO.old ho hA j y e)).2
   clear hcall hh1 hh2
   rcases o with _|j
   . have hys0:ys=[]:=by simpa using hA.none rfl
     subst hys0
     have happ:¬Co x.nrm->BC [] x.nrm=[]++[x.nrm]:=λhd=>by rw[BC,if_neg hd];rfl
     by_cases k7:x.kind=7
     . by_cases hR0:R=[]
       . have hd:Co x.nrm:=.inl ⟨by rw[f1,k7],by rw[hR,hR0]⟩
         simp[go_sem,AN,em0,AC,k7,hR0,w1,-Int.natCast_add]
         rw[BC,if_pos hd]at hft
         refine⟨k+1,by omega,none,⟨by omega,by omega,by rw[hft];exact hA.mono (by omega)⟩,⟨by rw[hft];first|exact Y0|(simp[AN,Y0]),Y0⟩,λi y e=>?_⟩
         rw[hft]at e
         obtain⟨g1,g2⟩:=hacc i y e
         rw[AD _ _ (by omega)];exact g2
       . have hd:¬Co x.nrm:=by rintro(⟨_,g⟩|⟨g,_⟩);exact hR0 (by rw[<-hR,g]);rw[f1,k7]at g;exact absurd g (by decide)
         rw[happ hd]at hft
         simp[go_sem,AN,em0,AC,k7,hR0]
         repeat first|refine nq ?_|refine sq ?_|refine aq ?_
         rw[Ke (e:=x.nrm.enc) (t:=22) (t2:=22) (el:=70) (z:=11) (by simp[go_sem]) (by simp[go_sem]) (by simp[go_sem]) (by simp) (by simp[go_sem]) (by simp[go_sem]) (by simp[go_sem]) (AE.E.len _) ?a1]
         case a1=>simp[AC,Yh,SV.cells,f1,f2,f3,f4,f5,f6,hR,k7]
         simp[go_sem,w1,-Int.natCast_add]
         refine⟨k+1,by omega,some (m2+1),⟨by omega,by omega,by rw[hft,Y3];exact hA.push (AE.E.st _) (AE.E.len _) (by omega) (by omega)⟩,⟨by rw[hft];simp[Y0],Y0⟩,?_⟩
         rw[hft,Y3]
         have:=Dk (p:=m2+1) (v:=.sl (m2+1) 0 11 (1) false) (e:=x.nrm.enc) ho (by omega) hA (H:=hset (hset h2 m (some (.cells x.nrm.enc.cells))) m2 (some (.cells x.nrm.enc.cells))) (AP ho (by omega) (AP ho (by omega) A8))
         simpa[Yh,SV.cells,Cs.app,f1,f2,f3,f4,f5,f6,hR,k7]using this
     . by_cases k1:x.kind=1
       . by_cases ht:x.text.size=0
         . have hd:Co x.nrm:=.inr ⟨by rw[f1,k1],by rw[f4,ht]⟩
           simp[go_sem,AN,em0,AC,k1,(G7 _).2 ht,w1,-Int.natCast_add]
           rw[BC,if_pos hd]at hft
           refine⟨k+1,by omega,none,⟨by omega,by omega,by rw[hft];exact hA.mono (by omega)⟩,⟨by rw[hft];first|exact Y0|(simp[AN,Y0]),Y0⟩,λi y e=>?_⟩
           rw[hft]at e
           obtain⟨g1,g2⟩:=hacc i y e
           rw[AD _ _ (by omega)];exact g2
         . have hd:¬Co x.nrm:=by rintro(⟨g,_⟩|⟨_,g⟩);rw[f1,k1]at g;exact absurd g (by decide);exact ht (by rw[<-f4,g])
           rw[happ hd]at hft
           simp[go_sem,AN,em0,AC,k1,mt (G7 _).1 ht]
           repeat first|refine nq ?_|refine sq ?_|refine aq ?_
           rw[Ke (e:=x.nrm.enc) (t:=22) (t2:=22) (el:=70) (z:=11) (by simp[go_sem]) (by simp[go_sem]) (by simp[go_sem]) (by simp) (by simp[go_sem]) (by simp[go_sem]) (by simp[go_sem]) (AE.E.len _) ?a1]
           case a1=>simp[AC,Yh,SV.cells,f1,f2,f3,f4,f5,f6,hR,k1]
           simp[go_sem,w1,-Int.natCast_add]
           refine⟨k+1,by omega,some (m2+1),⟨by omega,by omega,by rw[hft,Y3];exact hA.push (AE.E.st _) (AE.E.len _) (by omega) (by omega)⟩,⟨by rw[hft];simp[Y0],Y0⟩,?_⟩
           rw[hft,Y3]
           have:=Dk (p:=m2+1) (v:=.sl (m2+1) 0 11 (1) false) (e:=x.nrm.enc) ho (by omega) hA (H:=hset (hset h2 m (some (.cells x.nrm.enc.cells))) m2 (some (.cells x.nrm.enc.cells))) (AP ho (by omega) (AP ho (by omega) A8))
           simpa[Yh,SV.cells,Cs.app,f1,f2,f3,f4,f5,f6,hR,k1]using this
       . have hd:¬Co x.nrm:=by rintro(⟨g,_⟩|⟨g,_⟩);rw[f1]at g;exact k7 g;rw[f1]at g;exact k1 g
         rw[happ hd]at hft
         simp[go_sem,AN,em0,AC,k1,k7]
         repeat first|refine nq ?_|refine sq ?_|refine aq ?_
         rw[Ke (e:=x.nrm.enc) (t:=22) (t2:=22) (el:=70) (z:=11) (by simp[go_sem]) (by simp[go_sem]) (by simp[go_sem]) (by simp) (by simp[go_sem]) (by simp[go_sem]) (by simp[go_sem]) (AE.E.len _) ?a1]
         case a1=>simp[AC,Yh,SV.cells,f1,f2,f3,f4,f5,f6,hR]
         simp[go_sem,w1,-Int.natCast_add]
         refine⟨k+1,by omega,some (m2+1),⟨by omega,by omega,by rw[hft,Y3];exact hA.push (AE.E.st _) (AE.E.len _) (by omega) (by omega)⟩,⟨by rw[hft];simp[Y0],Y0⟩,?_⟩
         rw[hft,Y3]
         have:=Dk (p:=m2+1) (v:=.sl (m2+1) 0 11 (1) false) (e:=x.nrm.enc) ho (by omega) hA (H:=hset (hset h2 m (some (.cells x.nrm.enc.cells))) m2 (some (.cells x.nrm.enc.cells))) (AP ho (by omega) (AP ho (by omega) A8))
         simpa[Yh,SV.cells,Cs.app,f1,f2,f3,f4,f5,f6,hR,k1]using this
   . have hj:j<m:=hlo j rfl
     have hjm:j≠m:=by omega
     have ho2:=ho2 j rfl
     have happ:¬Co x.nrm->x.kind≠1->BC ys x.nrm=ys++[x.nrm]:=λhd hk=>by
      rw[BC,if_neg hd];split
      . rw[if_neg (by rw[f1];exact λg=>hk g.1)]
      . rfl
     by_cases k7:x.kind=7
     . by_cases hR0:R=[]
       . have hd:Co x.nrm:=.inl ⟨by rw[f1,k7],by rw[hR,hR0]⟩
         simp[go_sem,AN,em0,AC,k7,hR0,w1,-Int.natCast_add]
         rw[BC,if_pos hd]at hft
         refine⟨k+1,by omega,some j,⟨by omega,by omega,by rw[hft];exact hA.mono (by omega)⟩,⟨by rw[hft];first|exact Y0|(simp[AN,Y0]),Y0⟩,λi y e=>?_⟩
         rw[hft]at e
         obtain⟨g1,g2⟩:=hacc i y e
         rw[AD _ _ (by omega)];exact g2
       . have hd:¬Co x.nrm:=by rintro(⟨_,g⟩|⟨g,_⟩);exact hR0 (by rw[<-hR,g]);rw[f1,k7]at g;exact absurd g (by decide)
         rw[happ hd (by omega)]at hft
         simp[go_sem,AN,em0,AC,k7,hR0]
         repeat first|refine nq ?_|refine sq ?_|refine aq ?_
         rw[GE (es:=ys.map AE.enc) (e:=x.nrm.enc) (t:=22) (t2:=22) (el:=70) (z:=11) (by simp[go_sem]) (by simp[go_sem]) (by simp[go_sem]) (by simp) (by simp[go_sem]) (by simp[go_sem]) (by simp[go_sem]) (by simp;omega) hA (AE.E.len _) ?a1 ?a2 _ (by simp)]
         case a1=>simp[AC,Yh,SV.cells,f1,f2,f3,f4,f5,f6,hR,k7]
         case a2=>rw[AD _ _ (by omega),AD _ _ (by omega)];exact ho2
         simp[go_sem,w1,-Int.natCast_add]
         refine⟨k+1,by omega,some (m2+1),⟨by omega,by omega,by rw[hft,Y3];exact hA.push (AE.E.st _) (AE.E.len _) (by omega) (by omega)⟩,⟨by rw[hft];simp[Y0],Y0⟩,?_⟩
         rw[hft,Y3]
         have:=Dk (p:=m2+1) (v:=.sl (m2+1) 0 11 ((ys.map AE.enc).length+1) false) (e:=x.nrm.enc) ho (by omega) hA (H:=hset (hset h2 m (some (.cells x.nrm.enc.cells))) m2 (some (.cells x.nrm.enc.cells))) (AP ho (by omega) (AP ho (by omega) A8))
         simpa[Yh,SV.cells,Cs.app,f1,f2,f3,f4,f5,f6,hR,k7]using this
     . by_cases k1:x.kind=1
       . by_cases ht:x.text.size=0
         . have hd:Co x.nrm:=.inr ⟨by rw[f1,k1],by rw[f4,ht]⟩
           simp[go_sem,AN,em0,AC,k1,(G7 _).2 ht,w1,-Int.natCast_add]
           rw[BC,if_pos hd]at hft
           refine⟨k+1,by omega,some j,⟨by omega,by omega,by rw[hft];exact hA.mono (by omega)⟩,⟨by rw[hft];first|exact Y0|(simp[AN,Y0]),Y0⟩,λi y e=>?_⟩
           rw[hft]at e
           obtain⟨g1,g2⟩:=hacc i y e
           rw[AD _ _ (by omega)];exact g2
         . have hd:¬Co x.nrm:=by rintro(⟨g,_⟩|⟨_,g⟩);rw[f1,k1]at g;exact absurd g (by decide);exact ht (by rw[<-f4,g])
           rcases List.eq_nil_or_concat ys with rfl|⟨ys',y,rfl⟩
           . have hft':BC [] x.nrm=[]++[x.nrm]:=by rw[BC,if_neg hd];rfl
             rw[hft']at hft
             simp[go_sem,AN,em0,AC,k1,mt (G7 _).1 ht]
             repeat first|refine nq ?_|refine sq ?_|refine aq ?_
             rw[GE (es:=[].map AE.enc) (e:=x.nrm.enc) (t:=22) (t2:=22) (el:=70) (z:=11) (by simp[go_sem]) (by simp[go_sem]) (by simp[go_sem]) (by simp) (by simp[go_sem]) (by simp[go_sem]) (by simp[go_sem]) (by simp) hA (AE.E.len _) ?a1 ?a2 _ (by simp)]
             case a1=>simp[AC,Yh,SV.cells,f1,f2,f3,f4,f5,f6,hR,k1]
             case a2=>rw[AD _ _ (by omega),AD _ _ (by omega)];exact ho2
             simp[go_sem,w1,-Int.natCast_add]
             refine⟨k+1,by omega,some (m2+1),⟨by omega,by omega,by rw[hft,Y3];exact hA.push (AE.E.st _) (AE.E.len _) (by omega) (by omega)⟩,⟨by rw[hft];simp[Y0],Y0⟩,?_⟩
             rw[hft,Y3]
             have:=Dk (p:=m2+1) (v:=.sl (m2+1) 0 11 1 false) (e:=x.nrm.enc) ho (by omega) hA (H:=hset (hset h2 m (some (.cells x.nrm.enc.cells))) m2 (some (.cells x.nrm.enc.cells))) (AP ho (by omega) (AP ho (by omega) A8))
             simpa[Yh,SV.cells,Cs.app,f1,f2,f3,f4,f5,f6,hR,k1]using this
           . rw[List.concat_eq_append]at *
             have hym:=Jg l (λx hx=>⟨(hs x hx).1,(hs x hx).2.1⟩) k hk y (by rw[hys];simp)
             have hl':(ys'++[y]).length=ys'.length+1:=by simp
             have w2:IntKind.i64.wrap (ys'.length:Int)=(ys'.length:Int):=by rw[DR]<;>omega
             have hpos:(0:Int)<(ys'.length:Int)+1:=by omega
             have hpos2:(ys'.length:Int)<(ys'.length:Int)+1:=by omega
             have hAl:((ys'.map AE.enc).flatMap SV.cells).length=ys'.length*11:=by rw[BE (AE.E.size ys'),Y5]
             have ho3:h2 j=some (.cells ((ys'.map AE.enc).flatMap SV.cells++y.enc.cells)):=by rw[ho2];simp
             rw[Yh y]at ho3
             simp only[SV.cells]at ho3
             generalize hA':(ys'.map AE.enc).flatMap SV.cells=A at hAl ho3
             by_cases hy1:y.kind=1
             . simp[go_sem,AN,em0,AC,AD,hjm,k1,mt (G7 _).1 ht,ho3,w2,hpos,hpos2,<-hAl,hy1]
               repeat first|refine nq ?_|refine sq ?_|refine aq ?_
               refine Z6 _ _ _ _ _ _ (by simpa[AF.enc,AF.flat]using c58 y.head x.head hym.1 hxh) ?_
               by_cases hhd:y.head=x.head
               . have hcat:y.text.size+x.text.size<=9223372036854775807:=by have:=hym.2;omega
                 have hft':BC (ys'++[y]) x.nrm=ys'++[y.addText x.text]:=by
                  rw[BC,if_neg hd,ZX]
                  simp only
                  rw[if_pos ⟨by rw[f1,k1],hy1,by rw[hhd,f5]⟩,List.dropLast_concat,f4]
                 rw[hft']at hft
                 simp[go_sem,hhd,AC,AD,hjm,ho3,w1,w2,<-hAl,hcat,List.take_length_add_append,-Int.natCast_add]
                 repeat first|refine nq ?_|refine sq ?_|refine aq ?_
                 refine⟨k+1,by omega,some j,⟨by omega,by omega,?_⟩,⟨by rw[hft];simp[Y0],Y0⟩,λi y' e=>?_⟩
                 . rw[hft];exact⟨by simp,λi e=>⟨(hA.lt i e).1,by have:=(hA.lt i e).2;omega⟩,AE.E.size _⟩
                 . rw[hft]at e
                   simp only[AO]at e
                   by_cases e1:i=j
                   . subst e1
                     rw[AC]at e ⊢
                     rw[<-e]
                     have ec:(y.addText x.text).enc.cells=[AA y.kind,AA y.code,AA y.id,.str (y.text++x.text),Af y.head.props,AA y.head.ins,AA y.head.move,Aa y.head.dels,AQ y.head.layers,AG y.flow,Av y.rows]:=by rw[Yh];rfl
                     rw[Y3,Z7,hA',List.map_singleton,List.flatMap_singleton,ec,hhd]
                     simp[Yn]
                   . rw[AD _ _ e1]at e
                     obtain⟨g1,g2⟩:=hacc i y' (by simp only[AO];rw[AD _ _ e1];exact e)
                     rw[AD _ _ e1,AD _ _ (by omega)];exact g2
               . have hft':BC (ys'++[y]) x.nrm=(ys'++[y])++[x.nrm]:=by
                  rw[BC,if_neg hd,ZX]
                  simp only
                  rw[if_neg (by rw[f5];exact λg=>hhd g.2.2)]
                 rw[hft']at hft
                 simp[go_sem,hhd,AC]
                 repeat first|refine nq ?_|refine sq ?_|refine aq ?_
                 rw[GE (es:=(ys'++[y]).map AE.enc) (e:=x.nrm.enc) (t:=22) (t2:=22) (el:=70) (z:=11) (by simp[go_sem]) (by simp[go_sem]) (by simp[go_sem]) (by simp) (by simp[go_sem]) (by simp[go_sem]) (by simp[go_sem]) (by simp;omega) hA (AE.E.len _) ?a1 ?a2 _ (by simp)]
                 case a1=>simp[AC,Yh,SV.cells,f1,f2,f3,f4,f5,f6,hR,k1]
                 case a2=>rw[AD _ _ (by omega),AD _ _ (by omega)];exact ho2
                 simp[go_sem,w1,-Int.natCast_add]
                 refine⟨k+1,by omega,some (m2+1),⟨by omega,by omega,by rw[hft,Y3];exact hA.push (AE.E.st _) (AE.E.len _) (by omega) (by omega)⟩,⟨by rw[hft];simp[Y0],Y0⟩,?_⟩
                 rw[hft,Y3]
                 have:=Dk (p:=m2+1) (v:=.sl (m2+1) 0 11 (((ys'++[y]).map AE.enc).length+1) false) (e:=x.nrm.enc) ho (by omega) hA (H:=hset (hset h2 m (some (.cells x.nrm.enc.cells))) m2 (some (.cells x.nrm.enc.cells))) (AP ho (by omega) (AP ho (by omega) A8))
                 simpa[Yh,SV.cells,Cs.app,f1,f2,f3,f4,f5,f6,hR,k1]using this
             . simp[go_sem,AN,em0,AC,AD,hjm,k1,mt (G7 _).1 ht,ho3,w2,hpos,hpos2,<-hAl,hy1]
               repeat first|refine nq ?_|refine sq ?_|refine aq ?_
               have hft':BC (ys'++[y]) x.nrm=(ys'++[y])++[x.nrm]:=by
                rw[BC,if_neg hd,ZX]
                simp only
                rw[if_neg (λg=>hy1 g.2.1)]
               rw[hft']at hft
               rw[GE (es:=(ys'++[y]).map AE.enc) (e:=x.nrm.enc) (t:=22) (t2:=22) (el:=70) (z:=11) (by simp[go_sem]) (by simp[go_sem]) (by simp[go_sem]) (by simp) (by simp[go_sem]) (by simp[go_sem]) (by simp[go_sem]) (by simp;omega) hA (AE.E.len _) ?a1 ?a2 _ (by simp)]
               case a1=>simp[AC,Yh,SV.cells,f1,f2,f3,f4,f5,f6,hR,k1]
               case a2=>rw[AD _ _ (by omega),AD _ _ (by omega)];exact ho2
               simp[go_sem,w1,-Int.natCast_add]
               refine⟨k+1,by omega,some (m2+1),⟨by omega,by omega,by rw[hft,Y3];exact hA.push (AE.E.st _) (AE.E.len _) (by omega) (by omega)⟩,⟨by rw[hft];simp[Y0],Y0⟩,?_⟩
               rw[hft,Y3]
               have:=Dk (p:=m2+1) (v:=.sl (m2+1) 0 11 (((ys'++[y]).map AE.enc).length+1) false) (e:=x.nrm.enc) ho (by omega) hA (H:=hset (hset h2 m (some (.cells x.nrm.enc.cells))) m2 (some (.cells x.nrm.enc.cells))) (AP ho (by omega) (AP ho (by omega) A8))
               simpa[Yh,SV.cells,Cs.app,f1,f2,f3,f4,f5,f6,hR,k1]using this
       . have hd:¬Co x.nrm:=by rintro(⟨g,_⟩|⟨g,_⟩);rw[f1]at g;exact k7 g;rw[f1]at g;exact k1 g
         rw[happ hd k1]at hft
         simp[go_sem,AN,em0,AC,k1,k7]
         repeat first|refine nq ?_|refine sq ?_|refine aq ?_
         rw[GE (es:=ys.map AE.enc) (e:=x.nrm.enc) (t:=22) (t2:=22) (el:=70) (z:=11) (by simp[go_sem]) (by simp[go_sem]) (by simp[go_sem]) (by simp) (by simp[go_sem]) (by simp[go_sem]) (by simp[go_sem]) (by simp;omega) hA (AE.E.len _) ?a1 ?a2 _ (by simp)]
         case a1=>simp[AC,Yh,SV.cells,f1,f2,f3,f4,f5,f6,hR]
         case a2=>rw[AD _ _ (by omega),AD _ _ (by omega)];exact ho2
         simp[go_sem,w1,-Int.natCast_add]
         refine⟨k+1,by omega,some (m2+1),⟨by omega,by omega,by rw[hft,Y3];exact hA.push (AE.E.st _) (AE.E.len _) (by omega) (by omega)⟩,⟨by rw[hft];simp[Y0],Y0⟩,?_⟩
         rw[hft,Y3]
         have:=Dk (p:=m2+1) (v:=.sl (m2+1) 0 11 ((ys.map AE.enc).length+1) false) (e:=x.nrm.enc) ho (by omega) hA (H:=hset (hset h2 m (some (.cells x.nrm.enc.cells))) m2 (some (.cells x.nrm.enc.cells))) (AP ho (by omega) (AP ho (by omega) A8))
         simpa[Yh,SV.cells,Cs.app,f1,f2,f3,f4,f5,f6,hR,k1]using this
 . have:k=l.length:=by omega
   subst this
   rw[Ya]at hA ⊢
   simp[go_sem]
   exact .inl (Kb ho hA AB hnm (Y1 _))
theorem TA (x:AL) (hs:x.head.sized) (H:PC 73 [AG x.flow] (AG (An x.flow))):PC 195 [x.enc] (AL.nrm x).enc:=by
 intro h n
 refine gq Tryz.func195 rfl λho=>?_
 have e:(AL.nrm x).enc=.agg [AA x.id,Af x.head.props,AA x.head.ins,AA x.head.move,Aa x.head.dels,AQ x.head.layers,AG (An x.flow)]:=by cases x;rw[AL.nrm,Z9];rfl
 rw[e]
 simp[go_sem,Z9,AC,AD]
 repeat first|refine nq ?_|refine sq ?_|refine aq ?_
 refine Z6 _ _ _ _ _ _ (by simpa[AF.enc,AF.flat]using PP x.head hs) ?_
 simp[go_sem,AC,AD]
 repeat first|refine nq ?_|refine sq ?_|refine aq ?_
 refine Z6 _ _ _ _ _ _ H ?_
 simp[go_sem,AC]
 repeat first|refine nq ?_|refine sq ?_|refine aq ?_
 exact Au ho (by repeat(first|exact AB|refine AP ho (by omega) ?_)) rfl (by rw[<-e];exact AL.cl n _)
theorem S7 (x:AW) (hs:x.head.sized) (hc:x.cells.length<=1048576) (H:∀(i:Nat) (h:i<x.cells.length),PC 195 [(x.cells[i]).enc] (AL.nrm x.cells[i]).enc):PC 135 [x.enc] (AW.nrm x).enc:=by
 intro h n
 refine gq Tryz.func135 rfl λho=>?_
 have h1:=(l194 x.cells hc 195 [] [] AL.nrm (λi hi=>H i hi)).pc (AL.E.size _) (λn=>AL.E.closedL n _)
 have e:(AW.nrm x).enc=.agg [Af x.head.props,AA x.head.ins,AA x.head.move,Aa x.head.dels,AQ x.head.layers,BQ (x.cells.map AL.nrm)]:=by cases x;rw[AW.nrm,YB,AL.nrmL_eq];rfl
 rw[e]
 simp[go_sem,YB,AC,AD,-List.map_map]
 repeat first|refine nq ?_|refine sq ?_|refine aq ?_
 refine Z6 _ _ _ _ _ _ (by simpa[AF.enc,AF.flat]using PP x.head hs) ?_
 simp[go_sem,AC,AD,-List.map_map]
 repeat first|refine nq ?_|refine sq ?_|refine aq ?_
 refine Z6 _ _ _ _ _ _ h1 ?_
 simp[go_sem,AC,-List.map_map]
 repeat first|refine nq ?_|refine sq ?_|refine aq ?_
 exact Au ho (by repeat(first|exact AB|refine AP ho (by omega) ?_)) rfl (by rw[<-e];exact AW.cl n _)
theorem Ul {l:List AE} (H:LC 73 [AG l] 11 ((An l).map AE.enc)):PC 73 [AG l] (AG (An l)):=H.pc (AE.E.size _) λn=>AE.E.closedL n _
theorem Dt {x:AE} (h:x.sized):x.head.sized/\x.text.size<=1048576/\x.rows.length<=1048576:=by cases x;rw[AE.sized]at h;exact⟨h.2.1,h.1,h.2.2.2.1⟩
def NI (x:AE):Prop:=PC 73 [AG x.flow] (AG (An x.flow))/\∀(i:Nat) (h:i<x.rows.length),PC 135 [(x.rows[i]).enc] (AW.nrm x.rows[i]).enc
mutual
theorem cNI:∀x:AE,x.sized->NI x
 | .mk k c i t hd f r,hs=>by
  rw[AE.sized]at hs
  refine⟨Ul (PQ f hs.2.2.1 (λx hx=>Dt (Zu hs.2.2.2.2.1 x hx)) (λx hx=>(PS f hs.2.2.2.2.1 x hx).1) λx hx=>(PS f hs.2.2.2.2.1 x hx).2),?_⟩
  exact Tu r hs.2.2.2.2.2
theorem PS:∀l:List AE,AE.sizedL l->∀x∈l,NI x
 | [],_,x,h=>by simp at h
 | y::l,hs,x,h=>by
  rw[AE.sizedL]at hs
  rcases Yg.1 h with h|h
  . rw[h];exact cNI y hs.1
  . exact PS l hs.2 x h
theorem c135:∀x:AW,x.sized->PC 135 [x.enc] (AW.nrm x).enc
 | .mk hd c,hs=>by
  rw[AW.sized]at hs
  exact S7 (.mk hd c) hs.1 hs.2.1 (Tw c hs.2.2)
theorem Tu:∀l:List AW,AW.sizedL l->∀(i:Nat) (h:i<l.length),PC 135 [(l[i]).enc] (AW.nrm l[i]).enc
 | [],_,i,h=>by simp at h
 | x::l,hs,0,_=>by rw[AW.sizedL]at hs;exact c135 x hs.1
 | x::l,hs,i+1,h=>by rw[AW.sizedL]at hs;exact Tu l hs.2 i (by simpa using h)
theorem c195:∀x:AL,x.sized->PC 195 [x.enc] (AL.nrm x).enc
 | .mk i hd f,hs=>by
  rw[AL.sized]at hs
  exact TA (.mk i hd f) hs.1 (Ul (PQ f hs.2.1 (λx hx=>Dt (Zu hs.2.2 x hx)) (λx hx=>(PS f hs.2.2 x hx).1) λx hx=>(PS f hs.2.2 x hx).2))
theorem Tw:∀l:List AL,AL.sizedL l->∀(i:Nat) (h:i<l.length),PC 195 [(l[i]).enc] (AL.nrm l[i]).enc
 | [],_,i,h=>by simp at h
 | x::l,hs,0,_=>by rw[AL.sizedL]at hs;exact c195 x hs.1
 | x::l,hs,i+1,h=>by rw[AL.sizedL]at hs;exact Tw l hs.2 i (by simpa using h)
end
theorem l73 (l:List AE) (hl:l.length<=1048576) (hs:AE.sizedL l):LC 73 [AG l] 11 ((An l).map AE.enc):=
 PQ l hl (λx hx=>Dt (Zu hs x hx)) (λx hx=>(PS l hs x hx).1) λx hx=>(PS l hs x hx).2
theorem c73 (l:List AE) (hl:l.length<=1048576) (hs:AE.sizedL l):PC 73 [AG l] (AG (An l)):=Ul (l73 l hl hs)
def CY (r:BD):Int:=
 if r.id<1\/1073741824<r.id then 18 else if r.author.size=0 then 11 else if 40<r.author.size then 10 else if CW r.author=false then 12 else if r.time<0\/1099511627776<r.time then 40 else 0
theorem c42 (r:BD):PC 42 [r.enc] (AA (CY r)):=by
 intro h n
 refine gq Tryz.func42 rfl λho=>?_
 have hh:∀y,∀o x,h o=some x->hset h n y o=some x:=λy=>AP ho (Y1 _) AB
 by_cases a1:r.id<1
 . simp[go_sem,BD.enc,AC,a1]
   exact Au ho (hh _) (by simp[CY,a1]) rfl
 by_cases a2:1073741824<r.id
 . simp[go_sem,BD.enc,AC,a1,a2]
   exact Au ho (hh _) (by simp[CY,a2]) rfl
 by_cases a3:r.author.size=0
 . simp[go_sem,BD.enc,AC,a1,a2,G7,a3]
   exact Au ho (hh _) (by simp[CY,a1,a2,a3]) rfl
 by_cases a4:40<r.author.size
 . have a4':(40:Int)<r.author.size:=by omega
   simp[go_sem,BD.enc,AC,a1,a2,G7,a3,a4']
   exact Au ho (hh _) (by simp[CY,a1,a2,a3,a4]) rfl
 have a4':¬(40:Int)<r.author.size:=by omega
 simp[go_sem,BD.enc,AC,a1,a2,G7,a3,a4']
 refine(PO r.author (by omega)).use ?_
 cases a5:CW r.author
 . simp[go_sem]
   exact Au ho (hh _) (by simp[CY,a1,a2,a3,a4,a5]) rfl
 by_cases a6:r.time<0
 . simp[go_sem,AC,a6]
   exact Au ho (hh _) (by simp[CY,a1,a2,a3,a4,a5,a6]) rfl
 by_cases a7:1099511627776<r.time
 . simp[go_sem,AC,a6,a7]
   exact Au ho (hh _) (by simp[CY,a1,a2,a3,a4,a5,a7]) rfl
 simp[go_sem,AC,a6,a7]
 exact Au ho (hh _) (by simp[CY,a1,a2,a3,a4,a5,a6,a7]) rfl
def Fe (l:List BD) (i:Nat):Int:=match l[i]? with
 | some r=>if CY r=0 then if i=0 then 0 else match l[i-1]? with|some q=>if Hd r.id q.id=0 then 7 else if Hd r.id q.id = -1 then 6 else 0|none=>0 else CY r
 | none=>0
def DX (l:List BD):Int:=if 256<l.length then 9 else E5 (Fe l) l.length
theorem c71 (l:List BD) (hl:l.length<=1048576):PC 71 [Aw l] (AA (DX l)):=by
 intro h n
 refine gq Tryz.func71 rfl λho=>?_
 by_cases a0:256<l.length
 . have a0':(256:Int)<l.length:=by omega
   simp[go_sem,a0']
   exact A3 ho rfl (by simp[DX,a0])
 have a0':¬(256:Int)<l.length:=by omega
 simp[go_sem,a0']
 refine Am 1 (α:=Nat) (λk=>[(0,Aw l),(9,Aw l),(10,AA l.length),(11,AA k)]) (λ_=>h) (λk m=>k<=l.length/\n<=m/\E5 (Fe l) k=0) (λk=>l.length-k) 0 ?_ ?_ AB ?_
 . exact⟨Y4 _,Y1 _,rfl⟩
 . simp[Aj]
 rintro k m ⟨hk,hnm,hf⟩
 have hh:∀y,∀o x,h o=some x->hset h m y o=some x:=λy=>AP ho hnm AB
 by_cases hlt:k<l.length
 . have w1:=wS k (by omega)
   obtain⟨r,hr⟩:∃r,l[k]=r:=⟨_,rfl⟩
   have hr':l[k]? = some r:=by simp[hlt,hr]
   have bad:∀e,Fe l k=e->e≠0->DX l=e:=λe h1 h2=>by rw[DX,if_neg a0,IZ _ hlt hf (by rw[h1];exact h2),h1]
   have Gl:Fe l k=0->E5 (Fe l) (k+1)=0:=λe=>by rw[E5,hf,if_pos rfl,e]
   simp[go_sem,hlt,hr,BD.enc,AC,AY]
   refine Yj (by simpa[BD.enc]using c42 r) ?_
   by_cases e0:CY r=0
   . by_cases k0:k=0
     . subst k0
       simp[go_sem,e0]
       exact⟨1,by omega,⟨by omega,by omega,Gl (by simp[Fe,hr',e0])⟩,Y0,hh _⟩
     . have w2:IntKind.i64.wrap ((k:Int)-1)=((k-1:Nat):Int):=by rw[DR]<;>omega
       obtain⟨q,hq⟩:∃q,l[k-1]? = some q:=⟨l[k-1],by simp[show k-1<l.length by omega]⟩
       have hq2:l[k-1]=q:=by have:=(Y9.1 hq).2;exact this
       simp[go_sem,e0,k0,AC,w2,hq,BD.enc]
       repeat refine⟨by kernel_rfl,?_⟩
       refine Z6 _ _ _ _ _ _ (S6 r.id q.id) ?_
       by_cases c0:Hd r.id q.id=0
       . simp[go_sem,c0]
         repeat refine⟨by kernel_rfl,?_⟩
         exact Au ho (hh _) (by rw[bad 7 (by simp[Fe,hr',e0,k0,hq,c0]) (by simp)]) rfl
       . by_cases c1:Hd r.id q.id = -1
         . simp[go_sem,c1]
           repeat refine⟨by kernel_rfl,?_⟩
           exact Au ho (hh _) (by rw[bad 6 (by simp[Fe,hr',e0,k0,hq,c1]) (by simp)]) rfl
         . simp[go_sem,c0,c1,w1,-Int.natCast_add]
           repeat refine⟨by kernel_rfl,?_⟩
           exact⟨k+1,by omega,⟨by omega,by omega,Gl (by simp[Fe,hr',e0,k0,hq,c0,c1])⟩,Y0,hh _⟩
   . simp[go_sem,e0]
     exact Au ho (hh _) (by rw[bad (CY r) (by simp[Fe,hr',e0]) e0]) rfl
 . have:k=l.length:=by omega
   subst this
   simp[go_sem]
   exact A3 ho rfl (by simp[DX,a0,hf])
theorem c132 (r:BD) (id:Int):PC 132 [r.enc,AA id] (AA (Hd r.id id)):=by
 intro h n
 refine gq Tryz.func132 rfl λho=>?_
 simp[go_sem,BD.enc,AC]
 refine(S6 r.id id).use ?_
 simp[go_sem]
 exact Au ho (AP ho (Y1 _) AB) rfl rfl
def HN (l:List BD) (id:Int) (i:Nat):Int:=match l[i]? with|some r=>Hd r.id id|none=>0
theorem c72 (l:List BD) (hl:l.length<=1048576) (id:Int):PC 72 [Aw l,AA id] (.tup [AA (BF (HN l id) l.length).1,.bool (BF (HN l id) l.length).2]):=by
 intro h n
 refine gq Tryz.func72 rfl λho=>?_
 simp[go_sem]
 refine(c131 l hl (AA id) 132 [] [] (HN l id) λi hi=>by simpa[HN,hi]using c132 l[i] id).use ?_
 simp[go_sem]
 exact A3 ho rfl rfl
def GO:BD:=⟨0,⟨#[]⟩,0⟩
def GN (id:Int):List BD->BD×Bool
 | []=>(GO,false)
 | r::l=>if r.id=id then(r,true)else GN id l
def Bv (l:List BD) (id:Int):BD×Bool:=if DX l=0 then(if(BF (HN l id) l.length).2=true then((l[(BF (HN l id) l.length).1]?).getD GO,true)else(GO,false))else GN id l
theorem Ku (c:Nat->Int) (n:Nat) (h:(BF c n).2=true):(BF c n).1<n:=by
 simp only[BF,decide_eq_true_eq]at h ⊢;exact h.1
theorem c20 (l:List BD) (hl:l.length<=1048576) (id:Int):PC 20 [Aw l,AA id] (.tup [(Bv l id).1.enc,.bool (Bv l id).2]):=by
 intro h n
 refine gq Tryz.func20 rfl λho=>?_
 have hh:∀y z,∀o x,h o=some x->hset (hset h n y) n z o=some x:=λy z=>AP ho (Y1 _) (AP ho (Y1 _) AB)
 have hcl:∀(r:BD) b,closed n (.tup [r.enc,.bool b])=true:=λr b=>by simp[closed,closedL,BD.E.cl]
 simp[go_sem]
 refine(c71 l hl).use ?_
 by_cases e0:DX l=0
 . simp[go_sem,e0]
   refine(c72 l hl id).use ?_
   cases e1:(BF (HN l id) l.length).2
   . simp[go_sem,AC]
     exact Au ho (hh _ _) (by simp[Bv,e0,e1];rfl) (hcl _ _)
   . have hlt:=Ku _ _ e1
     simp[go_sem,hlt,AC,BD.enc]
     exact Au ho (hh _ _) (by simp[Bv,e0,e1,hlt]) (hcl _ _)
 . simp[go_sem,e0]
   have hF:Bv l id=GN id l:=by simp[Bv,e0]
   rw[hF]
   refine Am 1 (α:=Nat) (λk=>[(1,AA id),(4,.ptr n 0),(25,Aw l),(26,AA l.length),(27,AA k)]) (λ_=>hset h n (some (.cells GO.enc.cells))) (λk m=>k<=l.length/\n<m/\GN id l=GN id (l.drop k)) (λk=>l.length-k) 0 ?_ ?_ AB ?_
   . exact⟨Y4 _,YD n,rfl⟩
   . simp[Aj]
   rintro k m ⟨hk,hnm,hf⟩
   have hne:n≠m:=by omega
   have h2:∀a b c,∀o x,h o=some x->hset (hset (hset h n a) m b) m c o=some x:=λa b c=>AP ho (by omega) (AP ho (by omega) (AP ho (Y1 _) AB))
   by_cases hlt:k<l.length
   . have w1:=wS k (by omega)
     obtain⟨r,hr⟩:∃r,l[k]=r:=⟨_,rfl⟩
     rw[YA hlt,hr,GN]at hf
     by_cases e1:r.id=id
     . simp[go_sem,hlt,hr,BD.enc,AC,AD,hne,e1,GO]
       rw[if_pos e1]at hf
       rw[hf]
       exact Au ho (AP ho (Y1 _) (h2 _ _ _)) (by simp[e1]) (hcl _ _)
     . simp[go_sem,hlt,hr,BD.enc,AC,e1,w1,-Int.natCast_add,GO]
       rw[if_neg e1]at hf
       refine⟨k+1,by omega,⟨by omega,by omega,hf⟩,Y0,λo y e=>?_⟩
       by_cases en:o=n
       . subst en
         simp only[AC,AD _ _ hne]at e ⊢
         exact e
       . simp only[AD _ _ en]at e
         exact h2 _ _ _ o y e
   . have:k=l.length:=by omega
     subst this
     simp[go_sem,AC,GO,BD.enc]
     rw[List.drop_length]at hf
     rw[hf]
     exact Au ho (hh _ _) rfl (hcl _ _)
section
variable {F : Fence} {n : Nat} {P : Program} {ops : Array Oper} {Q : Exit → Act → World → Prop} {S : World → Prop} {md : Region.Mode}
def Ej (P:Program) (ops:Array Oper) (S:World->Prop) (o:Oper) (v:Value) (a:Act):Prop:=YieldsIf P ops S o v a/\∀w,o.about P w a.eval=none
theorem Ej.wpOpIn {i:Nat} {o:Oper} {v:Value} {a:Act} (hro:F.round=none) (hi:ops[i]? = some o) (hy:Ej P ops S o v a)
 {K:Act->World->Prop} {w:World} (hS:S w) (h:K (a.put o.dst v) w):wpOpIn F n P ops Q i K a w:=by
 unfold Go.wpOpIn
 simp only[hi]
 have hab:∀f,o.about P w a.eval=some f->F.fn f:=λf hf=>by rw[hy.2 w]at hf;cases hf
 rcases hy.1 with⟨hw,hv⟩|⟨hw,rfl⟩
 . simp only[hw,if_true,Oper.wpIn,hro,Oper.semAt_none,hv w hS,Oper.uponIn];exact⟨hab,h⟩
 . simp only[hw,Y7,if_false];exact⟨hab,h⟩
theorem Ej.of_same {o:Oper} {v:Value} {a a':Act} (hy:Ej P ops S o v a) (he:execOp a'.eval o=execOp a.eval o)
 (hw:Region.wanted o (yielded ops a'.tmps)=Region.wanted o (yielded ops a.tmps)) (hb:∀w,o.about P w a'.eval=o.about P w a.eval):Ej P ops S o v a':=
 ⟨hy.1.of_same he hw,λw=>by rw[hb w];exact hy.2 w⟩
theorem PD {j:Nat} {oi oj:Oper} {v:Value} (hro:F.round=none) (hj:ops[j]? = some oj) (hap:oi.apart ops oj=true)
 (hsi:∀cs b,oi.op≠.select cs b) (hsj:∀cs b,oj.op≠.select cs b)
 (hQ:∀c a w,Q (.panic c) (a.put oi.dst v) w->Q (.panic c) a w) {K:Act->World->Prop} {a:Act} {w:World}
 (hy:Ej P ops S oi v a) (h:wpOpIn F n P ops Q j K (a.put oi.dst v) w):
 wpOpIn F n P ops Q j (λa' w'=>Ej P ops S oi v a'/\K (a'.put oi.dst v) w') a w:=by
 obtain⟨h1,h2,h3⟩:=Oper.apart_spec hap
 have keep:∀(a:Act),Ej P ops S oi v a->∀u,Ej P ops S oi v (a.put oj.dst u):=λa hy u=>
  hy.of_same (execOp_put oi hsi a oj.dst u h3) (wanted_put oi a oj.dst u h3) (λw=>about_put oi w a oj.dst u h3)
 have keepD:∀d,Ej P ops S oi v { a with defers:=d::a.defers }:=λd=>hy.of_same rfl rfl (λ_=>rfl)
 unfold wpOpIn at *
 simp only[hj]at *
 rw[wanted_put oj a oi.dst v h1,about_put oj w a oi.dst v h1]at h
 split
 . rename_i hw
   simp only[hw,if_true]at h
   unfold Oper.wpIn at *
   rw[about_put oj w a oi.dst v h1]at h
   refine⟨h.1,?_⟩
   have h:=h.2
   rw[hro,Oper.semAt_none,execOp_put oj hsj a oi.dst v h1]at h
   rw[hro,Oper.semAt_none]
   generalize(execOp a.eval oj).run P w=r at *
   cases r with
   | ok x w' =>
    cases x<;>simp only[Oper.uponIn]at h ⊢
    case value u=>exact⟨keep a hy u,by rw[<-Act.put_comm a v u h2];exact h⟩
    case skip=>exact⟨keep a hy _,by rw[<-Act.put_comm a v undef h2];exact h⟩
    case defer d=>
     refine⟨keep _ (keepD d) _,?_⟩
     rw[<-Act.put_comm _ v undef h2,<-Act.put_defers]
     exact h
    case enter f args=>
     refine⟨h.1,CallsIn.mono h.2 λe w'' he=>?_⟩
     cases e with
     | returned u=>exact⟨keep a hy u,by rw[<-Act.put_comm a v u h2];exact he⟩
     | panicked c=>exact hQ _ _ _ he
     | outgrown=>exact he
    case row row args=>exact⟨h.1,RowsIn.mono h.2 λu w'' he=>⟨keep a hy u,by rw[<-Act.put_comm a v u h2];exact he⟩⟩
    case round l f tmps assign body=>
     refine⟨h.1,RoundIn.mono h.2 λe w'' he=>?_⟩
     cases e with
     | returned u=>exact⟨keep a hy u,by rw[<-Act.put_comm a v u h2];exact he⟩
     | panicked c=>exact hQ _ _ _ he
     | outgrown=>exact he
   | halt x w'=>
    cases x<;>simp only[Oper.uponIn]at h ⊢
    case panic u=>exact hQ _ _ _ h
 . rename_i hw
   simp only[hw]at h
   exact⟨h.1,keep a hy _,by rw[<-Act.put_comm a v undef h2];exact h.2⟩
def Lr (F:Fence) (n:Nat) (P:Program) (md:Region.Mode) (ops:Array Oper) (Q:Exit->Act->World->Prop) (S:World->Prop):Nat->Array Bool->Act->World->Prop
 | 0,listed,a,w=>Region.ready md ops listed=[]/\Q .normal a w
 | fuel+1,listed,a,w=>
  (Region.ready md ops listed=[]->Q .normal a w)/\
  ∀i∈Region.ready md ops listed,wpOpIn F n P ops Q i (λa' w'=>S w'/\Lr F n P md ops Q S fuel (listed.setIfInBounds i true) a' w') a w
theorem JR:∀(fuel:Nat) (listed:Array Bool) (a:Act) (w:World),Lr F n P md ops Q S fuel listed a w->wpAnyIn F n P md ops Q fuel listed a w
 | 0,_,_,_,h=>h
 | fuel+1,_,_,_,h=>⟨h.1,λi hi=>wpOpIn_mono (λa' w' h'=>JR fuel _ a' w' h'.2) (h.2 i hi)⟩
theorem JS {i:Nat} {oi:Oper} {v:Value} (hro:F.round=none) (hi:ops[i]? = some oi) (hsel:∀(j:Nat) (o:Oper) cs b,ops[j]? = some o->o.op≠.select cs b)
 (hQ:∀c a w,Q (.panic c) (a.put oi.dst v) w->Q (.panic c) a w):
 ∀(fuel:Nat) (listed:Array Bool) (a:Act) (w:World),
  (∀j oj,ops[j]? = some oj->j≠i->listed.getD j true=false->(∀e∈oj.after,Region.binds md e=true->e.on≠i)->oi.apart ops oj=true)->
  i∈Region.ready md ops listed->Ej P ops S oi v a->S w->
  Lr F n P md ops Q S fuel (listed.setIfInBounds i true) (a.put oi.dst v) w->Lr F n P md ops Q S (fuel+1) listed a w:=by
 intro fuel
 induction fuel with
 | zero=>
  intro listed a w _ hr hy hS H
  refine⟨λh=>(by rw[h]at hr;cases hr),λj hj=>?_⟩
  by_cases hji:j=i
  . subst hji;exact hy.wpOpIn hro hi hS ⟨hS,H⟩
  . have:=ready_mono hj hji
    rw[H.1]at this
    cases this
 | succ fuel ih=>
  intro listed a w hfree hr hy hS H
  refine⟨λh=>(by rw[h]at hr;cases hr),λj hj=>?_⟩
  by_cases hji:j=i
  . subst hji;exact hy.wpOpIn hro hi hS ⟨hS,H⟩
  . have h1:=H.2 j (ready_mono hj hji)
    obtain⟨hjun,oj,hoj,hall⟩:=mem_ready.1 hj
    have hnot:∀e∈oj.after,Region.binds md e=true->e.on≠i:=λe he hb heq=>by
     have h1:=hall e he hb
     have h0:=(mem_ready.1 hr).1
     rw[heq]at h1
     rcases YX i listed.size with h'|h'
     . simp[h']at h0 h1;rw[h0]at h1;cases h1
     . simp[Z2 h']at h1
    have h2:=PD hro hoj (hfree j oj hoj hji hjun hnot) (λcs b=>hsel i oi cs b hi) (λcs b=>hsel j oj cs b hoj) hQ hy h1
    have hfree':∀k ok,ops[k]? = some ok->k≠i->(listed.setIfInBounds j true).getD k true=false->
     (∀e∈ok.after,Region.binds md e=true->e.on≠i)->oi.apart ops ok=true:=λk ok hk hki hun hno=>by
     refine hfree k ok hk hki ?_ hno
     by_cases hjk:j=k
     . subst hjk;exact hjun
     . rw[getD_set_ne true hjk]at hun;exact hun
    refine wpOpIn_mono (λa' w' h3=>⟨h3.2.1,ih (listed.setIfInBounds j true) a' w' hfree' (ready_mono hr (Ne.symm hji)) h3.1 h3.2.1 ?_⟩) h2
    rw[Array.setIfInBounds_comm _ _ hji]
    exact h3.2.2
end
def KC (P:Program) (st:Bool) (ev:Operand->SV):Op->Option SV
 | .move x|.assign x=>some (ev x)
 | .fieldAddr t x i=>Gk P t (ev x) i
 | .load t a=>match st,ev a with|true,.iptr cs=>(Bk cs 0 (Bh P t)).bind (PL (Fx P t))|_,_=>none
 | .indexAddr t x i=>match ev x,ev i with|.imm z es f,.int _ n=>if(A6 P t).isSome then Gn P t (.imm z es f) n else none|_,_=>none
 | .slice t x lo hi mx=>match ev x with|.imm z es f=>It P t (.imm z es f) (lo.map ev) (hi.map ev) (mx.map ev)|_=>none
 | .extract x i=>match ev x with|.tup vs=>vs[i]? | _=>none
 | .unOp op _ x=>match op,ev x with|.not,.bool b=>some (.bool !b)|_,_=>none
 | .pick x a b=>match ev x with|.bool t=>some (if t then ev a else ev b)|_=>none
 | .makeFunc f a b=>some (.fn f (a.toList.map ev) (b.toList.map ev))
 | .nilCheck x=>match ev x with|.ptr o a=>some (.ptr o a)|.iptr cs=>some (.iptr cs)|_=>none
 | .call { callee:=.builtin .min,args,.. }=>match args.toList with|[x,y]=>(match ev x,ev y with|.int k a,.int k' b=>if k=k' then some (.int k (if b<a then b else a))else none|_,_=>none)|_=>none
 | .call { callee:=.builtin .max,args,.. }=>match args.toList with|[x,y]=>(match ev x,ev y with|.int k a,.int k' b=>if k=k' then some (.int k (if b>a then b else a))else none|_,_=>none)|_=>none
 | .binOp op _ x y _=>match ev x,ev y with|.int k a,.int k' b=>if op≠.shl/\op≠.shr/\k=k' then(Jj op k a b)else none|_,_=>none
 | .call { callee:=.builtin .len,args,argTypes }=>match argTypes.toList,args.toList with|[t],[x]=>(match ev x with|.imm _ es _=>if(A6 P t).isSome then some (.int .i64 es.length)else none|_=>none)|_,_=>none
 | _=>none
def N3 (P:Program) (ev:Operand->Value) (o:Oper) (c:Cx) (v:SV) (W:World->Prop):Prop:=∃u,V c v u/\∀w,W w->(execOp ev o).run P w=.ok (.value u) w
section
variable {P : Program} {ev : Operand → Value} {o : Oper} {c : Cx} {evs : Operand → SV}
theorem Qm {t:TypeId} {x:Operand} {v:SV} {cs:List SV} (ho:o.op=.load t x) (hx:evs x=.iptr cs) (hs:(Bk cs 0 (Bh P t)).bind (PL (Fx P t))=some v) (hv:V c (evs x) (ev x)):
 N3 P ev o c v λw=>∃c',c'.w=w/\DD c c':=by
 rw[hx,V]at hv
 obtain⟨a,vs,hu,hst,hc,hsp⟩:=hv
 rw[BJ]at hc
 cases ht:Bk cs 0 (Bh P t)with
 | none=>simp[ht]at hs
 | some r =>
  simp only[ht,Yu]at hs
  obtain⟨hle,rfl⟩:=EX ht
  simp only[ZV]at hs
  have hc':=hc.take (Bh P t)
  have h1':∀x∈vs.take (Bh P t),x.oneCell'=true:=λx hx=>hst.one x (Yw hx)
  have hlen:(vs.take (Bh P t)).length=Bh P t:=by have:=hc.length;simp;omega
  have hcell':∀c':Cx,DD c c'->∀i x,(vs.take (Bh P t))[i]? = some x->c'.w.cell? ⟨a.block,a.off+i,none⟩=some x:=λc' X i x hx=>by
   rw[YU]at hx
   split at hx
   . exact(hst.mono X).cell _ _ hx
   . cases hx
  rcases Kf hs hc' h1' with⟨hag,hv⟩|⟨hag,x,hx,hv⟩
  . refine⟨_,hv,?_⟩
    rintro w ⟨c',rfl,X⟩
    simp[execOp,ho,hu,Instr.loadAt,Instr.sureAddr,(Dw hsp hag hlen (hcell' c' X)).1 rfl]
  . refine⟨_,hv,?_⟩
    rintro w ⟨c',rfl,X⟩
    simp[execOp,ho,hu,Instr.loadAt,Instr.sureAddr,(Dw hsp hag hlen (hcell' c' X)).2 rfl x hx]
theorem Pg {t:TypeId} {x:Operand} {i:Nat} {v:SV} (ho:o.op=.fieldAddr t x i) (hs:Gk P t (evs x) i=some v) (hx:V c (evs x) (ev x)):N3 P ev o c v λ_=>True:=by
 simp only[Gk]at hs
 cases hf:H8 P t i with
 | none=>simp[hf]at hs
 | some q=>
  obtain⟨off,ft⟩:=q
  simp only[hf]at hs
  by_cases hz:Bh P ft=0
  . simp[hz]at hs
  . simp only[hz,if_false]at hs
    obtain⟨fs,f,hu,hfi,rfl,rfl⟩:∃fs f,P.underlying t=some (.struct fs)/\fs[i]? = some f/\f.offset=off/\f.type=ft:=by
     unfold H8 at hf
     cases hu:P.underlying t with
     | none=>simp[hu]at hf
     | some d=>
      cases d<;>simp only[hu]at hf<;>try cases hf
      rename_i fs
      simp only[YI]at hf
      obtain⟨f,hfi,he⟩:=hf
      cases he
      exact⟨fs,f,rfl,hfi,rfl,rfl⟩
    obtain⟨ii,hi,hsz⟩:∃ii,P.info? f.type=some ii/\Bh P f.type=ii.size:=by
     cases hi:P.info? f.type with
     | none=>simp[Bh,Program.cellsOf,hi]at hz
     | some ii=>exact⟨ii,rfl,by simp[Bh,Program.cellsOf,hi]⟩
    have hfp:∀(a:Addr) (w:World),(fieldPlace a f).run P w=.ok (a.add f.offset) w:=λa w=>by
     simp[fieldPlace,sizeOf,typeInfo,hi,show ¬ii.size=0 by omega]
    have hrun:∀(a:Addr) (w:World),ev x=.pointer (some a)->(execOp ev o).run P w=.ok (.value (.pointer (some (a.add f.offset)))) w:=λa w ha=>by
     simp[execOp,ho,Instr.fieldAt,AM hu,hfi,ha,Instr.sureAddr,hfp]
    split at hs<;>try (simp at hs;done)
    . rename_i j a hj
      cases hs
      rw[hj,V]at hx
      obtain⟨b,st,hρ,hxx⟩:=hx
      refine⟨_,?_,λw _=>hrun _ w hxx⟩
      rw[FT,V]
      exact⟨b,st,hρ,by rw[Yn]⟩
    . rename_i cs hj
      cases hs
      rw[hj,V]at hx
      obtain⟨a,vs,hxx,hst,hc,hsp⟩:=hx
      refine⟨_,?_,λw _=>hrun _ w hxx⟩
      rw[Cj hsp,V]
      refine⟨_,vs.drop f.offset,rfl,⟨λ_=>rfl,λhv=>hst.free (by rintro rfl;simp at hv),λj x hj=>?_,λx hx=>hst.one x (YP hx)⟩,BJ.2 ((BJ.1 hc).drop _),rfl⟩
      rw[YM]at hj
      simp only[Yn]
      exact hst.cell _ _ hj
theorem Ph {t:TypeId} {x y:Operand} {z':Nat} {es:List SV} {full:Bool} {kk:IntKind} {n:Int} {v:SV} (ho:o.op=.indexAddr t x y) (hj:evs x=.imm z' es full) (hn:evs y=.int kk n) (hsl0:(A6 P t).isSome=true)
 (hs:Gn P t (.imm z' es full) n=some v) (hx:V c (evs x) (ev x)) (hy:V c (evs y) (ev y)):N3 P ev o c v λ_=>True:=by
 rw[hn]at hy
 have hy':=DQ hy
 obtain⟨e,hsl⟩:=Z3.1 hsl0
 have hu:=Ay hsl
 simp only[Gn,hsl]at hs
 by_cases hz:Bh P e=0
 . simp[hz]at hs
 obtain⟨ii,hi,hsz⟩:=EO hz
 simp only[hz,if_false]at hs
 by_cases hc:z'=Bh P e/\0<=n
 . simp only[hc,and_self,if_true]at hs
   obtain⟨hc1,hc2⟩:=hc
   cases he:es[n.toNat]? with
   | none=>simp[he]at hs
   | some v=>
    simp only[he,YN,Y6]at hs
    subst hs
    rw[hj,V]at hx
    rcases hx with⟨hx,_⟩|⟨a,cap,vs,hxx,_,_,hst,hE⟩
    . subst hx;simp at he
    . subst hc1
      have hspot:a.spot=none:=hst.spot (λe0=>by have h1:=NG hE;have h2:=(Y9.1 he).1;rw[e0,Zh]at h1;have h3:0<es.length*Bh P e:=Nat.mul_pos (by omega) (by omega);omega)
      obtain⟨u,g1,g2,g3,g4,g5⟩:=OV hE he
      have hlt:n<es.length:=by have:=(Y9.1 he).1;omega
      refine⟨.pointer (some ⟨a.block,a.off+n.toNat*Bh P e,none⟩),?_,λw _=>?_⟩
      . rw[V]
        exact⟨_,u.cells.toList,rfl,by rw[<-g4];exact hst.sub _ _,BJ.2 (g1.cells g2).1,rfl⟩
      . simp[execOp,ho,Instr.indexAt,hy',asIntOf,AM hu,hxx,hc2,hlt,sizeOf,typeInfo,hi,Cj hspot,hsz]
 . simp[hc]at hs
theorem Pi {t:TypeId} {x:Operand} {lo hi mx:Option Operand} {z:Nat} {es:List SV} {full:Bool} {v:SV} (ho:o.op=.slice t x lo hi mx) (e1:evs x=.imm z es full) (hb:It P t (.imm z es full) (lo.map evs) (hi.map evs) (mx.map evs)=some v)
 (H:∀y∈o.op.operands,V c (evs y) (ev y)):N3 P ev o c v λ_=>True:=by
 rw[ho]at H
 have hx:=H x (by simp[Op.operands])
 have hlo:=FL (c:=c) (ev:=ev) (evs:=evs) lo λy e=>H y (by subst e;simp[Op.operands])
 have hhi:=FL (c:=c) (ev:=ev) (evs:=evs) hi λy e=>H y (by subst e;simp[Op.operands])
 have hmx:=FL (c:=c) (ev:=ev) (evs:=evs) mx λy e=>H y (by subst e;simp[Op.operands])
 suffices hgoal:∃r,(∀w,(Instr.sliceAt t (ev x) (lo.map ev) (hi.map ev) (mx.map ev)).run P w=.ok r w)/\V c v r by
  obtain⟨r,hr,hv⟩:=hgoal
  exact⟨r,hv,λw _=>by simp[execOp,ho,hr w]⟩
 have cvt:∀{s:Option SV} {vv:Option Value} {d:Option Int} {n:Int} {N:Nat},RY s d=some n->0<=n->((∀x,s=some x->∃u,vv=some u/\V c x u)/\(s=none->vv=none))->d=some (N:Int)->
  (vv=none/\n.toNat=N)\/∃i,vv=some (.int i n.toNat):=λhb h0 hv hd=>by
  rcases N9 hb hv.1 hv.2 with⟨_,e,e2⟩|⟨i,e⟩
  . rw[hd]at e2;cases e2;exact .inl ⟨e,by simp⟩
  . exact .inr ⟨i,by rw[e];congr 2;omega⟩
 unfold It at hb
 rw[e1]at hx
 dsimp only at hb
 cases hsl':A6 P t with
 | none=>simp[hsl']at hb
 | some e =>
  have hu:=Ay hsl'
  simp only[hsl',Option.any_some]at hb
  split at hb<;>try cases hb
  rename_i hz
  simp only[Z1,Zl,Yb,bne_iff_ne,ne_eq,Xd,beq_iff_eq,List.isEmpty_iff]at hz
  obtain⟨hz0,hz⟩:=hz
  obtain⟨ii,hi',hsz⟩:=EO hz0
  split at hb<;>try cases hb
  rename_i l m hl hm
  split at hb<;>try cases hb
  rename_i hc2
  have hlo':=cvt hl hc2.1 hlo (by rfl:some (0:Int)=some ((0:Nat):Int))
  have hhi':=cvt hm (by omega) hhi rfl
  cases mx with
  | none=>
   simp only[Zy,Y6]at hb
   subst hb
   refine IK hu hx ⟨ii,hi',hsz.symm⟩ hz (by omega) (by omega) λcap h1 h2=>⟨cap,by omega,Y1 _,λhf=>?_,λw=>GZ hlo' hhi' (by omega) (by omega) h1 w⟩
   simp at hf;have:=h2 hf.1;omega
  | some mo=>
   have hmo:=hmx.1 _ rfl
   simp only[YN]at hb hmo
   split at hb<;>try cases hb
   . rename_i heq;cases heq
   . rename_i i x heq
     simp only[Y6]at heq
     obtain⟨uu,hu1,hu2⟩:=hmo
     cases hu1
     rw[heq]at hu2
     have hu3:=DQ hu2
     split at hb<;>try cases hb
     rename_i hc3
     simp only[Yb,decide_eq_true_eq]at hc3
     have hsome:∃i,Option.map ev hi=some (.int i m.toNat):=by
      rcases hhi' with⟨e1,_⟩|h
      . cases hi<;>simp at e1 hc3
      . exact h
     have hxx:(x:Int)=(x.toNat:Int):=by omega
     refine IK hu hx ⟨ii,hi',hsz.symm⟩ hz (by omega) (by omega) λcap h1 h2=>⟨x.toNat,by omega,by omega,λhf=>?_,λw=>?_⟩
     . simp at hf;omega
     . rw[YN,hu3,hxx];exact Hx hlo' hsome (by omega) (by omega) (by omega) w
theorem N3.mono {v:SV} {W W':World->Prop} (H:N3 P ev o c v W) (h:∀w,W' w->W w):N3 P ev o c v W':=let⟨u,h1,h2⟩:=H;⟨u,h1,λw hw=>h2 w (h w hw)⟩
theorem SQ {st:Bool} {v:SV} (hs:KC P st evs o.op=some v) (H:∀x∈o.op.operands,V c (evs x) (ev x)) {W:World->Prop} (hW:st=true->∀w,W w->∃c',c'.w=w/\DD c c'):N3 P ev o c v W:=by
 unfold KC at hs
 split at hs
 . rename_i x ho
   rw[ho]at H
   cases hs
   exact⟨_,H x (by simp[Op.operands]),λw _=>by simp[execOp,ho]⟩
 . rename_i x ho
   rw[ho]at H
   cases hs
   exact⟨_,H x (by simp[Op.operands]),λw _=>by simp[execOp,ho]⟩
 . rename_i t x i ho
   rw[ho]at H
   exact(Pg ho hs (H x (by simp[Op.operands]))).mono λ_ _=>trivial
 . rename_i t a ho
   rw[ho]at H
   split at hs<;>try cases hs
   rename_i cs hx
   exact(Qm ho hx hs (H a (by simp[Op.operands]))).mono (hW rfl)
 . rename_i t x i ho
   rw[ho]at H
   split at hs<;>try cases hs
   rename_i z es f k n hx hy
   split at hs<;>try cases hs
   rename_i hsl
   exact(Ph ho hx hy hsl hs (H x (by simp[Op.operands])) (H i (by simp[Op.operands]))).mono λ_ _=>trivial
 . rename_i t x lo hi mx ho
   split at hs<;>try cases hs
   rename_i z es f hx
   exact(Pi ho hx hs H).mono λ_ _=>trivial
 . rename_i x i ho
   rw[ho]at H
   split at hs<;>try cases hs
   rename_i vs hx
   have hv:=H x (by simp[Op.operands])
   rw[hx,V]at hv
   obtain⟨us,hu,hl⟩:=hv
   obtain⟨u,hu2,hvu⟩:=(BJ.1 hl).get hs
   exact⟨u,hvu,λw _=>by simp[execOp,ho,hu,Instr.extract,hu2]⟩
 . rename_i op t x ho
   rw[ho]at H
   have hx:=H x (by simp[Op.operands])
   split at hs<;>try cases hs
   rename_i b e1
   rw[e1]at hx
   exact⟨.bool !b,by rw[V],λw _=>by simp[execOp,ho,Gc hx,Op.unary]⟩
 . rename_i x a b ho
   rw[ho]at H
   have hx:=H x (by simp[Op.operands])
   split at hs<;>try cases hs
   rename_i t e1
   rw[e1]at hx
   have hx':=Gc hx
   cases t
   . exact⟨ev b,by simpa using H b (by simp[Op.operands]),λw _=>by simp[execOp,ho,hx',asBool]⟩
   . exact⟨ev a,by simpa using H a (by simp[Op.operands]),λw _=>by simp[execOp,ho,hx',asBool]⟩
 . rename_i f a b ho
   rw[ho]at H
   cases hs
   refine⟨.func f (a.map ev) (b.map ev),?_,λw _=>by simp[execOp,ho,Instr.makeFunc]⟩
   rw[V]
   exact⟨(a.map ev).toList,(b.map ev).toList,by rw[Array.toArray_toList,Array.toArray_toList],BJ.2 (GX a λx hx=>H x (by simp[Op.operands]at hx ⊢;exact .inl hx)),BJ.2 (GX b λx hx=>H x (by simp[Op.operands]at hx ⊢;exact .inr hx))⟩
 . rename_i x ho
   rw[ho]at H
   have hx:=H x (by simp[Op.operands])
   split at hs<;>try cases hs
   . rename_i j off e1
     rw[e1]at hx
     have hx':=hx
     rw[V]at hx
     obtain⟨b,st,_,hu⟩:=hx
     exact⟨ev x,hx',λw _=>by simp[execOp,ho,hu]⟩
   . rename_i cs e1
     rw[e1]at hx
     have hx':=hx
     rw[V]at hx
     obtain⟨a,vs,hu,_⟩:=hx
     exact⟨ev x,hx',λw _=>by simp[execOp,ho,hu]⟩
 . rename_i args ts ho
   rw[ho]at H
   split at hs<;>try cases hs
   rename_i x y e1
   have ea:=IQ e1
   subst ea
   have hx:=H x (by simp[Op.operands,Call.operands])
   have hy:=H y (by simp[Op.operands,Call.operands])
   split at hs<;>try cases hs
   rename_i k a k' b g1 g2
   split at hs<;>try cases hs
   rename_i hk
   subst hk
   rw[g1]at hx
   rw[g2]at hy
   exact⟨.int k (if b<a then b else a),by rw[V],λw _=>Bc (P:=P) (ev:=ev) ho w w _ λcs=>by simp[builtin,DQ hx,DQ hy,Builtin.min_,Builtin.min2]⟩
 . rename_i args ts ho
   rw[ho]at H
   split at hs<;>try cases hs
   rename_i x y e1
   have ea:=IQ e1
   subst ea
   have hx:=H x (by simp[Op.operands,Call.operands])
   have hy:=H y (by simp[Op.operands,Call.operands])
   split at hs<;>try cases hs
   rename_i k a k' b g1 g2
   split at hs<;>try cases hs
   rename_i hk
   subst hk
   rw[g1]at hx
   rw[g2]at hy
   exact⟨.int k (if b>a then b else a),by rw[V],λw _=>Bc (P:=P) (ev:=ev) ho w w _ λcs=>by simp[builtin,DQ hx,DQ hy,Builtin.max_,Builtin.max2]⟩
 . rename_i op t x y t2 ho
   rw[ho]at H
   have hx:=H x (by simp[Op.operands])
   have hy:=H y (by simp[Op.operands])
   split at hs<;>try cases hs
   rename_i k a k' b e1 e2
   split at hs<;>try cases hs
   rename_i hc
   obtain⟨n1,n2,rfl⟩:=hc
   rw[e1]at hx
   rw[e2]at hy
   have hrun:∀w,∃r,(execOp ev o).run P w=.ok (.value r) w/\V c v r:=λw=>by
    obtain⟨r,h1,h2⟩:=LB (c:=c) (P:=P) (t:=t) hs n1 n2 w
    exact⟨r,by simp[execOp,ho,DQ hx,DQ hy,Hy (P:=P),h1],h2⟩
   obtain⟨u,hu⟩:∃u,∀r,V c v r->r=u:=by
    cases op<;>simp only[Jj]at hs<;>(try split at hs)<;>(try cases hs)<;>first|exact⟨_,λr hr=>DQ hr⟩|exact⟨_,λr hr=>Gc hr⟩|(exact absurd rfl n1)|(exact absurd rfl n2)
   obtain⟨r0,h1,h2⟩:=hrun c.w
   have e0:=hu r0 h2
   subst e0
   refine⟨_,h2,λw _=>?_⟩
   obtain⟨r,h3,h4⟩:=hrun w
   rw[h3,hu r h4]
 . rename_i args ts ho
   rw[ho]at H
   split at hs<;>try cases hs
   rename_i t x e1 e2
   split at hs<;>try cases hs
   rename_i z es f e3
   split at hs<;>try cases hs
   rename_i hsl
   obtain⟨e,he⟩:=KM hsl
   have ea:=J4 e2
   have et:=J4 e1
   subst ea et
   have hv:=H x (by simp[Op.operands,Call.operands])
   rw[e3,V]at hv
   refine⟨.int .i64 es.length,by rw[V],λw _=>Bc (P:=P) (ev:=ev) ho w w _ λcs=>?_⟩
   rcases hv with⟨rfl,hu⟩|⟨a,cap,vs,hu,_⟩
   . simp[builtin,hu,Builtin.len_,AM (Ay he),goInt]
   . simp[builtin,hu,Builtin.len_,AM (Ay he),goInt]
 . cases hs
theorem Pf {st:Bool} {v:SV} (hs:KC P st evs o.op=some v) (w:World):o.about P w ev=none:=by
 unfold Oper.about
 unfold KC at hs
 split at hs<;>first|(rename_i ho;rw[ho];done)|(rename_i _ ho;rw[ho];done)|(rename_i _ _ ho;rw[ho];done)|(rename_i _ _ _ ho;rw[ho];done)|(rename_i _ _ _ _ _ ho;rw[ho];done)|(rename_i ho;rw[ho];simp[resolve,Target.leads];done)|cases hs
def Hq:Op->Bool
 | .move _|.assign _|.fieldAddr .. | .load .. | .indexAddr .. | .slice .. | .extract .. | .unOp .. | .pick .. | .binOp .. | .makeFunc .. | .nilCheck _=>true
 | .call { callee:=.builtin .len,.. }|.call { callee:=.builtin .min,.. }|.call { callee:=.builtin .max,.. }=>true
 | _=>false
theorem Pb (hs:Hq o.op=true) (w:World):o.about P w ev=none:=by
 unfold Oper.about
 cases ho:o.op<;>simp[ho,Hq]at hs ⊢
 split at hs<;>first|(rename_i h;cases h;done)|skip
 all_goals first|(rename_i h;cases h;simp[resolve,Target.leads];done)|(simp at hs;done)|trace_state
end
inductive Tr where
 | nil
 | pure (i:Nat) (t:Tr)
 | one (i:Nat) (t:Tr)
 | two (i j:Nat) (t u:Tr)
def Ln (ops:Array Oper):Array Bool->Tr->Bool
 | listed,.nil=>(Region.ready .any ops listed).isEmpty
 | listed,.pure i t=>Region.free .any ops listed i&&(Region.ready .any ops listed).contains i&&Ln ops (listed.setIfInBounds i true) t
 | listed,.one i t=>Region.ready .any ops listed==[i]&&Ln ops (listed.setIfInBounds i true) t
 | listed,.two i j t u=>Region.ready .any ops listed==[i,j]&&Ln ops (listed.setIfInBounds i true) t&&Ln ops (listed.setIfInBounds j true) u
section
variable (E : Br) (P : Program) (ops : Array Oper) (K : SA → Hp → Nat → Prop)
def Lf (o:Oper) (sa:SA) (h:Hp) (n:Nat) (T:SA->Hp->Nat->Prop):Prop:=
 match DV ops sa o with
 | some b=>if b=true then KJ E P o sa h n λv h' n'=>T (Dr sa o.dst v) h' n' else T (Dr sa o.dst (.tup [])) h n
 | none=>False
def SO (st:Bool) (o:Oper) (sa:SA) (T:SA->Prop):Prop:=
 match DV ops sa o with
 | some b=>if b=true then match KC P st (Gf sa) o.op with|some v=>T (Dr sa o.dst v)|none=>False else Hq o.op=true/\T (Dr sa o.dst (.tup []))
 | none=>False
def Nw:Bool->Tr->SA->Hp->Nat->Prop
 | _,.nil,sa,h,n=>K sa h n
 | st,.pure i t,sa,h,n=>match ops[i]? with|some o=>SO P ops st o sa λsa'=>Nw st t sa' h n|none=>False
 | _,.one i t,sa,h,n=>match ops[i]? with|some o=>Lf E P ops o sa h n (Nw false t)|none=>False
 | _,.two i j t u,sa,h,n=>match ops[i]?,ops[j]? with|some o,some q=>Lf E P ops o sa h n (Nw false t)/\Lf E P ops q sa h n (Nw false u)|_,_=>False
end
section
variable {E : Br} {P : Program} {N : Nat} {ops : Array Oper} {K : SA → Hp → Nat → Prop}
def To (E:Br) (N n:Nat) (c:Cx) (K:SA->Hp->Nat->Prop):Exit->Act->World->Prop:=λe a' w'=>
 e=.normal/\∃sa' h' n' c',K sa' h' n'/\c'.w=w'/\Bl h' c'/\Fr n' c'/\FR E N sa' c' a'/\Ff n c n' c'
theorem H6 {i:Nat} {o:Oper} {sa:SA} {h:Hp} {n:Nat} {T:SA->Hp->Nat->Prop} {c:Cx} {a:Act} {Kr:Act->World->Prop} {Qr:Exit->Act->World->Prop} (hi:ops[i]? = some o) (hd:∀d,o.dst=some d->d<N)
 (H:Lf E P ops o sa h n T) (I:E.inv c) (R:Bl h c) (F:Fr n c) (A:FR E N sa c a)
 (hK:∀sa' h' n' c' a',T sa' h' n'->Bl h' c'->Fr n' c'->FR E N sa' c' a'->Ff n c n' c'->Kr a' c'.w):wpOpIn E.fc 0 P ops Qr i Kr a c.w:=by
 unfold wpOpIn
 rw[hi]
 simp only
 unfold Lf at H
 split at H
 . rename_i b hg
   rw[Gm A hg]
   cases b
   . simp only[Y7,if_false]at H ⊢
     exact⟨λ_ _=>trivial,hK _ _ _ c _ H R F (A.put hd Ka) (ZB n c)⟩
   . simp only[if_true]at H ⊢
     exact H5 H I R F A λv h' n' c' u hk hv R' F' X'=>hK _ _ _ c' _ hk R' F' ((A.ext X'.ext).put hd hv) X'
 . exact H.elim
theorem Sk (hro:E.ro=none) (hdst:∀(i:Nat) (o:Oper),ops[i]? = some o->∀d,o.dst=some d->d<N) (hsel:∀(j:Nat) (o:Oper) cs b,ops[j]? = some o->o.op≠.select cs b) {n0:Nat} {c0 c1:Cx}:
 ∀(t:Tr) (st:Bool) (listed:Array Bool) (fuel:Nat) (sa:SA) (h:Hp) (n:Nat) (c:Cx) (a:Act),listed.size=ops.size->Sv listed=fuel->Ln ops listed t=true->Nw E P ops K st t sa h n->
  E.inv c->Bl h c->Fr n c->FR E N sa c a->Ff n0 c0 n c->DD c1 c->(st=true->c=c1)->
  Lr E.fc 0 P .any ops (To E N n0 c0 K) (λw=>∃c',c'.w=w/\DD c1 c') fuel listed a c.w:=by
 have hfr:E.fc.round=none:=hro
 intro t
 induction t with
 | nil=>
  intro st listed fuel sa h n c a _ _ hok H I R F A X _ _
  have hr:Region.ready .any ops listed=[]:=by simpa[Ln]using hok
  have hq:To E N n0 c0 K .normal a c.w:=⟨rfl,sa,h,n,c,H,rfl,R,F,A,X⟩
  cases fuel with
  | zero=>exact⟨hr,hq⟩
  | succ fuel=>exact⟨λ_=>hq,by rw[hr];simp⟩
 | pure i t ih=>
  intro st listed fuel sa h n c a hs hu hok H I R F A X X1 hst
  simp only[Ln,Yb]at hok
  obtain⟨⟨hfree,hr⟩,hok⟩:=hok
  simp only[Nw]at H
  split at H
  case h_2=>exact H.elim
  rename_i o ho
  have hmem:i∈Region.ready .any ops listed:=by simpa using hr
  obtain⟨hun,_,_,_⟩:=mem_ready.1 hmem
  have hlt:=(Yd.1 ho).1
  have hF:listed.getD i false=false:=by rw[GU (by omega)]at hun ⊢;exact hun
  have hu2:=JP (by omega) hF
  obtain⟨fuel,rfl⟩:∃f,fuel=f+1:=⟨fuel-1,by omega⟩
  unfold SO at H
  split at H
  case h_2=>exact H.elim
  rename_i b hg
  have hw:=Gm A hg
  cases b
  . simp only[Y7,if_false]at H
    refine JS (v:=undef) hfr ho hsel (λ_ _ _ e=>by cases e.1) fuel listed a c.w (Region.free_spec ho hfree) hmem ⟨.inr ⟨hw,rfl⟩,λw=>Pb H.1 w⟩ ⟨c,rfl,X1⟩ (ih st _ fuel _ h n c _ (by simp[hs]) (by omega) hok H.2 I R F (A.put (hdst i o ho) Ka) X X1 hst)
  . simp only[if_true]at H
    split at H
    case h_2=>exact H.elim
    rename_i v hv
    obtain⟨u,hvu,hrun⟩:=SQ (c:=c) (W:=λw=>∃c',c'.w=w/\DD c1 c') hv (λx _=>A.ev x) (λe w hw=>by rw[hst e];exact hw)
    refine JS (v:=u) hfr ho hsel (λ_ _ _ e=>by cases e.1) fuel listed a c.w (Region.free_spec ho hfree) hmem ⟨.inl ⟨hw,hrun⟩,λw=>Pf hv w⟩ ⟨c,rfl,X1⟩
     (ih st _ fuel _ h n c _ (by simp[hs]) (by omega) hok H I R F (A.put (hdst i o ho) hvu) X X1 hst)
 | one i t ih=>
  intro st listed fuel sa h n c a hs hu hok H I R F A X X1 hst
  simp only[Ln,Yb,beq_iff_eq]at hok
  obtain⟨hr,hok⟩:=hok
  simp only[Nw]at H
  split at H
  case h_2=>exact H.elim
  rename_i o ho
  have hmem:i∈Region.ready .any ops listed:=by rw[hr];simp
  obtain⟨hun,_,_,_⟩:=mem_ready.1 hmem
  have hlt:=(Yd.1 ho).1
  have hF:listed.getD i false=false:=by rw[GU (by omega)]at hun ⊢;exact hun
  have hu2:=JP (by omega) hF
  obtain⟨fuel,rfl⟩:∃f,fuel=f+1:=⟨fuel-1,by omega⟩
  refine⟨λe=>(by rw[e]at hr;cases hr),λj hj=>?_⟩
  rw[hr]at hj
  obtain rfl:=Yk.1 hj
  exact H6 ho (hdst j o ho) H I R F A λsa' h' n' c' a' hT R' F' A' X'=>⟨⟨c',rfl,X1.trans X'.ext⟩,ih false _ fuel _ h' n' c' a' (by simp[hs]) (by omega) hok hT (E.ext X'.ext I) R' F' A' (X.trans X') (X1.trans X'.ext) (by simp)⟩
 | two i j t u iht ihu =>
  intro st listed fuel sa h n c a hs hu hok H I R F A X X1 hst
  simp only[Ln,Yb,beq_iff_eq]at hok
  obtain⟨⟨hr,hok1⟩,hok2⟩:=hok
  simp only[Nw]at H
  split at H
  case h_2=>exact H.elim
  rename_i o q ho hq
  have hun:∀k,k∈Region.ready .any ops listed->Sv (listed.setIfInBounds k true)+1=Sv listed:=λk hk=>by
   obtain⟨hun,o',ho',_⟩:=mem_ready.1 hk
   have hlt:=(Yd.1 ho').1
   have hF:listed.getD k false=false:=by rw[GU (by omega)]at hun ⊢;exact hun
   exact JP (by omega) hF
  have hui:=hun i (by rw[hr];simp)
  have huj:=hun j (by rw[hr];simp)
  obtain⟨fuel,rfl⟩:∃f,fuel=f+1:=⟨fuel-1,by omega⟩
  refine⟨λe=>(by rw[e]at hr;cases hr),λk hk=>?_⟩
  rw[hr]at hk
  rcases Yg.1 hk with rfl|hk
  . exact H6 ho (hdst _ o ho) H.1 I R F A λsa' h' n' c' a' hT R' F' A' X'=>⟨⟨c',rfl,X1.trans X'.ext⟩,iht false _ fuel _ h' n' c' a' (by simp[hs]) (by omega) hok1 hT (E.ext X'.ext I) R' F' A' (X.trans X') (X1.trans X'.ext) (by simp)⟩
  . obtain rfl:=Yk.1 hk
    exact H6 hq (hdst _ q hq) H.2 I R F A λsa' h' n' c' a' hT R' F' A' X'=>⟨⟨c',rfl,X1.trans X'.ext⟩,ihu false _ fuel _ h' n' c' a' (by simp[hs]) (by omega) hok2 hT (E.ext X'.ext I) R' F' A' (X.trans X') (X1.trans X'.ext) (by simp)⟩
theorem UI (hro:E.ro=none) (hm:P.follows .mixedOrders=true) (t:Tr) {id:Nat} {Q:Cc} {sa:SA} {h:Hp} {n:Nat} (hs:Region.noSelect ops=true) (hok:Ln ops (Array.replicate ops.size false) t=true)
 (H:Nw E P ops (Q .normal) true t sa h n):Fk E P N (.region id ops true) Q sa h n:=by
 intro hd c a I R F A
 simp only[Code.dok,YL]at hd
 have hdd:∀(i:Nat) (o:Oper),ops[i]? = some o->∀d,o.dst=some d->d<N:=λi o ho d e=>by
  have:=hd o (by simpa using Array.mem_of_getElem? ho)
  rw[e]at this;simpa using this
 have:=Sk (E:=E) (P:=P) (N:=N) (K:=Q .normal) (n0:=n) (c0:=c) (c1:=c.drew) hro hdd (Region.noSelect_spec hs) t true (Array.replicate ops.size false) ops.size sa h n c.drew a (by simp) (by simp[Sv]) hok H
  (E.ext c.drew_ext I) R.drew (λj hj=>F j hj) (A.ext c.drew_ext) ⟨c.drew_ext,Y1 _,λ_ _=>rfl⟩ (Xk _) (λ_=>rfl)
 refine wpIn_mono (wpIn_region_any hm (JR (S:=λw=>∃c',c'.w=w/\DD c.drew c') _ _ _ _ this)) ?_
 rintro e a' w' ⟨rfl,sa',h',n',c',h1,h2,h3,h4,h5,h6⟩
 exact⟨sa',h',n',c',h1,h2,h3,h4,h5,h6⟩
end
noncomputable def RN:(E:Br)->(P:Program)->(ops:Array Oper)->(K:SA->Hp->Nat->Prop)->Bool->Tr->SA->Hp->Nat->Prop:=Classical.choose (Bf Nw)
theorem Iw:RN=Nw:=Z5 (Bf Nw)
noncomputable def ktr:(E:Br)->(P:Program)->(ops:Array Oper)->(K:SA->Hp->Nat->Prop)->Tr->SA->Option Tmp->SV->Hp->Nat->Prop:=
 Classical.choose (Bf λE P ops K t sa dst v h n=>RN E P ops K false t (Dr sa dst v) h n)
section
variable (E : Br) (P : Program) (ops : Array Oper) (K : SA → Hp → Nat → Prop) (st : Bool) (t u : Tr) (sa : SA) (h : Hp) (n i j : Nat)
@[go_sem] theorem Uk (dst:Option Tmp) (v:SV):ktr E P ops K t sa dst v h n=RN E P ops K false t (Dr sa dst v) h n:=by
 unfold ktr;rw[Z5 (Bf λE P ops K t sa dst v h n=>RN E P ops K false t (Dr sa dst v) h n)]
theorem TR (o:Oper):ktr E P ops K t sa o.dst=λv h' n'=>Nw E P ops K false t (Dr sa o.dst v) h' n':=by
 funext v h' n';rw[Uk,Iw]
@[go_sem] theorem wtr_nil:RN E P ops K st .nil sa h n=K sa h n:=by rw[Iw];simp only[Nw]
@[go_sem] theorem wtr_pure:RN E P ops K st (.pure i t) sa h n=match ops[i]? with
 | some o=>(match DV ops sa o with
  | some b=>if b=true then(match KC P st (Gf sa) o.op with|some v=>RN E P ops K st t (Dr sa o.dst v) h n|none=>False)else Hq o.op=true/\RN E P ops K st t (Dr sa o.dst (.tup [])) h n
  | none=>False)
 | none=>False:=by
 rw[Iw];simp only[Nw,SO]
 all_goals
  cases ops[i]? with
  | none=>rfl
  | some o =>
   simp only
   cases DV ops sa o with
   | none=>rfl
   | some b=>cases b with
    | false=>rfl
    | true=>simp only[if_true];cases KC P st (Gf sa) o.op<;>rfl
def M6 (o:Oper):Prop:=
 match DV ops sa o with
 | some b=>if b=true then KJ E P o sa h n (ktr E P ops K t sa o.dst)else RN E P ops K false t (Dr sa o.dst (.tup [])) h n
 | none=>False
theorem O9 (o:Oper):M6 E P ops K t sa h n o=Lf E P ops o sa h n (Nw E P ops K false t):=by
 unfold M6 Lf
 rw[TR,Iw]
 all_goals
  cases DV ops sa o with
  | none=>rfl
  | some b=>cases b<;>rfl
@[go_sem] theorem wtr_one:RN E P ops K st (.one i t) sa h n=match ops[i]? with|some o=>M6 E P ops K t sa h n o|none=>False:=by
 rw[Iw];simp only[Nw,O9]<;>cases ops[i]? <;> rfl
@[go_sem] theorem wtr_two:RN E P ops K st (.two i j t u) sa h n=match ops[i]?,ops[j]? with|some o,some q=>M6 E P ops K t sa h n o/\M6 E P ops K u sa h n q|_,_=>False:=by
 rw[Iw];simp only[Nw,O9]<;>cases ops[i]? <;> cases ops[j]? <;> rfl
end
attribute [go_sem] M6 KC Hq
theorem B7 {E:Br} {N id:Nat} {ops:Array Oper} {Q:Cc} {sa:SA} {h:Hp} {n:Nat} (t:Tr) (hro:E.ro=none) (hs:Region.noSelect ops=true) (hok:Ln ops (Array.replicate ops.size false) t=true)
 (H:RN E Tryz.prog ops (Q .normal) true t sa h n):SP E N (.region id ops true) Q sa h n:=
 UI hro follows t hs hok (by rw[<-Iw];exact H)
end Go.Proofs.YtgakninlhfkkmaaGreat.Sh
namespace Go.Proofs
open Go.Shelf
def Tryz.sortA_ren:Go.Shelf.Ren:=⟨fun|5=>197|8=>169|7=>261|19=>245|20=>246|10=>290|11=>291|12=>292|13=>293|14=>294|15=>295|16=>142|17=>296|18=>297|30=>315|31=>281|32=>282|33=>316|34=>317|35=>170|40=>326|n=>n,fun|23=>61|25=>3|3=>3|32=>213|22=>61|0=>0|44=>306|46=>308|4=>4|36=>300|35=>299|41=>123|5=>5|9=>9|53=>342|57=>72|63=>373|64=>374|n=>n,fun|n=>n⟩
theorem Tryz.sortA:Go.Proofs.SlLaysM.n5 Tryz.prog Tryz.sortA_ren:={
 mixed:=by kernel_rfl
 f5:=⟨Tryz.f197.name,by decide,Tryz.func197.trans (congrArg some (by kernel_rfl))⟩
 f7:=⟨Tryz.f261.name,by decide,Tryz.func261.trans (congrArg some (by kernel_rfl))⟩
 f8:=Tryz.func169.trans (congrArg some (by kernel_rfl))
 f10:=⟨Tryz.f290.name,by decide,Tryz.func290.trans (congrArg some (by kernel_rfl))⟩
 f11:=⟨Tryz.f291.name,by decide,Tryz.func291.trans (congrArg some (by kernel_rfl))⟩
 f12:=⟨Tryz.f292.name,by decide,Tryz.func292.trans (congrArg some (by kernel_rfl))⟩
 f13:=⟨Tryz.f293.name,by decide,Tryz.func293.trans (congrArg some (by kernel_rfl))⟩
 f14:=⟨Tryz.f294.name,by decide,Tryz.func294.trans (congrArg some (by kernel_rfl))⟩
 f15:=⟨Tryz.f295.name,by decide,Tryz.func295.trans (congrArg some (by kernel_rfl))⟩
 f16:=⟨Tryz.f142.name,by decide,Tryz.func142.trans (congrArg some (by kernel_rfl))⟩
 f17:=⟨Tryz.f296.name,by decide,Tryz.func296.trans (congrArg some (by kernel_rfl))⟩
 f18:=⟨Tryz.f297.name,by decide,Tryz.func297.trans (congrArg some (by kernel_rfl))⟩
 f19:=Tryz.func245.trans (congrArg some (by kernel_rfl))
 f20:=Tryz.func246.trans (congrArg some (by kernel_rfl))
 f30:=⟨Tryz.f315.name,by decide,Tryz.func315.trans (congrArg some (by kernel_rfl))⟩
 f31:=Tryz.func281.trans (congrArg some (by kernel_rfl))
 f32:=Tryz.func282.trans (congrArg some (by kernel_rfl))
 f33:=⟨Tryz.f316.name,by decide,Tryz.func316.trans (congrArg some (by kernel_rfl))⟩
 f34:=⟨Tryz.f317.name,by decide,Tryz.func317.trans (congrArg some (by kernel_rfl))⟩
 f35:=⟨Tryz.f170.name,by decide,Tryz.func170.trans (congrArg some (by kernel_rfl))⟩
 f40:=⟨Tryz.f326.name,by decide,Tryz.func326.trans (congrArg some (by kernel_rfl))⟩
 t0:=Tryz.underlying0
 a0:=Tryz.isAgg0
 z0:=Tryz.sizeOf0
 v0:=Tryz.zeroValue0
 t3:=Tryz.underlying3
 a3:=Tryz.isAgg3
 z3:=Tryz.sizeOf3
 v3:=Tryz.zeroValue3
 t4:=Tryz.underlying4
 a4:=Tryz.isAgg4
 z4:=Tryz.sizeOf4
 v4:=Tryz.zeroValue4
 t5:=Tryz.underlying5
 a5:=Tryz.isAgg5
 z5:=Tryz.sizeOf5
 v5:=Tryz.zeroValue5
 t9:=Tryz.underlying9
 a9:=Tryz.isAgg9
 z9:=Tryz.sizeOf9
 v9:=Tryz.zeroValue9
 t22:=Tryz.underlying61
 a22:=Tryz.isAgg61
 z22:=Tryz.sizeOf61
 v22:=Tryz.zeroValue61
 t23:=Tryz.underlying61
 a23:=Tryz.isAgg61
 z23:=Tryz.sizeOf61
 v23:=Tryz.zeroValue61
 t25:=Tryz.underlying3
 a25:=Tryz.isAgg3
 z25:=Tryz.sizeOf3
 v25:=Tryz.zeroValue3
 t32:=Tryz.underlying213
 a32:=Tryz.isAgg213
 z32:=Tryz.sizeOf213
 v32:=Tryz.zeroValue213
 t35:=Tryz.underlying299
 a35:=Tryz.isAgg299
 z35:=Tryz.sizeOf299
 v35:=Tryz.zeroValue299
 t36:=Tryz.underlying300
 a36:=Tryz.isAgg300
 z36:=Tryz.sizeOf300
 v36:=Tryz.zeroValue300
 t41:=Tryz.underlying123
 a41:=Tryz.isAgg123
 z41:=Tryz.sizeOf123
 v41:=Tryz.zeroValue123
 t44:=Tryz.underlying306
 a44:=Tryz.isAgg306
 z44:=Tryz.sizeOf306
 v44:=Tryz.zeroValue306
 t46:=Tryz.underlying308
 a46:=Tryz.isAgg308
 z46:=Tryz.sizeOf308
 v46:=Tryz.zeroValue308
 t53:=Tryz.underlying342
 a53:=Tryz.isAgg342
 z53:=Tryz.sizeOf342
 v53:=Tryz.zeroValue342
 t57:=Tryz.underlying72
 a57:=Tryz.isAgg72
 z57:=Tryz.sizeOf72
 v57:=Tryz.zeroValue72
 t63:=Tryz.underlying373
 a63:=Tryz.isAgg373
 z63:=Tryz.sizeOf373
 v63:=Tryz.zeroValue373
 t64:=Tryz.underlying374
 a64:=Tryz.isAgg374
 z64:=Tryz.sizeOf374
 v64:=Tryz.zeroValue374 }
end Go.Proofs
namespace Go.Proofs.YtgakninlhfkkmaaGreat.Sh
open Proofs
section
variable {h : Hp} {c : Cx}
theorem Bl.write2 {w':World} {o b st:Nat} {x y:BT} (R:Bl h c) (ho:h o=some x) (hρ:c.ρ o=some (b,st))
 (hsize:c.w.heap.size<=w'.heap.size) (hother:∀b',b'≠b->b'<c.w.heap.size->w'.heap[b']? = c.w.heap[b']?) (hroom:rm c.w b<=rm w' b) (hos:w'.os=c.w.os) (hout:w'.output=c.w.output)
 (hy:DD c { c with w:=w' }->Df { c with w:=w' } o y) (hx2:x.lst=false:=by rfl) (hy2:y.lst=false:=by rfl):Bl (hset h o (some y)) { c with w:=w' }/\DD c { c with w:=w' }:=by
 have E:DD c { c with w:=w' }:=by
  refine⟨λ_ _ e=>e,hsize,λb' hb' hn=>⟨hn,?_⟩,λb'=>?_,hos,hout⟩
  . refine hother b' ?_ hb'
    rintro rfl
    exact hn (R.ownI ⟨o,x,st,ho,hρ⟩)
  . by_cases e:b'=b
    . subst e;exact hroom
    . rcases YX b' c.w.heap.size with hl|hl
      . simp[rm,hother b' e hl]
      . simp[rm,Z2 hl]
 have hz:∀z:BT,z.lst=false->∀b',A8 c o z b'->b'=b:=λz hz b' H=>by
  rcases H with⟨st',H⟩|⟨H,_⟩
  . rw[hρ]at H;cases H;rfl
  . rw[hz]at H;cases H
 have live:∀j z,hset h o (some y) j=some z->∃z0,h j=some z0/\∀b',A8 { c with w:=w' } j z b'->A8 c j z0 b':=λj z e=>by
  simp only[hset]at e
  split at e
  . subst_vars;cases e;exact⟨x,ho,λb' H=>by rw[hz y hy2 b' H];exact .inl ⟨st,hρ⟩⟩
  . exact⟨z,e,λb' H=>H⟩
 refine⟨⟨λj z e=>?_,λi j z z' b1 e1 e2 e3 e4=>?_,λb'=>?_⟩,E⟩
 . simp only[hset]at e
   split at e
   . subst_vars;cases e;exact hy E
   . rename_i hj
     refine(R.obj j z e).mono E λb2 e'=>hother b2 ?_ ((R.obj j z e).hold_lt e')
     rintro rfl
     exact hj (R.inj2 j o z x b2 e ho e' (.inl ⟨st,hρ⟩))
 . obtain⟨z0,g1,k1⟩:=live i z e1
   obtain⟨z1,g2,k2⟩:=live j z' e2
   exact R.inj2 i j z0 z1 b1 g1 g2 (k1 _ e3) (k2 _ e4)
 . rw[R.own2 b']
   constructor
   . rintro⟨j,z,e1,e2⟩
     by_cases hj:j=o
     . subst hj
       rw[ho]at e1;cases e1
       exact⟨j,y,by simp[hset],by rw[hz x hx2 b' e2];exact .inl ⟨st,hρ⟩⟩
     . exact⟨j,z,by simp[hset,hj,e1],e2⟩
   . rintro⟨j,z,e1,e2⟩
     obtain⟨z0,g1,k1⟩:=live j z e1
     exact⟨j,z0,g1,k1 _ e2⟩
end
def C6 (l:List Int):List Int:=l.mergeSort λx y=>decide (x<=y)
theorem QG {c:Cx}:∀{l:List Int} {vs:List Value},AZ (V c) (l.map AA) vs->vs=l.map (Value.int .i64)
 | [],_,h=>by rw[h.nil_left];rfl
 | a::l,[],h=>h.elim
 | a::l,v::vs,h=>by
  have h1:=DQ h.1
  rw[h1,QG h.2];rfl
theorem T9:L6 Tryz.prog 197=true:=by unfold L6;rw[Tryz.func197];kernel_rfl
theorem d197 (l:List Int) (hl:l.length<4611686018427387904) {H:Hp} {n o:Nat} {full:Bool} (hH:H o=some (.cells (l.map AA))):
 BM Tryz.prog 197 [.sl o 0 1 l.length full] H n (λv h' n'=>v=.tup []/\h'=hset H o (some (.cells ((C6 l).map AA)))/\n'=n):=by
 refine⟨T9,λc vs _ R F A=>?_⟩
 obtain⟨u,rfl,hv⟩:=A.single
 rw[V]at hv
 obtain⟨b,st,cap,hρ,rfl,hcap,_,hroom⟩:=hv
 obtain⟨b',st',arr,e,vs,g1,g2,g3,g4,g5,_⟩:=R.obj o _ hH
 rw[hρ]at g1;cases g1
 have hvs:=QG g4
 have hblk:b<c.w.heap.size:=(Yd.1 g2).1
 have hget:∀j (hj:j<l.length),arr[st+j]? = some (.int .i64 l[j]):=λj hj=>g3 j _ (by rw[hvs];simp[hj])
 have hHo:Go.Sort.Holds (Value.int .i64) c.w b (st+0) l.toArray:=λj hj=>by
  have hj':j<l.length:=by simpa using hj
  refine⟨by simp[World.cell?,g2,hget j hj',hj'],by simp[World.frozen?,g2]⟩
 have HC:=AnyM.slices_Sort_int Tryz.sortA b (st+0) cap l c.w hHo hblk hl
 have HC':Calls Tryz.prog 197 #[.slice (some ⟨b,st+0,none⟩) l.length cap] c.w λe w'=>e=.returned (.tuple #[])/\∃n os,w'=Go.Sort.grow (Go.Sort.putRow (Value.int .i64) (Go.Sort.ahead c.w n) b (st+0) (C6 l).toArray) os:=HC
 refine HC'.mono ?_
 rintro e w' ⟨rfl,k,os,rfl⟩
 have hlen:(C6 l).length=l.length:=ZQ _
 have hsz:(Go.Sort.grow (Go.Sort.putRow (Value.int .i64) (Go.Sort.ahead c.w k) b (st+0) (C6 l).toArray) os).heap=(c.w.heap.modify b (Go.Sort.onCells (Go.Sort.putCells (Value.int .i64) (st+0) (C6 l).toArray)))++os:=rfl
 have hnew:(Go.Sort.grow (Go.Sort.putRow (Value.int .i64) (Go.Sort.ahead c.w k) b (st+0) (C6 l).toArray) os).heap[b]? = some (.cells (Go.Sort.putCells (Value.int .i64) (st+0) (C6 l).toArray arr) e (0,0)):=by
  rw[hsz,Zp (by simpa using hblk),ZR,if_pos rfl,g2];rfl
 obtain⟨R',X'⟩:=R.write2 (w':=Go.Sort.grow (Go.Sort.putRow (Value.int .i64) (Go.Sort.ahead c.w k) b (st+0) (C6 l).toArray) os) (y:=.cells ((C6 l).map AA)) hH hρ
  (by rw[hsz];simp) (λb' hb hl'=>by rw[hsz,Zp (by simpa using hl'),ZR,if_neg (Ne.symm hb)])
  (by unfold rm; rw [hnew, g2]; simp [Go.Sort.putCells]) rfl rfl (fun X => by
    refine⟨b,st,_,e,(C6 l).map (Value.int .i64),hρ,hnew,λi x hi=>?_,?_,λx hx=>?_,Ty.none⟩
    . simp only[Yz,YI]at hi
      obtain⟨z,hz,rfl⟩:=hi
      have hil:=(Y9.1 hz).1
      have:=hget i (by omega)
      simp only[Go.Sort.putCells,Array.getElem?_mapIdx,this,YN,Zj,List.size_toArray]
      rw[if_pos ⟨by omega,by omega⟩,show st+i-st=i by omega]
      simp[hil]at hz ⊢
      exact hz
    . exact AZ.map (R:=λa b=>a=b) (λa b e=>by subst e;simp[V]) (by
       have:∀l:List Int,AZ (λa b=>a=b) l l:=λl=>by induction l with|nil=>trivial|cons a l ih=>exact⟨rfl,ih⟩
       exact this _)
    . obtain⟨z,_,rfl⟩:=Yp.1 hx;rfl)
 exact⟨.tuple #[],.tup [],_,n,_,rfl,⟨rfl,rfl,rfl⟩,rfl,by simp[V,VL],R',F,⟨X',Y1 _,λ_ _=>rfl⟩⟩
theorem Tx (z:Nat) (full:Bool):PC 197 [.imm z [] full] (.tup []):=by
 intro h n
 refine⟨T9,λc vs _ R F A=>?_⟩
 obtain⟨u,rfl,hv⟩:=A.single
 rw[V]at hv
 have fin:∀(p:Option Addr) (cap:Nat),Calls Tryz.prog 197 #[.slice p 0 cap] c.w λe w'=>e=.returned (.tuple #[])/\w'=c.w:=λp cap=>AnyM.slices_Sort_int_none Tryz.sortA p cap c.w
 have key:∃p cap,u=.slice p 0 cap:=by
  rcases hv with⟨_,rfl⟩|⟨a,cap,_,rfl,_⟩
  . exact⟨_,_,rfl⟩
  . exact⟨_,_,rfl⟩
 obtain⟨p,cap,rfl⟩:=key
 refine(fin p cap).mono ?_
 rintro e w' ⟨rfl,rfl⟩
 exact⟨.tuple #[],.tup [],h,n,c,rfl,⟨rfl,rfl,rfl⟩,rfl,by simp[V,VL],R,F,ZB n c⟩
end Go.Proofs.YtgakninlhfkkmaaGreat.Sh
