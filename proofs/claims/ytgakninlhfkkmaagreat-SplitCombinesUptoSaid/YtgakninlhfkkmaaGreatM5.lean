/- A part of the proof (part 5 of 17). -/
import Derived.Test.YtgakninlhfkkmaaGreatM4
import Derived.OrdersHeld
import Derived.OrdersIn
import Derived.Shelf.SortM.Plain
import Derived.Shelf.SortM.SortNone
import Derived.Test.YtgakninlhfkkmaaGreatProg
namespace Go.Proofs.YtgakninlhfkkmaaGreat.Sh
abbrev ka:=@AE.sizedL_mem
abbrev vd:=@AE.sizedL_of
abbrev ve:=@Cell.sizedL_mem
open Proofs
set_option maxRecDepth 10000
theorem Ng (l:List AE) (hl:l.length<=1048576) (H:∀(i:Nat) (h:i<l.length),PC 175 [(l[i]).enc] (l[i]).enc):PC 110 [AG l] (AG l):=by
 intro h n;refine gq Tryz.func110 rfl λho=>?_;simp[go_sem];have h1:=(cH l hl 175 [] [] id (λi hi=>H i hi)).pc (by rw[kN];exact AE.E.size l) (λn=>by rw[kN];exact AE.E.closedL n l);rw[kN]at h1;refine h1.use ?_;simp[go_sem];exact As ho (AE.E.imm _ _ _ _) rfl
theorem Ue (x:Cell) (hs:x.head.sized) (H:PC 110 [AG x.flow] (AG x.flow)):PC 249 [x.enc] x.enc:=by
 intro h n;refine gq Tryz.func249 rfl λho=>?_;simp[go_sem,jh,AC,AD]
 repeat first|refine nq ?_|refine sq ?_|refine aq ?_
 refine jw _ _ _ _ _ _ (by simpa[AF.enc,AF.flat]using Ob x.head hs) ?_;simp[go_sem,AC,AD]
 repeat first|refine nq ?_|refine sq ?_|refine aq ?_
 refine jw _ _ _ _ _ _ H ?_;simp[go_sem,AC]
 repeat first|refine nq ?_|refine sq ?_|refine aq ?_
 exact Ay ho (by repeat(first|exact AB|refine AQ ho (by omega) ?_)) rfl (by rw[<-jh];exact Cell.cl n x)
theorem Uc (x:Aa) (hs:x.head.sized) (hc:x.cells.length<=1048576) (H:∀(i:Nat) (h:i<x.cells.length),PC 249 [(x.cells[i]).enc] (x.cells[i]).enc):PC 176 [x.enc] x.enc:=by
 intro h n;refine gq Tryz.func176 rfl λho=>?_;have h1:=(YV x.cells hc 249 [] [] id (λi hi=>H i hi)).pc (by rw[kN];exact Cell.E.size _) (λn=>by rw[kN];exact Cell.E.closedL n _);rw[kN]at h1;simp[go_sem,qQ,AC,AD]
 repeat first|refine nq ?_|refine sq ?_|refine aq ?_
 refine jw _ _ _ _ _ _ (by simpa[AF.enc,AF.flat]using Ob x.head hs) ?_;simp[go_sem,AC,AD]
 repeat first|refine nq ?_|refine sq ?_|refine aq ?_
 refine jw _ _ _ _ _ _ h1 ?_;simp[go_sem,AC]
 repeat first|refine nq ?_|refine sq ?_|refine aq ?_
 exact Ay ho (by repeat(first|exact AB|refine AQ ho (by omega) ?_)) rfl (by rw[<-qQ];exact Aa.cl n x)
theorem Ub (x:AE) (hs:x.head.sized) (hr:x.rows.length<=1048576) (H:PC 110 [AG x.flow] (AG x.flow)) (H2:∀(i:Nat) (h:i<x.rows.length),PC 176 [(x.rows[i]).enc] (x.rows[i]).enc):PC 175 [x.enc] x.enc:=by
 intro h n;refine gq Tryz.func175 rfl λho=>?_;have h1:=(YR x.rows hr 176 [] [] id (λi hi=>H2 i hi)).pc (by rw[kN];exact Aa.E.size _) (λn=>by rw[kN];exact Aa.E.closedL n _);rw[kN]at h1;simp[go_sem,qx,AC,AD]
 repeat first|refine nq ?_|refine sq ?_|refine aq ?_
 refine jw _ _ _ _ _ _ (by simpa[AF.enc,AF.flat]using Ob x.head hs) ?_;simp[go_sem,AC,AD]
 repeat first|refine nq ?_|refine sq ?_|refine aq ?_
 refine jw _ _ _ _ _ _ H ?_;simp[go_sem,AC,AD]
 repeat first|refine nq ?_|refine sq ?_|refine aq ?_
 refine jw _ _ _ _ _ _ h1 ?_;simp[go_sem,AC,AD]
 repeat first|refine nq ?_|refine sq ?_|refine aq ?_
 exact Ay ho (by repeat(first|exact AB|refine AQ ho (by omega) ?_)) rfl (by rw[<-qx];exact AE.cl n x)
mutual
theorem Z8:∀x:AE,x.sized->PC 175 [x.enc] x.enc
 | .mk k c i t hd f r,hs=>by
  rw[AE.sized]at hs;exact Ub (.mk k c i t hd f r) hs.2.1 hs.2.2.2.1 (Ng f hs.2.2.1 (Qt f hs.2.2.2.2.1)) (VR r hs.2.2.2.2.2)
theorem Qt:∀l:List AE,AE.sizedL l->∀(i:Nat) (h:i<l.length),PC 175 [(l[i]).enc] (l[i]).enc
 | [],_,i,h=>by simp at h
 | x::l,hs,0,_=>by rw[AE.sizedL]at hs;exact Z8 x hs.1
 | x::l,hs,i+1,h=>by rw[AE.sizedL]at hs;exact Qt l hs.2 i (by simpa using h)
theorem Z9:∀x:Aa,x.sized->PC 176 [x.enc] x.enc
 | .mk hd c,hs=>by
  rw[Aa.sized]at hs;exact Uc (.mk hd c) hs.1 hs.2.1 (VU c hs.2.2)
theorem VR:∀l:List Aa,Aa.sizedL l->∀(i:Nat) (h:i<l.length),PC 176 [(l[i]).enc] (l[i]).enc
 | [],_,i,h=>by simp at h
 | x::l,hs,0,_=>by rw[Aa.sizedL]at hs;exact Z9 x hs.1
 | x::l,hs,i+1,h=>by rw[Aa.sizedL]at hs;exact VR l hs.2 i (by simpa using h)
theorem aW:∀x:Cell,x.sized->PC 249 [x.enc] x.enc
 | .mk i hd f,hs=>by
  rw[Cell.sized]at hs;exact Ue (.mk i hd f) hs.1 (Ng f hs.2.1 (Qt f hs.2.2))
theorem VU:∀l:List Cell,Cell.sizedL l->∀(i:Nat) (h:i<l.length),PC 249 [(l[i]).enc] (l[i]).enc
 | [],_,i,h=>by simp at h
 | x::l,hs,0,_=>by rw[Cell.sizedL]at hs;exact aW x hs.1
 | x::l,hs,i+1,h=>by rw[Cell.sizedL]at hs;exact VU l hs.2 i (by simpa using h)
end
theorem XS (l:List AE) (hl:l.length<=1048576) (hs:AE.sizedL l):PC 110 [AG l] (AG l):=Ng l hl (Qt l hs)
def AE.units (x:AE):Int:=if x.kind=1 then(if CZ x.text then DK x.text x.text.size else 0)else 1
def AE.uerr (x:AE):Int:=if x.kind=1 then(if CZ x.text then 0 else 12)else 0
theorem AE.units_le (x:AE) (h:x.text.size<=1048576):0<=x.units/\x.units<=1048576:=by
 unfold AE.units;have:=HS x.text x.text.size;split<;>(try split)<;>omega
theorem Vy (x:AE) (hs:x.text.size<=1048576):PC 111 [x.enc] (.tup [AA x.units,AA x.uerr]):=by
 intro h n;refine gq Tryz.func111 rfl λho=>?_;by_cases h1:x.kind=1;simp[go_sem,qx,AC,h1];refine(Xb x.text (by omega)).use ?_;simp[go_sem];exact Ay ho (AQ ho (qa _) AB) (by simp[AE.units,AE.uerr,h1]) rfl;simp[go_sem,qx,AC,h1];exact Ay ho (AQ ho (qa _) AB) (by simp[AE.units,AE.uerr,h1]) rfl
def CI:List AE->Int
 | []=>0
 | x::l=>x.units+CI l
def NY (l:List AE):Bool:=l.any λx=>decide (x.uerr≠0)
theorem Gt:∀(a b:List AE),CI (a++b)=CI a+CI b
 | [],b=>by simp[CI]
 | x::a,b=>by simp[CI,Gt a b];omega
theorem Ik:∀(l:List AE),(∀x∈l,x.text.size<=1048576)->0<=CI l/\CI l<=l.length*1048576
 | [],_=>by simp[CI]
 | x::l,h=>by
  have h1:=Ik l λy hy=>h y (by simp[hy]);have h2:=x.units_le (h x (by simp));simp only[CI,qF];omega
def A8 (l:List AE):Int×Int:=if NY l then(0,12)else(CI l,0)
theorem VV (l:List AE) (hl:l.length<=1048576) (hs:∀x∈l,x.text.size<=1048576):PC 35 [AG l] (.tup [AA (A8 l).1,AA (A8 l).2]):=by
 intro h n;refine gq Tryz.func35 rfl λho=>?_;simp[go_sem];refine An 1 (α:=Nat) (λk=>[(4,AA (CI (l.take k))),(9,AG l),(10,AA l.length),(11,AA k)]) (λ_=>h) (λk m=>k<=l.length/\n<=m/\NY (l.take k)=false) (λk=>l.length-k) 0 ?_ ?_ AB ?_;simp[NY];simp[Ai,CI];rintro k m ⟨hk,hnm,hf⟩;by_cases hlt:k<l.length
 . have w1:=wS k (by omega);obtain⟨x,hx⟩:∃x,l[k]=x:=⟨_,rfl⟩
   have hxm:x∈l:=by rw[<-hx];exact ql hlt
   have hxs:=hs x hxm;have htk:l.take (k+1)=l.take k++[x]:=by rw[qb hlt,hx]
   have WI:=Ik (l.take k) λy hy=>hs y (qH hy);have Hn:=x.units_le hxs;have hlk:((l.take k).length:Int)<=1048576:=by simp;omega
   have w2:IntKind.i64.wrap (CI (l.take k)+x.units)=CI (l.take (k+1)):=by
    rw[Cl,htk,Gt];simp[CI];omega;have:((l.take k).length:Int)*1048576<=1048576*1048576:=by omega
    omega
   simp[go_sem,hlt,hx,qx,AC];refine qw (by simpa[qx]using Vy x hxs) ?_;by_cases he:x.uerr=0
   . simp[go_sem,he,w1,w2,-Int.natCast_add];refine⟨k+1,by omega,⟨by omega,by omega,?_⟩,⟨IO,IO⟩,by repeat(first|exact AB|refine AQ ho (by omega) ?_)⟩;rw[htk];simp only[NY,List.any_append]at hf ⊢;rw[hf];simp[he]
   . simp[go_sem,he];have:NY l=true:=by simp only[NY,List.any_eq_true];exact⟨x,hxm,by simpa using he⟩
     exact Ay ho (by repeat(first|exact AB|refine AQ ho (by omega) ?_)) (by simp[A8,this]) rfl
 simp[go_sem,hlt];have:k=l.length:=by omega
 subst this;rw[qi]at hf ⊢;exact As ho rfl (by simp[A8,hf])
def ET (l:List AE) (a b:Int):Int:=if(A8 l).2=0 then if a<0\/b<a\/(A8 l).1<b then 2 else 0 else(A8 l).2
theorem aX (l:List AE) (a b:Int) (hl:l.length<=1048576) (hs:∀x∈l,x.text.size<=1048576):PC 250 [AG l,AA a,AA b] (AA (ET l a b)):=by
 intro h n;refine gq Tryz.func250 rfl λho=>?_;simp[go_sem];refine(VV l hl hs).use ?_;by_cases h0:(A8 l).2=0;by_cases h1:a<0;simp[go_sem,h0,h1];exact As ho rfl (by simp[ET,h0,h1]);by_cases h2:b<a;simp[go_sem,h0,h1,h2];exact As ho rfl (by simp[ET,h0,h2]);by_cases h3:(A8 l).1<b<;>simp[go_sem,h0,h1,h2,h3]<;>exact As ho rfl (by simp[ET,h0,h1,h2,h3]);simp[go_sem,h0];exact As ho rfl (by simp[ET,h0])
theorem YL:(Ba Tryz.prog 193).map (λf=>(f.name == "_",f.type,f.offset))=[(false,3,0),(false,3,1)]:=by kernel_rfl
theorem YI:(Ba Tryz.prog 166).map (λf=>(f.name == "_",f.type,f.offset))=[(false,3,0),(false,3,1)]:=by kernel_rfl
theorem YH:(Ba Tryz.prog 164).map (λf=>(f.name == "_",f.type,f.offset))=[(false,3,0),(false,3,1),(false,3,2),(false,4,3)]:=by kernel_rfl
theorem YA (a b:Er):Bv Tryz.prog [AA a.key,AA a.value] [AA b.key,AA b.value] (Ba Tryz.prog 193)=some (decide (a=b)):=by
 rw[CT,YL];cases a;cases b;rename_i a1 a2 b1 b2;by_cases h1:a1=b1<;>by_cases h2:a2=b2<;>simp[DA,DP,go_sem,h1,h2]
theorem X9 (a b:Az):Bv Tryz.prog [AA a.rev,AA a.move] [AA b.rev,AA b.move] (Ba Tryz.prog 166)=some (decide (a=b)):=by
 rw[CT,YI];cases a;cases b;rename_i a1 a2 b1 b2;by_cases h1:a1=b1<;>by_cases h2:a2=b2<;>simp[DA,DP,go_sem,h1,h2]
theorem X8 (a b:Am):Bv Tryz.prog [AA a.rev,AA a.key,AA a.before,.bool a.had] [AA b.rev,AA b.key,AA b.before,.bool b.had] (Ba Tryz.prog 164)=some (decide (a=b)):=by
 rw[CT,YH];cases a;cases b;rename_i a1 a2 a3 a4 b1 b2 b3 b4;by_cases h1:a1=b1<;>by_cases h2:a2=b2<;>by_cases h3:a3=b3<;>by_cases h4:a4=b4<;>simp[DA,DP,go_sem,h1,h2,h3,h4]
theorem XU (a b:List Er) (ha:a.length<=1048576) (hb:b.length<=1048576):PC 125 [.imm 2 (a.map Er.enc) false,.imm 2 (b.map Er.enc) false] (.bool (decide (a=b))):=by
 intro h n;refine gq Tryz.func125 rfl λho=>?_;by_cases hlen:(a.length:Int)=b.length
 . have hlen':a.length=b.length:=by omega
   simp[go_sem,hlen];refine An 1 (α:=Nat) (λk=>[(0,.imm 2 (a.map Er.enc) false),(1,.imm 2 (b.map Er.enc) false),(12,AA a.length),(13,AA k)]) (λ_=>h) (λk m=>k<=a.length/\n<=m/\a.take k=b.take k) (λk=>a.length-k) 0 ?_ ?_ AB ?_;simp;simp[Ai,hlen];rintro k m ⟨hk,hnm,hf⟩;by_cases hlt:k<a.length
   . have w1:=wS k (by omega);have hlt2:k<b.length:=by omega
     obtain⟨x,hx⟩:∃x,a[k]=x:=⟨_,rfl⟩
     obtain⟨y,hy⟩:∃y,b[k]=y:=⟨_,rfl⟩
     simp[go_sem,hlt,hlt2,hx,hy,Er.enc]
     repeat first|refine nq ?_|refine sq ?_|refine aq ?_
     refine⟨_,Cp rfl (.inr rfl) (by kernel_rfl) (by kernel_rfl) (by kernel_rfl) rfl rfl (YA x y),?_⟩;simp[go_sem]
     repeat first|refine nq ?_|refine sq ?_|refine aq ?_
     by_cases he:x=y;simp[go_sem,he,w1,-Int.natCast_add];exact⟨k+1,by omega,⟨by omega,hnm,by rw[qb hlt,qb hlt2,hx,hy,hf,he]⟩,IO⟩;simp[go_sem,he];have:a≠b:=by rintro rfl;exact he (by rw[<-hx,<-hy])
     exact As ho rfl (by simp[this])
   simp[go_sem,hlt];have:a=b:=by rw[qB (by omega),qB (by omega)]at hf;exact hf
   exact As ho rfl (by simp[this])
 simp[go_sem,hlen];have:a≠b:=by rintro rfl;exact hlen rfl
 exact As ho rfl (by simp[this])
theorem Zt (a b:List Az) (ha:a.length<=1048576) (hb:b.length<=1048576):PC 126 [.imm 2 (a.map Az.enc) false,.imm 2 (b.map Az.enc) false] (.bool (decide (a=b))):=by
 intro h n;refine gq Tryz.func126 rfl λho=>?_;by_cases hlen:(a.length:Int)=b.length
 . have hlen':a.length=b.length:=by omega
   simp[go_sem,hlen];refine An 1 (α:=Nat) (λk=>[(0,.imm 2 (a.map Az.enc) false),(1,.imm 2 (b.map Az.enc) false),(12,AA a.length),(13,AA k)]) (λ_=>h) (λk m=>k<=a.length/\n<=m/\a.take k=b.take k) (λk=>a.length-k) 0 ?_ ?_ AB ?_;simp;simp[Ai,hlen];rintro k m ⟨hk,hnm,hf⟩;by_cases hlt:k<a.length
   . have w1:=wS k (by omega);have hlt2:k<b.length:=by omega
     obtain⟨x,hx⟩:∃x,a[k]=x:=⟨_,rfl⟩
     obtain⟨y,hy⟩:∃y,b[k]=y:=⟨_,rfl⟩
     simp[go_sem,hlt,hlt2,hx,hy,Az.enc]
     repeat first|refine nq ?_|refine sq ?_|refine aq ?_
     refine⟨_,Cp rfl (.inr rfl) (by kernel_rfl) (by kernel_rfl) (by kernel_rfl) rfl rfl (X9 x y),?_⟩;simp[go_sem]
     repeat first|refine nq ?_|refine sq ?_|refine aq ?_
     by_cases he:x=y;simp[go_sem,he,w1,-Int.natCast_add];exact⟨k+1,by omega,⟨by omega,hnm,by rw[qb hlt,qb hlt2,hx,hy,hf,he]⟩,IO⟩;simp[go_sem,he];have:a≠b:=by rintro rfl;exact he (by rw[<-hx,<-hy])
     exact As ho rfl (by simp[this])
   simp[go_sem,hlt];have:a=b:=by rw[qB (by omega),qB (by omega)]at hf;exact hf
   exact As ho rfl (by simp[this])
 simp[go_sem,hlen];have:a≠b:=by rintro rfl;exact hlen rfl
 exact As ho rfl (by simp[this])
theorem Zu (a b:List Am) (ha:a.length<=1048576) (hb:b.length<=1048576):PC 127 [.imm 4 (a.map Am.enc) false,.imm 4 (b.map Am.enc) false] (.bool (decide (a=b))):=by
 intro h n;refine gq Tryz.func127 rfl λho=>?_;by_cases hlen:(a.length:Int)=b.length
 . have hlen':a.length=b.length:=by omega
   simp[go_sem,hlen];refine An 1 (α:=Nat) (λk=>[(0,.imm 4 (a.map Am.enc) false),(1,.imm 4 (b.map Am.enc) false),(12,AA a.length),(13,AA k)]) (λ_=>h) (λk m=>k<=a.length/\n<=m/\a.take k=b.take k) (λk=>a.length-k) 0 ?_ ?_ AB ?_;simp;simp[Ai,hlen];rintro k m ⟨hk,hnm,hf⟩;by_cases hlt:k<a.length
   . have w1:=wS k (by omega);have hlt2:k<b.length:=by omega
     obtain⟨x,hx⟩:∃x,a[k]=x:=⟨_,rfl⟩
     obtain⟨y,hy⟩:∃y,b[k]=y:=⟨_,rfl⟩
     simp[go_sem,hlt,hlt2,hx,hy,Am.enc]
     repeat first|refine nq ?_|refine sq ?_|refine aq ?_
     refine⟨_,Cp rfl (.inr rfl) (by kernel_rfl) (by kernel_rfl) (by kernel_rfl) rfl rfl (X8 x y),?_⟩;simp[go_sem]
     repeat first|refine nq ?_|refine sq ?_|refine aq ?_
     by_cases he:x=y;simp[go_sem,he,w1,-Int.natCast_add];exact⟨k+1,by omega,⟨by omega,hnm,by rw[qb hlt,qb hlt2,hx,hy,hf,he]⟩,IO⟩;simp[go_sem,he];have:a≠b:=by rintro rfl;exact he (by rw[<-hx,<-hy])
     exact As ho rfl (by simp[this])
   simp[go_sem,hlt];have:a=b:=by rw[qB (by omega),qB (by omega)]at hf;exact hf
   exact As ho rfl (by simp[this])
 simp[go_sem,hlen];have:a≠b:=by rintro rfl;exact hlen rfl
 exact As ho rfl (by simp[this])
theorem c58 (a b:AF) (ha:a.sized) (hb:b.sized):PC 58 [a.enc,b.enc] (.bool (decide (a=b))):=by
 intro h n;refine gq Tryz.func58 rfl λho=>?_;have hh:∀y z,∀o x,h o=some x->hset (hset h n y) (n+1) z o=some x:=λy z=>by repeat(first|exact AB|refine AQ ho (by omega) ?_)
 simp[go_sem,AF.enc,AF.flat,AC,AD];refine(XU _ _ ha.props hb.props).use ?_;by_cases h1:a.props=b.props;by_cases h2:a.ins=b.ins;by_cases h3:a.move=b.move;simp[go_sem,h1,h2,h3,AC,AD];refine(Zt _ _ ha.dels hb.dels).use ?_;by_cases h4:a.dels=b.dels;simp[go_sem,h4,AC,AD];refine(Zu _ _ ha.layers hb.layers).use ?_;simp[go_sem];refine Ay ho (hh _ _) ?_ rfl;cases a;cases b;simp at h1 h2 h3 h4;simp[h1,h2,h3,h4];simp[go_sem,h4];refine Ay ho (hh _ _) ?_ rfl;have:a≠b:=by rintro rfl;exact h4 rfl
 simp[this];simp[go_sem,h1,h2,h3,AC,AD];refine Ay ho (hh _ _) ?_ rfl;have:a≠b:=by rintro rfl;exact h3 rfl
 simp[this];simp[go_sem,h1,h2,AC,AD];refine Ay ho (hh _ _) ?_ rfl;have:a≠b:=by rintro rfl;exact h2 rfl
 simp[this];simp[go_sem,h1];refine Ay ho (hh _ _) ?_ rfl;have:a≠b:=by rintro rfl;exact h1 rfl
 simp[this]
theorem Ff {p:Nat->Bool} {n k:Nat} (e:BD p n k = -1):∀i,k<=i->i<n->p i=false:=by
 intro i hk hi;rw[BD]at e;rw[dif_pos (by omega)]at e;by_cases hp:p k=true;rw[if_pos hp]at e;omega;rw[if_neg hp]at e;by_cases h:i=k;subst h;simpa using hp;exact Ff e i (by omega) hi
termination_by n-k
theorem Gd {p:Nat->Bool} {n k i0:Nat} (e:BD p n k=i0):∀i,k<=i->i<i0->p i=false:=by
 intro i hk hi;rw[BD]at e;split at e;by_cases hp:p k=true;rw[if_pos hp]at e;omega;rw[if_neg hp]at e;by_cases h:i=k;subst h;simpa using hp;exact Gd e i (by omega) hi;omega
termination_by n-k
def BJ {α:Type} (p:α->Bool) (l:List α) (i:Nat):List α:=((l.take i).filter λx=>!p x)++l.drop ((l.take i).filter λx=>!p x).length
theorem bS (l:List Aa) (hl:l.length<=1048576) (g:FuncId) (a b:List SV) (p:Aa->Bool) (hp:∀x∈l,PC g (a++[x.enc]++b) (.bool (p x))) {H:Hp} {n o:Nat} {full:Bool} (hH:H o=some (.cells ((l.map Aa.enc).flatMap SV.cells))):
 BA Tryz.prog 133 [.sl o 0 6 l.length full,.fn (.func g) a b] H n (λv h' n'=>v=.imm 6 ((l.filter λx=>!p x).map Aa.enc) false/\h'=hset H o none/\n'=n):=by
 refine gq Tryz.func133 rfl λho=>?_;have hon:o<n:=(ho o _ hH).1;have hI:=Xe l hl g a b (λi=>match l[i]? with|some x=>p x|none=>false) (λi hi=>by simpa[hi]using hp l[i] (ql hi));have fin:∀(kp:List Aa) (h':Hp) (n':Nat) (cs:List SV) (f2:Bool),(l.filter λx=>!p x)=kp->(∀j y,j≠o->H j=some y->h' j=some y)->h' o=some (.cells cs)->kp.length*6<=cs.length->cs.take (kp.length*6)=(kp.map Aa.enc).flatMap SV.cells->
  B8 n h' n' (.sl o 0 6 kp.length f2) (λv h' n'=>v=.imm 6 ((l.filter λx=>!p x).map Aa.enc) false/\h'=hset H o none/\n'=n):=λkp h' n' cs f2 hk hh hc h1 h2=>by
  refine .inr ⟨1,.imm 6 (kp.map Aa.enc) false,hset H o none,.inr ⟨AC _ _ _,by simp,by simp,rfl,cs,(kp.map Aa.enc).flatMap SV.cells,hc,by simp[Bg,h1,h2],Aa.E.size kp,?_⟩,Aa.E.imm _ _ _ _,λj y e=>?_,by rw[hk],rfl,rfl⟩;have:∀l:List SV,AZ (Fz h' (hset H o none) 0) l l:=by
   intro l;induction l with
   | nil=>trivial
   | cons a l ih=>exact⟨IO,ih⟩
  exact this _;by_cases e1:j=o;subst e1;rw[AC]at e;cases e;rw[AD _ _ e1]at e;exact⟨hh j y e1 e,ho j y e⟩
 simp[go_sem];refine hI.lend 2 rfl ⟨?_,IO,trivial⟩ ?_;have:=DV (h':=H) (h:=λ_=>none) (k:=1) (z:=6) (es:=l.map Aa.enc) (full:=full) (full':=false) (o:=o) rfl (by simp) hH (Aa.E.size l);rw[qd]at this;exact this;rcases EA (λi=>match l[i]? with|some x=>p x|none=>false) l.length 0 with e|⟨i0,_,hi0,e,hpi⟩
 simp[go_sem,e];have hall:(l.filter λx=>!p x)=l:=jy.2 λx hx=>by
  obtain⟨i,hi,rfl⟩:=jx hx;have:=Ff e i (qg _) hi;simpa[hi]using this
 exact fin l H n _ full hall (λj y _ e=>e) hH (by rw[A7 (Aa.E.size l),qd];exact qa _) (qB (by rw[A7 (Aa.E.size l),qd];exact qa _));have w0:=wS i0 (by omega);have ne1:¬((i0:Int) = -1):=by omega
 simp[go_sem,e,w0,ne1,-Int.natCast_add];have hpi':p l[i0]=true:=by simpa[hi0]using hpi
 have hbefore:(l.take i0).filter (λx=>!p x)=l.take i0:=jy.2 λx hx=>by
  obtain⟨i,hi,rfl⟩:=jx hx;have hi2:i<i0:=by simp at hi;omega
  have:=Gd e i (qg _) hi2;simpa[show i<l.length by omega]using this
 refine An 1 (α:=Nat) (λi=>[(0,.sl o 0 6 l.length full),(1,.fn (.func g) a b),(5,AA ((l.take i).filter λx=>!p x).length),(6,AA i)]) (λi=>hset H o (some (.cells (((BJ p l i).map Aa.enc).flatMap SV.cells))))
  (λi m=>i0<i/\i<=l.length/\n<=m) (λi=>l.length-i) (i0+1) ?_ ?_ ?_ ?_
 exact⟨qP _,hi0,qa _⟩;have:((l.take (i0+1)).filter λx=>!p x).length=i0:=by
  rw[qb hi0,qI,hbefore];simp[hpi'];omega
 simp[Ai,this,-Int.natCast_add];have:BJ p l (i0+1)=l:=by
  unfold BJ;rw[qb hi0,qI,hbefore];simp[hpi',jO (kx hi0)]
 rw[this];intro j y e;simp only[hset]at e;split at e;rename_i h;subst h;rw[hH];exact e;exact e;rintro i m ⟨hi1,hi2,hnm⟩;have hkl:((l.take i).filter λx=>!p x).length<i:=by
  have h1:l.take i=l.take (i0+1)++(l.drop (i0+1)).take (i-(i0+1)):=by
   rw[<-List.take_add];congr 1;omega
  have h2:((l.take (i0+1)).filter λx=>!p x).length=i0:=by
   rw[qb hi0,qI,hbefore];simp[hpi'];omega
  rw[h1,qI,qt,h2];have:=qU (λx=>!p x) ((l.drop (i0+1)).take (i-(i0+1)));simp at this ⊢;omega
 have hkeep:(BJ p l i).length=l.length:=by unfold BJ;simp;omega
 generalize hkp:(l.take i).filter (λx=>!p x)=kp at hkl ⊢;have hne:o≠m:=by omega
 have hsz:=Aa.E.size (BJ p l i);by_cases hlt:i<l.length;have w1:=wS i (by omega);have w2:IntKind.i64.wrap ((kp.length:Int)+1)=((kp.length+1:Nat):Int):=by rw[Cl]<;>omega
 obtain⟨x,hx⟩:∃x,l[i]=x:=⟨_,rfl⟩
 have hget:(BJ p l i)[i]? = some x:=by
  unfold BJ;rw[hkp,qV (by omega),qY];have:kp.length+(i-kp.length)=i:=by omega
  rw[this,qf hlt,hx]
 obtain⟨g1,g2⟩:=JU hsz (i:=i) (e:=x.enc) (by simp[hget]);have hset':=LT hsz (j:=kp.length) (e:=x.enc) (by simp[hkeep];omega);have g3:kp.length*6+6<=(((BJ p l i).map Aa.enc).flatMap SV.cells).length:=by
  rw[A7 hsz,qd,hkeep];omega
 have hcl:=Aa.E.len x;generalize hF:((BJ p l i).map Aa.enc).flatMap SV.cells=F at g1 g2 g3 hset' ⊢;have H1:=hp x (by rw[<-hx];exact ql hlt);simp only[qn,qz,qE]at H1;have hpre:=Aa.E.st x;simp[qQ,SV.cells]at g2;simp[go_sem,hlt,AC,g1,g2];refine qw (by simpa[qQ]using H1) ?_;by_cases hpx:p x=true;simp[go_sem,hpx,w1,-Int.natCast_add];have hk1:(l.take (i+1)).filter (λx=>!p x)=kp:=by rw[qb hlt,qI,hkp,hx];simp[hpx]
 have hk2:BJ p l (i+1)=BJ p l i:=by unfold BJ;rw[hk1,hkp]
 refine⟨i+1,by omega,⟨by omega,by omega,by omega⟩,⟨by rw[hk1];exact IO,IO⟩,λj y e=>?_⟩;rw[hk2,hF]at e;by_cases e1:j=o;subst e1;rw[AC]at e;rw[AD _ _ hne,AD _ _ hne,AC];exact e;rw[AD _ _ e1]at e;have:=(ho j y e).1;rw[AD _ _ (by omega),AD _ _ (by omega),AD _ _ e1];exact e;have hpx':p x=false:=by simpa using hpx
 have hkl':(kp.length:Int)<l.length:=by omega
 simp[qQ,SV.cells]at hset';simp[go_sem,hpx',AC,AD,hne,hkl',g3,hset',w1,w2,-Int.natCast_add];have hk1:(l.take (i+1)).filter (λx=>!p x)=kp++[x]:=by rw[qb hlt,qI,hkp,hx];simp[hpx']
 have hk2:(BJ p l (i+1)).map Aa.enc=((BJ p l i).map Aa.enc).set kp.length x.enc:=by
  have:BJ p l (i+1)=(BJ p l i).set kp.length x:=by
   unfold BJ;rw[hk1,hkp,jV _ _ (qa _),Nat.sub_self];simp;rw[qG (show kp.length<l.length by omega),List.set_cons_zero]
  rw[this,List.map_set]
 rw[qQ]at hk2;refine⟨i+1,by omega,⟨by omega,by omega,by omega⟩,⟨by rw[hk1,qt];exact IO,IO⟩,λj y e=>?_⟩;rw[hk2]at e;by_cases e1:j=o;subst e1;rw[AC]at e ⊢;exact e;rw[AD _ _ e1]at e ⊢;have:=(ho j y e).1;rw[AD _ _ (by omega),AD _ _ (by omega),AD _ _ e1];exact e;have:i=l.length:=by omega
 subst this;have q1:kp.length<=l.length:=by omega
 have q2:¬((kp.length:Int)=l.length):=by omega
 have q3:¬(l.length-kp.length=0):=by omega
 rw[qi]at hkp;have hF:((BJ p l l.length).map Aa.enc).flatMap SV.cells=(kp.map Aa.enc).flatMap SV.cells++((l.drop kp.length).map Aa.enc).flatMap SV.cells:=by unfold BJ;rw[qi,hkp];simp
 have hlk:((kp.map Aa.enc).flatMap SV.cells).length=kp.length*6:=by rw[A7 (Aa.E.size kp),qd]
 have hFl:(((BJ p l l.length).map Aa.enc).flatMap SV.cells).length=l.length*6:=by rw[A7 hsz,qd,hkeep]
 have q4:kp.length*6+(l.length-kp.length)*6<=(((BJ p l l.length).map Aa.enc).flatMap SV.cells).length:=by rw[hFl,<-jB];apply jt;omega
 have htk:(((BJ p l l.length).map Aa.enc).flatMap SV.cells).take (kp.length*6)=(kp.map Aa.enc).flatMap SV.cells:=by rw[hF,<-hlk,kO]
 generalize((BJ p l l.length).map Aa.enc).flatMap SV.cells=F at q4 htk ⊢;simp[go_sem,AC,q1,q2,q3,q4];refine fin kp _ _ _ _ hkp (λj y hj e=>by rw[AD _ _ hj,AD _ _ hj];exact e) (AC _ _ _) ?_ ?_;rw[htk,qt,hlk];omega;rw[htk,<-hlk,kO]
theorem d75 (l:List Ax) (hl:l.length<=1048576) (g:FuncId) (a b:List SV) (p:Ax->Bool) (hp:∀x∈l,PC g (a++[x.enc]++b) (.bool (p x))) {H:Hp} {n o:Nat} {full:Bool} (hH:H o=some (.cells ((l.map Ax.enc).flatMap SV.cells))):
 BA Tryz.prog 75 [.sl o 0 3 l.length full,.fn (.func g) a b] H n (λv h' n'=>v=.imm 3 ((l.filter λx=>!p x).map Ax.enc) false/\h'=hset H o none/\n'=n):=by
 refine gq Tryz.func75 rfl λho=>?_;have hon:o<n:=(ho o _ hH).1;have hI:=XW l hl g a b (λi=>match l[i]? with|some x=>p x|none=>false) (λi hi=>by simpa[hi]using hp l[i] (ql hi));have fin:∀(kp:List Ax) (h':Hp) (n':Nat) (cs:List SV) (f2:Bool),(l.filter λx=>!p x)=kp->(∀j y,j≠o->H j=some y->h' j=some y)->h' o=some (.cells cs)->kp.length*3<=cs.length->cs.take (kp.length*3)=(kp.map Ax.enc).flatMap SV.cells->
  B8 n h' n' (.sl o 0 3 kp.length f2) (λv h' n'=>v=.imm 3 ((l.filter λx=>!p x).map Ax.enc) false/\h'=hset H o none/\n'=n):=λkp h' n' cs f2 hk hh hc h1 h2=>by
  refine .inr ⟨1,.imm 3 (kp.map Ax.enc) false,hset H o none,.inr ⟨AC _ _ _,by simp,by simp,rfl,cs,(kp.map Ax.enc).flatMap SV.cells,hc,by simp[Bg,h1,h2],Ax.E.size kp,?_⟩,Ax.E.imm _ _ _ _,λj y e=>?_,by rw[hk],rfl,rfl⟩;have:∀l:List SV,AZ (Fz h' (hset H o none) 0) l l:=by
   intro l;induction l with
   | nil=>trivial
   | cons a l ih=>exact⟨IO,ih⟩
  exact this _;by_cases e1:j=o;subst e1;rw[AC]at e;cases e;rw[AD _ _ e1]at e;exact⟨hh j y e1 e,ho j y e⟩
 simp[go_sem];refine hI.lend 2 rfl ⟨?_,IO,trivial⟩ ?_;have:=DV (h':=H) (h:=λ_=>none) (k:=1) (z:=3) (es:=l.map Ax.enc) (full:=full) (full':=false) (o:=o) rfl (by simp) hH (Ax.E.size l);rw[qd]at this;exact this;rcases EA (λi=>match l[i]? with|some x=>p x|none=>false) l.length 0 with e|⟨i0,_,hi0,e,hpi⟩
 simp[go_sem,e];have hall:(l.filter λx=>!p x)=l:=jy.2 λx hx=>by
  obtain⟨i,hi,rfl⟩:=jx hx;have:=Ff e i (qg _) hi;simpa[hi]using this
 exact fin l H n _ full hall (λj y _ e=>e) hH (by rw[A7 (Ax.E.size l),qd];exact qa _) (qB (by rw[A7 (Ax.E.size l),qd];exact qa _));have w0:=wS i0 (by omega);have ne1:¬((i0:Int) = -1):=by omega
 simp[go_sem,e,w0,ne1,-Int.natCast_add];have hpi':p l[i0]=true:=by simpa[hi0]using hpi
 have hbefore:(l.take i0).filter (λx=>!p x)=l.take i0:=jy.2 λx hx=>by
  obtain⟨i,hi,rfl⟩:=jx hx;have hi2:i<i0:=by simp at hi;omega
  have:=Gd e i (qg _) hi2;simpa[show i<l.length by omega]using this
 refine An 1 (α:=Nat) (λi=>[(0,.sl o 0 3 l.length full),(1,.fn (.func g) a b),(5,AA ((l.take i).filter λx=>!p x).length),(6,AA i)]) (λi=>hset H o (some (.cells (((BJ p l i).map Ax.enc).flatMap SV.cells))))
  (λi m=>i0<i/\i<=l.length/\n<=m) (λi=>l.length-i) (i0+1) ?_ ?_ ?_ ?_
 exact⟨qP _,hi0,qa _⟩;have:((l.take (i0+1)).filter λx=>!p x).length=i0:=by
  rw[qb hi0,qI,hbefore];simp[hpi'];omega
 simp[Ai,this,-Int.natCast_add];have:BJ p l (i0+1)=l:=by
  unfold BJ;rw[qb hi0,qI,hbefore];simp[hpi',jO (kx hi0)]
 rw[this];intro j y e;simp only[hset]at e;split at e;rename_i h;subst h;rw[hH];exact e;exact e;rintro i m ⟨hi1,hi2,hnm⟩;have hkl:((l.take i).filter λx=>!p x).length<i:=by
  have h1:l.take i=l.take (i0+1)++(l.drop (i0+1)).take (i-(i0+1)):=by
   rw[<-List.take_add];congr 1;omega
  have h2:((l.take (i0+1)).filter λx=>!p x).length=i0:=by
   rw[qb hi0,qI,hbefore];simp[hpi'];omega
  rw[h1,qI,qt,h2];have:=qU (λx=>!p x) ((l.drop (i0+1)).take (i-(i0+1)));simp at this ⊢;omega
 have hkeep:(BJ p l i).length=l.length:=by unfold BJ;simp;omega
 generalize hkp:(l.take i).filter (λx=>!p x)=kp at hkl ⊢;have hne:o≠m:=by omega
 have hsz:=Ax.E.size (BJ p l i);by_cases hlt:i<l.length;have w1:=wS i (by omega);have w2:IntKind.i64.wrap ((kp.length:Int)+1)=((kp.length+1:Nat):Int):=by rw[Cl]<;>omega
 obtain⟨x,hx⟩:∃x,l[i]=x:=⟨_,rfl⟩
 have hget:(BJ p l i)[i]? = some x:=by
  unfold BJ;rw[hkp,qV (by omega),qY];have:kp.length+(i-kp.length)=i:=by omega
  rw[this,qf hlt,hx]
 obtain⟨g1,g2⟩:=JU hsz (i:=i) (e:=x.enc) (by simp[hget]);have hset':=LT hsz (j:=kp.length) (e:=x.enc) (by simp[hkeep];omega);have g3:kp.length*3+3<=(((BJ p l i).map Ax.enc).flatMap SV.cells).length:=by
  rw[A7 hsz,qd,hkeep];omega
 have hcl:=Ax.E.len x;generalize hF:((BJ p l i).map Ax.enc).flatMap SV.cells=F at g1 g2 g3 hset' ⊢;have H1:=hp x (by rw[<-hx];exact ql hlt);simp only[qn,qz,qE]at H1;have hpre:=Ax.E.st x;simp[Ax.enc,SV.cells]at g2;simp[go_sem,hlt,AC,g1,g2];refine qw (by simpa[Ax.enc]using H1) ?_;by_cases hpx:p x=true;simp[go_sem,hpx,w1,-Int.natCast_add];have hk1:(l.take (i+1)).filter (λx=>!p x)=kp:=by rw[qb hlt,qI,hkp,hx];simp[hpx]
 have hk2:BJ p l (i+1)=BJ p l i:=by unfold BJ;rw[hk1,hkp]
 refine⟨i+1,by omega,⟨by omega,by omega,by omega⟩,⟨by rw[hk1];exact IO,IO⟩,λj y e=>?_⟩;rw[hk2,hF]at e;by_cases e1:j=o;subst e1;rw[AC]at e;rw[AD _ _ hne,AD _ _ hne,AC];exact e;rw[AD _ _ e1]at e;have:=(ho j y e).1;rw[AD _ _ (by omega),AD _ _ (by omega),AD _ _ e1];exact e;have hpx':p x=false:=by simpa using hpx
 have hkl':(kp.length:Int)<l.length:=by omega
 simp[Ax.enc,SV.cells]at hset';simp[go_sem,hpx',AC,AD,hne,hkl',g3,hset',w1,w2,-Int.natCast_add];have hk1:(l.take (i+1)).filter (λx=>!p x)=kp++[x]:=by rw[qb hlt,qI,hkp,hx];simp[hpx']
 have hk2:(BJ p l (i+1)).map Ax.enc=((BJ p l i).map Ax.enc).set kp.length x.enc:=by
  have:BJ p l (i+1)=(BJ p l i).set kp.length x:=by
   unfold BJ;rw[hk1,hkp,jV _ _ (qa _),Nat.sub_self];simp;rw[qG (show kp.length<l.length by omega),List.set_cons_zero]
  rw[this,List.map_set]
 rw[Ax.enc]at hk2;refine⟨i+1,by omega,⟨by omega,by omega,by omega⟩,⟨by rw[hk1,qt];exact IO,IO⟩,λj y e=>?_⟩;rw[hk2]at e;by_cases e1:j=o;subst e1;rw[AC]at e ⊢;exact e;rw[AD _ _ e1]at e ⊢;have:=(ho j y e).1;rw[AD _ _ (by omega),AD _ _ (by omega),AD _ _ e1];exact e;have:i=l.length:=by omega
 subst this;have q1:kp.length<=l.length:=by omega
 have q2:¬((kp.length:Int)=l.length):=by omega
 have q3:¬(l.length-kp.length=0):=by omega
 rw[qi]at hkp;have hF:((BJ p l l.length).map Ax.enc).flatMap SV.cells=(kp.map Ax.enc).flatMap SV.cells++((l.drop kp.length).map Ax.enc).flatMap SV.cells:=by unfold BJ;rw[qi,hkp];simp
 have hlk:((kp.map Ax.enc).flatMap SV.cells).length=kp.length*3:=by rw[A7 (Ax.E.size kp),qd]
 have hFl:(((BJ p l l.length).map Ax.enc).flatMap SV.cells).length=l.length*3:=by rw[A7 hsz,qd,hkeep]
 have q4:kp.length*3+(l.length-kp.length)*3<=(((BJ p l l.length).map Ax.enc).flatMap SV.cells).length:=by rw[hFl,<-jB];apply jt;omega
 have htk:(((BJ p l l.length).map Ax.enc).flatMap SV.cells).take (kp.length*3)=(kp.map Ax.enc).flatMap SV.cells:=by rw[hF,<-hlk,kO]
 generalize((BJ p l l.length).map Ax.enc).flatMap SV.cells=F at q4 htk ⊢;simp[go_sem,AC,q1,q2,q3,q4];refine fin kp _ _ _ _ hkp (λj y hj e=>by rw[AD _ _ hj,AD _ _ hj];exact e) (AC _ _ _) ?_ ?_;rw[htk,qt,hlk];omega;rw[htk,<-hlk,kO]
def AE.addText (y:AE) (t:ByteArray):AE:=.mk y.kind y.code y.id (y.text++t) y.head y.flow y.rows
def Co (x:AE):Prop:=(x.kind=7/\x.rows=[])\/(x.kind=1/\x.text.size=0)
instance (x:AE):Decidable (Co x):=by unfold Co;cases h:x.rows<;>simp<;>infer_instance
def BK (out:List AE) (x:AE):List AE:=
 if Co x then out else match out.getLast? with
  | some y=>if x.kind=1/\y.kind=1/\y.head=x.head then out.dropLast++[y.addText x.text]else out++[x]
  | none=>out++[x]
def EM (l:List AE):List AE:=l.foldl BK []
mutual
def AE.nrm:AE->AE
 | .mk k c i t h f r=>.mk k c i t h (EM (AE.nrmL f)) ((Aa.nrmL r).filter λr=>!decide (r.cells.length=0))
def AE.nrmL:List AE->List AE
 | []=>[]
 | x::l=>AE.nrm x::AE.nrmL l
def Aa.nrm:Aa->Aa
 | .mk h c=>.mk h (Cell.nrmL c)
def Aa.nrmL:List Aa->List Aa
 | []=>[]
 | x::l=>Aa.nrm x::Aa.nrmL l
def Cell.nrm:Cell->Cell
 | .mk i h f=>.mk i h (EM (AE.nrmL f))
def Cell.nrmL:List Cell->List Cell
 | []=>[]
 | x::l=>Cell.nrm x::Cell.nrmL l
end
theorem AE.nrmL_eq:∀l:List AE,AE.nrmL l=l.map AE.nrm
 | []=>by rw[AE.nrmL];rfl
 | x::l=>by rw[AE.nrmL,AE.nrmL_eq l];rfl
theorem Aa.nrmL_eq:∀l:List Aa,Aa.nrmL l=l.map Aa.nrm
 | []=>by rw[Aa.nrmL];rfl
 | x::l=>by rw[Aa.nrmL,Aa.nrmL_eq l];rfl
theorem Cell.nrmL_eq:∀l:List Cell,Cell.nrmL l=l.map Cell.nrm
 | []=>by rw[Cell.nrmL];rfl
 | x::l=>by rw[Cell.nrmL,Cell.nrmL_eq l];rfl
def Ac (l:List AE):List AE:=EM (AE.nrmL l)
theorem XV (z:Nat) (full:Bool):PC 133 [.imm z [] full,.fn (.func 136) [] []] (.imm 6 [] false):=by
 intro h n;refine gq Tryz.func133 rfl λho=>?_;simp[go_sem];have hI:=(Xe [] (by simp) 136 [] [] (λ_=>false) (by simp)).wk (us:=[.imm z [] full,.fn (.func 136) [] []]) 1 ⟨BC (by simp),IO,trivial⟩;refine qw hI ?_;have e:BD (λ_=>false) 0 0 = -1:=by rw[BD];simp
 simp[go_sem,e];exact Jj ho AB (by simp) rfl
theorem Zy (r:Aa):PC 136 [r.enc] (.bool (decide (r.cells.length=0))):=by
 intro h n;refine gq Tryz.func136 rfl λho=>?_;simp[go_sem,qQ,AC];exact Ay ho (AQ ho (qa _) AB) (by cases r.cells<;>simp;omega) rfl
theorem T4 {E:B6} (l:List Aa) (hl:l.length<=1048576) (H:∀(i:Nat) (h:i<l.length),PC 135 [(l[i]).enc] (Aa.nrm l[i]).enc) {h:Hp} {n:Nat} {K:SV->Hp->Nat->Prop}
 (hk:∀v h' n',n<=n'->(∀o x,h o=some x->h' o=some x)->Ak E Tryz.prog 133 [v,.fn (.func 136) [] []] h' n' (λv2 h2 n2=>(∀o x,o<n->h o=some x->h2 o=some x)/\n<=n2/\v2=.imm 6 (((l.map Aa.nrm).filter λr=>!decide (r.cells.length=0)).map Aa.enc) false)->K v h' n'):
 Ak E Tryz.prog 134 [A3 l,.fn (.func 135) [] []] h n K:=by
 refine(YR l hl 135 [] [] Aa.nrm (λi hi=>H i hi)).use λv h' n' ⟨hn,hh,hv⟩=>hk v h' n' hn hh ?_;rcases hv with⟨he,z',full,rfl⟩|⟨o,full,h1,h2,rfl,h3⟩
 refine qw (XV z' full) ⟨λo x _ e=>hh o x e,hn,?_⟩;have:l.map Aa.nrm=[]:=by simpa using he
 rw[this];rfl;rw[qd];refine Ak.lift ((bS (l.map Aa.nrm) (by simpa using hl) 136 [] [] (λr=>decide (r.cells.length=0)) (λr _=>Zy r) (n:=n') (full:=full) h3).mono ?_);rintro v2 h2 n2 ⟨rfl,rfl,rfl⟩;exact⟨λj x g e=>by rw[AD _ _ (by omega)];exact hh j x e,hn,rfl⟩
theorem AE.nrm_fields (x:AE):x.nrm.kind=x.kind/\x.nrm.code=x.code/\x.nrm.id=x.id/\x.nrm.text=x.text/\x.nrm.head=x.head/\x.nrm.flow=Ac x.flow/\x.nrm.rows=(x.rows.map Aa.nrm).filter λr=>!decide (r.cells.length=0):=by
 cases x;rw[AE.nrm];simp[AE.kind,AE.code,AE.id,AE.text,AE.head,AE.flow,AE.rows,Ac,Aa.nrmL_eq]
theorem I4 (l:List AE) (k:Nat) (h:k<l.length):EM (AE.nrmL (l.take (k+1)))=BK (EM (AE.nrmL (l.take k))) l[k].nrm:=by
 rw[qb h,AE.nrmL_eq,qc,EM,kg,AE.nrmL_eq];rfl
theorem Jf (out:List AE) (x:AE):(BK out x).length<=out.length+1:=by
 unfold BK;split;omega;split;split<;>simp;simp
theorem Mr (l:List AE):∀k,k<=l.length->(EM (AE.nrmL (l.take k))).length<=k
 | 0,_=>by simp[AE.nrmL,EM]
 | k+1,h=>by
  rw[I4 l k h];have:=Jf (EM (AE.nrmL (l.take k))) l[k].nrm;have:=Mr l k (by omega);omega
theorem Jg {out:List AE} {x y:AE} (h:y∈BK out x):y∈out\/y=x\/∃z∈out,y=z.addText x.text:=by
 unfold BK at h;split at h;exact .inl h;split at h;rename_i z hz;split at h;rcases qe.1 h with h|h;exact .inl ((List.dropLast_sublist out).subset h);exact .inr (.inr ⟨z,List.mem_of_getLast? hz,qv.1 h⟩);rcases qe.1 h with h|h;exact .inl h;exact .inr (.inl (qv.1 h));rcases qe.1 h with h|h;exact .inl h;exact .inr (.inl (qv.1 h))
theorem J3 (l:List AE) (hs:∀x∈l,x.head.sized/\x.text.size<=1048576):∀k,k<=l.length->∀y∈EM (AE.nrmL (l.take k)),y.head.sized/\y.text.size<=k*1048576
 | 0,_,y,hy=>by simp[AE.nrmL,EM]at hy
 | k+1,h,y,hy=>by
  rw[I4 l k h]at hy;have hx:=hs l[k] (ql h);obtain⟨_,_,_,f4,f5,_,_⟩:=(l[k]).nrm_fields;rcases Jg hy with h1|rfl|⟨z,hz,rfl⟩
  have:=J3 l hs k (by omega) y h1;exact⟨this.1,by omega⟩;rw[f4,f5];exact⟨hx.1,by omega⟩;have:=J3 l hs k (by omega) z hz;refine⟨by simpa[AE.addText,AE.head]using this.1,?_⟩;have e:(z.addText (l[k]).nrm.text).text.size=z.text.size+(l[k]).text.size:=by show(z.text++(l[k]).nrm.text).size=_;rw[ByteArray.size_append,f4]
  omega
theorem OX (s:ByteArray):(s.toList==ByteArray.empty.toList)=decide (s.size=0):=by
 rw[<-beq_toListBytes];by_cases h:s.size=0;have:s=ByteArray.empty:=by
  obtain⟨⟨l⟩⟩:=s;cases l with
  | nil=>rfl
  | cons a l=>simp[ByteArray.size]at h
 subst this;rfl;have:s≠ByteArray.empty:=by rintro rfl;exact h rfl
 have e:(s==ByteArray.empty)=false:=by
  rw[Bool.eq_false_iff];intro e;exact this ((P5 _ _).1 e)
 rw[e];simp[h]
theorem HN (s:ByteArray):s.toList=[]↔s.size=0:=by
 have h:=OX s;have e:ByteArray.empty.toList=[]:=by
  have:=OX ByteArray.empty;rw[ByteArray.toList_eq];rfl
 rw[e]at h;constructor;intro g;rw[g]at h;simpa using h.symm;intro g;rw[decide_eq_true g]at h;simpa using h
set_option maxHeartbeats 4000000 in
theorem P8 (l:List AE) (hl:l.length<=1048576) (hs:∀x∈l,x.head.sized/\x.text.size<=1048576/\x.rows.length<=1048576)
 (H1:∀x∈l,PC 73 [AG x.flow] (AG (Ac x.flow))) (H2:∀x∈l,∀(i:Nat) (h:i<x.rows.length),PC 135 [(x.rows[i]).enc] (Aa.nrm x.rows[i]).enc):LC 73 [AG l] 11 ((Ac l).map AE.enc):=by
 intro h n;refine gq Tryz.func73 rfl λho=>?_;simp[go_sem];refine An 2 (α:=Nat×Option Nat) (λq=>[(3,AM 11 q.2 ((EM (AE.nrmL (l.take q.1))).map AE.enc)),(7,AG l),(8,AA l.length),(9,AA q.1)]) (λq=>AN q.2 ((EM (AE.nrmL (l.take q.1))).map AE.enc) h)
  (λq m=>q.1<=l.length/\n<=m/\Ar n m 11 q.2 ((EM (AE.nrmL (l.take q.1))).map AE.enc)) (λq=>l.length-q.1) (0,none) ?_ ?_ AB ?_
 exact⟨qg _,qa _,by simp[AE.nrmL,EM];exact jK _ _ _⟩;simp[Ai,AM];rintro⟨k,o⟩ m ⟨hk,hnm,hA⟩;dsimp only at hk hA ⊢;by_cases hlt:k<l.length
 . have w1:=wS k (by omega);obtain⟨x,hx⟩:∃x,l[k]=x:=⟨_,rfl⟩
   have hxm:x∈l:=by rw[<-hx];exact ql hlt
   obtain⟨hxh,hxt,hxr⟩:=hs x hxm;have hft:=I4 l k hlt;rw[hx]at hft;obtain⟨f1,f2,f3,f4,f5,f6,f7⟩:=x.nrm_fields;have hfl:=Mr l k hk;generalize hys:EM (AE.nrmL (l.take k))=ys at hA hft hfl ⊢;have hlo:∀j,o=some j->j<m:=λj e=>(hA.lt j e).2;simp[go_sem,hlt,hx,qx,AC];refine qw (by simpa[AF.enc,AF.flat]using Ob x.head hxh) ?_;simp[go_sem,AC];refine(H1 x hxm).use ?_;simp[go_sem,AC];refine T4 x.rows hxr (λi hi=>H2 x hxm i hi) λv h1 m1 hm1 hh1 hcall=>?_;simp[go_sem];refine kS hcall ?_;rintro v2 h2 m2 ⟨hh2,hm2,rfl⟩;rw[<-f7];generalize hR:x.nrm.rows=R at f7 ⊢;have em0:=hh2 m _ (qP m) (AC _ _ _);have ho2:∀j,o=some j->h2 j=some (.cells ((ys.map AE.enc).flatMap SV.cells)):=λj e=>by
    have:=hlo j e;exact hh2 j _ (by omega) (by rw[AD _ _ (by omega),AD _ _ (by omega),AD _ _ (by omega),AD _ _ (by omega)];exact Cu j e)
   have hacc:∀j y,AN o (ys.map AE.enc) h j=some y->j<m/\h2 j=some y:=λj y e=>by
    have hjm:j<m:=by
     cases o with
     | none=>have:=(ho j y e).1;omega
     | some i=>
      simp only[AN,hset]at e;split at e;rename_i h;subst h;exact hlo _ rfl;have:=(ho j y e).1;omega
    exact⟨hjm,hh2 j _ (by omega) (by rw[AD _ _ (by omega),AD _ _ (by omega),AD _ _ (by omega),AD _ _ (by omega)];exact e)⟩
   have BE:∀j y,h j=some y->h2 j=some y:=λj y e=>(hacc j y (AN.old ho hA j y e)).2;clear hcall hh1 hh2;rcases o with _|j
   . have hys0:ys=[]:=by simpa using hA.none rfl
     subst hys0;have happ:¬Co x.nrm->BK [] x.nrm=[]++[x.nrm]:=λhd=>by rw[BK,if_neg hd];rfl
     by_cases k7:x.kind=7
     . by_cases hR0:R=[];have hd:Co x.nrm:=.inl ⟨by rw[f1,k7],by rw[hR,hR0]⟩;simp[go_sem,AM,em0,AC,k7,hR0,w1,-Int.natCast_add];rw[BK,if_pos hd]at hft;refine⟨k+1,by omega,none,⟨by omega,by omega,by rw[hft];exact hA.mono (by omega)⟩,⟨by rw[hft];first|exact IO|(simp[AM,IO]),IO⟩,λi y e=>?_⟩;rw[hft]at e;obtain⟨g1,g2⟩:=hacc i y e;rw[AD _ _ (by omega)];exact g2
       . have hd:¬Co x.nrm:=by rintro(⟨_,g⟩|⟨g,_⟩);exact hR0 (by rw[<-hR,g]);rw[f1,k7]at g;exact absurd g (by decide)
         rw[happ hd]at hft;simp[go_sem,AM,em0,AC,k7,hR0]
         repeat first|refine nq ?_|refine sq ?_|refine aq ?_
         rw[Ky (e:=x.nrm.enc) (t:=22) (t2:=22) (el:=70) (z:=11) (by simp[go_sem]) (by simp[go_sem]) (by simp[go_sem]) (by simp) (by simp[go_sem]) (by simp[go_sem]) (by simp[go_sem]) (AE.E.len _) ?a1]
         case a1=>simp[AC,qx,SV.cells,f1,f2,f3,f4,f5,f6,hR,k7]
         simp[go_sem,w1,-Int.natCast_add];refine⟨k+1,by omega,some (m2+1),⟨by omega,by omega,by rw[hft,qc];exact hA.push (AE.E.st _) (AE.E.len _) (by omega) (by omega)⟩,⟨by rw[hft];simp[IO],IO⟩,?_⟩;rw[hft,qc];have:=Dr (p:=m2+1) (v:=.sl (m2+1) 0 11 (1) false) (e:=x.nrm.enc) ho (by omega) hA (H:=hset (hset h2 m (some (.cells x.nrm.enc.cells))) m2 (some (.cells x.nrm.enc.cells))) (AQ ho (by omega) (AQ ho (by omega) BE));simpa[qx,SV.cells,Cs.app,f1,f2,f3,f4,f5,f6,hR,k7]using this
     . by_cases k1:x.kind=1
       . by_cases ht:x.text.size=0;have hd:Co x.nrm:=.inr ⟨by rw[f1,k1],by rw[f4,ht]⟩;simp[go_sem,AM,em0,AC,k1,(HN _).2 ht,w1,-Int.natCast_add];rw[BK,if_pos hd]at hft;refine⟨k+1,by omega,none,⟨by omega,by omega,by rw[hft];exact hA.mono (by omega)⟩,⟨by rw[hft];first|exact IO|(simp[AM,IO]),IO⟩,λi y e=>?_⟩;rw[hft]at e;obtain⟨g1,g2⟩:=hacc i y e;rw[AD _ _ (by omega)];exact g2
         . have hd:¬Co x.nrm:=by rintro(⟨g,_⟩|⟨_,g⟩);rw[f1,k1]at g;exact absurd g (by decide);exact ht (by rw[<-f4,g])
           rw[happ hd]at hft;simp[go_sem,AM,em0,AC,k1,mt (HN _).1 ht]
           repeat first|refine nq ?_|refine sq ?_|refine aq ?_
           rw[Ky (e:=x.nrm.enc) (t:=22) (t2:=22) (el:=70) (z:=11) (by simp[go_sem]) (by simp[go_sem]) (by simp[go_sem]) (by simp) (by simp[go_sem]) (by simp[go_sem]) (by simp[go_sem]) (AE.E.len _) ?a1]
           case a1=>simp[AC,qx,SV.cells,f1,f2,f3,f4,f5,f6,hR,k1]
           simp[go_sem,w1,-Int.natCast_add];refine⟨k+1,by omega,some (m2+1),⟨by omega,by omega,by rw[hft,qc];exact hA.push (AE.E.st _) (AE.E.len _) (by omega) (by omega)⟩,⟨by rw[hft];simp[IO],IO⟩,?_⟩;rw[hft,qc];have:=Dr (p:=m2+1) (v:=.sl (m2+1) 0 11 (1) false) (e:=x.nrm.enc) ho (by omega) hA (H:=hset (hset h2 m (some (.cells x.nrm.enc.cells))) m2 (some (.cells x.nrm.enc.cells))) (AQ ho (by omega) (AQ ho (by omega) BE));simpa[qx,SV.cells,Cs.app,f1,f2,f3,f4,f5,f6,hR,k1]using this
       . have hd:¬Co x.nrm:=by rintro(⟨g,_⟩|⟨g,_⟩);rw[f1]at g;exact k7 g;rw[f1]at g;exact k1 g
         rw[happ hd]at hft;simp[go_sem,AM,em0,AC,k1,k7]
         repeat first|refine nq ?_|refine sq ?_|refine aq ?_
         rw[Ky (e:=x.nrm.enc) (t:=22) (t2:=22) (el:=70) (z:=11) (by simp[go_sem]) (by simp[go_sem]) (by simp[go_sem]) (by simp) (by simp[go_sem]) (by simp[go_sem]) (by simp[go_sem]) (AE.E.len _) ?a1]
         case a1=>simp[AC,qx,SV.cells,f1,f2,f3,f4,f5,f6,hR]
         simp[go_sem,w1,-Int.natCast_add];refine⟨k+1,by omega,some (m2+1),⟨by omega,by omega,by rw[hft,qc];exact hA.push (AE.E.st _) (AE.E.len _) (by omega) (by omega)⟩,⟨by rw[hft];simp[IO],IO⟩,?_⟩;rw[hft,qc];have:=Dr (p:=m2+1) (v:=.sl (m2+1) 0 11 (1) false) (e:=x.nrm.enc) ho (by omega) hA (H:=hset (hset h2 m (some (.cells x.nrm.enc.cells))) m2 (some (.cells x.nrm.enc.cells))) (AQ ho (by omega) (AQ ho (by omega) BE));simpa[qx,SV.cells,Cs.app,f1,f2,f3,f4,f5,f6,hR,k1]using this
   . have hj:j<m:=hlo j rfl;have hjm:j≠m:=by omega
     have ho2:=ho2 j rfl;have happ:¬Co x.nrm->x.kind≠1->BK ys x.nrm=ys++[x.nrm]:=λhd hk=>by
      rw[BK,if_neg hd];split;rw[if_neg (by rw[f1];exact λg=>hk g.1)];rfl
     by_cases k7:x.kind=7
     . by_cases hR0:R=[];have hd:Co x.nrm:=.inl ⟨by rw[f1,k7],by rw[hR,hR0]⟩;simp[go_sem,AM,em0,AC,k7,hR0,w1,-Int.natCast_add];rw[BK,if_pos hd]at hft;refine⟨k+1,by omega,some j,⟨by omega,by omega,by rw[hft];exact hA.mono (by omega)⟩,⟨by rw[hft];first|exact IO|(simp[AM,IO]),IO⟩,λi y e=>?_⟩;rw[hft]at e;obtain⟨g1,g2⟩:=hacc i y e;rw[AD _ _ (by omega)];exact g2
       . have hd:¬Co x.nrm:=by rintro(⟨_,g⟩|⟨g,_⟩);exact hR0 (by rw[<-hR,g]);rw[f1,k7]at g;exact absurd g (by decide)
         rw[happ hd (by omega)]at hft;simp[go_sem,AM,em0,AC,k7,hR0]
         repeat first|refine nq ?_|refine sq ?_|refine aq ?_
         rw[GL (es:=ys.map AE.enc) (e:=x.nrm.enc) (t:=22) (t2:=22) (el:=70) (z:=11) (by simp[go_sem]) (by simp[go_sem]) (by simp[go_sem]) (by simp) (by simp[go_sem]) (by simp[go_sem]) (by simp[go_sem]) (by simp;omega) hA (AE.E.len _) ?a1 ?a2 _ (by simp)]
         case a1=>simp[AC,qx,SV.cells,f1,f2,f3,f4,f5,f6,hR,k7]
         case a2=>rw[AD _ _ (by omega),AD _ _ (by omega)];exact ho2
         simp[go_sem,w1,-Int.natCast_add];refine⟨k+1,by omega,some (m2+1),⟨by omega,by omega,by rw[hft,qc];exact hA.push (AE.E.st _) (AE.E.len _) (by omega) (by omega)⟩,⟨by rw[hft];simp[IO],IO⟩,?_⟩;rw[hft,qc];have:=Dr (p:=m2+1) (v:=.sl (m2+1) 0 11 ((ys.map AE.enc).length+1) false) (e:=x.nrm.enc) ho (by omega) hA (H:=hset (hset h2 m (some (.cells x.nrm.enc.cells))) m2 (some (.cells x.nrm.enc.cells))) (AQ ho (by omega) (AQ ho (by omega) BE));simpa[qx,SV.cells,Cs.app,f1,f2,f3,f4,f5,f6,hR,k7]using this
     . by_cases k1:x.kind=1
       . by_cases ht:x.text.size=0;have hd:Co x.nrm:=.inr ⟨by rw[f1,k1],by rw[f4,ht]⟩;simp[go_sem,AM,em0,AC,k1,(HN _).2 ht,w1,-Int.natCast_add];rw[BK,if_pos hd]at hft;refine⟨k+1,by omega,some j,⟨by omega,by omega,by rw[hft];exact hA.mono (by omega)⟩,⟨by rw[hft];first|exact IO|(simp[AM,IO]),IO⟩,λi y e=>?_⟩;rw[hft]at e;obtain⟨g1,g2⟩:=hacc i y e;rw[AD _ _ (by omega)];exact g2
         . have hd:¬Co x.nrm:=by rintro(⟨g,_⟩|⟨_,g⟩);rw[f1,k1]at g;exact absurd g (by decide);exact ht (by rw[<-f4,g])
           rcases List.eq_nil_or_concat ys with rfl|⟨ys',y,rfl⟩
           . have hft':BK [] x.nrm=[]++[x.nrm]:=by rw[BK,if_neg hd];rfl
             rw[hft']at hft;simp[go_sem,AM,em0,AC,k1,mt (HN _).1 ht]
             repeat first|refine nq ?_|refine sq ?_|refine aq ?_
             rw[GL (es:=[].map AE.enc) (e:=x.nrm.enc) (t:=22) (t2:=22) (el:=70) (z:=11) (by simp[go_sem]) (by simp[go_sem]) (by simp[go_sem]) (by simp) (by simp[go_sem]) (by simp[go_sem]) (by simp[go_sem]) (by simp) hA (AE.E.len _) ?a1 ?a2 _ (by simp)]
             case a1=>simp[AC,qx,SV.cells,f1,f2,f3,f4,f5,f6,hR,k1]
             case a2=>rw[AD _ _ (by omega),AD _ _ (by omega)];exact ho2
             simp[go_sem,w1,-Int.natCast_add];refine⟨k+1,by omega,some (m2+1),⟨by omega,by omega,by rw[hft,qc];exact hA.push (AE.E.st _) (AE.E.len _) (by omega) (by omega)⟩,⟨by rw[hft];simp[IO],IO⟩,?_⟩;rw[hft,qc];have:=Dr (p:=m2+1) (v:=.sl (m2+1) 0 11 1 false) (e:=x.nrm.enc) ho (by omega) hA (H:=hset (hset h2 m (some (.cells x.nrm.enc.cells))) m2 (some (.cells x.nrm.enc.cells))) (AQ ho (by omega) (AQ ho (by omega) BE));simpa[qx,SV.cells,Cs.app,f1,f2,f3,f4,f5,f6,hR,k1]using this
           . rw[List.concat_eq_append]at *;have hym:=J3 l (λx hx=>⟨(hs x hx).1,(hs x hx).2.1⟩) k hk y (by rw[hys];simp);have hl':(ys'++[y]).length=ys'.length+1:=by simp
             have w2:IntKind.i64.wrap (ys'.length:Int)=(ys'.length:Int):=by rw[Cl]<;>omega
             have hpos:(0:Int)<(ys'.length:Int)+1:=by omega
             have hpos2:(ys'.length:Int)<(ys'.length:Int)+1:=by omega
             have hAl:((ys'.map AE.enc).flatMap SV.cells).length=ys'.length*11:=by rw[A7 (AE.E.size ys'),qd]
             have ho3:h2 j=some (.cells ((ys'.map AE.enc).flatMap SV.cells++y.enc.cells)):=by rw[ho2];simp
             rw[qx y]at ho3;simp only[SV.cells]at ho3;generalize hA':(ys'.map AE.enc).flatMap SV.cells=A at hAl ho3;by_cases hy1:y.kind=1
             . simp[go_sem,AM,em0,AC,AD,hjm,k1,mt (HN _).1 ht,ho3,w2,hpos,hpos2,<-hAl,hy1]
               repeat first|refine nq ?_|refine sq ?_|refine aq ?_
               refine jw _ _ _ _ _ _ (by simpa[AF.enc,AF.flat]using c58 y.head x.head hym.1 hxh) ?_;by_cases hhd:y.head=x.head
               . have hcat:y.text.size+x.text.size<=9223372036854775807:=by have:=hym.2;omega
                 have hft':BK (ys'++[y]) x.nrm=ys'++[y.addText x.text]:=by
                  rw[BK,if_neg hd,List.getLast?_concat];simp only;rw[if_pos ⟨by rw[f1,k1],hy1,by rw[hhd,f5]⟩,List.dropLast_concat,f4]
                 rw[hft']at hft;simp[go_sem,hhd,AC,AD,hjm,ho3,w1,w2,<-hAl,hcat,List.take_length_add_append,-Int.natCast_add]
                 repeat first|refine nq ?_|refine sq ?_|refine aq ?_
                 refine⟨k+1,by omega,some j,⟨by omega,by omega,?_⟩,⟨by rw[hft];simp[IO],IO⟩,λi y' e=>?_⟩;rw[hft];exact⟨by simp,λi e=>⟨(hA.lt i e).1,by have:=(hA.lt i e).2;omega⟩,AE.E.size _⟩;rw[hft]at e;simp only[AN]at e;by_cases e1:i=j;subst e1;rw[AC]at e ⊢;rw[<-e];have ec:(y.addText x.text).enc.cells=[AA y.kind,AA y.code,AA y.id,.str (y.text++x.text),Af y.head.props,AA y.head.ins,AA y.head.move,AP y.head.dels,AL y.head.layers,AG y.flow,A3 y.rows]:=by rw[qx];rfl
                 rw[qc,jm,hA',List.map_singleton,List.flatMap_singleton,ec,hhd];simp[qD];rw[AD _ _ e1]at e;obtain⟨g1,g2⟩:=hacc i y' (by simp only[AN];rw[AD _ _ e1];exact e);rw[AD _ _ e1,AD _ _ (by omega)];exact g2
               . have hft':BK (ys'++[y]) x.nrm=(ys'++[y])++[x.nrm]:=by
                  rw[BK,if_neg hd,List.getLast?_concat];simp only;rw[if_neg (by rw[f5];exact λg=>hhd g.2.2)]
                 rw[hft']at hft;simp[go_sem,hhd,AC]
                 repeat first|refine nq ?_|refine sq ?_|refine aq ?_
                 rw[GL (es:=(ys'++[y]).map AE.enc) (e:=x.nrm.enc) (t:=22) (t2:=22) (el:=70) (z:=11) (by simp[go_sem]) (by simp[go_sem]) (by simp[go_sem]) (by simp) (by simp[go_sem]) (by simp[go_sem]) (by simp[go_sem]) (by simp;omega) hA (AE.E.len _) ?a1 ?a2 _ (by simp)]
                 case a1=>simp[AC,qx,SV.cells,f1,f2,f3,f4,f5,f6,hR,k1]
                 case a2=>rw[AD _ _ (by omega),AD _ _ (by omega)];exact ho2
                 simp[go_sem,w1,-Int.natCast_add];refine⟨k+1,by omega,some (m2+1),⟨by omega,by omega,by rw[hft,qc];exact hA.push (AE.E.st _) (AE.E.len _) (by omega) (by omega)⟩,⟨by rw[hft];simp[IO],IO⟩,?_⟩;rw[hft,qc];have:=Dr (p:=m2+1) (v:=.sl (m2+1) 0 11 (((ys'++[y]).map AE.enc).length+1) false) (e:=x.nrm.enc) ho (by omega) hA (H:=hset (hset h2 m (some (.cells x.nrm.enc.cells))) m2 (some (.cells x.nrm.enc.cells))) (AQ ho (by omega) (AQ ho (by omega) BE));simpa[qx,SV.cells,Cs.app,f1,f2,f3,f4,f5,f6,hR,k1]using this
             . simp[go_sem,AM,em0,AC,AD,hjm,k1,mt (HN _).1 ht,ho3,w2,hpos,hpos2,<-hAl,hy1]
               repeat first|refine nq ?_|refine sq ?_|refine aq ?_
               have hft':BK (ys'++[y]) x.nrm=(ys'++[y])++[x.nrm]:=by
                rw[BK,if_neg hd,List.getLast?_concat];simp only;rw[if_neg (λg=>hy1 g.2.1)]
               rw[hft']at hft;rw[GL (es:=(ys'++[y]).map AE.enc) (e:=x.nrm.enc) (t:=22) (t2:=22) (el:=70) (z:=11) (by simp[go_sem]) (by simp[go_sem]) (by simp[go_sem]) (by simp) (by simp[go_sem]) (by simp[go_sem]) (by simp[go_sem]) (by simp;omega) hA (AE.E.len _) ?a1 ?a2 _ (by simp)]
               case a1=>simp[AC,qx,SV.cells,f1,f2,f3,f4,f5,f6,hR,k1]
               case a2=>rw[AD _ _ (by omega),AD _ _ (by omega)];exact ho2
               simp[go_sem,w1,-Int.natCast_add];refine⟨k+1,by omega,some (m2+1),⟨by omega,by omega,by rw[hft,qc];exact hA.push (AE.E.st _) (AE.E.len _) (by omega) (by omega)⟩,⟨by rw[hft];simp[IO],IO⟩,?_⟩;rw[hft,qc];have:=Dr (p:=m2+1) (v:=.sl (m2+1) 0 11 (((ys'++[y]).map AE.enc).length+1) false) (e:=x.nrm.enc) ho (by omega) hA (H:=hset (hset h2 m (some (.cells x.nrm.enc.cells))) m2 (some (.cells x.nrm.enc.cells))) (AQ ho (by omega) (AQ ho (by omega) BE));simpa[qx,SV.cells,Cs.app,f1,f2,f3,f4,f5,f6,hR,k1]using this
       . have hd:¬Co x.nrm:=by rintro(⟨g,_⟩|⟨g,_⟩);rw[f1]at g;exact k7 g;rw[f1]at g;exact k1 g
         rw[happ hd k1]at hft;simp[go_sem,AM,em0,AC,k1,k7]
         repeat first|refine nq ?_|refine sq ?_|refine aq ?_
         rw[GL (es:=ys.map AE.enc) (e:=x.nrm.enc) (t:=22) (t2:=22) (el:=70) (z:=11) (by simp[go_sem]) (by simp[go_sem]) (by simp[go_sem]) (by simp) (by simp[go_sem]) (by simp[go_sem]) (by simp[go_sem]) (by simp;omega) hA (AE.E.len _) ?a1 ?a2 _ (by simp)]
         case a1=>simp[AC,qx,SV.cells,f1,f2,f3,f4,f5,f6,hR]
         case a2=>rw[AD _ _ (by omega),AD _ _ (by omega)];exact ho2
         simp[go_sem,w1,-Int.natCast_add];refine⟨k+1,by omega,some (m2+1),⟨by omega,by omega,by rw[hft,qc];exact hA.push (AE.E.st _) (AE.E.len _) (by omega) (by omega)⟩,⟨by rw[hft];simp[IO],IO⟩,?_⟩;rw[hft,qc];have:=Dr (p:=m2+1) (v:=.sl (m2+1) 0 11 ((ys.map AE.enc).length+1) false) (e:=x.nrm.enc) ho (by omega) hA (H:=hset (hset h2 m (some (.cells x.nrm.enc.cells))) m2 (some (.cells x.nrm.enc.cells))) (AQ ho (by omega) (AQ ho (by omega) BE));simpa[qx,SV.cells,Cs.app,f1,f2,f3,f4,f5,f6,hR,k1]using this
 have:k=l.length:=by omega
 subst this;rw[qi]at hA ⊢;simp[go_sem];exact .inl (Kv ho hA AB hnm (qa _))
theorem Ud (x:Cell) (hs:x.head.sized) (H:PC 73 [AG x.flow] (AG (Ac x.flow))):PC 195 [x.enc] (Cell.nrm x).enc:=by
 intro h n;refine gq Tryz.func195 rfl λho=>?_;have e:(Cell.nrm x).enc=.agg [AA x.id,Af x.head.props,AA x.head.ins,AA x.head.move,AP x.head.dels,AL x.head.layers,AG (Ac x.flow)]:=by cases x;rw[Cell.nrm,jh];rfl
 rw[e];simp[go_sem,jh,AC,AD]
 repeat first|refine nq ?_|refine sq ?_|refine aq ?_
 refine jw _ _ _ _ _ _ (by simpa[AF.enc,AF.flat]using Ob x.head hs) ?_;simp[go_sem,AC,AD]
 repeat first|refine nq ?_|refine sq ?_|refine aq ?_
 refine jw _ _ _ _ _ _ H ?_;simp[go_sem,AC]
 repeat first|refine nq ?_|refine sq ?_|refine aq ?_
 exact Ay ho (by repeat(first|exact AB|refine AQ ho (by omega) ?_)) rfl (by rw[<-e];exact Cell.cl n _)
theorem Ua (x:Aa) (hs:x.head.sized) (hc:x.cells.length<=1048576) (H:∀(i:Nat) (h:i<x.cells.length),PC 195 [(x.cells[i]).enc] (Cell.nrm x.cells[i]).enc):PC 135 [x.enc] (Aa.nrm x).enc:=by
 intro h n;refine gq Tryz.func135 rfl λho=>?_;have h1:=(YV x.cells hc 195 [] [] Cell.nrm (λi hi=>H i hi)).pc (Cell.E.size _) (λn=>Cell.E.closedL n _);have e:(Aa.nrm x).enc=.agg [Af x.head.props,AA x.head.ins,AA x.head.move,AP x.head.dels,AL x.head.layers,BS (x.cells.map Cell.nrm)]:=by cases x;rw[Aa.nrm,qQ,Cell.nrmL_eq];rfl
 rw[e];simp[go_sem,qQ,AC,AD,-List.map_map]
 repeat first|refine nq ?_|refine sq ?_|refine aq ?_
 refine jw _ _ _ _ _ _ (by simpa[AF.enc,AF.flat]using Ob x.head hs) ?_;simp[go_sem,AC,AD,-List.map_map]
 repeat first|refine nq ?_|refine sq ?_|refine aq ?_
 refine jw _ _ _ _ _ _ h1 ?_;simp[go_sem,AC,-List.map_map]
 repeat first|refine nq ?_|refine sq ?_|refine aq ?_
 exact Ay ho (by repeat(first|exact AB|refine AQ ho (by omega) ?_)) rfl (by rw[<-e];exact Aa.cl n _)
theorem WR {l:List AE} (H:LC 73 [AG l] 11 ((Ac l).map AE.enc)):PC 73 [AG l] (AG (Ac l)):=H.pc (AE.E.size _) λn=>AE.E.closedL n _
theorem D7 {x:AE} (h:x.sized):x.head.sized/\x.text.size<=1048576/\x.rows.length<=1048576:=by cases x;rw[AE.sized]at h;exact⟨h.2.1,h.1,h.2.2.2.1⟩
def NI (x:AE):Prop:=PC 73 [AG x.flow] (AG (Ac x.flow))/\∀(i:Nat) (h:i<x.rows.length),PC 135 [(x.rows[i]).enc] (Aa.nrm x.rows[i]).enc
mutual
theorem cNI:∀x:AE,x.sized->NI x
 | .mk k c i t hd f r,hs=>by
  rw[AE.sized]at hs;refine⟨WR (P8 f hs.2.2.1 (λx hx=>D7 (ka hs.2.2.2.2.1 x hx)) (λx hx=>(QA f hs.2.2.2.2.1 x hx).1) λx hx=>(QA f hs.2.2.2.2.1 x hx).2),?_⟩;exact VQ r hs.2.2.2.2.2
theorem QA:∀l:List AE,AE.sizedL l->∀x∈l,NI x
 | [],_,x,h=>by simp at h
 | y::l,hs,x,h=>by
  rw[AE.sizedL]at hs;rcases qk.1 h with h|h;rw[h];exact cNI y hs.1;exact QA l hs.2 x h
theorem Zx:∀x:Aa,x.sized->PC 135 [x.enc] (Aa.nrm x).enc
 | .mk hd c,hs=>by
  rw[Aa.sized]at hs;exact Ua (.mk hd c) hs.1 hs.2.1 (VS c hs.2.2)
theorem VQ:∀l:List Aa,Aa.sizedL l->∀(i:Nat) (h:i<l.length),PC 135 [(l[i]).enc] (Aa.nrm l[i]).enc
 | [],_,i,h=>by simp at h
 | x::l,hs,0,_=>by rw[Aa.sizedL]at hs;exact Zx x hs.1
 | x::l,hs,i+1,h=>by rw[Aa.sizedL]at hs;exact VQ l hs.2 i (by simpa using h)
theorem aG:∀x:Cell,x.sized->PC 195 [x.enc] (Cell.nrm x).enc
 | .mk i hd f,hs=>by
  rw[Cell.sized]at hs;exact Ud (.mk i hd f) hs.1 (WR (P8 f hs.2.1 (λx hx=>D7 (ka hs.2.2 x hx)) (λx hx=>(QA f hs.2.2 x hx).1) λx hx=>(QA f hs.2.2 x hx).2))
theorem VS:∀l:List Cell,Cell.sizedL l->∀(i:Nat) (h:i<l.length),PC 195 [(l[i]).enc] (Cell.nrm l[i]).enc
 | [],_,i,h=>by simp at h
 | x::l,hs,0,_=>by rw[Cell.sizedL]at hs;exact aG x hs.1
 | x::l,hs,i+1,h=>by rw[Cell.sizedL]at hs;exact VS l hs.2 i (by simpa using h)
end
theorem l73 (l:List AE) (hl:l.length<=1048576) (hs:AE.sizedL l):LC 73 [AG l] 11 ((Ac l).map AE.enc):=
 P8 l hl (λx hx=>D7 (ka hs x hx)) (λx hx=>(QA l hs x hx).1) λx hx=>(QA l hs x hx).2
theorem c73 (l:List AE) (hl:l.length<=1048576) (hs:AE.sizedL l):PC 73 [AG l] (AG (Ac l)):=WR (l73 l hl hs)
def CL (r:Ax):Int:=
 if r.id<1\/1073741824<r.id then 18 else if r.author.size=0 then 11 else if 40<r.author.size then 10 else if CZ r.author=false then 12 else if r.time<0\/1099511627776<r.time then 40 else 0
theorem W9 (r:Ax):PC 42 [r.enc] (AA (CL r)):=by
 intro h n;refine gq Tryz.func42 rfl λho=>?_;have hh:∀y,∀o x,h o=some x->hset h n y o=some x:=λy=>AQ ho (qa _) AB;by_cases a1:r.id<1;simp[go_sem,Ax.enc,AC,a1];exact Ay ho (hh _) (by simp[CL,a1]) rfl;by_cases a2:1073741824<r.id;simp[go_sem,Ax.enc,AC,a1,a2];exact Ay ho (hh _) (by simp[CL,a2]) rfl;by_cases a3:r.author.size=0;simp[go_sem,Ax.enc,AC,a1,a2,HN,a3];exact Ay ho (hh _) (by simp[CL,a1,a2,a3]) rfl;by_cases a4:40<r.author.size;have a4':(40:Int)<r.author.size:=by omega
 simp[go_sem,Ax.enc,AC,a1,a2,HN,a3,a4'];exact Ay ho (hh _) (by simp[CL,a1,a2,a3,a4]) rfl;have a4':¬(40:Int)<r.author.size:=by omega
 simp[go_sem,Ax.enc,AC,a1,a2,HN,a3,a4'];refine(P7 r.author (by omega)).use ?_;cases a5:CZ r.author;simp[go_sem];exact Ay ho (hh _) (by simp[CL,a1,a2,a3,a4,a5]) rfl;by_cases a6:r.time<0;simp[go_sem,AC,a6];exact Ay ho (hh _) (by simp[CL,a1,a2,a3,a4,a5,a6]) rfl;by_cases a7:1099511627776<r.time;simp[go_sem,AC,a6,a7];exact Ay ho (hh _) (by simp[CL,a1,a2,a3,a4,a5,a7]) rfl;simp[go_sem,AC,a6,a7];exact Ay ho (hh _) (by simp[CL,a1,a2,a3,a4,a5,a6,a7]) rfl
def E6 (l:List Ax) (i:Nat):Int:=match l[i]? with
 | some r=>if CL r=0 then if i=0 then 0 else match l[i-1]? with|some q=>if Do r.id q.id=0 then 7 else if Do r.id q.id = -1 then 6 else 0|none=>0 else CL r
 | none=>0
def Cd (l:List Ax):Int:=if 256<l.length then 9 else FK (E6 l) l.length
theorem bI (l:List Ax) (hl:l.length<=1048576):PC 71 [Ao l] (AA (Cd l)):=by
 intro h n;refine gq Tryz.func71 rfl λho=>?_;by_cases a0:256<l.length;have a0':(256:Int)<l.length:=by omega
 simp[go_sem,a0'];exact As ho rfl (by simp[Cd,a0]);have a0':¬(256:Int)<l.length:=by omega
 simp[go_sem,a0'];refine An 1 (α:=Nat) (λk=>[(0,Ao l),(9,Ao l),(10,AA l.length),(11,AA k)]) (λ_=>h) (λk m=>k<=l.length/\n<=m/\FK (E6 l) k=0) (λk=>l.length-k) 0 ?_ ?_ AB ?_;exact⟨qg _,qa _,rfl⟩;simp[Ai];rintro k m ⟨hk,hnm,hf⟩;have hh:∀y,∀o x,h o=some x->hset h m y o=some x:=λy=>AQ ho hnm AB;by_cases hlt:k<l.length
 . have w1:=wS k (by omega);obtain⟨r,hr⟩:∃r,l[k]=r:=⟨_,rfl⟩
   have hr':l[k]? = some r:=by simp[hlt,hr]
   have bad:∀e,E6 l k=e->e≠0->Cd l=e:=λe h1 h2=>by rw[Cd,if_neg a0,Ix _ hlt hf (by rw[h1];exact h2),h1]
   have Gy:E6 l k=0->FK (E6 l) (k+1)=0:=λe=>by rw[FK,hf,if_pos rfl,e]
   simp[go_sem,hlt,hr,Ax.enc,AC,AS];refine qw (by simpa[Ax.enc]using W9 r) ?_;by_cases e0:CL r=0
   . by_cases k0:k=0;subst k0;simp[go_sem,e0];exact⟨1,by omega,⟨by omega,by omega,Gy (by simp[E6,hr',e0])⟩,IO,hh _⟩
     . have w2:IntKind.i64.wrap ((k:Int)-1)=((k-1:Nat):Int):=by rw[Cl]<;>omega
       obtain⟨q,hq⟩:∃q,l[k-1]? = some q:=⟨l[k-1],by simp[show k-1<l.length by omega]⟩
       have hq2:l[k-1]=q:=by have:=(qo.1 hq).2;exact this
       simp[go_sem,e0,k0,AC,w2,hq,Ax.enc]
       repeat refine⟨by kernel_rfl,?_⟩
       refine jw _ _ _ _ _ _ (Rg r.id q.id) ?_;by_cases c0:Do r.id q.id=0
       . simp[go_sem,c0]
         repeat refine⟨by kernel_rfl,?_⟩
         exact Ay ho (hh _) (by rw[bad 7 (by simp[E6,hr',e0,k0,hq,c0]) (by simp)]) rfl
       . by_cases c1:Do r.id q.id = -1
         . simp[go_sem,c1]
           repeat refine⟨by kernel_rfl,?_⟩
           exact Ay ho (hh _) (by rw[bad 6 (by simp[E6,hr',e0,k0,hq,c1]) (by simp)]) rfl
         . simp[go_sem,c0,c1,w1,-Int.natCast_add]
           repeat refine⟨by kernel_rfl,?_⟩
           exact⟨k+1,by omega,⟨by omega,by omega,Gy (by simp[E6,hr',e0,k0,hq,c0,c1])⟩,IO,hh _⟩
   simp[go_sem,e0];exact Ay ho (hh _) (by rw[bad (CL r) (by simp[E6,hr',e0]) e0]) rfl
 have:k=l.length:=by omega
 subst this;simp[go_sem];exact As ho rfl (by simp[Cd,a0,hf])
theorem Zw (r:Ax) (id:Int):PC 132 [r.enc,AA id] (AA (Do r.id id)):=by
 intro h n;refine gq Tryz.func132 rfl λho=>?_;simp[go_sem,Ax.enc,AC];refine(Rg r.id id).use ?_;simp[go_sem];exact Ay ho (AQ ho (qa _) AB) rfl rfl
def Gr (l:List Ax) (id:Int) (i:Nat):Int:=match l[i]? with|some r=>Do r.id id|none=>0
theorem bJ (l:List Ax) (hl:l.length<=1048576) (id:Int):PC 72 [Ao l,AA id] (.tup [AA (BI (Gr l id) l.length).1,.bool (BI (Gr l id) l.length).2]):=by
 intro h n;refine gq Tryz.func72 rfl λho=>?_;simp[go_sem];refine(Zv l hl (AA id) 132 [] [] (Gr l id) λi hi=>by simpa[Gr,hi]using Zw l[i] id).use ?_;simp[go_sem];exact As ho rfl rfl
def GV:Ax:=⟨0,⟨#[]⟩,0⟩
def GU (id:Int):List Ax->Ax×Bool
 | []=>(GV,false)
 | r::l=>if r.id=id then(r,true)else GU id l
def CA (l:List Ax) (id:Int):Ax×Bool:=if Cd l=0 then(if(BI (Gr l id) l.length).2=true then((l[(BI (Gr l id) l.length).1]?).getD GV,true)else(GV,false))else GU id l
theorem LF (c:Nat->Int) (n:Nat) (h:(BI c n).2=true):(BI c n).1<n:=by
 simp only[BI,decide_eq_true_eq]at h ⊢;exact h.1
theorem V4 (l:List Ax) (hl:l.length<=1048576) (id:Int):PC 20 [Ao l,AA id] (.tup [(CA l id).1.enc,.bool (CA l id).2]):=by
 intro h n;refine gq Tryz.func20 rfl λho=>?_;have hh:∀y z,∀o x,h o=some x->hset (hset h n y) n z o=some x:=λy z=>AQ ho (qa _) (AQ ho (qa _) AB);have hcl:∀(r:Ax) b,closed n (.tup [r.enc,.bool b])=true:=λr b=>by simp[closed,closedL,Ax.E.cl]
 simp[go_sem];refine(bI l hl).use ?_;by_cases e0:Cd l=0;simp[go_sem,e0];refine(bJ l hl id).use ?_;cases e1:(BI (Gr l id) l.length).2;simp[go_sem,AC];exact Ay ho (hh _ _) (by simp[CA,e0,e1];rfl) (hcl _ _);have hlt:=LF _ _ e1;simp[go_sem,hlt,AC,Ax.enc];exact Ay ho (hh _ _) (by simp[CA,e0,e1,hlt]) (hcl _ _);simp[go_sem,e0];have hF:CA l id=GU id l:=by simp[CA,e0]
 rw[hF];refine An 1 (α:=Nat) (λk=>[(1,AA id),(4,.ptr n 0),(25,Ao l),(26,AA l.length),(27,AA k)]) (λ_=>hset h n (some (.cells GV.enc.cells))) (λk m=>k<=l.length/\n<m/\GU id l=GU id (l.drop k)) (λk=>l.length-k) 0 ?_ ?_ AB ?_;exact⟨qg _,qP n,rfl⟩;simp[Ai];rintro k m ⟨hk,hnm,hf⟩;have hne:n≠m:=by omega
 have h2:∀a b c,∀o x,h o=some x->hset (hset (hset h n a) m b) m c o=some x:=λa b c=>AQ ho (by omega) (AQ ho (by omega) (AQ ho (qa _) AB));by_cases hlt:k<l.length;have w1:=wS k (by omega);obtain⟨r,hr⟩:∃r,l[k]=r:=⟨_,rfl⟩
 rw[qG hlt,hr,GU]at hf;by_cases e1:r.id=id;simp[go_sem,hlt,hr,Ax.enc,AC,AD,hne,e1,GV];rw[if_pos e1]at hf;rw[hf];exact Ay ho (AQ ho (qa _) (h2 _ _ _)) (by simp[e1]) (hcl _ _);simp[go_sem,hlt,hr,Ax.enc,AC,e1,w1,-Int.natCast_add,GV];rw[if_neg e1]at hf;refine⟨k+1,by omega,⟨by omega,by omega,hf⟩,IO,λo y e=>?_⟩;by_cases en:o=n;subst en;simp only[AC,AD _ _ hne]at e ⊢;exact e;simp only[AD _ _ en]at e;exact h2 _ _ _ o y e;have:k=l.length:=by omega
 subst this;simp[go_sem,AC,GV,Ax.enc];rw[List.drop_length]at hf;rw[hf];exact Ay ho (hh _ _) rfl (hcl _ _)
section
variable {F : Fence} {n : Nat} {P : Program} {ops : Array Oper} {Q : Exit → Act → World → Prop} {S : World → Prop} {md : Region.Mode}
def Et (P:Program) (ops:Array Oper) (S:World->Prop) (o:Oper) (v:Value) (a:Act):Prop:=YieldsIf P ops S o v a/\∀w,o.about P w a.eval=none
theorem Et.wpOpIn {i:Nat} {o:Oper} {v:Value} {a:Act} (hro:F.round=none) (hi:ops[i]? = some o) (hy:Et P ops S o v a)
 {K:Act->World->Prop} {w:World} (hS:S w) (h:K (a.put o.dst v) w):wpOpIn F n P ops Q i K a w:=by
 unfold Go.wpOpIn;simp only[hi];have hab:∀f,o.about P w a.eval=some f->F.fn f:=λf hf=>by rw[hy.2 w]at hf;cases hf
 rcases hy.1 with⟨hw,hv⟩|⟨hw,rfl⟩
 simp only[hw,if_true,Oper.wpIn,hro,Oper.semAt_none,hv w hS,Oper.uponIn];exact⟨hab,h⟩;simp only[hw,qj,if_false];exact⟨hab,h⟩
theorem Et.of_same {o:Oper} {v:Value} {a a':Act} (hy:Et P ops S o v a) (he:execOp a'.eval o=execOp a.eval o)
 (hw:Region.wanted o (yielded ops a'.tmps)=Region.wanted o (yielded ops a.tmps)) (hb:∀w,o.about P w a'.eval=o.about P w a.eval):Et P ops S o v a':=
 ⟨hy.1.of_same he hw,λw=>by rw[hb w];exact hy.2 w⟩
theorem Pu {j:Nat} {oi oj:Oper} {v:Value} (hro:F.round=none) (hj:ops[j]? = some oj) (hap:oi.apart ops oj=true)
 (hsi:∀cs b,oi.op≠.select cs b) (hsj:∀cs b,oj.op≠.select cs b)
 (hQ:∀c a w,Q (.panic c) (a.put oi.dst v) w->Q (.panic c) a w) {K:Act->World->Prop} {a:Act} {w:World}
 (hy:Et P ops S oi v a) (h:wpOpIn F n P ops Q j K (a.put oi.dst v) w):
 wpOpIn F n P ops Q j (λa' w'=>Et P ops S oi v a'/\K (a'.put oi.dst v) w') a w:=by
 obtain⟨h1,h2,h3⟩:=Oper.apart_spec hap;have keep:∀(a:Act),Et P ops S oi v a->∀u,Et P ops S oi v (a.put oj.dst u):=λa hy u=>
  hy.of_same (execOp_put oi hsi a oj.dst u h3) (wanted_put oi a oj.dst u h3) (λw=>about_put oi w a oj.dst u h3)
 have keepD:∀d,Et P ops S oi v { a with defers:=d::a.defers }:=λd=>hy.of_same rfl rfl (λ_=>rfl);unfold wpOpIn at *;simp only[hj]at *;rw[wanted_put oj a oi.dst v h1,about_put oj w a oi.dst v h1]at h;split
 . rename_i hw;simp only[hw,if_true]at h;unfold Oper.wpIn at *;rw[about_put oj w a oi.dst v h1]at h;refine⟨h.1,?_⟩;have h:=h.2;rw[hro,Oper.semAt_none,execOp_put oj hsj a oi.dst v h1]at h;rw[hro,Oper.semAt_none];generalize(execOp a.eval oj).run P w=r at *;cases r with
   | ok x w' =>
    cases x<;>simp only[Oper.uponIn]at h ⊢
    case value u=>exact⟨keep a hy u,by rw[<-Act.put_comm a v u h2];exact h⟩
    case skip=>exact⟨keep a hy _,by rw[<-Act.put_comm a v undef h2];exact h⟩
    case defer d=>
     refine⟨keep _ (keepD d) _,?_⟩;rw[<-Act.put_comm _ v undef h2,<-Act.put_defers];exact h
    case enter f args=>
     refine⟨h.1,CallsIn.mono h.2 λe w'' he=>?_⟩;cases e with
     | returned u=>exact⟨keep a hy u,by rw[<-Act.put_comm a v u h2];exact he⟩
     | panicked c=>exact hQ _ _ _ he
     | outgrown=>exact he
    case row row args=>exact⟨h.1,RowsIn.mono h.2 λu w'' he=>⟨keep a hy u,by rw[<-Act.put_comm a v u h2];exact he⟩⟩
    case round l f tmps assign body=>
     refine⟨h.1,RoundIn.mono h.2 λe w'' he=>?_⟩;cases e with
     | returned u=>exact⟨keep a hy u,by rw[<-Act.put_comm a v u h2];exact he⟩
     | panicked c=>exact hQ _ _ _ he
     | outgrown=>exact he
   | halt x w'=>
    cases x<;>simp only[Oper.uponIn]at h ⊢
    case panic u=>exact hQ _ _ _ h
 rename_i hw;simp only[hw]at h;exact⟨h.1,keep a hy _,by rw[<-Act.put_comm a v undef h2];exact h.2⟩
def MI (F:Fence) (n:Nat) (P:Program) (md:Region.Mode) (ops:Array Oper) (Q:Exit->Act->World->Prop) (S:World->Prop):Nat->Array Bool->Act->World->Prop
 | 0,listed,a,w=>Region.ready md ops listed=[]/\Q .normal a w
 | fuel+1,listed,a,w=>
  (Region.ready md ops listed=[]->Q .normal a w)/\
  ∀i∈Region.ready md ops listed,wpOpIn F n P ops Q i (λa' w'=>S w'/\MI F n P md ops Q S fuel (listed.setIfInBounds i true) a' w') a w
theorem Jn:∀(fuel:Nat) (listed:Array Bool) (a:Act) (w:World),MI F n P md ops Q S fuel listed a w->wpAnyIn F n P md ops Q fuel listed a w
 | 0,_,_,_,h=>h
 | fuel+1,_,_,_,h=>⟨h.1,λi hi=>wpOpIn_mono (λa' w' h'=>Jn fuel _ a' w' h'.2) (h.2 i hi)⟩
theorem Jo {i:Nat} {oi:Oper} {v:Value} (hro:F.round=none) (hi:ops[i]? = some oi) (hsel:∀(j:Nat) (o:Oper) cs b,ops[j]? = some o->o.op≠.select cs b)
 (hQ:∀c a w,Q (.panic c) (a.put oi.dst v) w->Q (.panic c) a w):
 ∀(fuel:Nat) (listed:Array Bool) (a:Act) (w:World),
  (∀j oj,ops[j]? = some oj->j≠i->listed.getD j true=false->(∀e∈oj.after,Region.binds md e=true->e.on≠i)->oi.apart ops oj=true)->
  i∈Region.ready md ops listed->Et P ops S oi v a->S w->
  MI F n P md ops Q S fuel (listed.setIfInBounds i true) (a.put oi.dst v) w->MI F n P md ops Q S (fuel+1) listed a w:=by
 intro fuel
 induction fuel with
 | zero=>
  intro listed a w _ hr hy hS H;refine⟨λh=>(by rw[h]at hr;cases hr),λj hj=>?_⟩;by_cases hji:j=i;subst hji;exact hy.wpOpIn hro hi hS ⟨hS,H⟩;have:=ready_mono hj hji;rw[H.1]at this;cases this
 | succ fuel ih=>
  intro listed a w hfree hr hy hS H;refine⟨λh=>(by rw[h]at hr;cases hr),λj hj=>?_⟩;by_cases hji:j=i;subst hji;exact hy.wpOpIn hro hi hS ⟨hS,H⟩;have h1:=H.2 j (ready_mono hj hji);obtain⟨hjun,oj,hoj,hall⟩:=mem_ready.1 hj;have hnot:∀e∈oj.after,Region.binds md e=true->e.on≠i:=λe he hb heq=>by
   have h1:=hall e he hb;have h0:=(mem_ready.1 hr).1;rw[heq]at h1;rcases ji i listed.size with h'|h';simp[h']at h0 h1;rw[h0]at h1;cases h1;simp[jg h']at h1
  have h2:=Pu hro hoj (hfree j oj hoj hji hjun hnot) (λcs b=>hsel i oi cs b hi) (λcs b=>hsel j oj cs b hoj) hQ hy h1;have hfree':∀k ok,ops[k]? = some ok->k≠i->(listed.setIfInBounds j true).getD k true=false->
   (∀e∈ok.after,Region.binds md e=true->e.on≠i)->oi.apart ops ok=true:=λk ok hk hki hun hno=>by
   refine hfree k ok hk hki ?_ hno;by_cases hjk:j=k;subst hjk;exact hjun;rw[getD_set_ne true hjk]at hun;exact hun
  refine wpOpIn_mono (λa' w' h3=>⟨h3.2.1,ih (listed.setIfInBounds j true) a' w' hfree' (ready_mono hr (Ne.symm hji)) h3.1 h3.2.1 ?_⟩) h2;rw[Array.setIfInBounds_comm _ _ hji];exact h3.2.2
end
def KZ (P:Program) (st:Bool) (ev:Operand->SV):Op->Option SV
 | .move x|.assign x=>some (ev x)
 | .fieldAddr t x i=>Gx P t (ev x) i
 | .load t a=>match st,ev a with|true,.iptr cs=>(Bg cs 0 (Bh P t)).bind (P4 (Fm P t))|_,_=>none
 | .indexAddr t x i=>match ev x,ev i with|.imm z es f,.int _ n=>if(A9 P t).isSome then G2 P t (.imm z es f) n else none|_,_=>none
 | .slice t x lo hi mx=>match ev x with|.imm z es f=>JE P t (.imm z es f) (lo.map ev) (hi.map ev) (mx.map ev)|_=>none
 | .extract x i=>match ev x with|.tup vs=>vs[i]? | _=>none
 | .unOp op _ x=>match op,ev x with|.not,.bool b=>some (.bool !b)|_,_=>none
 | .pick x a b=>match ev x with|.bool t=>some (if t then ev a else ev b)|_=>none
 | .makeFunc f a b=>some (.fn f (a.toList.map ev) (b.toList.map ev))
 | .nilCheck x=>match ev x with|.ptr o a=>some (.ptr o a)|.iptr cs=>some (.iptr cs)|_=>none
 | .call { callee:=.builtin .min,args,.. }=>match args.toList with|[x,y]=>(match ev x,ev y with|.int k a,.int k' b=>if k=k' then some (.int k (if b<a then b else a))else none|_,_=>none)|_=>none
 | .call { callee:=.builtin .max,args,.. }=>match args.toList with|[x,y]=>(match ev x,ev y with|.int k a,.int k' b=>if k=k' then some (.int k (if b>a then b else a))else none|_,_=>none)|_=>none
 | .binOp op _ x y _=>match ev x,ev y with|.int k a,.int k' b=>if op≠.shl/\op≠.shr/\k=k' then(J7 op k a b)else none|_,_=>none
 | .call { callee:=.builtin .len,args,argTypes }=>match argTypes.toList,args.toList with|[t],[x]=>(match ev x with|.imm _ es _=>if(A9 P t).isSome then some (.int .i64 es.length)else none|_=>none)|_,_=>none
 | _=>none
def OT (P:Program) (ev:Operand->Value) (o:Oper) (c:Cx) (v:SV) (W:World->Prop):Prop:=∃u,V c v u/\∀w,W w->(execOp ev o).run P w=.ok (.value u) w
section
variable {P : Program} {ev : Operand → Value} {o : Oper} {c : Cx} {evs : Operand → SV}
theorem Rz {t:TypeId} {x:Operand} {v:SV} {cs:List SV} (ho:o.op=.load t x) (hx:evs x=.iptr cs) (hs:(Bg cs 0 (Bh P t)).bind (P4 (Fm P t))=some v) (hv:V c (evs x) (ev x)):
 OT P ev o c v λw=>∃c',c'.w=w/\DZ c c':=by
 rw[hx,V]at hv;obtain⟨a,vs,hu,hst,hc,hsp⟩:=hv;rw[BN]at hc;cases ht:Bg cs 0 (Bh P t)with
 | none=>simp[ht]at hs
 | some r =>
  simp only[ht,qJ]at hs;obtain⟨hle,rfl⟩:=Ef ht;simp only[kn]at hs;have hc':=hc.take (Bh P t);have h1':∀x∈vs.take (Bh P t),x.oneCell'=true:=λx hx=>hst.one x (qH hx);have hlen:(vs.take (Bh P t)).length=Bh P t:=by have:=hc.length;simp;omega
  have hcell':∀c':Cx,DZ c c'->∀i x,(vs.take (Bh P t))[i]? = some x->c'.w.cell? ⟨a.block,a.off+i,none⟩=some x:=λc' X i x hx=>by
   rw[jf]at hx;split at hx;exact(hst.mono X).cell _ _ hx;cases hx
  rcases Kz hs hc' h1' with⟨hag,hv⟩|⟨hag,x,hx,hv⟩
  refine⟨_,hv,?_⟩;rintro w ⟨c',rfl,X⟩;simp[execOp,ho,hu,Instr.loadAt,Instr.sureAddr,(ED hsp hag hlen (hcell' c' X)).1 rfl];refine⟨_,hv,?_⟩;rintro w ⟨c',rfl,X⟩;simp[execOp,ho,hu,Instr.loadAt,Instr.sureAddr,(ED hsp hag hlen (hcell' c' X)).2 rfl x hx]
theorem QV {t:TypeId} {x:Operand} {i:Nat} {v:SV} (ho:o.op=.fieldAddr t x i) (hs:Gx P t (evs x) i=some v) (hx:V c (evs x) (ev x)):OT P ev o c v λ_=>True:=by
 simp only[Gx]at hs;cases hf:IR P t i with
 | none=>simp[hf]at hs
 | some q=>
  obtain⟨off,ft⟩:=q;simp only[hf]at hs;by_cases hz:Bh P ft=0;simp[hz]at hs
  . simp only[hz,if_false]at hs;obtain⟨fs,f,hu,hfi,rfl,rfl⟩:∃fs f,P.underlying t=some (.struct fs)/\fs[i]? = some f/\f.offset=off/\f.type=ft:=by
     unfold IR at hf;cases hu:P.underlying t with
     | none=>simp[hu]at hf
     | some d=>
      cases d<;>simp only[hu]at hf<;>try cases hf
      rename_i fs;simp only[qX]at hf;obtain⟨f,hfi,he⟩:=hf;cases he;exact⟨fs,f,rfl,hfi,rfl,rfl⟩
    obtain⟨ii,hi,hsz⟩:∃ii,P.info? f.type=some ii/\Bh P f.type=ii.size:=by
     cases hi:P.info? f.type with
     | none=>simp[Bh,Program.cellsOf,hi]at hz
     | some ii=>exact⟨ii,rfl,by simp[Bh,Program.cellsOf,hi]⟩
    have hfp:∀(a:Addr) (w:World),(fieldPlace a f).run P w=.ok (a.add f.offset) w:=λa w=>by
     simp[fieldPlace,sizeOf,typeInfo,hi,show ¬ii.size=0 by omega]
    have hrun:∀(a:Addr) (w:World),ev x=.pointer (some a)->(execOp ev o).run P w=.ok (.value (.pointer (some (a.add f.offset)))) w:=λa w ha=>by
     simp[execOp,ho,Instr.fieldAt,AO hu,hfi,ha,Instr.sureAddr,hfp]
    split at hs<;>try (simp at hs;done)
    rename_i j a hj;cases hs;rw[hj,V]at hx;obtain⟨b,st,hρ,hxx⟩:=hx;refine⟨_,?_,λw _=>hrun _ w hxx⟩;rw[Fc,V];exact⟨b,st,hρ,by rw[qD]⟩;rename_i cs hj;cases hs;rw[hj,V]at hx;obtain⟨a,vs,hxx,hst,hc,hsp⟩:=hx;refine⟨_,?_,λw _=>hrun _ w hxx⟩;rw[Cr hsp,V];refine⟨_,vs.drop f.offset,rfl,⟨λ_=>rfl,λhv=>hst.free (by rintro rfl;simp at hv),λj x hj=>?_,λx hx=>hst.one x (qT hx)⟩,BN.2 ((BN.1 hc).drop _),rfl⟩;rw[qY]at hj;simp only[qD];exact hst.cell _ _ hj
theorem QW {t:TypeId} {x y:Operand} {z':Nat} {es:List SV} {full:Bool} {kk:IntKind} {n:Int} {v:SV} (ho:o.op=.indexAddr t x y) (hj:evs x=.imm z' es full) (hn:evs y=.int kk n) (hsl0:(A9 P t).isSome=true)
 (hs:G2 P t (.imm z' es full) n=some v) (hx:V c (evs x) (ev x)) (hy:V c (evs y) (ev y)):OT P ev o c v λ_=>True:=by
 rw[hn]at hy;have hy':=C7 hy;obtain⟨e,hsl⟩:=jn.1 hsl0;have hu:=A5 hsl;simp only[G2,hsl]at hs;by_cases hz:Bh P e=0;simp[hz]at hs;obtain⟨ii,hi,hsz⟩:=EZ hz;simp only[hz,if_false]at hs;by_cases hc:z'=Bh P e/\0<=n;simp only[hc,and_self,if_true]at hs;obtain⟨hc1,hc2⟩:=hc;cases he:es[n.toNat]? with
 | none=>simp[he]at hs
 | some v=>
  simp only[he,jk,qh]at hs;subst hs;rw[hj,V]at hx;rcases hx with⟨hx,_⟩|⟨a,cap,vs,hxx,_,_,hst,hE⟩
  subst hx;simp at he;subst hc1;have hspot:a.spot=none:=hst.spot (λe0=>by have h1:=Nd hE;have h2:=(qo.1 he).1;rw[e0,jI]at h1;have h3:0<es.length*Bh P e:=Nat.mul_pos (by omega) (by omega);omega);obtain⟨u,g1,g2,g3,g4,g5⟩:=O2 hE he;have hlt:n<es.length:=by have:=(qo.1 he).1;omega
  refine⟨.pointer (some ⟨a.block,a.off+n.toNat*Bh P e,none⟩),?_,λw _=>?_⟩;rw[V];exact⟨_,u.cells.toList,rfl,by rw[<-g4];exact hst.sub _ _,BN.2 (g1.cells g2).1,rfl⟩;simp[execOp,ho,Instr.indexAt,hy',asIntOf,AO hu,hxx,hc2,hlt,sizeOf,typeInfo,hi,Cr hspot,hsz]
 simp[hc]at hs
theorem QX {t:TypeId} {x:Operand} {lo hi mx:Option Operand} {z:Nat} {es:List SV} {full:Bool} {v:SV} (ho:o.op=.slice t x lo hi mx) (e1:evs x=.imm z es full) (hb:JE P t (.imm z es full) (lo.map evs) (hi.map evs) (mx.map evs)=some v)
 (H:∀y∈o.op.operands,V c (evs y) (ev y)):OT P ev o c v λ_=>True:=by
 rw[ho]at H;have hx:=H x (by simp[Op.operands]);have hlo:=FU (c:=c) (ev:=ev) (evs:=evs) lo λy e=>H y (by subst e;simp[Op.operands]);have hhi:=FU (c:=c) (ev:=ev) (evs:=evs) hi λy e=>H y (by subst e;simp[Op.operands]);have hmx:=FU (c:=c) (ev:=ev) (evs:=evs) mx λy e=>H y (by subst e;simp[Op.operands]);suffices hgoal:∃r,(∀w,(Instr.sliceAt t (ev x) (lo.map ev) (hi.map ev) (mx.map ev)).run P w=.ok r w)/\V c v r by
  obtain⟨r,hr,hv⟩:=hgoal;exact⟨r,hv,λw _=>by simp[execOp,ho,hr w]⟩
 have cvt:∀{s:Option SV} {vv:Option Value} {d:Option Int} {n:Int} {N:Nat},Sw s d=some n->0<=n->((∀x,s=some x->∃u,vv=some u/\V c x u)/\(s=none->vv=none))->d=some (N:Int)->
  (vv=none/\n.toNat=N)\/∃i,vv=some (.int i n.toNat):=λhb h0 hv hd=>by
  rcases OZ hb hv.1 hv.2 with⟨_,e,e2⟩|⟨i,e⟩
  rw[hd]at e2;cases e2;exact .inl ⟨e,by simp⟩;exact .inr ⟨i,by rw[e];congr 2;omega⟩
 unfold JE at hb;rw[e1]at hx;dsimp only at hb;cases hsl':A9 P t with
 | none=>simp[hsl']at hb
 | some e =>
  have hu:=A5 hsl';simp only[hsl',Option.any_some]at hb;split at hb<;>try cases hb
  rename_i hz;simp only[js,jM,qq,bne_iff_ne,ne_eq,kH,beq_iff_eq,List.isEmpty_iff]at hz;obtain⟨hz0,hz⟩:=hz;obtain⟨ii,hi',hsz⟩:=EZ hz0;split at hb<;>try cases hb
  rename_i l m hl hm;split at hb<;>try cases hb
  rename_i hc2;have hlo':=cvt hl hc2.1 hlo (by rfl:some (0:Int)=some ((0:Nat):Int));have hhi':=cvt hm (by omega) hhi rfl;cases mx with
  | none=>
   simp only[kh,qh]at hb;subst hb;refine Ij hu hx ⟨ii,hi',hsz.symm⟩ hz (by omega) (by omega) λcap h1 h2=>⟨cap,by omega,qa _,λhf=>?_,λw=>Gj hlo' hhi' (by omega) (by omega) h1 w⟩
   simp at hf;have:=h2 hf.1;omega
  | some mo=>
   have hmo:=hmx.1 _ rfl;simp only[jk]at hb hmo;split at hb<;>try cases hb
   rename_i heq;cases heq
   . rename_i i x heq;simp only[qh]at heq;obtain⟨uu,hu1,hu2⟩:=hmo;cases hu1;rw[heq]at hu2;have hu3:=C7 hu2;split at hb<;>try cases hb
     rename_i hc3;simp only[qq,decide_eq_true_eq]at hc3;have hsome:∃i,Option.map ev hi=some (.int i m.toNat):=by
      rcases hhi' with⟨e1,_⟩|h;cases hi<;>simp at e1 hc3;exact h
     have hxx:(x:Int)=(x.toNat:Int):=by omega
     refine Ij hu hx ⟨ii,hi',hsz.symm⟩ hz (by omega) (by omega) λcap h1 h2=>⟨x.toNat,by omega,by omega,λhf=>?_,λw=>?_⟩
     simp at hf;omega;rw[jk,hu3,hxx];exact IG hlo' hsome (by omega) (by omega) (by omega) w
theorem OT.mono {v:SV} {W W':World->Prop} (H:OT P ev o c v W) (h:∀w,W' w->W w):OT P ev o c v W':=let⟨u,h1,h2⟩:=H;⟨u,h1,λw hw=>h2 w (h w hw)⟩
theorem Tu {st:Bool} {v:SV} (hs:KZ P st evs o.op=some v) (H:∀x∈o.op.operands,V c (evs x) (ev x)) {W:World->Prop} (hW:st=true->∀w,W w->∃c',c'.w=w/\DZ c c'):OT P ev o c v W:=by
 unfold KZ at hs;split at hs;rename_i x ho;rw[ho]at H;cases hs;exact⟨_,H x (by simp[Op.operands]),λw _=>by simp[execOp,ho]⟩;rename_i x ho;rw[ho]at H;cases hs;exact⟨_,H x (by simp[Op.operands]),λw _=>by simp[execOp,ho]⟩;rename_i t x i ho;rw[ho]at H;exact(QV ho hs (H x (by simp[Op.operands]))).mono λ_ _=>trivial
 . rename_i t a ho;rw[ho]at H;split at hs<;>try cases hs
   rename_i cs hx;exact(Rz ho hx hs (H a (by simp[Op.operands]))).mono (hW rfl)
 . rename_i t x i ho;rw[ho]at H;split at hs<;>try cases hs
   rename_i z es f k n hx hy;split at hs<;>try cases hs
   rename_i hsl;exact(QW ho hx hy hsl hs (H x (by simp[Op.operands])) (H i (by simp[Op.operands]))).mono λ_ _=>trivial
 . rename_i t x lo hi mx ho;split at hs<;>try cases hs
   rename_i z es f hx;exact(QX ho hx hs H).mono λ_ _=>trivial
 . rename_i x i ho;rw[ho]at H;split at hs<;>try cases hs
   rename_i vs hx;have hv:=H x (by simp[Op.operands]);rw[hx,V]at hv;obtain⟨us,hu,hl⟩:=hv;obtain⟨u,hu2,hvu⟩:=(BN.1 hl).get hs;exact⟨u,hvu,λw _=>by simp[execOp,ho,hu,Instr.extract,hu2]⟩
 . rename_i op t x ho;rw[ho]at H;have hx:=H x (by simp[Op.operands]);split at hs<;>try cases hs
   rename_i b e1;rw[e1]at hx;exact⟨.bool !b,by rw[V],λw _=>by simp[execOp,ho,Gm hx,Op.unary]⟩
 . rename_i x a b ho;rw[ho]at H;have hx:=H x (by simp[Op.operands]);split at hs<;>try cases hs
   rename_i t e1;rw[e1]at hx;have hx':=Gm hx;cases t;exact⟨ev b,by simpa using H b (by simp[Op.operands]),λw _=>by simp[execOp,ho,hx',asBool]⟩;exact⟨ev a,by simpa using H a (by simp[Op.operands]),λw _=>by simp[execOp,ho,hx',asBool]⟩
 rename_i f a b ho;rw[ho]at H;cases hs;refine⟨.func f (a.map ev) (b.map ev),?_,λw _=>by simp[execOp,ho,Instr.makeFunc]⟩;rw[V];exact⟨(a.map ev).toList,(b.map ev).toList,by rw[Array.toArray_toList,Array.toArray_toList],BN.2 (Gg a λx hx=>H x (by simp[Op.operands]at hx ⊢;exact .inl hx)),BN.2 (Gg b λx hx=>H x (by simp[Op.operands]at hx ⊢;exact .inr hx))⟩
 . rename_i x ho;rw[ho]at H;have hx:=H x (by simp[Op.operands]);split at hs<;>try cases hs
   rename_i j off e1;rw[e1]at hx;have hx':=hx;rw[V]at hx;obtain⟨b,st,_,hu⟩:=hx;exact⟨ev x,hx',λw _=>by simp[execOp,ho,hu]⟩;rename_i cs e1;rw[e1]at hx;have hx':=hx;rw[V]at hx;obtain⟨a,vs,hu,_⟩:=hx;exact⟨ev x,hx',λw _=>by simp[execOp,ho,hu]⟩
 . rename_i args ts ho;rw[ho]at H;split at hs<;>try cases hs
   rename_i x y e1;have ea:=In e1;subst ea;have hx:=H x (by simp[Op.operands,Call.operands]);have hy:=H y (by simp[Op.operands,Call.operands]);split at hs<;>try cases hs
   rename_i k a k' b g1 g2;split at hs<;>try cases hs
   rename_i hk;subst hk;rw[g1]at hx;rw[g2]at hy;exact⟨.int k (if b<a then b else a),by rw[V],λw _=>Bi (P:=P) (ev:=ev) ho w w _ λcs=>by simp[builtin,C7 hx,C7 hy,Builtin.min_,Builtin.min2]⟩
 . rename_i args ts ho;rw[ho]at H;split at hs<;>try cases hs
   rename_i x y e1;have ea:=In e1;subst ea;have hx:=H x (by simp[Op.operands,Call.operands]);have hy:=H y (by simp[Op.operands,Call.operands]);split at hs<;>try cases hs
   rename_i k a k' b g1 g2;split at hs<;>try cases hs
   rename_i hk;subst hk;rw[g1]at hx;rw[g2]at hy;exact⟨.int k (if b>a then b else a),by rw[V],λw _=>Bi (P:=P) (ev:=ev) ho w w _ λcs=>by simp[builtin,C7 hx,C7 hy,Builtin.max_,Builtin.max2]⟩
 . rename_i op t x y t2 ho;rw[ho]at H;have hx:=H x (by simp[Op.operands]);have hy:=H y (by simp[Op.operands]);split at hs<;>try cases hs
   rename_i k a k' b e1 e2;split at hs<;>try cases hs
   rename_i hc;obtain⟨n1,n2,rfl⟩:=hc;rw[e1]at hx;rw[e2]at hy;have hrun:∀w,∃r,(execOp ev o).run P w=.ok (.value r) w/\V c v r:=λw=>by
    obtain⟨r,h1,h2⟩:=Lb (c:=c) (P:=P) (t:=t) hs n1 n2 w;exact⟨r,by simp[execOp,ho,C7 hx,C7 hy,IH (P:=P),h1],h2⟩
   obtain⟨u,hu⟩:∃u,∀r,V c v r->r=u:=by
    cases op<;>simp only[J7]at hs<;>(try split at hs)<;>(try cases hs)<;>first|exact⟨_,λr hr=>C7 hr⟩|exact⟨_,λr hr=>Gm hr⟩|(exact absurd rfl n1)|(exact absurd rfl n2)
   obtain⟨r0,h1,h2⟩:=hrun c.w;have e0:=hu r0 h2;subst e0;refine⟨_,h2,λw _=>?_⟩;obtain⟨r,h3,h4⟩:=hrun w;rw[h3,hu r h4]
 . rename_i args ts ho;rw[ho]at H;split at hs<;>try cases hs
   rename_i t x e1 e2;split at hs<;>try cases hs
   rename_i z es f e3;split at hs<;>try cases hs
   rename_i hsl;obtain⟨e,he⟩:=Ki hsl;have ea:=KR e2;have et:=KR e1;subst ea et;have hv:=H x (by simp[Op.operands,Call.operands]);rw[e3,V]at hv;refine⟨.int .i64 es.length,by rw[V],λw _=>Bi (P:=P) (ev:=ev) ho w w _ λcs=>?_⟩;rcases hv with⟨rfl,hu⟩|⟨a,cap,vs,hu,_⟩
   simp[builtin,hu,Builtin.len_,AO (A5 he),goInt];simp[builtin,hu,Builtin.len_,AO (A5 he),goInt]
 cases hs
theorem QU {st:Bool} {v:SV} (hs:KZ P st evs o.op=some v) (w:World):o.about P w ev=none:=by
 unfold Oper.about;unfold KZ at hs;split at hs<;>first|(rename_i ho;rw[ho];done)|(rename_i _ ho;rw[ho];done)|(rename_i _ _ ho;rw[ho];done)|(rename_i _ _ _ ho;rw[ho];done)|(rename_i _ _ _ _ _ ho;rw[ho];done)|(rename_i ho;rw[ho];simp[resolve,Target.leads];done)|cases hs
def H9:Op->Bool
 | .move _|.assign _|.fieldAddr .. | .load .. | .indexAddr .. | .slice .. | .extract .. | .unOp .. | .pick .. | .binOp .. | .makeFunc .. | .nilCheck _=>true
 | .call { callee:=.builtin .len,.. }|.call { callee:=.builtin .min,.. }|.call { callee:=.builtin .max,.. }=>true
 | _=>false
theorem QQ (hs:H9 o.op=true) (w:World):o.about P w ev=none:=by
 unfold Oper.about;cases ho:o.op<;>simp[ho,H9]at hs ⊢;split at hs<;>first|(rename_i h;cases h;done)|skip
 all_goals first|(rename_i h;cases h;simp[resolve,Target.leads];done)|(simp at hs;done)|trace_state
end
inductive Tr where
 | nil
 | pure (i:Nat) (t:Tr)
 | one (i:Nat) (t:Tr)
 | two (i j:Nat) (t u:Tr)
def ME (ops:Array Oper):Array Bool->Tr->Bool
 | listed,.nil=>(Region.ready .any ops listed).isEmpty
 | listed,.pure i t=>Region.free .any ops listed i&&(Region.ready .any ops listed).contains i&&ME ops (listed.setIfInBounds i true) t
 | listed,.one i t=>Region.ready .any ops listed==[i]&&ME ops (listed.setIfInBounds i true) t
 | listed,.two i j t u=>Region.ready .any ops listed==[i,j]&&ME ops (listed.setIfInBounds i true) t&&ME ops (listed.setIfInBounds j true) u
section
variable (E : B6) (P : Program) (ops : Array Oper) (K : SA → Hp → Nat → Prop)
def L7 (o:Oper) (sa:SA) (h:Hp) (n:Nat) (T:SA->Hp->Nat->Prop):Prop:=
 match Dg ops sa o with
 | some b=>if b=true then Ke E P o sa h n λv h' n'=>T (EB sa o.dst v) h' n' else T (EB sa o.dst (.tup [])) h n
 | none=>False
def Tt (st:Bool) (o:Oper) (sa:SA) (T:SA->Prop):Prop:=
 match Dg ops sa o with
 | some b=>if b=true then match KZ P st (Gp sa) o.op with|some v=>T (EB sa o.dst v)|none=>False else H9 o.op=true/\T (EB sa o.dst (.tup []))
 | none=>False
def OM:Bool->Tr->SA->Hp->Nat->Prop
 | _,.nil,sa,h,n=>K sa h n
 | st,.pure i t,sa,h,n=>match ops[i]? with|some o=>Tt P ops st o sa λsa'=>OM st t sa' h n|none=>False
 | _,.one i t,sa,h,n=>match ops[i]? with|some o=>L7 E P ops o sa h n (OM false t)|none=>False
 | _,.two i j t u,sa,h,n=>match ops[i]?,ops[j]? with|some o,some q=>L7 E P ops o sa h n (OM false t)/\L7 E P ops q sa h n (OM false u)|_,_=>False
end
section
variable {E : B6} {P : Program} {N : Nat} {ops : Array Oper} {K : SA → Hp → Nat → Prop}
def VK (E:B6) (N n:Nat) (c:Cx) (K:SA->Hp->Nat->Prop):Exit->Act->World->Prop:=λe a' w'=>
 e=.normal/\∃sa' h' n' c',K sa' h' n'/\c'.w=w'/\Bn h' c'/\Fr n' c'/\FR E N sa' c' a'/\Fq n c n' c'
theorem IP {i:Nat} {o:Oper} {sa:SA} {h:Hp} {n:Nat} {T:SA->Hp->Nat->Prop} {c:Cx} {a:Act} {Kr:Act->World->Prop} {Qr:Exit->Act->World->Prop} (hi:ops[i]? = some o) (hd:∀d,o.dst=some d->d<N)
 (H:L7 E P ops o sa h n T) (I:E.inv c) (R:Bn h c) (F:Fr n c) (A:FR E N sa c a)
 (hK:∀sa' h' n' c' a',T sa' h' n'->Bn h' c'->Fr n' c'->FR E N sa' c' a'->Fq n c n' c'->Kr a' c'.w):wpOpIn E.fc 0 P ops Qr i Kr a c.w:=by
 unfold wpOpIn;rw[hi];simp only;unfold L7 at H;split at H;rename_i b hg;rw[Gz A hg];cases b;simp only[qj,if_false]at H ⊢;exact⟨λ_ _=>trivial,hK _ _ _ c _ H R F (A.put hd Ku) (ke n c)⟩;simp only[if_true]at H ⊢;exact IN H I R F A λv h' n' c' u hk hv R' F' X'=>hK _ _ _ c' _ hk R' F' ((A.ext X'.ext).put hd hv) X';exact H.elim
theorem UI (hro:E.ro=none) (hdst:∀(i:Nat) (o:Oper),ops[i]? = some o->∀d,o.dst=some d->d<N) (hsel:∀(j:Nat) (o:Oper) cs b,ops[j]? = some o->o.op≠.select cs b) {n0:Nat} {c0 c1:Cx}:
 ∀(t:Tr) (st:Bool) (listed:Array Bool) (fuel:Nat) (sa:SA) (h:Hp) (n:Nat) (c:Cx) (a:Act),listed.size=ops.size->UR listed=fuel->ME ops listed t=true->OM E P ops K st t sa h n->
  E.inv c->Bn h c->Fr n c->FR E N sa c a->Fq n0 c0 n c->DZ c1 c->(st=true->c=c1)->
  MI E.fc 0 P .any ops (VK E N n0 c0 K) (λw=>∃c',c'.w=w/\DZ c1 c') fuel listed a c.w:=by
 have hfr:E.fc.round=none:=hro;intro t
 induction t with
 | nil=>
  intro st listed fuel sa h n c a _ _ hok H I R F A X _ _;have hr:Region.ready .any ops listed=[]:=by simpa[ME]using hok
  have hq:VK E N n0 c0 K .normal a c.w:=⟨rfl,sa,h,n,c,H,rfl,R,F,A,X⟩
  cases fuel with
  | zero=>exact⟨hr,hq⟩
  | succ fuel=>exact⟨λ_=>hq,by rw[hr];simp⟩
 | pure i t ih=>
  intro st listed fuel sa h n c a hs hu hok H I R F A X X1 hst;simp only[ME,qq]at hok;obtain⟨⟨hfree,hr⟩,hok⟩:=hok;simp only[OM]at H;split at H
  case h_2=>exact H.elim
  rename_i o ho;have hmem:i∈Region.ready .any ops listed:=by simpa using hr
  obtain⟨hun,_,_,_⟩:=mem_ready.1 hmem;have hlt:=(qp.1 ho).1;have hF:listed.getD i false=false:=by rw[Gc (by omega)]at hun ⊢;exact hun
  have hu2:=Jm (by omega) hF;obtain⟨fuel,rfl⟩:∃f,fuel=f+1:=⟨fuel-1,by omega⟩
  unfold Tt at H;split at H
  case h_2=>exact H.elim
  rename_i b hg;have hw:=Gz A hg;cases b;simp only[qj,if_false]at H;refine Jo (v:=undef) hfr ho hsel (λ_ _ _ e=>by cases e.1) fuel listed a c.w (Region.free_spec ho hfree) hmem ⟨.inr ⟨hw,rfl⟩,λw=>QQ H.1 w⟩ ⟨c,rfl,X1⟩ (ih st _ fuel _ h n c _ (by simp[hs]) (by omega) hok H.2 I R F (A.put (hdst i o ho) Ku) X X1 hst)
  . simp only[if_true]at H;split at H
    case h_2=>exact H.elim
    rename_i v hv;obtain⟨u,hvu,hrun⟩:=Tu (c:=c) (W:=λw=>∃c',c'.w=w/\DZ c1 c') hv (λx _=>A.ev x) (λe w hw=>by rw[hst e];exact hw);refine Jo (v:=u) hfr ho hsel (λ_ _ _ e=>by cases e.1) fuel listed a c.w (Region.free_spec ho hfree) hmem ⟨.inl ⟨hw,hrun⟩,λw=>QU hv w⟩ ⟨c,rfl,X1⟩
     (ih st _ fuel _ h n c _ (by simp[hs]) (by omega) hok H I R F (A.put (hdst i o ho) hvu) X X1 hst)
 | one i t ih=>
  intro st listed fuel sa h n c a hs hu hok H I R F A X X1 hst;simp only[ME,qq,beq_iff_eq]at hok;obtain⟨hr,hok⟩:=hok;simp only[OM]at H;split at H
  case h_2=>exact H.elim
  rename_i o ho;have hmem:i∈Region.ready .any ops listed:=by rw[hr];simp
  obtain⟨hun,_,_,_⟩:=mem_ready.1 hmem;have hlt:=(qp.1 ho).1;have hF:listed.getD i false=false:=by rw[Gc (by omega)]at hun ⊢;exact hun
  have hu2:=Jm (by omega) hF;obtain⟨fuel,rfl⟩:∃f,fuel=f+1:=⟨fuel-1,by omega⟩
  refine⟨λe=>(by rw[e]at hr;cases hr),λj hj=>?_⟩;rw[hr]at hj;obtain rfl:=qv.1 hj;exact IP ho (hdst j o ho) H I R F A λsa' h' n' c' a' hT R' F' A' X'=>⟨⟨c',rfl,X1.trans X'.ext⟩,ih false _ fuel _ h' n' c' a' (by simp[hs]) (by omega) hok hT (E.ext X'.ext I) R' F' A' (X.trans X') (X1.trans X'.ext) (by simp)⟩
 | two i j t u iht ihu =>
  intro st listed fuel sa h n c a hs hu hok H I R F A X X1 hst;simp only[ME,qq,beq_iff_eq]at hok;obtain⟨⟨hr,hok1⟩,hok2⟩:=hok;simp only[OM]at H;split at H
  case h_2=>exact H.elim
  rename_i o q ho hq;have hun:∀k,k∈Region.ready .any ops listed->UR (listed.setIfInBounds k true)+1=UR listed:=λk hk=>by
   obtain⟨hun,o',ho',_⟩:=mem_ready.1 hk;have hlt:=(qp.1 ho').1;have hF:listed.getD k false=false:=by rw[Gc (by omega)]at hun ⊢;exact hun
   exact Jm (by omega) hF
  have hui:=hun i (by rw[hr];simp);have huj:=hun j (by rw[hr];simp);obtain⟨fuel,rfl⟩:∃f,fuel=f+1:=⟨fuel-1,by omega⟩
  refine⟨λe=>(by rw[e]at hr;cases hr),λk hk=>?_⟩;rw[hr]at hk;rcases qk.1 hk with rfl|hk;exact IP ho (hdst _ o ho) H.1 I R F A λsa' h' n' c' a' hT R' F' A' X'=>⟨⟨c',rfl,X1.trans X'.ext⟩,iht false _ fuel _ h' n' c' a' (by simp[hs]) (by omega) hok1 hT (E.ext X'.ext I) R' F' A' (X.trans X') (X1.trans X'.ext) (by simp)⟩
  obtain rfl:=qv.1 hk;exact IP hq (hdst _ q hq) H.2 I R F A λsa' h' n' c' a' hT R' F' A' X'=>⟨⟨c',rfl,X1.trans X'.ext⟩,ihu false _ fuel _ h' n' c' a' (by simp[hs]) (by omega) hok2 hT (E.ext X'.ext I) R' F' A' (X.trans X') (X1.trans X'.ext) (by simp)⟩
theorem Vs (hro:E.ro=none) (hm:P.follows .mixedOrders=true) (t:Tr) {id:Nat} {Q:Ce} {sa:SA} {h:Hp} {n:Nat} (hs:Region.noSelect ops=true) (hok:ME ops (Array.replicate ops.size false) t=true)
 (H:OM E P ops (Q .normal) true t sa h n):Fs E P N (.region id ops true) Q sa h n:=by
 intro hd c a I R F A;simp only[Code.dok,jj]at hd;have hdd:∀(i:Nat) (o:Oper),ops[i]? = some o->∀d,o.dst=some d->d<N:=λi o ho d e=>by
  have:=hd o (by simpa using Array.mem_of_getElem? ho);rw[e]at this;simpa using this
 have:=UI (E:=E) (P:=P) (N:=N) (K:=Q .normal) (n0:=n) (c0:=c) (c1:=c.drew) hro hdd (Region.noSelect_spec hs) t true (Array.replicate ops.size false) ops.size sa h n c.drew a (by simp) (by simp[UR]) hok H
  (E.ext c.drew_ext I) R.drew (λj hj=>F j hj) (A.ext c.drew_ext) ⟨c.drew_ext,qa _,λ_ _=>rfl⟩ (kZ _) (λ_=>rfl)
 refine wpIn_mono (wpIn_region_any hm (Jn (S:=λw=>∃c',c'.w=w/\DZ c.drew c') _ _ _ _ this)) ?_;rintro e a' w' ⟨rfl,sa',h',n',c',h1,h2,h3,h4,h5,h6⟩;exact⟨sa',h',n',c',h1,h2,h3,h4,h5,h6⟩
end
noncomputable def Si:(E:B6)->(P:Program)->(ops:Array Oper)->(K:SA->Hp->Nat->Prop)->Bool->Tr->SA->Hp->Nat->Prop:=Classical.choose (Bf OM)
theorem JH:Si=OM:=jv (Bf OM)
noncomputable def ZS:(E:B6)->(P:Program)->(ops:Array Oper)->(K:SA->Hp->Nat->Prop)->Tr->SA->Option Tmp->SV->Hp->Nat->Prop:=
 Classical.choose (Bf λE P ops K t sa dst v h n=>Si E P ops K false t (EB sa dst v) h n)
section
variable (E : B6) (P : Program) (ops : Array Oper) (K : SA → Hp → Nat → Prop) (st : Bool) (t u : Tr) (sa : SA) (h : Hp) (n i j : Nat)
@[go_sem] theorem WQ (dst:Option Tmp) (v:SV):ZS E P ops K t sa dst v h n=Si E P ops K false t (EB sa dst v) h n:=by
 unfold ZS;rw[jv (Bf λE P ops K t sa dst v h n=>Si E P ops K false t (EB sa dst v) h n)]
theorem Ur (o:Oper):ZS E P ops K t sa o.dst=λv h' n'=>OM E P ops K false t (EB sa o.dst v) h' n':=by
 funext v h' n';rw[WQ,JH]
@[go_sem] theorem Zb:Si E P ops K st .nil sa h n=K sa h n:=by rw[JH];simp only[OM]
@[go_sem] theorem ZD:Si E P ops K st (.pure i t) sa h n=match ops[i]? with
 | some o=>(match Dg ops sa o with
  | some b=>if b=true then(match KZ P st (Gp sa) o.op with|some v=>Si E P ops K st t (EB sa o.dst v) h n|none=>False)else H9 o.op=true/\Si E P ops K st t (EB sa o.dst (.tup [])) h n
  | none=>False)
 | none=>False:=by
 rw[JH];simp only[OM,Tt]
 all_goals
  cases ops[i]? with
  | none=>rfl
  | some o =>
   simp only;cases Dg ops sa o with
   | none=>rfl
   | some b=>cases b with
    | false=>rfl
    | true=>simp only[if_true];cases KZ P st (Gp sa) o.op<;>rfl
def NU (o:Oper):Prop:=
 match Dg ops sa o with
 | some b=>if b=true then Ke E P o sa h n (ZS E P ops K t sa o.dst)else Si E P ops K false t (EB sa o.dst (.tup [])) h n
 | none=>False
theorem Pr (o:Oper):NU E P ops K t sa h n o=L7 E P ops o sa h n (OM E P ops K false t):=by
 unfold NU L7;rw[Ur,JH]
 all_goals
  cases Dg ops sa o with
  | none=>rfl
  | some b=>cases b<;>rfl
@[go_sem] theorem Zc:Si E P ops K st (.one i t) sa h n=match ops[i]? with|some o=>NU E P ops K t sa h n o|none=>False:=by
 rw[JH];simp only[OM,Pr]<;>cases ops[i]? <;> rfl
@[go_sem] theorem Zd:Si E P ops K st (.two i j t u) sa h n=match ops[i]?,ops[j]? with|some o,some q=>NU E P ops K t sa h n o/\NU E P ops K u sa h n q|_,_=>False:=by
 rw[JH];simp only[OM,Pr]<;>cases ops[i]? <;> cases ops[j]? <;> rfl
end
attribute [go_sem] NU KZ H9
theorem BX {E:B6} {N id:Nat} {ops:Array Oper} {Q:Ce} {sa:SA} {h:Hp} {n:Nat} (t:Tr) (hro:E.ro=none) (hs:Region.noSelect ops=true) (hok:ME ops (Array.replicate ops.size false) t=true)
 (H:Si E Tryz.prog ops (Q .normal) true t sa h n):SP E N (.region id ops true) Q sa h n:=
 Vs hro follows t hs hok (by rw[<-JH];exact H)
end Go.Proofs.YtgakninlhfkkmaaGreat.Sh
namespace Go.Proofs
open Go.Shelf
def Tryz.sortA_ren:Go.Shelf.Ren:=⟨fun|5=>197|8=>169|7=>261|19=>245|20=>246|10=>290|11=>291|12=>292|13=>293|14=>294|15=>295|16=>142|17=>296|18=>297|30=>315|31=>281|32=>282|33=>316|34=>317|35=>170|40=>326|n=>n,fun|23=>61|25=>3|3=>3|32=>213|22=>61|0=>0|44=>306|46=>308|4=>4|36=>300|35=>299|41=>123|5=>5|9=>9|53=>342|57=>72|63=>373|64=>374|n=>n,fun|n=>n⟩
theorem Tryz.sortA:Go.Proofs.SlLaysM.n5 Tryz.prog Tryz.sortA_ren:={
 mixed:=by kernel_rfl
 f5:=⟨Tryz.f197.name,by decide,Tryz.func197.trans (congrArg some (by kernel_rfl))⟩
 f7:=⟨Tryz.f261.name,by decide,Tryz.func261.trans (congrArg some (by kernel_rfl))⟩
 f8:=Tryz.func169.trans (congrArg some (by kernel_rfl))
 f10:=⟨Tryz.f290.name,by decide,Tryz.func290.trans (congrArg some (by kernel_rfl))⟩
 f11:=⟨Tryz.f291.name,by decide,Tryz.func291.trans (congrArg some (by kernel_rfl))⟩
 f12:=⟨Tryz.f292.name,by decide,Tryz.func292.trans (congrArg some (by kernel_rfl))⟩
 f13:=⟨Tryz.f293.name,by decide,Tryz.func293.trans (congrArg some (by kernel_rfl))⟩
 f14:=⟨Tryz.f294.name,by decide,Tryz.func294.trans (congrArg some (by kernel_rfl))⟩
 f15:=⟨Tryz.f295.name,by decide,Tryz.func295.trans (congrArg some (by kernel_rfl))⟩
 f16:=⟨Tryz.f142.name,by decide,Tryz.func142.trans (congrArg some (by kernel_rfl))⟩
 f17:=⟨Tryz.f296.name,by decide,Tryz.func296.trans (congrArg some (by kernel_rfl))⟩
 f18:=⟨Tryz.f297.name,by decide,Tryz.func297.trans (congrArg some (by kernel_rfl))⟩
 f19:=Tryz.func245.trans (congrArg some (by kernel_rfl))
 f20:=Tryz.func246.trans (congrArg some (by kernel_rfl))
 f30:=⟨Tryz.f315.name,by decide,Tryz.func315.trans (congrArg some (by kernel_rfl))⟩
 f31:=Tryz.func281.trans (congrArg some (by kernel_rfl))
 f32:=Tryz.func282.trans (congrArg some (by kernel_rfl))
 f33:=⟨Tryz.f316.name,by decide,Tryz.func316.trans (congrArg some (by kernel_rfl))⟩
 f34:=⟨Tryz.f317.name,by decide,Tryz.func317.trans (congrArg some (by kernel_rfl))⟩
 f35:=⟨Tryz.f170.name,by decide,Tryz.func170.trans (congrArg some (by kernel_rfl))⟩
 f40:=⟨Tryz.f326.name,by decide,Tryz.func326.trans (congrArg some (by kernel_rfl))⟩
 t0:=Tryz.underlying0
 a0:=Tryz.isAgg0
 z0:=Tryz.sizeOf0
 v0:=Tryz.zeroValue0
 t3:=Tryz.underlying3
 a3:=Tryz.isAgg3
 z3:=Tryz.sizeOf3
 v3:=Tryz.zeroValue3
 t4:=Tryz.underlying4
 a4:=Tryz.isAgg4
 z4:=Tryz.sizeOf4
 v4:=Tryz.zeroValue4
 t5:=Tryz.underlying5
 a5:=Tryz.isAgg5
 z5:=Tryz.sizeOf5
 v5:=Tryz.zeroValue5
 t9:=Tryz.underlying9
 a9:=Tryz.isAgg9
 z9:=Tryz.sizeOf9
 v9:=Tryz.zeroValue9
 t22:=Tryz.underlying61
 a22:=Tryz.isAgg61
 z22:=Tryz.sizeOf61
 v22:=Tryz.zeroValue61
 t23:=Tryz.underlying61
 a23:=Tryz.isAgg61
 z23:=Tryz.sizeOf61
 v23:=Tryz.zeroValue61
 t25:=Tryz.underlying3
 a25:=Tryz.isAgg3
 z25:=Tryz.sizeOf3
 v25:=Tryz.zeroValue3
 t32:=Tryz.underlying213
 a32:=Tryz.isAgg213
 z32:=Tryz.sizeOf213
 v32:=Tryz.zeroValue213
 t35:=Tryz.underlying299
 a35:=Tryz.isAgg299
 z35:=Tryz.sizeOf299
 v35:=Tryz.zeroValue299
 t36:=Tryz.underlying300
 a36:=Tryz.isAgg300
 z36:=Tryz.sizeOf300
 v36:=Tryz.zeroValue300
 t41:=Tryz.underlying123
 a41:=Tryz.isAgg123
 z41:=Tryz.sizeOf123
 v41:=Tryz.zeroValue123
 t44:=Tryz.underlying306
 a44:=Tryz.isAgg306
 z44:=Tryz.sizeOf306
 v44:=Tryz.zeroValue306
 t46:=Tryz.underlying308
 a46:=Tryz.isAgg308
 z46:=Tryz.sizeOf308
 v46:=Tryz.zeroValue308
 t53:=Tryz.underlying342
 a53:=Tryz.isAgg342
 z53:=Tryz.sizeOf342
 v53:=Tryz.zeroValue342
 t57:=Tryz.underlying72
 a57:=Tryz.isAgg72
 z57:=Tryz.sizeOf72
 v57:=Tryz.zeroValue72
 t63:=Tryz.underlying373
 a63:=Tryz.isAgg373
 z63:=Tryz.sizeOf373
 v63:=Tryz.zeroValue373
 t64:=Tryz.underlying374
 a64:=Tryz.isAgg374
 z64:=Tryz.sizeOf374
 v64:=Tryz.zeroValue374 }
end Go.Proofs
namespace Go.Proofs.YtgakninlhfkkmaaGreat.Sh
open Proofs
section
variable {h : Hp} {c : Cx}
theorem Bn.write2 {w':World} {o b st:Nat} {x y:BT} (R:Bn h c) (ho:h o=some x) (hρ:c.ρ o=some (b,st))
 (hsize:c.w.heap.size<=w'.heap.size) (hother:∀b',b'≠b->b'<c.w.heap.size->w'.heap[b']? = c.w.heap[b']?) (hroom:rm c.w b<=rm w' b) (hos:w'.os=c.w.os) (hout:w'.output=c.w.output)
 (hy:DZ c { c with w:=w' }->Dl { c with w:=w' } o y) (hx2:x.lst=false:=by rfl) (hy2:y.lst=false:=by rfl) (htd:Td c.w w':=by first|exact⟨rfl,qa _⟩|exact⟨rfl,Nat.le_add_right _ _⟩):Bn (hset h o (some y)) { c with w:=w' }/\DZ c { c with w:=w' }:=by
 have E:DZ c { c with w:=w' }:=by
  refine⟨λ_ _ e=>e,hsize,λb' hb' hn=>⟨hn,?_⟩,λb'=>?_,hos,hout,htd⟩;refine hother b' ?_ hb';rintro rfl;exact hn (R.ownI ⟨o,x,st,ho,hρ⟩);by_cases e:b'=b;subst e;exact hroom;rcases ji b' c.w.heap.size with hl|hl;simp[rm,hother b' e hl];simp[rm,jg hl]
 have hz:∀z:BT,z.lst=false->∀b',BE c o z b'->b'=b:=λz hz b' H=>by
  rcases H with⟨st',H⟩|⟨H,_⟩
  rw[hρ]at H;cases H;rfl;rw[hz]at H;cases H
 have live:∀j z,hset h o (some y) j=some z->∃z0,h j=some z0/\∀b',BE { c with w:=w' } j z b'->BE c j z0 b':=λj z e=>by
  simp only[hset]at e;split at e;subst_vars;cases e;exact⟨x,ho,λb' H=>by rw[hz y hy2 b' H];exact .inl ⟨st,hρ⟩⟩;exact⟨z,e,λb' H=>H⟩
 refine⟨⟨λj z e=>?_,λi j z z' b1 e1 e2 e3 e4=>?_,λb'=>?_⟩,E⟩;simp only[hset]at e;split at e;subst_vars;cases e;exact hy E;rename_i hj;refine(R.obj j z e).mono E λb2 e'=>hother b2 ?_ ((R.obj j z e).hold_lt e');rintro rfl;exact hj (R.inj2 j o z x b2 e ho e' (.inl ⟨st,hρ⟩));obtain⟨z0,g1,k1⟩:=live i z e1;obtain⟨z1,g2,k2⟩:=live j z' e2;exact R.inj2 i j z0 z1 b1 g1 g2 (k1 _ e3) (k2 _ e4);rw[R.own2 b'];constructor;rintro⟨j,z,e1,e2⟩;by_cases hj:j=o;subst hj;rw[ho]at e1;cases e1;exact⟨j,y,by simp[hset],by rw[hz x hx2 b' e2];exact .inl ⟨st,hρ⟩⟩;exact⟨j,z,by simp[hset,hj,e1],e2⟩;rintro⟨j,z,e1,e2⟩;obtain⟨z0,g1,k1⟩:=live j z e1;exact⟨j,z0,g1,k1 _ e2⟩
end
def DI (l:List Int):List Int:=l.mergeSort λx y=>decide (x<=y)
theorem Nt {c:Cx}:∀{l:List Int} {vs:List Value},AZ (V c) (l.map AA) vs->vs=l.map (Value.int .i64)
 | [],_,h=>by rw[h.nil_left];rfl
 | a::l,[],h=>h.elim
 | a::l,v::vs,h=>by
  have h1:=C7 h.1;rw[h1,Nt h.2];rfl
theorem Vg:Kk Tryz.prog 197=true:=by unfold Kk;rw[Tryz.func197];kernel_rfl
theorem Xu (l:List Int) (hl:l.length<4611686018427387904) {H:Hp} {n o:Nat} {full:Bool} (hH:H o=some (.cells (l.map AA))):
 BA Tryz.prog 197 [.sl o 0 1 l.length full] H n (λv h' n'=>v=.tup []/\h'=hset H o (some (.cells ((DI l).map AA)))/\n'=n):=by
 refine⟨Vg,λc vs _ R F A=>?_⟩;obtain⟨u,rfl,hv⟩:=A.single;rw[V]at hv;obtain⟨b,st,cap,hρ,rfl,hcap,_,hroom⟩:=hv;obtain⟨b',st',arr,e,vs,g1,g2,g3,g4,g5,_⟩:=R.obj o _ hH;rw[hρ]at g1;cases g1;have hvs:=Nt g4;have hblk:b<c.w.heap.size:=(qp.1 g2).1;have hget:∀j (hj:j<l.length),arr[st+j]? = some (.int .i64 l[j]):=λj hj=>g3 j _ (by rw[hvs];simp[hj]);have hHo:Go.Sort.Holds (Value.int .i64) c.w b (st+0) l.toArray:=λj hj=>by
  have hj':j<l.length:=by simpa using hj
  refine⟨by simp[World.cell?,g2,hget j hj',hj'],by simp[World.frozen?,g2]⟩
 have HC:=AnyM.slices_Sort_int Tryz.sortA b (st+0) cap l c.w hHo hblk hl;have HC':Calls Tryz.prog 197 #[.slice (some ⟨b,st+0,none⟩) l.length cap] c.w λe w'=>e=.returned (.tuple #[])/\∃n os,w'=Go.Sort.grow (Go.Sort.putRow (Value.int .i64) (Go.Sort.ahead c.w n) b (st+0) (DI l).toArray) os:=HC;refine HC'.mono ?_;rintro e w' ⟨rfl,k,os,rfl⟩;have hlen:(DI l).length=l.length:=jW _;have hsz:(Go.Sort.grow (Go.Sort.putRow (Value.int .i64) (Go.Sort.ahead c.w k) b (st+0) (DI l).toArray) os).heap=(c.w.heap.modify b (Go.Sort.onCells (Go.Sort.putCells (Value.int .i64) (st+0) (DI l).toArray)))++os:=rfl;have hnew:(Go.Sort.grow (Go.Sort.putRow (Value.int .i64) (Go.Sort.ahead c.w k) b (st+0) (DI l).toArray) os).heap[b]? = some (.cells (Go.Sort.putCells (Value.int .i64) (st+0) (DI l).toArray arr) e (0,0)):=by
  rw[hsz,jp (by simpa using hblk),jX,if_pos rfl,g2];rfl
 obtain⟨R',X'⟩:=R.write2 (w':=Go.Sort.grow (Go.Sort.putRow (Value.int .i64) (Go.Sort.ahead c.w k) b (st+0) (DI l).toArray) os) (y:=.cells ((DI l).map AA)) hH hρ
  (by rw[hsz];simp) (λb' hb hl'=>by rw[hsz,jp (by simpa using hl'),jX,if_neg (Ne.symm hb)])
  (by unfold rm; rw [hnew, g2]; simp [Go.Sort.putCells]) rfl rfl (fun X => by
    refine⟨b,st,_,e,(DI l).map (Value.int .i64),hρ,hnew,λi x hi=>?_,?_,λx hx=>?_,Ty.none⟩;simp only[qO,qX]at hi;obtain⟨z,hz,rfl⟩:=hi;have hil:=(qo.1 hz).1;have:=hget i (by omega);simp only[Go.Sort.putCells,Array.getElem?_mapIdx,this,jk,jJ,List.size_toArray];rw[if_pos ⟨by omega,by omega⟩,show st+i-st=i by omega];simp[hil]at hz ⊢;exact hz;exact AZ.map (R:=λa b=>a=b) (λa b e=>by subst e;simp[V]) (by
     have:∀l:List Int,AZ (λa b=>a=b) l l:=λl=>by induction l with|nil=>trivial|cons a l ih=>exact⟨rfl,ih⟩
     exact this _)
    obtain⟨z,_,rfl⟩:=qy.1 hx;rfl)
 exact⟨.tuple #[],.tup [],_,n,_,rfl,⟨rfl,rfl,rfl⟩,rfl,by simp[V,VL],R',F,⟨X',qa _,λ_ _=>rfl⟩⟩
theorem VT (z:Nat) (full:Bool):PC 197 [.imm z [] full] (.tup []):=by
 intro h n;refine⟨Vg,λc vs _ R F A=>?_⟩;obtain⟨u,rfl,hv⟩:=A.single;rw[V]at hv;have fin:∀(p:Option Addr) (cap:Nat),Calls Tryz.prog 197 #[.slice p 0 cap] c.w λe w'=>e=.returned (.tuple #[])/\w'=c.w:=λp cap=>AnyM.slices_Sort_int_none Tryz.sortA p cap c.w;have key:∃p cap,u=.slice p 0 cap:=by
  rcases hv with⟨_,rfl⟩|⟨a,cap,_,rfl,_⟩
  exact⟨_,_,rfl⟩;exact⟨_,_,rfl⟩
 obtain⟨p,cap,rfl⟩:=key;refine(fin p cap).mono ?_;rintro e w' ⟨rfl,rfl⟩;exact⟨.tuple #[],.tup [],h,n,c,rfl,⟨rfl,rfl,rfl⟩,rfl,by simp[V,VL],R,F,ke n c⟩
end Go.Proofs.YtgakninlhfkkmaaGreat.Sh
