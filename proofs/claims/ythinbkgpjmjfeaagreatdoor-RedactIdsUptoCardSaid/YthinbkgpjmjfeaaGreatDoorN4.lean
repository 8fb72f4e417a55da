/- A part of the proof (part 4 of 17). -/
import Derived.Test.YthinbkgpjmjfeaaGreatDoorN3
import Derived.RangeFuncIn
import Derived.Laws.StructEq
namespace Go.Proofs.YthinbkgpjmjfeaaGreatDoor.Sh
open Go.Proofs.Tryz
abbrev qR:=@AL.zp
abbrev qY:=@PC.use
abbrev qy:=@AB.zp
abbrev vD:=@AF.zp
abbrev vy:=@Bl.pure
abbrev wQ:=@CD.nil
abbrev wW:=@Ab.fz
open Proofs
set_option maxRecDepth 10000
theorem LQ(a b c:Int):PC 148 [AA a,AA b,AA c] (.bool (decide (b<=a/\a<=c))):=by
 intro h n;refine gq func148 rfl λd=>?_;by_cases h1:b<=a<;>simp[go_sem,h1];exact Ar d rfl (by simp[]);exact Ar d rfl (by simp[])
theorem Kc(b:Bool)(e:Int):PC 83 [.bool b,AA e] (AA (if b then e else 0)):=by
 intro h n;refine gq func83 rfl λa=>?_;cases b<;>simp[go_sem];exact Ar a rfl rfl;exact Ar a rfl rfl
def BL:List Int->Int
 | []=>0
 | e::l=>if e=0 then BL l else e
theorem Q4(l:List Int)(k:Nat)(hk:k<l.length):BL (l.drop k)=if l[k]=0 then BL (l.drop (k+1))else l[k]:=by
 rw[qA hk,BL]
theorem SO(l:List Int)(hl:l.length<=1048576):PC 78 [.y 1 (l.map AA) false] (AA (BL l)):=by
 intro h n;refine gq func78 rfl λd=>?_;simp[go_sem];refine BC 1 (α:=Nat) (λk=>[(5,.y 1 (l.map AA) false),(6,AA l.length),(7,AA k)]) (λ_=>h) (λk m=>k<=l.length/\n<=m/\BL l=BL (l.drop k)) (λk=>l.length-k) 0 ?_ ?_ AC ?_;simp;simp[look];rintro k m ⟨hk,c,b⟩;by_cases a:k<l.length;have e:=wS k mq;rw[Q4 l k a]at b;by_cases h0:l[k]=0;simp[go_sem,a,h0,e,-Int.natCast_add];exact⟨k+1,by omega,⟨by omega,c,by simpa[h0]using b⟩,Or⟩;simp[go_sem,a,h0];exact Ar d rfl (by simp[b,h0]);simp[go_sem,a];have:k=l.length:=by omega
 subst this;simp[BL]at b;exact Ar d rfl (by rw[b])
def Dw(s:ByteArray):Bool:=decide (1<=s.size/\s.size<=40)&&Ci s
theorem fh(s:ByteArray)(d:s.size<=1099511627776):PC 147 [.str s] (.bool (Dw s)):=by
 intro h n;refine gq func147 rfl λc=>?_;by_cases h1:(1:Int)<=s.size;have a:1<=s.size:=by omega
 by_cases h2:(s.size:Int)<=40;have b:s.size<=40:=by omega
 simp[go_sem,h1,h2];refine(WP s d).use ?_;simp[go_sem];exact Ar c rfl (by simp[Dw,a,b]);have b:¬s.size<=40:=by omega
 simp[go_sem,h1,h2];exact Ar c rfl (by simp[Dw,b]);have a:¬1<=s.size:=by omega
 simp[go_sem,h1];exact Ar c rfl (by simp[Dw,a])
def IK(s:ByteArray):Int:=BL [if !Ci s then 12 else 0,if decide ((1024:Int)<s.size)then 10 else 0]
theorem cV(s:ByteArray)(b:s.size<=1099511627776):PC 196 [.str s] (AA (IK s)):=by
 intro h n;refine gq func196 rfl λa=>?_;simp[go_sem];refine(WP s b).use ?_;simp[go_sem];refine(Kc _ _).use ?_;simp[go_sem];refine(Kc _ _).use ?_;simp[go_sem];refine(SO [if !Ci s then 12 else 0,if decide ((1024:Int)<s.size)then 10 else 0] mr).lend 2 rfl ?_ ?_;simp[AU,Fz,h_,Cb,SV.B,SV.cells];simp[go_sem];exact Bt a (Aa a (IO _) AC) (by simp[IK]) rfl
def HK(F:Nat->Int)(i:Nat):Int:=if ¬(1<=F i/\F i<=1073741824)then 18 else if 0<i/\F i=F (i-1)then 7 else if 0<i/\F i<F (i-1)then 6 else 0
theorem cT(i:Nat)(hi:i<=1099511627776)(g:FuncId)(a b:List SV)(F:Nat->Int)(m:∀j,j<=i->PC g (a++[AA j]++b) (AA (F j))):PC 145 [AA i,.fn (.func g) a b] (AA (HK F i)):=by
 intro h n;refine gq func145 rfl λc=>?_;have d:=m i (IO _);have k:=m (i-1) mq;simp only[qr,List.singleton_append]at d k;simp[go_sem];refine d.use ?_;simp[go_sem];refine(LQ _ _ _).use ?_;by_cases h1:1<=F i/\F i<=1073741824;by_cases h0:0<i;have l:IntKind.i64.wrap ((i:Int)-1)=((i-1:Nat):Int):=by rw[EU]<;>omega
 simp[go_sem,h1,h0];refine d.use ?_;simp[go_sem,l];refine k.use ?_;by_cases h2:F i=F (i-1);simp[go_sem,h2];have e:HK F i=7:=by unfold HK;rw[mw (by simpa using h1),my ⟨h0,h2⟩]
 exact Ar c rfl (by rw[e]);simp[go_sem,h2,h0];refine d.use ?_;simp[go_sem,l];refine k.use ?_;by_cases f:F i<F (i-1);simp[go_sem,f];exact Ar c rfl (by simp[HK,h1,h0,h2,f]);simp[go_sem,f];exact Ar c rfl (by simp[HK,h1,h0,h2,f]);simp[go_sem,h1,h0];exact Ar c rfl (by simp[HK,h1,h0]);simp[go_sem,h1];exact Ar c rfl (by simp[HK,h1])
def CI(F:Nat->Int):Nat->Int
 | 0=>0
 | n+1=>if CI F n=0 then F n else CI F n
theorem Ew(F:Nat->Int){k n:Nat}(hk:k<n)(h0:CI F k=0)(h1:F k≠0):CI F n=F k:=by
 induction n with
 | zero=>omega
 | succ n ih=>
  rw[CI];by_cases e:k=n;subst e;simp[h0];have:=ih mq;rw[this,mw h1]
theorem Zb(N:Nat)(hN:N<=1099511627776)(g:FuncId)(a b:List SV)(F:Nat->Int)(l:∀j,j<N->PC g (a++[AA j]++b) (AA (F j))):PC 143 [AA N,.fn (.func g) a b] (AA (CI F N)):=by
 intro h n;refine gq func143 rfl λi=>?_;simp[go_sem];refine BC 1 (α:=Nat) (λk=>[(1,.fn (.func g) a b),(7,AA N),(8,AA k)]) (λ_=>h) (λk m=>k<=N/\n<=m/\CI F k=0) (λk=>N-k) 0 ?_ ?_ AC ?_;simp[CI];simp[look];rintro k m ⟨hk,e,d⟩;by_cases c:k<N;have o:=wS k mq;have f:=l k c;simp only[qr,List.singleton_append]at f;simp[go_sem,c];refine f.use ?_;by_cases h0:F k=0;simp[go_sem,h0,o,-Int.natCast_add];exact⟨k+1,by omega,⟨by omega,e,by simp[CI,d,h0]⟩,Or⟩;simp[go_sem,h0];exact Ar i rfl (by rw[Ew F c d h0]);simp[go_sem,c];have:k=N:=by omega
 subst this;exact Ar i rfl (by rw[d])
theorem j5(l:List By)(i:Nat)(hi:i<l.length):PC 146 [AA i,.q [BV l]] (AA (l[i]).id):=by
 intro h n;refine gq func146 rfl λa=>?_;simp[go_sem,hi,By.h];exact Ar a rfl rfl
def KH(l:List By)(i:Nat):Int:=match l[i]? with
 | some r=>BL [HK (λj=>match l[j]? with|some r=>r.id|none=>0) i,if !Dw r.O then 39 else 0,if !decide (0<=r.time/\r.time<=1099511627776)then 40 else 0]
 | none=>0
theorem jz(l:List By)(i:Nat)(hi:i<l.length)(hl:l.length<=1048576)(d:∀r∈l,r.O.size<=1048576):PC 144 [AA i,.q [BV l]] (AA (KH l i)):=by
 intro h n;refine gq func144 rfl λc=>?_;simp[go_sem]
 repeat first|refine nq ?_|refine sq ?_
 have a:=cT i mq 146 [] [.q [BV l]] (λj=>match l[j]? with|some r=>r.id|none=>0) (λj hj=>by
  have b:j<l.length:=by omega
  simpa[b]using j5 l j b)
 refine vy _ _ _ _ _ _ a ?_;simp[go_sem,hi,By.h]
 repeat first|refine nq ?_|refine sq ?_
 refine vy _ _ _ _ _ _ (fh _ (by have:=d _ (qn hi);omega)) ?_;simp[go_sem]
 repeat first|refine nq ?_|refine sq ?_
 refine vy _ _ _ _ _ _ (Kc _ _) ?_;simp[go_sem,hi,By.h]
 repeat first|refine nq ?_|refine sq ?_
 refine vy _ _ _ _ _ _ (LQ _ _ _) ?_;simp[go_sem]
 repeat first|refine nq ?_|refine sq ?_
 refine vy _ _ _ _ _ _ (Kc _ _) ?_;simp[go_sem]
 repeat first|refine nq ?_|refine sq ?_
 refine Bl.lend _ _ _ _ _ _ 2 [n] (SO [HK (λj=>match l[j]? with|some r=>r.id|none=>0) i,if !Dw (l[i]).O then 39 else 0,if !decide (0<=(l[i]).time/\(l[i]).time<=1099511627776)then 40 else 0] mr) rfl mr (λh' hh=>?_) ?_;have:=hh n mr;simp[h_]at this;simp[AU,Fz,this,Cb,SV.B,SV.cells];simp[go_sem]
 repeat first|refine nq ?_|refine sq ?_
 exact Bt c (Aa c (IO _) AC) (by simp[KH,hi]) rfl
def FO(l:List By):Int:=BL [if decide (256<(l.length:Int))then 9 else 0,CI (KH l) (min l.length 256)]
theorem c84(l:List By)(d:l.length<=1048576)(e:∀r∈l,r.O.size<=1048576):PC 80 [BV l] (AA (FO l)):=by
 intro h n;refine gq func80 rfl λc=>?_;simp[go_sem,AE]
 repeat first|refine nq ?_|refine sq ?_
 refine vy _ _ _ _ _ _ (Kc _ _) ?_;have a:(if(256:Int)<(l.length:Int)then(256:Int)else(l.length:Int))=((min l.length 256:Nat):Int):=by split<;>omega
 simp[go_sem,AE,a]
 repeat first|refine nq ?_|refine sq ?_
 have b:=Zb (min l.length 256) mq 144 [] [.q [BV l]] (KH l) (λj hj=>jz l j mq d e);refine Bl.lend _ _ _ _ _ _ 3 [n] b rfl mr (λh' hh=>?_) ?_;have:=hh n mr;simp[h_]at this;simp[AU,Fz,this];simp[go_sem]
 repeat first|refine nq ?_|refine sq ?_
 refine Bl.lend _ _ _ _ _ _ 2 [n+1] (SO [if decide (256<(l.length:Int))then 9 else 0,CI (KH l) (min l.length 256)] mr) rfl mr (λh' hh=>?_) ?_;have:=hh (n+1) mr;simp[h_]at this;simp[AU,Fz,this,Cb,SV.B,SV.cells];simp[go_sem]
 repeat first|refine nq ?_|refine sq ?_
 exact Bt c (Aa c (vZ n) (Aa c (IO _) AC)) (by simp[FO]) rfl
theorem cU(a:Int):PC 185 [AA a] (.bool false):=by
 intro h n;refine gq func185 rfl λb=>?_;simp[go_sem];exact Ar b rfl rfl
def FU(a b:Int):Int:=if a<b then -1 else if b<a then 1 else 0
theorem cS(a b:Int):PC 138 [AA a,AA b] (AA (FU a b)):=by
 intro h n;refine gq func138 rfl λc=>?_;simp[go_sem];refine(cU _).use ?_;simp[go_sem];refine(cU _).use ?_;by_cases h1:a<b<;>by_cases h2:b<a<;>simp[go_sem,h1,h2]
 all_goals exact Ar c rfl (by simp[FU,h1,h2])
def BM(p:Nat->Bool)(n:Nat)(k:Nat):Int:=if _:k<n then if p k then k else BM p n (k+1)else -1
termination_by n-k
theorem GM(p:Nat->Bool)(n k:Nat):BM p n k = -1\/∃i,k<=i/\i<n/\BM p n k=i/\p i=true:=by
 rw[BM];by_cases h:k<n;by_cases hp:p k=true;exact .inr ⟨k,IO _,h,by simp[h,hp],hp⟩;have:=GM p n (k+1);simp only[h,dite_true,hp];rcases this with e|⟨i,h1,h2,h3,h4⟩
 exact .inl (by simpa using e);exact .inr ⟨i,by omega,h2,by simpa using h3,h4⟩;exact .inl (by simp[h])
termination_by n-k
theorem kB(l:List Int)(x:Int)(hl:l.length<=1048576):PC 288 [.y 1 (l.map AA) false,AA x] (AA (BM (λi=>decide (l[i]? = some x)) l.length 0)):=by
 intro h n;refine gq func288 rfl λd=>?_;simp[go_sem];refine BC 1 (α:=Nat) (λk=>[(0,.y 1 (l.map AA) false),(1,AA x),(7,AA l.length),(8,AA k)]) (λ_=>h) (λk m=>k<=l.length/\n<=m/\BM (λi=>decide (l[i]? = some x)) l.length 0=BM (λi=>decide (l[i]? = some x)) l.length k) (λk=>l.length-k) 0 ?_ ?_ AC ?_;simp;simp[look];rintro k m ⟨hk,c,b⟩;rw[BM.eq_def _ _ k]at b;by_cases a:k<l.length;have e:=wS k mq;by_cases h0:x=l[k];simp[go_sem,a,h0];exact Ar d rfl (by rw[<-h0,b];simp[a,h0]);simp[go_sem,a,h0,e,-Int.natCast_add];exact⟨k+1,by omega,⟨by omega,c,by rw[b];simp[a,Ne.symm h0]⟩,Or⟩;simp[go_sem,a];exact Ar d rfl (by rw[b];simp[a])
theorem S4(l:List Int)(x:Int):decide (0<=BM (λi=>decide (l[i]? = some x)) l.length 0)=decide (x∈l):=by
 have gen:∀k,k<=l.length->(0<=BM (λi=>decide (l[i]? = some x)) l.length k↔x∈l.drop k):=by
  intro k hk
  induction hd:l.length-k generalizing k with
  | zero=>
   have:k=l.length:=by omega
   subst this;rw[BM];simp
  | succ d ih=>
   have hlt:k<l.length:=by omega
   have hd:x∈l.drop k↔x=l[k]\/x∈l.drop (k+1):=by rw[qA hlt,qe]
   rw[BM,hd];by_cases e:l[k]=x;simp[hlt,e];have:=ih (k+1) mq mq;simp[hlt,e,this,Ne.symm e]
 have:=gen 0 (qj _);simp only[vT]at this;simp[this]
theorem jq(l:List Int)(x:Int)(a:l.length<=1048576):PC 252 [.y 1 (l.map AA) false,AA x] (.bool (decide (x∈l))):=by
 intro h n;refine gq func252 rfl λb=>?_;simp[go_sem];refine(kB l x a).use ?_;simp[go_sem];exact Ar b rfl (by rw[S4])
def H6(c:Nat->Int)(i j:Nat):Nat:=if _:i<j then if c ((i+j) / 2)<0 then H6 c ((i+j) / 2+1) j else H6 c i ((i+j) / 2)else i
termination_by j-i
def BY(c:Nat->Int)(n:Nat):Nat×Bool:=(H6 c 0 n,decide (H6 c 0 n<n/\c (H6 c 0 n)=0))
theorem bt{x:Int}(h0:0<=x)(h1:x<=4611686018427387904):IntKind.u64.wrap x=x:=IntWalk.u64_in x mq
structure Jp where
 number:Int
 group:Int
 low:Int
 high:Int
 standard:Int
 name:ByteArray
def Jp.h(k:Jp):SV:=.agg [AA k.number,AA k.group,AA k.low,AA k.high,AA k.standard,.str k.name]
theorem kh(l:List Jp)(hl:l.length<=1048576)(t:SV)(g:FuncId)(a b:List SV)(c:Nat->Int)(p:∀(i:Nat)(h:i<l.length),PC g (a++[Jp.h l[i],t]++b) (AA (c i))):
 PC 286 [.y 6 (l.map Jp.h) false,t,.fn (.func g) a b] (.tup [AA (BY c l.length).1,.bool (BY c l.length).2]):=by
 intro h n;refine gq func286 rfl λs=>?_;simp[go_sem];refine BC 1 (α:=Nat×Nat) (λq=>[(0,.y 6 (l.map Jp.h) false),(1,t),(2,.fn (.func g) a b),(8,AA l.length),(9,AA q.1),(10,AA q.2)]) (λ_=>h) (λq m=>q.1<=q.2/\q.2<=l.length/\n<=m/\H6 c 0 l.length=H6 c q.1 q.2) (λq=>q.2-q.1) (0,l.length) ?_ ?_ AC ?_;simp;simp[look];rintro⟨i,j⟩ m ⟨o,r,k,f⟩;dsimp only at o r f;by_cases d:i<j;have hm:(i+j) / 2<l.length:=by omega
 have u:IntKind.i64.wrap ((i:Int)+j)=((i+j:Nat):Int):=by rw[EU]<;>omega
 have v:IntKind.u64.wrap ((i+j:Nat):Int)=((i+j:Nat):Int):=by rw[bt]<;>omega
 have w:(((i+j:Nat):Int)).fdiv 2=(((i+j) / 2:Nat):Int):=by rw[Int.fdiv_eq_ediv_of_nonneg _ mq];omega
 have x:IntKind.i64.wrap (((i+j) / 2:Nat):Int)=(((i+j) / 2:Nat):Int):=by rw[EU]<;>omega
 have z:IntKind.i64.wrap ((((i+j) / 2:Nat):Int)+1)=(((i+j) / 2+1:Nat):Int):=by rw[EU]<;>omega
 have H:=p _ hm;simp only[qr,qB,qI]at H;rw[H6.eq_def c i j]at f;simp[go_sem,d,u,v,w,x,hm,Jp.h,-Int.natCast_add,-Int.natCast_ediv];refine qY (by simpa[Jp.h]using H) ?_;by_cases hb:c ((i+j) / 2)<0;simp[d,hb]at f;simp[go_sem,hb,z,-Int.natCast_add,-Int.natCast_ediv];exact⟨(i+j) / 2+1,j,by omega,⟨by omega,r,k,f⟩,Or,Or⟩;simp[d,hb]at f;simp[go_sem,hb,-Int.natCast_add,-Int.natCast_ediv];exact⟨i,(i+j) / 2,by omega,⟨by omega,by omega,k,f⟩,Or,Or⟩;have e:H6 c 0 l.length=i:=by rw[f,H6.eq_def];simp[d]
 by_cases hi:i<l.length;have H:=p i hi;simp only[qr,qB,qI]at H;simp[go_sem,d,hi,Jp.h];refine qY (by simpa[Jp.h]using H) ?_;simp[go_sem];exact Ar s rfl (by simp[BY,e,hi];by_cases h0:c i=0<;>simp[h0]);simp[go_sem,d,hi];exact Ar s rfl (by simp[BY,e,hi])
set_option maxRecDepth 100000
def B6:List Jp:=[
 ⟨1,1,0,1073741824,0,⟨#[99,104,97,114,97,99,116,101,114,45,115,116,121,108,101]⟩⟩,
 ⟨2,1,0,1,0,⟨#[98,111,108,100]⟩⟩,
 ⟨3,1,0,1,0,⟨#[105,116,97,108,105,99]⟩⟩,
 ⟨4,1,0,3,0,⟨#[117,110,100,101,114,108,105,110,101]⟩⟩,
 ⟨5,1,2,1638,22,⟨#[115,105,122,101]⟩⟩,
 ⟨6,1,0,16777215,0,⟨#[99,111,108,111,114]⟩⟩,
 ⟨7,1,0,63,0,⟨#[102,111,110,116]⟩⟩,
 ⟨8,1,0,255,0,⟨#[108,97,110,103,117,97,103,101]⟩⟩,
 ⟨9,1,(-400),400,0,⟨#[114,97,105,115,101]⟩⟩,
 ⟨10,1,0,1,0,⟨#[104,105,100,100,101,110]⟩⟩,
 ⟨20,2,0,1073741824,0,⟨#[112,97,114,97,103,114,97,112,104,45,115,116,121,108,101]⟩⟩,
 ⟨21,2,0,3,0,⟨#[97,108,105,103,110]⟩⟩,
 ⟨22,2,(-31680),31680,0,⟨#[108,101,102,116]⟩⟩,
 ⟨23,2,(-31680),31680,0,⟨#[114,105,103,104,116]⟩⟩,
 ⟨24,2,(-31680),31680,0,⟨#[102,105,114,115,116]⟩⟩,
 ⟨25,2,0,31680,0,⟨#[98,101,102,111,114,101]⟩⟩,
 ⟨26,2,0,31680,0,⟨#[97,102,116,101,114]⟩⟩,
 ⟨27,2,0,31680,0,⟨#[108,101,97,100,105,110,103]⟩⟩,
 ⟨28,2,0,1,0,⟨#[107,101,101,112,45,110,101,120,116]⟩⟩,
 ⟨29,2,0,1,0,⟨#[107,101,101,112,45,108,105,110,101,115]⟩⟩,
 ⟨30,2,0,1,1,⟨#[119,105,100,111,119]⟩⟩,
 ⟨31,2,0,1,0,⟨#[112,97,103,101,45,98,101,102,111,114,101]⟩⟩,
 ⟨32,2,0,9,0,⟨#[111,117,116,108,105,110,101]⟩⟩,
 ⟨33,2,0,1073741824,0,⟨#[108,105,115,116]⟩⟩,
 ⟨34,2,1,9,1,⟨#[108,101,118,101,108]⟩⟩,
 ⟨35,2,0,32767,0,⟨#[114,101,115,116,97,114,116]⟩⟩,
 ⟨36,2,1,31680,720,⟨#[116,97,98,45,115,116,111,112]⟩⟩,
 ⟨37,2,0,1,0,⟨#[104,121,112,104,101,110,97,116,101]⟩⟩,
 ⟨40,3,720,31680,12240,⟨#[112,97,103,101,45,119,105,100,116,104]⟩⟩,
 ⟨41,3,720,31680,15840,⟨#[112,97,103,101,45,104,101,105,103,104,116]⟩⟩,
 ⟨42,3,0,31680,1440,⟨#[116,111,112]⟩⟩,
 ⟨43,3,0,31680,1440,⟨#[98,111,116,116,111,109]⟩⟩,
 ⟨44,3,0,31680,1440,⟨#[105,110,110,101,114]⟩⟩,
 ⟨45,3,0,31680,1440,⟨#[111,117,116,101,114]⟩⟩,
 ⟨46,3,0,32767,0,⟨#[102,105,114,115,116,45,112,97,103,101]⟩⟩,
 ⟨47,3,1,6,1,⟨#[112,97,103,101,45,102,111,114,109,97,116]⟩⟩,
 ⟨50,4,0,1,0,⟨#[104,101,97,100,101,114]⟩⟩,
 ⟨51,4,0,1,0,⟨#[99,97,110,116,45,115,112,108,105,116]⟩⟩,
 ⟨52,4,0,31680,0,⟨#[114,111,119,45,104,101,105,103,104,116]⟩⟩,
 ⟨60,5,1,32,1,⟨#[99,111,108,117,109,110,45,115,112,97,110]⟩⟩,
 ⟨61,5,0,2,0,⟨#[118,101,114,116,105,99,97,108,45,109,101,114,103,101]⟩⟩,
 ⟨62,5,0,31680,0,⟨#[99,101,108,108,45,119,105,100,116,104]⟩⟩,
 ⟨63,5,0,16777215,16777215,⟨#[115,104,97,100,101]⟩⟩,
 ⟨70,6,0,31680,0,⟨#[116,97,98,108,101,45,119,105,100,116,104]⟩⟩,
 ⟨71,6,0,2,0,⟨#[116,97,98,108,101,45,97,108,105,103,110]⟩⟩]
def Im:List SV:=B6.flatMap λk=>k.h.cells
theorem eB(Q:Exit->SV->Hp->Nat->Prop)(h:Hp)(n:Nat):swp prog 47 (Tryz.f285.body.getD .ret) (λe sa h n=>Q e (look sa 0) h n) [] h n=Q .ret (.sl n 0 6 45 true) (h_ h n (some (.cells Im))) (n+1):=by kernel_rfl
theorem kg:PC 285 [] (.y 6 (B6.map Jp.h) false):=by
 intro h n;refine gq func285 rfl λc=>?_;rw[E5];have e:=eB (λe v h' n'=>(e=.normal\/e=.ret)/\∃rs,some [v]=some rs/\Ce n h' n' (Jl rs) (Is (.y 6 (B6.map Jp.h) false) h n)) h n;refine cast e.symm ⟨.inr rfl,_,rfl,?_⟩;refine IS 1 c (Aa c (IO _) AC) (.inr ⟨c.none (IO _),by simp,by kernel_rfl,rfl,Im,Im,AE _ _ _,by kernel_rfl,?_,?_⟩) ?_;intro x b;simp only[qa]at b;obtain⟨k,_,rfl⟩:=b;exact⟨rfl,rfl⟩;have all:∀l:List SV,AU (Fz (h_ h n (some (.cells Im))) h 0) l l:=by
  intro l;induction l with
  | nil=>trivial
  | cons a l ih=>exact⟨Or,ih⟩
 have e:(B6.map Jp.h).flatMap SV.cells=Im:=by kernel_rfl
 rw[e];exact all _;rw[C_];refine EJ.2 λx b=>?_;simp only[qa]at b;obtain⟨k,_,rfl⟩:=b;rfl
end Go.Proofs.YthinbkgpjmjfeaaGreatDoor.Sh
namespace Go.Proofs.YthinbkgpjmjfeaaGreatDoor.Sh
open Go.Proofs.Tryz
open Proofs
set_option maxRecDepth 100000
theorem ki(k:Jp)(t:Int):PC 287 [k.h,AA t] (AA (FU k.number t)):=by
 intro h n;refine gq func287 rfl λa=>?_;simp[go_sem,Jp.h,AE];refine(cS _ _).use ?_;simp[go_sem];exact Bt a (Aa a (IO _) AC) rfl rfl
def IC(t:Int)(i:Nat):Int:=match B6[i]? with|some k=>FU k.number t|none=>0
def Eo(t:Int):Option Jp:=if(BY (IC t) B6.length).2 then B6[(BY (IC t) B6.length).1]? else none
def Jp.zero:Jp:=⟨0,0,0,0,0,⟨#[]⟩⟩
theorem OR:B6.length=45:=by kernel_rfl
theorem fu(t:Int):PC 251 [AA t] (.tup [((Eo t).getD Jp.zero).h,.bool (Eo t).isSome]):=by
 intro h n;refine gq func251 rfl λb=>?_;simp[go_sem];refine kg.use ?_;simp[go_sem];refine(kh B6 (by rw[OR];omega) (AA t) 287 [] [] (IC t) (λi hi=>by simpa[IC,hi]using ki B6[i] t)).use ?_;by_cases hb:(BY (IC t) B6.length).2=true;have hi:(BY (IC t) B6.length).1<B6.length:=by
  simp only[BY,decide_eq_true_eq]at hb;exact hb.1
 have a:Eo t=some B6[(BY (IC t) B6.length).1]:=by simp[Eo,hb,hi]
 generalize hk:B6[(BY (IC t) B6.length).1]=k at a;have hg:(B6.map Jp.h)[(BY (IC t) B6.length).1]? = some k.h:=by rw[<-hk];simp[hi]
 simp only[vo]at hg;simp[go_sem,hb,hg,Jp.h,AE];refine Bt b (λo y e=>?_) (by simp[a]) rfl;have:=(b o y e).1;have ne:o≠n:=by omega
 simp[h_,ne,e];have a:Eo t=none:=by simp[Eo,hb]
 simp[go_sem,hb,AE];refine Bt b (λo y e=>?_) (by simp[a,Jp.zero,Jp.h];rfl) rfl;have:=(b o y e).1;have ne:o≠n:=by omega
 simp[h_,ne,e]
def CM(e:Int):List Int:=
 if e=1\/e=4\/e=5\/e=6 then[1]else if e=2 then[1,2]else if e=3 then[3]else if e=7 then[6]else if e=9 then[4]else if e=10 then[5]else[]
theorem kX(e:Int):PC 253 [AA e] (.y 1 ((CM e).map AA) false):=by
 intro h n;refine gq func253 rfl λd=>?_;have fin:∀(g:List Int)(m:Nat),n<=m->Ce n (h_ h m (some (.cells (g.map AA)))) (m+1) (.sl m 0 1 g.length true) (Is (.y 1 (g.map AA) false) h n):=λg m hm=>by
  refine IS 1 d (Aa d hm AC) (.inr ⟨d.none hm,by simp,by simp,rfl,_,_,AE _ _ _,by simp[Cb];rfl,?_,?_⟩) ?_;intro x c;simp at c;obtain⟨_,_,rfl⟩:=c;exact⟨rfl,rfl⟩;have e:(g.map AA).flatMap SV.cells=g.map AA:=by induction g with|nil=>rfl|cons a l ih=>simpa[SV.cells]using ih
  rw[e];have all:∀l:List SV,AU (Fz (h_ h m (some (.cells (g.map AA)))) h 0) l l:=by
   intro l;induction l with
   | nil=>trivial
   | cons a l ih=>exact⟨Or,ih⟩
  rw[qQ mr];exact all _;rw[C_];refine EJ.2 λx c=>?_;simp only[qa]at c;obtain⟨k,_,rfl⟩:=c;rfl
 by_cases h1:e=1;subst h1;simp[go_sem,CM];exact fin [1] n (IO _);by_cases i:e=4;subst i;simp[go_sem,CM];exact fin [1] n (IO _);by_cases j:e=5;subst j;simp[go_sem,CM];exact fin [1] n (IO _);by_cases o:e=6;subst o;simp[go_sem,CM];exact fin [1] n (IO _);by_cases h2:e=2;subst h2;simp[go_sem,CM];exact fin [1,2] n (IO _);by_cases f:e=3;subst f;simp[go_sem,CM];exact fin [3] n (IO _);by_cases p:e=7;subst p;simp[go_sem,CM];exact fin [6] n (IO _);by_cases q:e=9;subst q;simp[go_sem,CM];exact fin [4] n (IO _);by_cases b:e=10;subst b;simp[go_sem,CM];exact fin [5] n (IO _);simp[go_sem,CM,h1,h2,f,i,j,o,p,q,b];exact IS 1 d AC (.inr ⟨by simp,.inl rfl,trivial,by simp⟩) rfl
def Q5(el key:Int):Bool:=match Eo key with|some k=>decide (k.group∈CM el)|none=>false
theorem Nw(e:Int):(CM e).length<=1048576:=by unfold CM;(repeat' split)<;>simp
theorem fq(el key:Int):PC 199 [AA el,AA key] (.bool (Q5 el key)):=by
 intro h n;refine gq func199 rfl λa=>?_;simp[go_sem];refine(fu key).use ?_;cases b:Eo key with
 | none=>
  simp[go_sem,Jp.zero,Jp.h,AE]
  repeat first|refine nq ?_|refine sq ?_
  refine Bt a (λo y e=>?_) (by simp[Q5,b]) rfl;have:=(a o y e).1;have ne:o≠n:=by omega
  simp[h_,ne,e]
 | some k=>
  simp[go_sem,Jp.h,AE]
  repeat first|refine nq ?_|refine sq ?_
  refine vy _ _ _ _ _ _ (kX el) ?_;simp[go_sem,AE]
  repeat first|refine nq ?_|refine sq ?_
  refine vy _ _ _ _ _ _ (jq (CM el) k.group (Nw el)) ?_;simp[go_sem]
  repeat first|refine nq ?_|refine sq ?_
  refine Bt a (λo y e=>?_) (by simp[Q5,b]) rfl;have:=(a o y e).1;have ne:o≠n:=by omega
  simp[h_,ne,e]
def ET(key v:Int):Int:=match Eo key with|some k=>if v<k.low\/k.high<v then 5 else 0|none=>4
theorem cX(key v:Int):PC 200 [AA key,AA v] (AA (ET key v)):=by
 intro h n;refine gq func200 rfl λc=>?_;simp[go_sem];refine(fu key).use ?_;have hh:∀a b:Option A9,∀o x,h o=some x->h_ (h_ h n a) n b o=some x:=λa b o y e=>by
  have:=(c o y e).1;have ne:o≠n:=by omega
  simp[h_,ne,e]
 cases d:Eo key with
 | none=>
  simp[go_sem,Jp.zero,Jp.h,AE];exact Bt c (hh _ _) (by simp[ET,d]) rfl
 | some k=>
  by_cases h1:v<k.low<;>by_cases h2:k.high<v<;>simp[go_sem,Jp.h,AE,h1,h2]
  all_goals exact Bt c (hh _ _) (by simp[ET,d,h1,h2]) rfl
def D0(el:Int)(l:List Fp)(i:Nat):Int:=match l[i]? with
 | some p=>if !Q5 el p.key then 4 else if decide (0<i)&&((l[i-1]?).map Fp.key==some p.key)then 7
  else if decide (0<i)&&(match l[i-1]? with|some q=>decide (p.key<q.key)|none=>false)then 6 else ET p.key p.value
 | none=>0
def C8(el:Int)(l:List Fp):Int:=if el<1\/10<el then 3 else CI (D0 el l) l.length
theorem fi(el:Int)(l:List Fp)(hl:l.length<=1048576):PC 149 [AA el,AO l] (AA (C8 el l)):=by
 intro h n;refine gq func149 rfl λg=>?_;by_cases r:el<1;simp[go_sem,r];exact Ar g rfl (by simp[C8,r]);by_cases u:10<el;simp[go_sem,r,u];exact Ar g rfl (by simp[C8,u]);have D:C8 el l=CI (D0 el l) l.length:=by simp[C8,r,u]
 rw[D];simp[go_sem,r,u];refine BC 1 (α:=Nat) (λk=>[(0,AA el),(1,AO l),(14,AO l),(15,AA l.length),(16,AA k)]) (λ_=>h) (λk m=>k<=l.length/\n<=m/\CI (D0 el l) k=0) (λk=>l.length-k) 0 ?_ ?_ AC ?_;simp[CI];simp[look];rintro k m ⟨hk,hnm,w⟩;have hh:∀a b:Option A9,∀o x,h o=some x->h_ (h_ h m a) m b o=some x:=λa b o y e=>by
  have:=(g o y e).1;have ne:o≠m:=by omega
  simp[h_,ne,e]
 by_cases f:k<l.length
 . have C:=wS k mq;obtain⟨p,hp⟩:∃p,l[k]? = some p:=⟨l[k],by simp[f]⟩
   have z:l[k]=p:=by simpa[f]using hp
   have t:∀e,D0 el l k=e->e≠0->CI (D0 el l) l.length=e:=λe h1 h2=>by rw[Ew _ f w (by rw[h1];exact h2),h1]
   simp[go_sem,f,z,Fp.h,AE];refine(fq _ _).use ?_;by_cases c:Q5 el p.key=true
   . by_cases h0:0<k
     . obtain⟨q,j⟩:∃q,l[k-1]? = some q:=⟨l[k-1],by simp[show k-1<l.length by omega]⟩
       have B:IntKind.i64.wrap ((k:Int)-1)=((k-1:Nat):Int):=by rw[EU]<;>omega
       have A:(l.map Fp.h)[k-1]? = some q.h:=by simp[j]
       simp only[vo]at A;by_cases i:p.key=q.key
       . have d:Q5 el q.key=true:=by rw[<-i];exact c
         simp[go_sem,d,h0,B,j,Fp.h,AE,i]
         repeat first|refine nq ?_|refine sq ?_
         exact Bt g (hh _ _) (by rw[t 7 (by simp[D0,hp,d,h0,j,i]) mr]) rfl
       . by_cases v:p.key<q.key
         . simp[go_sem,c,h0,B,j,Fp.h,AE,i,v]
           repeat first|refine nq ?_|refine sq ?_
           exact Bt g (hh _ _) (by rw[t 6 (by simp[D0,hp,c,h0,j,v,Ne.symm i]) mr]) rfl
         . simp[go_sem,c,h0,B,j,Fp.h,AE,i,v]
           repeat first|refine nq ?_|refine sq ?_
           refine(cX _ _).use ?_;have s:D0 el l k=ET p.key p.value:=by simp[D0,hp,c,h0,j,v,Ne.symm i]
           by_cases hv:ET p.key p.value=0;simp[go_sem,hv,C,-Int.natCast_add];exact⟨k+1,by omega,⟨by omega,by omega,by simp[CI,w,s,hv]⟩,Or,hh _ _⟩;simp[go_sem,hv];exact Bt g (hh _ _) (by rw[t _ s hv]) rfl
     . simp[go_sem,c,h0,AE]
       repeat first|refine nq ?_|refine sq ?_
       refine(cX _ _).use ?_;have s:D0 el l k=ET p.key p.value:=by simp[D0,hp,c,h0]
       by_cases hv:ET p.key p.value=0;simp[go_sem,hv,C,-Int.natCast_add];exact⟨k+1,by omega,⟨by omega,by omega,by simp[CI,w,s,hv]⟩,Or,hh _ _⟩;simp[go_sem,hv];exact Bt g (hh _ _) (by rw[t _ s hv]) rfl
   simp[go_sem,c];exact Bt g (hh _ _) (by rw[t 4 (by simp[D0,hp,c]) mr]) rfl
 simp[go_sem,f];have:k=l.length:=by omega
 subst this;exact Ar g rfl (by rw[w])
end Go.Proofs.YthinbkgpjmjfeaaGreatDoor.Sh
namespace Go.Proofs.YthinbkgpjmjfeaaGreatDoor.Sh
open Go.Proofs.Tryz
open Proofs
set_option maxRecDepth 10000
def MQ(p:Nat->Bool)(n:Nat):Bool:=decide (0<=BM p n 0)
structure CG where
 literal:ByteArray
 level:Int
 plain:Bool
def CG.h(p:CG):SV:=.agg [.str p.literal,AA p.level,.bool p.plain]
abbrev Jf:Int->SV:=.int .u8
theorem fv(l:List Ao)(hl:l.length<=1048576)(g:FuncId)(a b:List SV)(p:Nat->Bool)(hp:∀(i:Nat)(h:i<l.length),PC g (a++[Ao.h l[i]]++b) (.bool (p i))):
 PC 279 [.y 6 (l.map Ao.h) false,.fn (.func g) a b] (AA (BM p l.length 0)):=by
 intro h n;refine gq func279 rfl λf=>?_;simp[go_sem];refine BC 1 (α:=Nat) (λk=>[(0,.y 6 (l.map Ao.h) false),(1,.fn (.func g) a b),(7,AA l.length),(8,AA k)]) (λ_=>h) (λk m=>k<=l.length/\n<=m/\BM p l.length 0=BM p l.length k) (λk=>l.length-k) 0 ?_ ?_ AC ?_;simp;simp[look];rintro k m ⟨hk,e,d⟩;rw[BM.eq_def _ _ k]at d;by_cases c:k<l.length;have j:=wS k mq;have H:=hp k c;simp only[qr,qB,qI]at H;simp[go_sem,c,Ao.h];refine qY (by simpa[Ao.h]using H) ?_;by_cases h0:p k=true;simp[go_sem,h0];exact Ar f rfl (by rw[d];simp[c,h0]);simp[go_sem,h0,j,-Int.natCast_add];exact⟨k+1,by omega,⟨by omega,e,by rw[d];simp[c,h0]⟩,Or⟩;simp[go_sem,c];exact Ar f rfl (by rw[d];simp[c])
theorem kW(l:List AR)(hl:l.length<=1048576)(g:FuncId)(a b:List SV)(p:Nat->Bool)(hp:∀(i:Nat)(h:i<l.length),PC g (a++[AR.h l[i]]++b) (.bool (p i))):
 PC 250 [.y 6 (l.map AR.h) false,.fn (.func g) a b] (AA (BM p l.length 0)):=by
 intro h n;refine gq func250 rfl λf=>?_;simp[go_sem];refine BC 1 (α:=Nat) (λk=>[(0,.y 6 (l.map AR.h) false),(1,.fn (.func g) a b),(7,AA l.length),(8,AA k)]) (λ_=>h) (λk m=>k<=l.length/\n<=m/\BM p l.length 0=BM p l.length k) (λk=>l.length-k) 0 ?_ ?_ AC ?_;simp;simp[look];rintro k m ⟨hk,e,d⟩;rw[BM.eq_def _ _ k]at d;by_cases c:k<l.length;have j:=wS k mq;have H:=hp k c;simp only[qr,qB,qI]at H;simp[go_sem,c,AR.h];refine qY (by simpa[AR.h]using H) ?_;by_cases h0:p k=true;simp[go_sem,h0];exact Ar f rfl (by rw[d];simp[c,h0]);simp[go_sem,h0,j,-Int.natCast_add];exact⟨k+1,by omega,⟨by omega,e,by rw[d];simp[c,h0]⟩,Or⟩;simp[go_sem,c];exact Ar f rfl (by rw[d];simp[c])
theorem ff(l:List By)(hl:l.length<=1048576)(g:FuncId)(a b:List SV)(p:Nat->Bool)(hp:∀(i:Nat)(h:i<l.length),PC g (a++[By.h l[i]]++b) (.bool (p i))):
 PC 169 [.y 3 (l.map By.h) false,.fn (.func g) a b] (AA (BM p l.length 0)):=by
 intro h n;refine gq func169 rfl λf=>?_;simp[go_sem];refine BC 1 (α:=Nat) (λk=>[(0,.y 3 (l.map By.h) false),(1,.fn (.func g) a b),(7,AA l.length),(8,AA k)]) (λ_=>h) (λk m=>k<=l.length/\n<=m/\BM p l.length 0=BM p l.length k) (λk=>l.length-k) 0 ?_ ?_ AC ?_;simp;simp[look];rintro k m ⟨hk,e,d⟩;rw[BM.eq_def _ _ k]at d;by_cases c:k<l.length;have j:=wS k mq;have H:=hp k c;simp only[qr,qB,qI]at H;simp[go_sem,c,By.h];refine qY (by simpa[By.h]using H) ?_;by_cases h0:p k=true;simp[go_sem,h0];exact Ar f rfl (by rw[d];simp[c,h0]);simp[go_sem,h0,j,-Int.natCast_add];exact⟨k+1,by omega,⟨by omega,e,by rw[d];simp[c,h0]⟩,Or⟩;simp[go_sem,c];exact Ar f rfl (by rw[d];simp[c])
theorem fk(l:List AL)(hl:l.length<=1048576)(g:FuncId)(a b:List SV)(p:Nat->Bool)(hp:∀(i:Nat)(h:i<l.length),PC g (a++[AL.h l[i]]++b) (.bool (p i))):
 PC 212 [.y 6 (l.map AL.h) false,.fn (.func g) a b] (AA (BM p l.length 0)):=by
 intro h n;refine gq func212 rfl λf=>?_;simp[go_sem];refine BC 1 (α:=Nat) (λk=>[(0,.y 6 (l.map AL.h) false),(1,.fn (.func g) a b),(7,AA l.length),(8,AA k)]) (λ_=>h) (λk m=>k<=l.length/\n<=m/\BM p l.length 0=BM p l.length k) (λk=>l.length-k) 0 ?_ ?_ AC ?_;simp;simp[look];rintro k m ⟨hk,e,d⟩;rw[BM.eq_def _ _ k]at d;by_cases c:k<l.length;have j:=wS k mq;have H:=hp k c;simp only[qr,qB,qI]at H;simp[go_sem,c,qR];refine qY (by simpa[qR]using H) ?_;by_cases h0:p k=true;simp[go_sem,h0];exact Ar f rfl (by rw[d];simp[c,h0]);simp[go_sem,h0,j,-Int.natCast_add];exact⟨k+1,by omega,⟨by omega,e,by rw[d];simp[c,h0]⟩,Or⟩;simp[go_sem,c];exact Ar f rfl (by rw[d];simp[c])
theorem km(l:List CG)(hl:l.length<=1048576)(g:FuncId)(a b:List SV)(p:Nat->Bool)(hp:∀(i:Nat)(h:i<l.length),PC g (a++[CG.h l[i]]++b) (.bool (p i))):
 PC 310 [.y 3 (l.map CG.h) false,.fn (.func g) a b] (AA (BM p l.length 0)):=by
 intro h n;refine gq func310 rfl λf=>?_;simp[go_sem];refine BC 1 (α:=Nat) (λk=>[(0,.y 3 (l.map CG.h) false),(1,.fn (.func g) a b),(7,AA l.length),(8,AA k)]) (λ_=>h) (λk m=>k<=l.length/\n<=m/\BM p l.length 0=BM p l.length k) (λk=>l.length-k) 0 ?_ ?_ AC ?_;simp;simp[look];rintro k m ⟨hk,e,d⟩;rw[BM.eq_def _ _ k]at d;by_cases c:k<l.length;have j:=wS k mq;have H:=hp k c;simp only[qr,qB,qI]at H;simp[go_sem,c,CG.h];refine qY (by simpa[CG.h]using H) ?_;by_cases h0:p k=true;simp[go_sem,h0];exact Ar f rfl (by rw[d];simp[c,h0]);simp[go_sem,h0,j,-Int.natCast_add];exact⟨k+1,by omega,⟨by omega,e,by rw[d];simp[c,h0]⟩,Or⟩;simp[go_sem,c];exact Ar f rfl (by rw[d];simp[c])
theorem kn(l:List Int)(hl:l.length<=1048576)(g:FuncId)(a b:List SV)(p:Nat->Bool)(hp:∀(i:Nat)(h:i<l.length),PC g (a++[Jf l[i]]++b) (.bool (p i))):
 PC 319 [.y 1 (l.map Jf) false,.fn (.func g) a b] (AA (BM p l.length 0)):=by
 intro h n;refine gq func319 rfl λf=>?_;simp[go_sem];refine BC 1 (α:=Nat) (λk=>[(0,.y 1 (l.map Jf) false),(1,.fn (.func g) a b),(7,AA l.length),(8,AA k)]) (λ_=>h) (λk m=>k<=l.length/\n<=m/\BM p l.length 0=BM p l.length k) (λk=>l.length-k) 0 ?_ ?_ AC ?_;simp;simp[look];rintro k m ⟨hk,e,d⟩;rw[BM.eq_def _ _ k]at d;by_cases c:k<l.length;have j:=wS k mq;have H:=hp k c;simp only[qr,qB,qI]at H;simp[go_sem,c,Jf];refine qY (by simpa[Jf]using H) ?_;by_cases h0:p k=true;simp[go_sem,h0];exact Ar f rfl (by rw[d];simp[c,h0]);simp[go_sem,h0,j,-Int.natCast_add];exact⟨k+1,by omega,⟨by omega,e,by rw[d];simp[c,h0]⟩,Or⟩;simp[go_sem,c];exact Ar f rfl (by rw[d];simp[c])
theorem kL(l:List AR)(c:l.length<=1048576)(g:FuncId)(a b:List SV)(p:Nat->Bool)(hp:∀(i:Nat)(h:i<l.length),PC g (a++[AR.h l[i]]++b) (.bool (p i))):
 PC 193 [.y 6 (l.map AR.h) false,.fn (.func g) a b] (.bool (MQ p l.length)):=by
 intro h n;refine gq func193 rfl λd=>?_;simp[go_sem];refine(kW l c g a b p hp).use ?_;simp[go_sem];exact Ar d rfl rfl
theorem ke(l:List CG)(c:l.length<=1048576)(g:FuncId)(a b:List SV)(p:Nat->Bool)(hp:∀(i:Nat)(h:i<l.length),PC g (a++[CG.h l[i]]++b) (.bool (p i))):
 PC 283 [.y 3 (l.map CG.h) false,.fn (.func g) a b] (.bool (MQ p l.length)):=by
 intro h n;refine gq func283 rfl λd=>?_;simp[go_sem];refine(km l c g a b p hp).use ?_;simp[go_sem];exact Ar d rfl rfl
theorem kj(l:List Int)(c:l.length<=1048576)(g:FuncId)(a b:List SV)(p:Nat->Bool)(hp:∀(i:Nat)(h:i<l.length),PC g (a++[Jf l[i]]++b) (.bool (p i))):
 PC 307 [.y 1 (l.map Jf) false,.fn (.func g) a b] (.bool (MQ p l.length)):=by
 intro h n;refine gq func307 rfl λd=>?_;simp[go_sem];refine(kn l c g a b p hp).use ?_;simp[go_sem];exact Ar d rfl rfl
abbrev SP(E:BZ)(N:Nat)(c:Code)(Q:CT)(sa:SA)(h:Hp)(n:Nat):Prop:=GU E prog N c Q sa h n
section
variable{E:BZ}{N:Nat}{a b:Code}{Q:CT}{sa:SA}{h:Hp}{n:Nat}
theorem AK(H:LI E prog N a Q sa h n):SP E N a Q sa h n:=FA follows _ _ _ _ _ (by rw[<-E5];exact H)
theorem LJ(sb:SA)(d:LI E prog N a (Dh (λc h' n'=>(∀p∈sb,look c p.1=p.2)/\h'=h/\n'=n) Q) sa h n)(e:SP E N b Q sb h n):SP E N (.seq a b) Q sa h n:=
 I9 (Gd (AK d) (Fm λc h' n' ⟨h1,h2,f⟩=>by subst h2;subst f;exact ST e h1))
theorem DH{α:Type}(k:Nat)(fr:α->SA)(hp:α->Hp)(I:α->Nat->Prop)
 (d:LI E prog N a (Dh (λc h' n'=>∃x,I x n'/\(∀p∈fr x,Fz h' (hp x) k (look c p.1) p.2)/\(∀o y,hp x o=some y->h' o=some y)) Q) sa h n)
 (e:∀x m,I x m->SP E N b Q (fr x) (hp x) m):SP E N (.seq a b) Q sa h n:=
 I9 (Gd (AK d) (Fm λ_c _h' n' ⟨x,hI,h1,h2⟩=>PW k h2 (IO _) h1 (e x n' hI)))
theorem AV{α:Type}(k:Nat)(fr:α->SA)(hp:α->Hp)(I:α->Nat->Prop)
 (d:SP E N a (Dh (λc h' n'=>∃x,I x n'/\(∀p∈fr x,Fz h' (hp x) k (look c p.1) p.2)/\(∀o y,hp x o=some y->h' o=some y)) Q) sa h n)
 (e:∀x m,I x m->SP E N b Q (fr x) (hp x) m):SP E N (.seq a b) Q sa h n:=
 I9 (Gd d (Fm λ_c _h' n' ⟨x,hI,h1,h2⟩=>PW k h2 (IO _) h1 (e x n' hI)))
theorem Bc(k:Nat)(fr:SA)(hp:Hp)(I:Nat->Prop)
 (d:LI E prog N a (Dh (λc h' n'=>∃_:Unit,I n'/\(∀p∈fr,Fz h' hp k (look c p.1) p.2)/\(∀o y,hp o=some y->h' o=some y)) Q) sa h n)
 (e:∀m,I m->SP E N b Q fr hp m):SP E N (.seq a b) Q sa h n:=
 DH k (α:=Unit) (λ_=>fr) (λ_=>hp) (λ_=>I) d λ_=>e
theorem CH(k:Nat)(fr:SA)(hp:Hp)(I:Nat->Prop)
 (d:SP E N a (Dh (λc h' n'=>∃_:Unit,I n'/\(∀p∈fr,Fz h' hp k (look c p.1) p.2)/\(∀o y,hp o=some y->h' o=some y)) Q) sa h n)
 (e:∀m,I m->SP E N b Q fr hp m):SP E N (.seq a b) Q sa h n:=
 AV k (α:=Unit) (λ_=>fr) (λ_=>hp) (λ_=>I) d λ_=>e
theorem As(k:Nat)(fr:SA)(hp:Hp)(q:Nat)
 (d:LI E prog N a (Dh (λc h' n'=>∃_:Unit,q<=n'/\(∀p∈fr,Fz h' hp k (look c p.1) p.2)/\(∀o y,hp o=some y->h' o=some y)) Q) sa h n)
 (e:∀m,q<=m->SP E N b Q fr hp m):SP E N (.seq a b) Q sa h n:=Bc k fr hp (q ≤ ·) d e
theorem LL(k:Nat)(fr:SA)(hp:Hp)(q:Nat)
 (d:SP E N a (Dh (λc h' n'=>∃_:Unit,q<=n'/\(∀p∈fr,Fz h' hp k (look c p.1) p.2)/\(∀o y,hp o=some y->h' o=some y)) Q) sa h n)
 (e:∀m,q<=m->SP E N b Q fr hp m):SP E N (.seq a b) Q sa h n:=CH k fr hp (q ≤ ·) d e
theorem Al(k:Nat)(fr:SA)(hp:Hp)(q:Nat)
 (d:LI E prog N a (Dh (λc h' n'=>∃_:Unit,q=n'/\(∀p∈fr,Fz h' hp k (look c p.1) p.2)/\(∀o y,hp o=some y->h' o=some y)) Q) sa h n)
 (e:∀m,q=m->SP E N b Q fr hp m):SP E N (.seq a b) Q sa h n:=Bc k fr hp (q = ·) d e
theorem jh(k:Nat)(fr:SA)(hp:Hp)(q:Nat)
 (d:SP E N a (Dh (λc h' n'=>∃_:Unit,q=n'/\(∀p∈fr,Fz h' hp k (look c p.1) p.2)/\(∀o y,hp o=some y->h' o=some y)) Q) sa h n)
 (e:∀m,q=m->SP E N b Q fr hp m):SP E N (.seq a b) Q sa h n:=CH k fr hp (q = ·) d e
theorem AP{id:Nat}(H:SP E N a (FH id Q) sa h n):SP E N (.block id a) Q sa h n:=LM H
theorem LK(H:SP E N a (Dh (SP E N b Q) Q) sa h n):SP E N (.seq a b) Q sa h n:=I9 H
theorem goS{f:FuncId}{fn:Func}{code:Code}{args:List SV}{K:SV->Hp->Nat->Prop}(a:prog.funcs[f]? = some fn)(hb:fn.body=some code)
 (c:(fn.name != "runtime.NumGoroutine")=true) (hd:Code.dok fn.ntmps code=true) (b:args.length<=fn.ntmps)
 (H:Hw h n->SP (E.call false 0) fn.ntmps code (OT prog fn n K) (D7 0 args) h n):Ab E prog f args h n K:=
 Oa a hb c hd b λ_ d=>H d
theorem FF{f:FuncId}{fn:Func}{code:Code}{args:List SV}{K:SV->Hp->Nat->Prop}(a:prog.funcs[f]? = some fn)(hb:fn.body=some code)
 (H:Hw h n->SP (E.call false 0) fn.ntmps code (OT prog fn n K) (D7 0 args) h n)
 (c:(fn.name != "runtime.NumGoroutine")=true:=by kernel_rfl) (hd:Code.dok fn.ntmps code=true:=by kernel_rfl) (b:args.length<=fn.ntmps:=by simp[go_sem]):Ab E prog f args h n K:=
 goS a hb c hd b H
theorem Aq{x:Code}{α:Type}(k:Nat)(fr:α->SA)(hp:α->Hp)(I:α->Nat->Prop)(μ:α->Nat)(a0:α)(hI:I a0 n)
 (b:∀p∈fr a0,Fz h (hp a0) k (look sa p.1) p.2) (c:∀o y,hp a0 o=some y->h o=some y)
 (d:∀a n,I a n->SP E N x (Dh (λe h' n'=>∃a',μ a'<μ a/\I a' n'/\(∀p∈fr a',Fz h' (hp a') k (look e p.1) p.2)/\(∀o y,hp a' o=some y->h' o=some y)) Q) (fr a) (hp a) n):
 SP E N (.loop x) Q sa h n:=by
 refine M3 (μ a0) (λm sa h n=>∃a,m=μ a/\I a n/\(∀p∈fr a,Fz h (hp a) k (look sa p.1) p.2)/\(∀o y,hp a o=some y->h o=some y)) ⟨a0,rfl,hI,b,c⟩ ?_;rintro m sa h n ⟨a,rfl,hI,b,c⟩;refine PW k c (IO _) b (Gd (d a n hI) ?_);refine Fm λe h' n' ⟨a',h1,h2,f,g⟩=>⟨μ a',h1,a',rfl,h2,f,g⟩
end
@[go_sem] theorem ZA(id:Nat)(Q:CT):FH id Q .normal=Q .normal:=rfl
@[go_sem] theorem cQ(id:Nat)(Q:CT):FH id Q .ret=Q .ret:=rfl
@[go_sem] theorem ao(id i:Nat)(Q:CT)(sa:SA)(h:Hp)(n:Nat):FH id Q (.exit i) sa h n=if i=id then Q .normal sa h n else Q (.exit i) sa h n:=rfl
def Jz(p:Nat->Bool):Nat->Bool
 | 0=>true
 | n+1=>Jz p n&&p n
theorem J0{p:Nat->Bool}{k n:Nat}(hk:k<n)(h:p k=false):Jz p n=false:=by
 induction n with
 | zero=>omega
 | succ n ih=>
  rw[Jz];by_cases e:k=n;subst e;simp[h];rw[ih mq];rfl
def P5(d:Int):Int:=IntKind.u8.wrap (BitVec.ofInt 8 d ||| BitVec.ofInt 8 32).toNat
def El(first:Bool)(d:Int):Bool:=decide (97<=P5 d/\P5 d<=122)||(!first&&decide ((48<=d/\d<=57)\/d=45\/d=95))
def Fv(s:ByteArray):Bool:=decide ((1:Int)<=s.size/\(s.size:Int)<=40)&&Jz (λi=>El (decide (i=0)) (BN s i)) s.size
theorem cW(s:ByteArray):PC 198 [.str s] (.bool (Fv s)):=by
 intro h n;refine gq func198 rfl λf=>?_;by_cases q:(s.size:Int)<1;simp[go_sem,q];exact Ar f rfl (by simp[Fv];omega);by_cases t:(40:Int)<s.size;simp[go_sem,q,t];exact Ar f rfl (by simp[Fv];omega);have w:Fv s=Jz (λi=>El (decide (i=0)) (BN s i)) s.size:=by
  have:decide ((1:Int)<=s.size/\(s.size:Int)<=40)=true:=by simp;omega
  rw[Fv,this];rfl
 rw[w];simp[go_sem,q,t];refine Aq 1 (α:=Nat) (λk=>[(0,.str s),(16,AA s.size),(17,AA k)]) (λ_=>h) (λk m=>k<=s.size/\n<=m/\Jz (λi=>El (decide (i=0)) (BN s i)) k=true) (λk=>s.size-k) 0 ?_ ?_ AC ?_;simp[Jz];simp[look];rintro k m ⟨hk,hnm,u⟩;by_cases a:k<s.size
 . have A:=wS k mq;obtain⟨g1,e⟩:=Fd a;have no:El (decide (k=0)) (BN s k)=false->Jz (λi=>El (decide (i=0)) (BN s i)) s.size=false:=λhb=>J0 a hb;have g:El (decide (k=0)) (BN s k)=true->Jz (λi=>El (decide (i=0)) (BN s i)) (k+1)=true:=λhb=>by rw[Jz,u,hb];rfl
   refine LJ [(0,.str s),(16,AA s.size),(17,AA k),(18,.bool true)] (by simp[go_sem,a]) ?_;refine LJ [(0,.str s),(16,AA s.size),(17,AA k)] ms ?_;refine AV 1 (α:=Unit) (λ_=>[(0,.str s),(16,AA s.size),(17,AA k)]) (λ_=>h) (λ_ m'=>m'=m/\El (decide (k=0)) (BN s k)=true) (AP ?_) (λ_ m' hI=>AK ?_)
   rotate_left
   simp[go_sem,A,-Int.natCast_add];exact⟨k+1,by omega,⟨by omega,by omega,g hI.2⟩,Or⟩;refine LJ [(0,.str s),(16,AA s.size),(17,AA k),(3,AA k)] ms ?_;refine LJ [(0,.str s),(16,AA s.size),(17,AA k),(3,AA k),(4,.int .u8 (P5 (BN s k)))] (by simp[go_sem,g1,<-e];rfl) ?_;generalize y:P5 (BN s k)=c;generalize hd:BN s k=d at e;refine LJ [(0,.str s),(16,AA s.size),(17,AA k),(3,AA k),(5,.bool (decide (97<=c/\c<=122)))] (by by_cases z:97<=c<;>simp[go_sem,z]) ?_;refine LJ [(0,.str s),(16,AA s.size),(17,AA k),(3,AA k),(5,.bool (decide (97<=c/\c<=122))),(6,.bool (decide ((48<=d/\d<=57)\/d=45\/d=95)))] ?_ ?_;by_cases l:48<=d;by_cases r:d<=57;simp[go_sem,g1,<-e,l,r];have o:¬d=45:=by omega
   by_cases p:d=95<;>simp[go_sem,g1,<-e,l,r,o,p];have p:¬d=95:=by omega
   by_cases o:d=45<;>simp[go_sem,g1,<-e,l,o,p];generalize v:decide (97<=c/\c<=122)=L;generalize x:decide ((48<=d/\d<=57)\/d=45\/d=95)=O;have b:El (decide (k=0)) (BN s k)=(L||(!decide (k=0)&&O)):=by rw[El,y,hd,v,x]
   rw[b]at no;rw[hd]at b;rw[b];refine AK ?_;by_cases j:k=0
   . cases L<;>cases O<;>simp[j]at no ⊢ <;> simp[go_sem]
     all_goals exact Ar f rfl (by rw[no])
   . cases L<;>cases O<;>simp[j]at no ⊢ <;> simp[go_sem,j]
     all_goals exact Ar f rfl (by rw[no])
 . refine AK ?_;simp[go_sem,a];have:k=s.size:=by omega
   subst this;exact Ar f rfl (by rw[u])
theorem kT(k:Int):PC 246 [AA k] (AA (if k=1 then 2 else 1)):=by
 intro h n;refine gq func246 rfl λa=>?_;by_cases h1:k=1<;>simp[go_sem,h1]<;>exact Ar a rfl rfl
theorem ka(s:Ao)(id:Int):PC 281 [s.h,.q [AA id]] (.bool (decide (s.id=id))):=by
 intro h n;refine gq func281 rfl λa=>?_;simp[go_sem,Ao.h,AE];exact Bt a (Aa a (IO _) AC) (by by_cases e:s.id=id<;>simp[e]) rfl
def Ux(a b:ByteArray):Bool:=a.toList==b.toList
theorem kZ(s:Ao)(a:Int)(name:ByteArray):PC 280 [s.h,.q [AA a],.q [.str name]] (.bool (decide (s.x=a)&&Ux s.name name)):=by
 intro h n;refine gq func280 rfl λb=>?_;by_cases e:s.x=a<;>simp[go_sem,Ao.h,AE,e]
 all_goals exact Bt b (Aa b (IO _) AC) (by simp[Ux]) rfl
def Ei(l:List Ao)(id:Int):Int:=BM (λi=>match l[i]? with|some s=>decide (s.id=id)|none=>false) l.length 0
theorem kU(l:List Ao)(id:Int)(c:l.length<=1048576):PC 247 [AT l,AA id] (.tup [AA (if 0<=Ei l id then Ei l id else 0),.bool (decide (0<=Ei l id))]):=by
 intro h n;refine gq func247 rfl λb=>?_;simp[go_sem];have H:=fv l c 281 [] [.q [AA id]] (λi=>match l[i]? with|some s=>decide (s.id=id)|none=>false) (λi hi=>by simpa[hi]using ka l[i] id);refine H.lend 3 rfl ?_ ?_;simp[AU,Fz,h_];by_cases e:0<=Ei l id;have a:¬Ei l id<0:=by omega
 simp only[Ei]at e a;simp[go_sem,e,a];exact Bt b (Aa b (IO _) AC) (by simp[Ei,e]) rfl;have a:Ei l id<0:=by omega
 simp only[Ei]at e a;simp[go_sem,e,a];exact Bt b (Aa b (IO _) AC) (by simp[Ei,e]) rfl
def Cl(l:List Ao)(kind:Int)(name:ByteArray):Int:=BM (λi=>match l[i]? with|some s=>decide (s.x=kind)&&Ux s.name name|none=>false) l.length 0
theorem kS(l:List Ao)(c:Int)(name:ByteArray)(g:l.length<=1048576):PC 245 [AT l,AA c,.str name] (.tup [AA (if 0<=Cl l c name then Cl l c name else 0),.bool (decide (0<=Cl l c name))]):=by
 intro h n;refine gq func245 rfl λf=>?_;simp[go_sem];have H:=fv l g 280 [] [.q [AA c],.q [.str name]] (λi=>match l[i]? with|some s=>decide (s.x=c)&&Ux s.name name|none=>false) (λi hi=>by simpa[hi]using kZ l[i] c name);have hh:∀a b:Option A9,∀o x,h o=some x->h_ (h_ h n a) (n+1) b o=some x:=λa b=>Aa f (vZ n) (Aa f (IO _) AC);refine H.lend 3 rfl ?_ ?_;simp[AU,Fz,h_];by_cases e:0<=Cl l c name;have d:¬Cl l c name<0:=by omega
 simp only[Cl]at e d;simp[go_sem,e,d];exact Bt f (hh _ _) (by simp[Cl,e]) rfl;have d:Cl l c name<0:=by omega
 simp only[Cl]at e d;simp[go_sem,e,d];exact Bt f (hh _ _) (by simp[Cl,e]) rfl
theorem Vo(l:List Ao)(id:Int)(h:0<=Ei l id):∃i s,Ei l id=(i:Nat)/\l[i]? = some s:=by
 rcases GM (λi=>match l[i]? with|some s=>decide (s.id=id)|none=>false) l.length 0 with e|⟨i,_,h2,a,_⟩
 have:Ei l id = -1:=e;omega;exact⟨i,l[i],a,by simp[h2]⟩
def R8(l:List Ao)(kind id:Int):Bool:=decide (0<=Ei l id)&&(match l[(Ei l id).toNat]? with|some s=>decide (s.x=kind)|none=>false)
theorem kI(l:List Ao)(a id:Int)(c:l.length<=1048576):PC 187 [AT l,AA a,AA id] (.bool (R8 l a id)):=by
 intro h n;refine gq func187 rfl λb=>?_;simp[go_sem];refine(kU l id c).use ?_;by_cases e:0<=Ei l id;obtain⟨i,s,h1,h2⟩:=Vo l id e;simp[go_sem,h1,h2,Ao.h];exact Ar b rfl (by simp[R8,h1,h2];by_cases hk:s.x=a<;>simp[hk]);simp[go_sem,e];exact Ar b rfl (by simp[R8,e])
def JX(b:Int):Bool:=decide (32<=b/\b<=126)
def GA(s:ByteArray):Bool:=!decide (s.size=0)&&decide ((s.size:Int)<=40) && !decide (BN s 0=32) && !decide (BN s (s.size-1)=32)&&Jz (λi=>JX (BN s i)) s.size
theorem kR(s:ByteArray):PC 244 [.str s] (.bool (GA s)):=by
 intro h n;refine gq func244 rfl λd=>?_;by_cases b:s.size=0;simp[go_sem,b];exact Ar d rfl (by simp[GA,b]);by_cases e:(40:Int)<s.size;simp[go_sem,b,e];exact Ar d rfl (by simp[GA,b];omega);have j:(s.size:Int)<=40:=by omega
 obtain⟨a1,a2⟩:=Fd (s:=s) (i:=0) mq;obtain⟨b1,q⟩:=Fd (s:=s) (i:=s.size-1) mq;have u:IntKind.i64.wrap ((s.size:Int)-1)=((s.size-1:Nat):Int):=by rw[EU]<;>omega
 have c:0<s.size:=by omega
 by_cases f:BN s 0=32;simp[go_sem,b,c,e,<-a2,f];exact Ar d rfl (by simp[GA,b,f]);by_cases g:BN s (s.size-1)=32;simp[go_sem,b,c,e,<-a2,f,b1,<-q,g,u];exact Ar d rfl (by simp[GA,b,g]);have v:GA s=Jz (λi=>JX (BN s i)) s.size:=by simp[GA,b,j,f,g]
 rw[v];simp[go_sem,b,c,e,<-a2,f,b1,<-q,g,u];refine BC 1 (α:=Nat) (λk=>[(0,.str s),(26,AA s.size),(27,AA k)]) (λ_=>h) (λk m=>k<=s.size/\n<=m/\Jz (λi=>JX (BN s i)) k=true) (λk=>s.size-k) 0 ?_ ?_ AC ?_;simp[Jz];simp[look];rintro k m ⟨hk,o,r⟩;by_cases a:k<s.size;have w:=wS k mq;obtain⟨g1,l⟩:=Fd a;by_cases p:BN s k<32;simp[go_sem,a,<-l,p];exact Ar d rfl (by rw[J0 a (by simp[JX];omega)]);by_cases t:126<BN s k;simp[go_sem,a,<-l,p,t];exact Ar d rfl (by rw[J0 a (by simp[JX];omega)]);simp[go_sem,a,<-l,p,t,w,-Int.natCast_add];exact⟨k+1,by omega,⟨by omega,o,by rw[Jz,r];simp[JX];omega⟩,Or⟩;simp[go_sem,a];have:k=s.size:=by omega
 subst this;exact Ar d rfl (by rw[r])
theorem Nj(h:Hp)(j:Nat)(x:Option A9):h_ h j x j=x:=by simp[h_]
theorem Ad(h:Hp)(j:Nat)(x y:Option A9):h_ (h_ h j x) j y=h_ h j y:=by funext k;simp only[h_];split<;>rfl
def BZ.inRound(E:BZ)(l:Nat):BZ:={ ro:=some l,mks:=false,base:=0,inv:=E.inv,ext:=E.ext }
def IW:List (Tmp×SV)->SA->SA
 | [],sa=>sa
 | p::r,sa=>IW r (p::sa)
section
variable{P:Program}{E:BZ}{N:Nat}
theorem FR.zip{c:Cx}:∀{ps:List Tmp} {args:List SV} {vs:List Value} {sa:SA} {b:Array Value},(∀p∈ps,p<N)->AU (V c) args vs->ps.length=args.length->FR E N sa c { tmps:=b,defers:=[] }->
 FR E N (IW (ps.zip args) sa) c { tmps:=(ps.zip vs).foldl (λt p=>t.setIfInBounds p.1 p.2) b,defers:=[] }
 | [],_,_,_,_,_,_,_,F=>F
 | p::ps,[],_,_,_,_,_,hl,_=>by simp at hl
 | p::ps,a::args,[],_,_,_,h,_,_=>h.elim
 | p::ps,a::args,v::vs,sa,b,hp,h,hl,F=>by
  have:=F.put (dst:=some p) (λd e=>by cases e;exact hp _ mr) h.1;exact FR.zip (ps:=ps) (λq f=>hp q (by simp[f])) h.2 (by simpa using hl) this
theorem Ix{h:Hp}{c:Cx}{o l:Nat}{r:Loop}(R:CB h c)(a:h o=some (.loop r))(d:c.ρ o=some (l,0)):c.w.heap[l]? = some (.loop r):=by
 obtain⟨b,h1,h2⟩:=R.obj o _ a;rw[d]at h1;cases h1;exact h2
theorem KA{h:Hp}{c:Cx}{o l:Nat}{r:Loop}(e:Loop)(R:CB h c)(g:h o=some (.loop r))(d:c.ρ o=some (l,0)):
 CB (h_ h o (some (.loop e))) { c with w:=c.w.putObj l (.loop e) }/\DV c { c with w:=c.w.putObj l (.loop e) }:=by
 have f:=Ix R g d;have b:=(qh.1 f).1;refine R.write g d mr (λb' a=>World.putObj_heap_other a) ?_ rfl rfl λX=>⟨l,d,World.putObj_heap_same b⟩
 simp[rm,f]
def Hl(fn:FuncId)(tm:Array Value)(ps:Array Tmp)(assign body:Code)(D:Nat)(st:LoopState)(pe:Option Code):Loop:=
 { state:=st,pending:=pe,fn:=fn,tmps:=tm,params:=ps,assign:=assign,body:=body,defers:=D }
def Li(n:Nat)(R:LoopState->Option Code->Loop)(Q1:SV->Hp->Nat->Prop):CT:=λe _ h2 m2=>
 h2 n=some (.loop (R .busy none))/\match e with
  | .normal=>Q1 (.bool true) (h_ h2 n (some (.loop (R .ready none)))) m2
  | .ret=>Q1 (.bool false) (h_ h2 n (some (.loop (R .done (some .ret))))) m2
  | .exit id=>Q1 (.bool false) (h_ h2 n (some (.loop (R .done (some (.exit id)))))) m2
  | _=>False
def Lj(P:Program)(E:BZ)(N n:Nat)(R:LoopState->Option Code->Loop)(assign body:Code)(Q1:SV->Hp->Nat->Prop)(sa:SA)(h:Hp)(m:Nat):Prop:=
 GU E P N assign (λe sa1 h1 m1=>e=.normal/\h1 n=some (.loop (R .ready none))/\GU E P N body (Li n R Q1) sa1 (h_ h1 n (some (.loop (R .busy none)))) m1) sa h m
def Xa(n:Nat)(R:LoopState->Option Code->Loop)(Q:CT)(sa:SA):SV->Hp->Nat->Prop:=λ_ h' n'=>
 ∃st pe,h' n=some (.loop (R st pe))/\st≠.busy/\match pe with
  | none=>Q .normal sa (h_ h' n none) n'
  | some .ret=>Q .ret sa (h_ h' n none) n'
  | some (.exit id)=>Q (.exit id) sa (h_ h' n none) n'
  | _=>False
theorem Rm{E1:BZ}{c1:Cx}{l n:Nat}{fn:FuncId}{d:Array Value}{ps:Array Tmp}{assign body:Code}{D:Nat}{sa:SA}(q:∀c',E1.inv c'->DV c1 c')(hρ:c1.ρ n=some (l,0))
 (L:∀p∈ps.toList,p<N) (G:Code.dok N assign=true) (J:Code.dok N body=true) (M:d.size=N) (hv:∀t,V c1 (look sa t) (d.getD t undef))
 {args:List SV} {O:Hp} {m:Nat} {B:SV->Hp->Nat->Prop} (hn:O n=some (.loop (Hl fn d ps assign body D .ready none))) (hl:args.length=ps.size)
 (H:Lj P (E1.inRound l) N n (Hl fn d ps assign body D) assign body B (IW (ps.toList.zip args) sa) O m):Fb E1 P l args O m B:=by
 intro c vs I R F A;have T:=q c I;have z:c.ρ n=some (l,0):=T.ρ _ _ hρ;have hlen:=A.length;refine⟨_,_,_,_,run_yield (Ix R hn z) (by simp[Hl];omega),roundIn_of_wpIn (F:=Fence.wide) trivial ?_⟩;have F0:FR (E1.inRound l) N sa c { tmps:=d,defers:=[] }:=⟨M,⟨qj _,λ_=>rfl,by simp,by simp⟩,λt=>wK T (hv t)⟩
 have FZ:=F0.zip (ps:=ps.toList) L A (by simp;omega);have E:(ps.zip vs.toArray).foldl (λtmps x=>tmps.setIfInBounds x.1 x.2) d=(ps.toList.zip vs).foldl (λt p=>t.setIfInBounds p.1 p.2) d:=by
  rw[<-Array.foldl_toList,Array.toList_zip]
 have X:=H G c _ I R F FZ;rw[<-E]at X;refine wpIn_mono X ?_;rintro e a2 w2 ⟨sa2,h2,n2,o,⟨rfl,r,hB⟩,rfl,Q,F2,A2,i⟩;have f:o.ρ n=some (l,0):=i.ext.ρ _ _ z;obtain⟨R3,U⟩:=KA (Hl fn d ps assign body D .busy none) Q r f;refine⟨_,run_beginRound (Ix Q r f) rfl,?_⟩;have k:DV c { o with w:=o.w.putObj l (.loop (Hl fn d ps assign body D .busy none)) }:=i.ext.trans U;refine wpIn_mono (hB J { o with w:=o.w.putObj l (.loop (Hl fn d ps assign body D .busy none)) } a2 (E1.ext k I) R3 F2 (A2.ext U)) ?_;rintro e a4 w4 ⟨sa4,h4,Z,W,⟨s,g⟩,rfl,S,F4,A4,C⟩;have y:W.ρ n=some (l,0):=C.ext.ρ _ _ f;have K:=Ix S s y;have fin:∀(a:Option Code)(b:Bool)(st:LoopState),b=a.isNone->st=(if a.isNone then .ready else .done)->B (.bool b) (h_ h4 n (some (.loop (Hl fn d ps assign body D st a)))) Z->
  ∃v w',(Instr.endRound l a).run P W.w=.ok v w'/\∃u v' h' n' c',Ending.returned v=.returned u/\B v' h' n'/\c'.w=w'/\V c' v' u/\CB h' c'/\Fr n' c'/\Fo m c n' c':=by
  rintro a b st rfl rfl g;obtain⟨R5,X5⟩:=KA (Hl fn d ps assign body D (if a.isNone then .ready else .done) a) S s y;refine⟨_,_,run_endRound a K,.bool a.isNone,.bool a.isNone,_,Z,_,rfl,g,rfl,by simp[V],R5,F4,⟨k.trans (C.ext.trans X5),qC i.le C.le,λj Y=>?_⟩⟩;exact(C.same j (wC Y i.le)).trans (i.same j Y)
 cases e with
 | normal=>exact fin none true .ready rfl rfl g
 | ret=>exact fin (some .ret) false .done rfl rfl g
 | exit id=>exact fin (some (.exit id)) false .done rfl rfl g
 | _=>exact g.elim
def Cx.begin(c:Cx)(n:Nat)(r:Loop):Cx:=Cx.alloc { c with w:=c.w.alloc (.deferred (some [])) } n (.loop r)
theorem NJ(c:Cx):DV c { c with w:=c.w.alloc (.deferred (some [])) }:=by
 refine⟨λ_ _ e=>e,by simp,λb hb d=>⟨d,?_⟩,λb=>?_,rfl,rfl,⟨rfl,IO _⟩⟩;simp[Bu,vQ,wF hb];unfold rm;rcases vq b c.w.heap.size with a|a;simp[Bu,vQ,wF a];simp[vt a]
theorem SZ{h:Hp}{c:Cx}(R:CB h c):CB h { c with w:=c.w.alloc (.deferred (some [])) }:=by
 refine⟨λo x e=>(R.obj o x e).mono (NJ c) λb hb=>?_,R.inj2,R.own2⟩;have h2:=(R.obj o x e).hold_lt hb;simp[Bu,vQ,wF h2]
theorem Ie{g:Operand}{ps:Array Tmp}{assign body:Code}{Q:CT}{sa:SA}{h:Hp}{n:Nat}{f:FuncId}{ys:List SV}(y:Nat->SV)(hy0:∀(c:Cx)(l:Nat),c.ρ n=some (l,0)->V c (y l) (.func (.yield l) #[] #[]))(hro:E.ro=none)(hmk:E.mks=true)(hg:EV sa g=.fn (.func f) [] ys)
 (H:∀(E1:BZ)(l:Nat)(R:LoopState->Option Code->Loop),(∀c,E1.inv c->E.inv c/\c.ρ n=some (l,0))->
   (∀args X m Y,X n=some (.loop (R .ready none))->args.length=ps.size->Lj P (E1.inRound l) N n R assign body Y (IW (ps.toList.zip args) sa) X m->Fb E1 P l args X m Y)->
   Ab E1 P f (y l::ys) (h_ h n (some (.loop (R .ready none)))) (n+1) (Xa n R Q sa)):
 GU E P N (.rangeFunc g ps assign body) Q sa h n:=by
 intro hd c a I R F A;simp only[Code.dok,qg,qG,decide_eq_true_eq]at hd;obtain⟨hps,hda,hdb⟩:=hd;have hfc:E.fc=Fence.wide:=by simp only[BZ.fc,hro,Fence.wide]
 rw[hfc];refine wpIn_rangeFunc λfn _=>?_;have O:c.ρ n=none:=F n (IO _);obtain⟨r0,K⟩:∃r0,r0=Hl fn a.tmps ps assign body c.w.heap.size .ready none:=⟨_,rfl⟩
 have R1:CB (h_ h n (some (.loop r0))) (c.begin n r0):=(SZ R).alloc O ⟨c.w.heap.size+1,by simp[Cx.alloc],by have:=World.alloc_heap_new (c.w.alloc (.deferred (some []))) (.loop r0);rwa [World.size_alloc]at this⟩;have T:DV c (c.begin n r0):=(NJ c).trans (Cx.zf _ n (.loop r0) O);have q:(c.begin n r0).ρ n=some (c.w.heap.size+1,0):=by simp[Cx.begin,Cx.alloc]
 have F1:Fr (n+1) (c.begin n r0):=λj hj=>by
  have:j≠n:=by omega
  simp[Cx.begin,Cx.alloc,this];exact F j mq
 have L:(c.begin n r0).w=(c.w.alloc (.deferred (some []))).alloc (.loop r0):=rfl;have C:(c.begin n r0).w.heap[c.w.heap.size]? = some (.deferred (some [])):=by
  rw[L];simp[Bu,vQ]
 have hDo:¬(c.begin n r0).own c.w.heap.size:=by
  rintro(h1|h1);obtain⟨o,x,Z,W⟩:=(R.own2 _).1 h1;have h4:=(R.obj o x Z).hold_lt W;omega;simp at h1
 let E1:BZ:={ ro:=none,mks:=false,base:=0,inv:=λp=>E.inv p/\DV (c.begin n r0) p,ext:=λx i=>⟨E.ext x i.1,i.2.trans x⟩ }
 have b:=H E1 (c.w.heap.size+1) (Hl fn a.tmps ps assign body c.w.heap.size) (λp i=>⟨i.1,i.2.ρ _ _ q⟩) λargs X m Y hn hl hW=>
  Rm (E1:=E1) (c1:=c.begin n r0) (λp i=>i.2) q hps hda hdb A.size (λt=>wK T (A.val t)) hn hl hW
 rw[<-K]at b;have hf:=A.ev g;rw[hg,V]at hf;obtain⟨xs,yv,hfv,h1,h2⟩:=hf;simp only[VL]at h1;subst h1;have r:AU (V (c.begin n r0)) (y (c.w.heap.size+1)::ys) (.func (.yield (c.w.heap.size+1)) #[] #[]::yv):=
  ⟨hy0 _ _ q,BE.1 (VL.mono T h2)⟩
 have hcl:=b.2 (c.begin n r0) _ ⟨E.ext T I,wT _⟩ R1 F1 r;have k:=b.1;unfold K4 at k;cases s:P.funcs[f]? with
 | none=>simp[s]at k
 | some fn'=>
 simp only[s,qg,bne_iff_ne,ne_eq]at k;have hb:fn'.body≠none:=by intro e;simp[e]at k
 refine⟨c.w.heap.size+1,[Xe c.w.heap.size],(c.begin n r0).w,{ target:=.fn (.func f) yv.toArray,args:=#[.func (.yield (c.w.heap.size+1)) #[] #[]] },(c.begin n r0).w,f,
  (.func (.yield (c.w.heap.size+1)) #[] #[]::yv).toArray,(c.begin n r0).w,?_,?_,λ_ _=>trivial,?_,λe=>by simp[Fence.wide]at e,?_⟩
 rw[L,K];exact run_enterLoop_outer _ _ _ _ _;simp[resolve,Deferred.ofValue,hfv];rfl;simp[invoke,callFunc,s,k.2,hb];refine callsIn_wide.2 (hcl.mono ?_);rintro e w3 ⟨u,v,h',n',p,rfl,⟨st,S,J,hst,z⟩,rfl,hv,R',F',B⟩;have M:p.ρ n=some (c.w.heap.size+1,0):=B.ext.ρ _ _ q;obtain⟨R3,X3⟩:=KA (Hl fn a.tmps ps assign body c.w.heap.size .exhausted S) R' J M;have R4:=R3.kill n (Nj _ _ _);have X4:=X3.trans (Cx.kill_ext { p with w:=p.w.putObj (c.w.heap.size+1) (.loop (Hl fn a.tmps ps assign body c.w.heap.size .exhausted S)) } n);rw[Ad]at R4;have U:=T.trans (B.ext.trans X4);have G:=(B.ext.trans X4).keep _ (qh.1 C).1 hDo;refine⟨S,_,run_endLoop (Ix R' J M) hst,?_⟩;have mk:∀e,Q e sa (h_ h' n none) n'->ZL E N n c Q e { a with defers:=[Xe c.w.heap.size]++a.defers } (p.w.putObj (c.w.heap.size+1) (.loop (Hl fn a.tmps ps assign body c.w.heap.size .exhausted S))):=λe z=>by
  refine⟨sa,h_ h' n none,n',_,z,rfl,R4,F',⟨A.size,⟨qC A.defers.base U.size,λe=>(by rw[hmk]at e;cases e),?_,λd hd=>?_⟩,λt=>wK U (A.val t)⟩,⟨U,by have:=B.le;omega,λj hj=>?_⟩⟩;refine qU.2 ⟨λhm=>?_,A.defers.nodup⟩;obtain⟨D,_,W,e3,_⟩:=A.defers.ok _ hm;have:D=c.w.heap.size:=by simp[Xe]at W;exact W.symm
  have:=(qh.1 e3).1;omega;rcases qe.1 hd with rfl|hd;exact⟨c.w.heap.size,A.defers.base,rfl,G.2.trans C,G.1⟩;exact(A.defers.mono U).ok d hd;have:j≠n:=by omega
  have Z:(c.begin n r0).ρ j=c.ρ j:=by simp[Cx.begin,Cx.alloc,this]
  exact(B.same j mq).trans Z
 cases S with
 | none=>exact mk .normal z
 | some j=>
  cases j with
  | ret=>exact wpIn_ret (mk .ret z)
  | exit id=>exact wpIn_exit (mk (.exit id) z)
  | _=>exact z.elim
theorem HX{g:Operand}{ps:Array Tmp}{assign body:Code}{Q:CT}{sa:SA}{h:Hp}{n:Nat}{f:FuncId}{c:List SV}(b:E.ro=none)(a:E.mks=true)(hg:EV sa g=.fn (.func f) [] c)
 (H:∀(E1:BZ)(l:Nat)(R:LoopState->Option Code->Loop),
   (∀args hy m Q1,hy n=some (.loop (R .ready none))->args.length=ps.size->Lj P (E1.inRound l) N n R assign body Q1 (IW (ps.toList.zip args) sa) hy m->Fb E1 P l args hy m Q1)->
   Ab E1 P f (.fn (.yield l) [] []::c) (h_ h n (some (.loop (R .ready none)))) (n+1) (Xa n R Q sa)):
 GU E P N (.rangeFunc g ps assign body) Q sa h n:=
 Ie (λl=>.fn (.yield l) [] []) (λ_ _ _=>by simp[V,VL]) b a hg λE1 l R _ d=>H E1 l R d
theorem M4{g:Operand}{ps:Array Tmp}{assign body:Code}{Q:CT}{sa:SA}{h:Hp}{n:Nat}{f:FuncId}{k:List SV}(j:E.ro=none)(e:E.mks=true)(hg:EV sa g=.fn (.func f) [] k)
 (H:∀(E1:BZ)(l:Nat)(R:LoopState->Option Code->Loop),(∀c,E1.inv c->E.inv c)->
   (∀args a m b,a n=some (.loop (R .ready none))->args.length=ps.size->Lj P (E1.inRound l) N n R assign body b (IW (ps.toList.zip args) sa) a m->Jw E1 P n args a m b)->
   Ab E1 P f (.yl n::k) (h_ h n (some (.loop (R .ready none)))) (n+1) (Xa n R Q sa)):
 GU E P N (.rangeFunc g ps assign body) Q sa h n:=
 Ie (λ_=>.yl n) (λc l d=>by rw[V];exact⟨l,d,rfl⟩) j e hg λE1 l R hi q=>H E1 l R (λc i=>(hi c i).1) λargs a m b h1 h2 p c vs l' d I o F A=>by
  have:=(hi c I).2;rw[d]at this;cases this;exact q args a m b h1 h2 p c vs I o F A
end
theorem goM{E:BZ}{f:FuncId}{fn:Func}{code:Code}{args:List SV}{h:Hp}{n:Nat}{K:SV->Hp->Nat->Prop}(a:prog.funcs[f]? = some fn)(hb:fn.body=some code)
 (c:(fn.name != "runtime.NumGoroutine")=true) (hd:Code.dok fn.ntmps code=true) (b:args.length<=fn.ntmps)
 (H:Hw h n->∀B,LI (E.call true B) prog fn.ntmps code (OT prog fn n K) (D7 0 args) h n):Ab E prog f args h n K:=
 Jt a hb c hd b λ_ d B=>AK (H d B)
theorem Lk{E:BZ}{N n:Nat}{R:LoopState->Option Code->Loop}{assign body:Code}{f:SV->Hp->Nat->Prop}{sa:SA}{h:Hp}{m:Nat}
 (H:LI E prog N assign (λe d h1 m1=>e=.normal/\h1 n=some (.loop (R .ready none))/\LI E prog N body (Li n R f) d (h_ h1 n (some (.loop (R .busy none)))) m1) sa h m):Lj prog E N n R assign body f sa h m:=
 Gd (AK H) λ_ _ _ _ ⟨a,b,c⟩=>⟨a,b,AK c⟩
section
variable{P:Program}{E:BZ}
theorem KI(d:Nat){t e:TypeId}(a:Option Addr)(l cap:Nat)(b:P.underlying t=some (.slice e))(w:World):(Op.equalIn (d+1) t (.slice a l cap) (.slice none 0 0)).run P w=.ok a.isNone w:=by
 cases a<;>simp[Op.equalIn,AM b]
theorem L6{t e:TypeId}(a:Option Addr)(l cap:Nat)(b:P.underlying t=some (.slice e))(w:World):
 (binOp .eql t (.slice a l cap) (.slice none 0 0)).run P w=.ok (.bool a.isNone) w:=by
 have:=KI 9999 a l cap b w;simp only[binOp,Op.equal];simp[Op.maxDepth,this]
theorem BO{evs:Operand->SV}{o:Oper}{h:Hp}{n:Nat}{K:SV->Hp->Nat->Prop}{t t2:TypeId}{x:Operand}{z:Nat}{es:List SV}{full:Bool}(d:o.op=.binOp .eql t x (.const (.slice none 0 0)) t2)
 (ht:(A5 P t).isSome=true) (i:evs x=.y z es full) (h1:es=[]->K (.bool true) h n) (h2:K (.bool false) h n):FV E P evs o h n K:=by
 refine⟨by rw[d];simp,λc ev f _ R F hv=>?_⟩;have b:=hv x;obtain⟨e,ht⟩:=vW.1 ht;have ht:=A7 ht;rw[i,V]at b;have fin:∀(a:Option Addr)(l cap:Nat),ev x=.slice a l cap->K (.bool a.isNone) h n->∃u v h' n' c',(execOp ev o).run P c.w=.ok (.value u) c'.w/\V c' v u/\CB h' c'/\Fr n' c'/\Fo n c n' c'/\K v h' n':=λa l cap e hk=>
  ⟨.bool a.isNone,.bool a.isNone,h,n,c,by simp[execOp,d,e,f,HP (P:=P) (a:=.slice a l cap),L6 a l cap ht],by simp[V],R,F,wE n c,hk⟩
 rcases b with⟨g,e⟩|⟨a,cap,vs,e,_⟩
 exact fin _ _ _ e (h1 g);exact fin _ _ _ e h2
def DZ(P:Program)(t:TypeId):SV->SV->Option Bool
 | .int k a,.int k' b=>if k=k'/\(OX P t).isSome=true/\Bj P t=1/\GH P t=some false then some (a==b)else none
 | .str a,.str b=>if Dq P t=true/\Bj P t=1/\GH P t=some false then some (a.toList==b.toList)else none
 | .bool a,.bool b=>if I5 P t=true/\Bj P t=1/\GH P t=some false then some (a==b)else none
 | _,_=>none
def CK(P:Program)(cs ds:List SV):List Field->Option Bool
 | []=>some true
 | f::fs=>if f.name = "_" then none else
  match cs[f.offset]?,ds[f.offset]? with
  | some x,some y=>match DZ P f.type x y with|some true=>CK P cs ds fs|r=>r
  | _,_=>none
def Be(P:Program)(t:TypeId):List Field:=(P.fieldsOf t).toList
theorem Sf{c:Cx}{t:TypeId}{x y:SV}{u v:Value}{b:Bool}(h:DZ P t x y=some b)(f:V c x u)(g:V c y v)(d:Nat)(w:World):(Op.equalIn (d+1) t u v).run P w=.ok b w/\Bj P t=1/\GH P t=some false:=by
 unfold DZ at h;split at h
 . split at h<;>try cases h
   rename_i e;obtain⟨rfl,h1,h2,a⟩:=e;rw[Dt f,Dt g];obtain⟨i,hi⟩:=vW.1 h1;exact⟨run_equalIn_int w d t _ _ _ _ (Hv hi),h2,a⟩
 . split at h<;>try cases h
   rename_i e;obtain⟨h1,h2,a⟩:=e;rw[KT f,KT g];exact⟨run_equalIn_string w d t _ _ (by unfold Dq at h1;split at h1<;>first|assumption|cases h1),h2,a⟩
 . split at h<;>try cases h
   rename_i e;obtain⟨h1,h2,a⟩:=e;rw[HU f,HU g];exact⟨HQ d _ _ (IJ h1) w,h2,a⟩
 cases h
theorem H9{c:Cx}{j k:List SV}{vs us:List Value}(m:AU (V c) j vs)(hd:AU (V c) k us)(h1:∀x∈vs,x.oneCell'=true)(h2:∀x∈us,x.oneCell'=true)(d:Nat)(w:World):
 ∀(e:List Field)(b:Bool),CK P j k e=some b->(Op.eqFields (d+1) vs.toArray us.toArray e).run P w=.ok b w
 | [],b,h=>by simp[CK]at h;subst h;simp[Op.eqFields]
 | f :: e, b, h => by
  simp only[CK]at h;split at h<;>try cases h
  rename_i n;split at h<;>try cases h
  rename_i x y p q;obtain⟨u,o,g⟩:=m.get p;obtain⟨v,hv,i⟩:=hd.get q;obtain⟨a,hb⟩:∃a,DZ P f.type x y=some a:=by
   cases hb:DZ P f.type x y with
   | none=>simp[hb]at h
   | some a=>exact⟨a,rfl⟩
  obtain⟨hr,hs,l⟩:=Sf hb g i d w;have p1:(part f.type vs.toArray f.offset).run P w=.ok u w:=by simp[part,Ez l,o]
  have p2:(part f.type us.toArray f.offset).run P w=.ok v w:=by simp[part,Ez l,hv]
  simp only[Op.eqFields,ne_eq,n,not_false_eq_true,if_true,Sem.run_bind,p1,p2,hr,Result.andThen_ok];rw[hb]at h;cases a;simp at h;subst h;simp;simp only at h;simp only[Bool.not_true,qt,if_false];exact H9 m hd h1 h2 d w e b h
theorem C7{evs:Operand->SV}{o:Oper}{t t2:TypeId}{x y:Operand}{op:BinOp}{h i:List SV}{b:Bool}(a:o.op=.binOp op t x y t2)(g:op=.eql\/op=.neq)
 (ht:P.underlying t=some (.struct (P.fieldsOf t))) (hp:P.stoodInHeld t=false) (hm:P.eqGuardType P.depth t=false)
 (n:evs x=.agg h) (p:evs y=.agg i) (hb:CK P h i (Be P t)=some b):LN P evs o (.bool (if op=.eql then b else !b)):=by
 refine⟨by rw[a];simp,λc ev _ hv=>?_⟩;have e:=hv x (by simp[a,Op.operands]);have f:=hv y (by simp[a,Op.operands]);rw[n]at e;rw[p]at f;obtain⟨vs,j,h1,h2⟩:=GV e;obtain⟨us,k,l,m⟩:=GV f;have hr:=H9 h1 l h2 m 9998 c.w _ _ hb;have d:(Op.equalIn 10000 t (.agg vs.toArray) (.agg us.toArray)).run P c.w=.ok b c.w:=by rw[run_equalIn_struct c.w 9999 t _ _ ht hp];exact hr
 rcases g with rfl|rfl;exact⟨.bool b,by simp only[execOp,a,j,k,Sem.run_bind,run_eqGuard_agg c.w _ _ _ _ _ _ hm,Result.andThen_ok,run_eql_struct,d];simp,by simp[V]⟩;exact⟨.bool !b,by simp only[execOp,a,j,k,Sem.run_bind,run_eqGuard_agg c.w _ _ _ _ _ _ hm,Result.andThen_ok,run_neq_struct,d];simp,by simp[V]⟩
theorem BX{evs:Operand->SV}{o:Oper}{h:Hp}{n:Nat}{K:SV->Hp->Nat->Prop}{t:TypeId}{z:Nat}{ps:Array (Nat×Operand)}(f:o.op=.buildSlice t 0 ps)(a:ps = #[])(hi:((A5 P t).bind P.info?).isSome=true)
 (hk:K (.y z [] true) h n):FV E P evs o h n K:=by
 subst a;refine⟨by rw[f];simp,λc ev hc _ R F hv=>?_⟩;obtain⟨i,hi⟩:=vW.1 hi;obtain⟨e,ht,hi⟩:=Option.bind_eq_some_iff.1 hi;have j:=A7 ht;have hw:(execOp ev o).run P c.w=.ok (.value (.slice (some ⟨c.w.heap.size,0,none⟩) 0 0)) (c.w.alloc (.cells #[] e)):=by
  simp[execOp,f,Instr.buildSlice,AM j,sizeOf,typeInfo,hi,Instr.fill,newRow];congr 2;simp
 have X:DV c { c with w:=c.w.alloc (.cells #[] e) }:=by
  refine⟨λ_ _ e=>e,by simp,λb hb g=>⟨g,?_⟩,λb=>?_,rfl,rfl,⟨rfl,IO _⟩⟩;simp[Bu,vQ,wF hb];unfold rm;rcases vq b c.w.heap.size with d|d;simp[Bu,vQ,wF d];simp[vt d]
 refine⟨_,.y z [] true,h,n,{ c with w:=c.w.alloc (.cells #[] e) },hw,?_,⟨λo x e=>(R.obj o x e).mono X λb hb=>?_,R.inj2,R.own2⟩,F,⟨X,IO _,λ_ _=>rfl⟩,hk⟩;rw[V];exact .inr ⟨⟨c.w.heap.size,0,none⟩,0,[],rfl,IO _,λ_=>rfl,⟨by simp,by simp,by simp,by simp⟩,by simp[VE]⟩;have h2:=(R.obj o x e).hold_lt hb;simp[Bu,vQ,wF h2]
def DJ(P:Program)(cs ds:List SV):List (Bool×TypeId×Nat)->Option Bool
 | []=>some true
 | f::fs=>if f.1=true then none else
  match cs[f.2.2]?,ds[f.2.2]? with
  | some x,some y=>match DZ P f.2.1 x y with|some true=>DJ P cs ds fs|r=>r
  | _,_=>none
theorem Ct(a b:List SV):∀fs:List Field,CK P a b fs=DJ P a b (fs.map λf=>(f.name == "_",f.type,f.offset))
 | []=>rfl
 | f::fs=>by
  simp only[CK,DJ,qi,beq_iff_eq,Ct a b fs]
end
structure My{α:Type}(f:α->SV)(z:Nat):Prop where
 st:∀x,(f x).B=true
 len:∀x,(f x).cells.length=z
 cl:∀n x,C_ n (f x)=true
theorem My.size{α:Type}{f:α->SV}{z:Nat}(H:My f z)(l:List α):∀e∈l.map f,e.B=true/\e.cells.length=z:=by
 intro e a;simp only[qa]at a;obtain⟨x,_,rfl⟩:=a;exact⟨H.st x,H.len x⟩
theorem My.c_{α:Type}{f:α->SV}{z:Nat}(H:My f z)(n:Nat)(l:List α):c_ n (l.map f)=true:=EJ.2 (by
 intro e a;simp only[qa]at a;obtain⟨x,_,rfl⟩:=a;exact H.cl n x)
theorem My.y{α:Type}{f:α->SV}{z:Nat}(H:My f z)(n a:Nat)(l:List α)(full:Bool):C_ n (.y a (l.map f) full)=true:=by rw[C_];exact H.c_ n l
theorem c9:My AA 1:=⟨λ_=>rfl,λ_=>rfl,λ_ _=>rfl⟩
theorem Fp.E:My Fp.h 2:=⟨λ_=>rfl,λ_=>rfl,λ_ _=>rfl⟩
theorem Di.E:My Di.h 2:=⟨λ_=>rfl,λ_=>rfl,λ_ _=>rfl⟩
theorem A3.E:My A3.h 4:=⟨λ_=>rfl,λ_=>rfl,λ_ _=>rfl⟩
theorem By.E:My By.h 3:=⟨λ_=>rfl,λ_=>rfl,λ_ _=>rfl⟩
theorem Cq.E:My Cq.h 4:=⟨λ_=>rfl,λ_=>rfl,λ_ _=>rfl⟩
theorem AR.E:My AR.h 6:=⟨λ_=>rfl,λ_=>rfl,λ_ _=>rfl⟩
theorem Ge.E:My Ge.h 2:=⟨λ_=>rfl,λ_=>rfl,λ_ _=>rfl⟩
theorem Ao.E:My Ao.h 6:=⟨λ_=>rfl,λ_=>rfl,λn s=>by simp[Ao.h,C_,c_,Fp.E.c_]⟩
theorem FT.E:My FT.h 2:=⟨λ_=>rfl,λ_=>rfl,λn s=>by simp[FT.h,C_,c_,Cq.E.c_]⟩
theorem AG.flat_closed(n:Nat)(h:AG):Sh.c_ n h.j=true:=by simp[AG.j,C_,c_,Fp.E.c_,Di.E.c_,A3.E.c_]
theorem AG.E:My AG.h 5:=⟨λ_=>rfl,λ_=>rfl,λn s=>by rw[AG.h,C_];exact s.flat_closed n⟩
theorem CW(n:Nat):∀(a b:List SV),c_ n (a++b)=(c_ n a&&c_ n b)
 | [],b=>by simp[c_]
 | x::a,b=>by simp[c_,CW n a b,Bool.and_assoc]
mutual
theorem AB.cl(n:Nat):∀x:AB,C_ n x.h=true
 | .mk k c i t h f r=>by
  rw[AB.h,C_,CW,CW];simp[C_,c_,h.flat_closed,AB.clL n f,AL.clL n r]
theorem AB.clL(n:Nat):∀l:List AB,c_ n (AB.encL l)=true
 | []=>by simp[AB.encL,c_]
 | x::l=>by rw[AB.encL,c_,AB.cl n x,AB.clL n l];rfl
theorem AL.cl(n:Nat):∀x:AL,C_ n x.h=true
 | .mk h c=>by
  rw[AL.h,C_,CW];simp[C_,c_,h.flat_closed,AF.clL n c]
theorem AL.clL(n:Nat):∀l:List AL,c_ n (AL.encL l)=true
 | []=>by simp[AL.encL,c_]
 | x::l=>by rw[AL.encL,c_,AL.cl n x,AL.clL n l];rfl
theorem AF.cl(n:Nat):∀x:AF,C_ n x.h=true
 | .mk i h f=>by
  rw[AF.h,C_,CW,CW];simp[C_,c_,h.flat_closed,AB.clL n f]
theorem AF.clL(n:Nat):∀l:List AF,c_ n (AF.encL l)=true
 | []=>by simp[AF.encL,c_]
 | x::l=>by rw[AF.encL,c_,AF.cl n x,AF.clL n l];rfl
end
theorem AB.E:My AB.h 11:=⟨λx=>by rw[qy];rfl,λx=>by rw[qy];rfl,AB.cl⟩
theorem AL.E:My AL.h 6:=⟨λx=>by rw[qR];rfl,λx=>by rw[qR];rfl,AL.cl⟩
theorem AF.E:My AF.h 7:=⟨λx=>by rw[vD];rfl,λx=>by rw[vD];rfl,AF.cl⟩
def AI.h(d:AI):SV:=.agg ([AH d.W]++d.T0.j++[BV d.V]++d.S.j)
theorem E7{h' h:Hp}{k z o:Nat}{es:List SV}{full full':Bool}(d:h o=none)(c:full'=true->full=true)(hh:h' o=some (.cells (es.flatMap SV.cells)))(b:∀e∈es,e.B=true/\e.cells.length=z):
 Fz h' h (k+1) (.sl o 0 z es.length full) (.y z es full'):=by
 refine .inr ⟨d,c,rfl,rfl,_,_,hh,by simp[Cb,Bq b];rfl,b,?_⟩;have:∀l:List SV,AU (Fz h' h k) l l:=by
  intro l;induction l with
  | nil=>trivial
  | cons a l ih=>exact⟨Or,ih⟩
 simp only[<-Bq b,qp];exact this _
theorem Fg{h' h:Hp}{k z b:Nat}{full full':Bool}(a:full'=true->full=true):Fz h' h (k+1) (.y z [] full) (.y b [] full'):=
 .inr ⟨a,.inl rfl,trivial,by simp⟩
theorem dZ{α:Type}{f:α->SV}{z:Nat}(H:My f z){h h':Hp}{n n' o:Nat}{v:SV}{l:List α}{full:Bool}(a:Hw h n)(hh:∀o x,h o=some x->h' o=some x)(c:n<=o)(hv:v=.sl o 0 z l.length full)(b:h' o=some (.cells ((l.map f).flatMap SV.cells))):
 Ce n h' n' v (Is (.y z (l.map f) false) h n):=by
 subst hv;have:=E7 (h':=h') (h:=h) (k:=0) (z:=z) (es:=l.map f) (full:=full) (full':=false) (a.none c) mr b (H.size l);rw[qf]at this;exact IS 1 a hh this (H.y _ _ _ _)
theorem P8{h h':Hp}{n n' z c:Nat}{v:SV}{full full':Bool}(b:Hw h n)(hh:∀o x,h o=some x->h' o=some x)(a:full'=true->full=true)(hv:v=.y z [] full):Ce n h' n' v (Is (.y c [] full') h n):=by
 subst hv;exact IS 1 b hh (Fg a) (by simp[C_,c_])
theorem Gi{P:Program}{h:Hp}{n z:Nat}{t t2 el:TypeId}{es:List SV}{full:Bool}(ht:A5 P t=some el)(e:(A5 P t2).isSome=true)(i:Bj P el=z)(f:z≠0)(d:(BU P el).B=true)(g:(BU P el).cells.length=z)
 (hb:Cv P el<=65536) (c:es≠[]) (a:es.length<=1073741824) (b:Hn el=none:=by rfl):
 Ak P h n .append [t,t2] [.y z [] true,.y z es full]=some { val:=.sl n 0 z es.length false,new:=some (.cells (es.flatMap SV.cells)) }:=by
 have h0:es.length≠0:=by cases es<;>simp at c ⊢
 have hr:F6 (0+es.length) (Cv P el)=true:=by simp[F6];exact⟨a,hb⟩
 simp only[Ak,e,if_true,Fq,ht,In,flat,i,g,d];simp[OM,f,h0,b];simpa using hr
def M1(z:Nat)(es:List SV)(h:Hp)(n:Nat):SV->Hp->Nat->Prop:=λv h' n'=>
 n<=n'/\(∀o x,h o=some x->h' o=some x)/\((es=[]/\∃z' full,v=.y z' [] full)\/∃o full,n<=o/\o<n'/\v=.sl o 0 z es.length full/\h' o=some (.cells (es.flatMap SV.cells)))
abbrev LC(f:FuncId)(args:List SV)(z:Nat)(es:List SV):Prop:=∀h n,BP prog f args h n (M1 z es h n)
theorem LC.pc{f:FuncId}{args:List SV}{z:Nat}{es:List SV}(H:LC f args z es)(r:∀e∈es,e.B=true/\e.cells.length=z)(d:∀n,c_ n es=true):PC f args (.y z es false):=by
 intro h n;refine⟨(H h n).1,λc vs I R F A=>((H h n).2 c vs I R F A).mono ?_⟩;rintro e w' ⟨u,v,h',n',k,rfl,⟨hle,hh,hv⟩,rfl,q,a,F',X⟩;have m:Hw h n:=λo x e=>Gk F (R.obj o x e);have g:Fz h' h 1 v (.y z es false):=by
  rcases hv with⟨rfl,z',full,rfl⟩|⟨o,full,h1,h2,rfl,p⟩
  exact Fg mr;exact E7 (m.none h1) mr p r
 have b:=a.less hh;have i:V ((k.less h).cut h n) (.y z es false) u:=(g.sound a hh 1 q).cut b (λ_ _ e=>e) (by rw[C_];exact d n);refine⟨u,_,h,n,(k.less h).cut h n,rfl,⟨rfl,rfl,rfl⟩,rfl,i,b.cut (λo x e=>⟨e,m o x e⟩),Sj,⟨T8 b (λ_ _ e=>e) F (IO _) (X.ext.trans (DN a hh)),IO _,λj l=>?_⟩⟩;simp only[Cx.cut,l,if_true];exact X.same j l
theorem LC.use{E:BZ}{f:FuncId}{args:List SV}{z:Nat}{es:List SV}(H:LC f args z es){h:Hp}{n:Nat}{K:SV->Hp->Nat->Prop}(hk:∀v h' n',M1 z es h n v h' n'->K v h' n'):Ab E prog f args h n K:=
 Ab.lift ((H h n).mono hk)
structure AG.l(h:AG):Prop where
 Q:h.Q.length<=1048576
 Y:h.Y.length<=1048576
 Z:h.Z.length<=1048576
mutual
def AB.l:AB->Prop
 | .mk _ _ _ t h f r=>t.size<=1048576/\h.l/\f.length<=1048576/\r.length<=1048576/\AB.G f/\AL.G r
def AB.G:List AB->Prop
 | []=>True
 | x::l=>x.l/\AB.G l
def AL.l:AL->Prop
 | .mk h c=>h.l/\c.length<=1048576/\AF.G c
def AL.G:List AL->Prop
 | []=>True
 | x::l=>x.l/\AL.G l
def AF.l:AF->Prop
 | .mk _ h f=>h.l/\f.length<=1048576/\AB.G f
def AF.G:List AF->Prop
 | []=>True
 | x::l=>x.l/\AF.G l
end
theorem AB.zo:∀{l:List AB},AB.G l->∀x∈l,x.l
 | _::_,h,x,a=>by rw[AB.G]at h;rcases qe.1 a with rfl|a;exact h.1;exact AB.zo h.2 x a
theorem AL.zo:∀{l:List AL},AL.G l->∀x∈l,x.l
 | _::_,h,x,a=>by rw[AL.G]at h;rcases qe.1 a with rfl|a;exact h.1;exact AL.zo h.2 x a
theorem AF.zo:∀{l:List AF},AF.G l->∀x∈l,x.l
 | _::_,h,x,a=>by rw[AF.G]at h;rcases qe.1 a with rfl|a;exact h.1;exact AF.zo h.2 x a
theorem AB.sizedL_of:∀{l:List AB},(∀x∈l,x.l)->AB.G l
 | [],_=>by rw[AB.G];trivial
 | x::l,h=>by rw[AB.G];exact⟨h x mr,AB.sizedL_of λy a=>h y (by simp[a])⟩
theorem AL.sizedL_of:∀{l:List AL},(∀x∈l,x.l)->AL.G l
 | [],_=>by rw[AL.G];trivial
 | x::l,h=>by rw[AL.G];exact⟨h x mr,AL.sizedL_of λy a=>h y (by simp[a])⟩
theorem AF.sizedL_of:∀{l:List AF},(∀x∈l,x.l)->AF.G l
 | [],_=>by rw[AF.G];trivial
 | x::l,h=>by rw[AF.G];exact⟨h x mr,AF.sizedL_of λy a=>h y (by simp[a])⟩
section
variable{P:Program}
theorem Hf{H:Hp}{n m k z:Nat}{es:List SV}{e:SV}{o:Option Nat}{t t2 el:TypeId}(ht:A5 P t=some el)(h:(A5 P t2).isSome=true)(r:Bj P el=z)(b:z≠0)(g:(BU P el).B=true)(i:(BU P el).cells.length=z)
 (hb:Cv P el<=65536) (hroom:es.length+1<=1073741824) (c:CD n m z o es) (l:e.cells.length=z) (h1:H k=some (.cells e.cells)) (h2:∀j,o=some j->H j=some (.cells (es.flatMap SV.cells))) (p:Nat) (a:Hn el=none:=by rfl):
 Ak P H p .append [t,t2] [AZ z o es,.sl k 0 z 1 true] =
  some { val:=.sl p 0 z (es.length+1) false,upd:=o.map λj=>(j,none),new:=some (.cells (es.flatMap SV.cells++e.cells)) }:=by
 have d:flat H (.sl k 0 z 1 true)=some e.cells:=by
  simp[flat,h1,Cb,l];exact qQ mq
 have hr:F6 (es.length+1) (Cv P el)=true:=by simp[F6];exact⟨by omega,hb⟩
 simp only[Ak,h,if_true,Fq,ht,In,d,r,i,g];cases o with
 | none=>
  have:=c.none rfl;subst this;simp[AZ,OM,b,a];have f:F6 1 (Cv P el)=true:=by simpa using hr
  exact f
 | some j =>
  have q:flat H (.sl j 0 z es.length false)=some (es.flatMap SV.cells):=by
   simp only[flat,h2 j rfl,Cb,qZ,Bq c.size,IO,if_true,vT];rw[<-Bq c.size,qp]
  simp[AZ,OM,b,q,hr,Tk a]
end
theorem EG{h H:Hp}{n m p z:Nat}{es:List SV}{e:SV}{o:Option Nat}{v:SV}(f:Hw h n)(hn:n<=p)(d:CD n m z o es)(c:∀j y,h j=some y->H j=some y):
 ∀j y,Ae (some p) (es++[e]) h j=some y->(Cg.app H p { val:=v,upd:=o.map λj=>(j,none),new:=some (.cells (es.flatMap SV.cells++e.cells)) }) j=some y:=by
 intro j y a;simp only[Ae]at a;by_cases b:j=p;subst b;rw[AE]at a;simp only[Cg.app,AE];rw[<-a];simp;rw[AD _ _ b]at a;have hlt:=(f j y a).1;cases o with
 | none=>simp[Cg.app,AD _ _ b,c j y a]
 | some k=>
  have hk:j≠k:=by have:=(d.lt k rfl).1;omega
  simp[Cg.app,AD _ _ b,AD _ _ hk,c j y a]
theorem GF{h:Hp}{o:Option Nat}{es:List SV}:∀j,o=some j->Ae o es h j=some (.cells (es.flatMap SV.cells)):=by
 rintro j rfl;simp[Ae,h_]
theorem MY{h h':Hp}{n m m' z:Nat}{o:Option Nat}{es:List SV}(c:Hw h n)(a:CD n m z o es)(hh:∀j y,Ae o es h j=some y->h' j=some y)(hm:n<=m')(b:m<=m'):M1 z es h n (AZ z o es) h' m':=by
 refine⟨hm,λj x e=>hh j x (Ae.old c a j x e),?_⟩;cases o with
 | none=>exact .inl ⟨a.none rfl,0,true,rfl⟩
 | some j=>exact .inr ⟨j,false,(a.lt j rfl).1,wC (a.lt j rfl).2 b,rfl,hh j _ (by simp[Ae,h_])⟩
theorem J4{z:Nat}{es:List SV}(hs:∀e∈es,e.B=true/\e.cells.length=z)(i:Nat):(es.flatMap SV.cells).take (i*z)=(es.take i).flatMap SV.cells/\(es.flatMap SV.cells).drop (i*z)=(es.drop i).flatMap SV.cells:=by
 induction es generalizing i with
 | nil=>simp
 | cons e es ih =>
  cases i with
  | zero=>simp
  | succ i=>
   have he:=(hs e mr).2;obtain⟨h1,h2⟩:=ih (λx hx=>hs x (by simp[hx])) i;have e1:(i+1)*z=e.cells.length+i*z:=by rw[he,wi,Nat.one_mul,Nat.add_comm]
   simp only[va,List.take_succ_cons,List.drop_succ_cons,e1];rw[List.take_length_add_append,wA,h1,h2];exact⟨rfl,rfl⟩
theorem Nf{z:Nat}{es:List SV}(b:∀e∈es,e.B=true/\e.cells.length=z){i:Nat}{e:SV}(h:es[i]? = some e):i*z+z<=(es.flatMap SV.cells).length/\((es.flatMap SV.cells).drop (i*z)).take z=e.cells:=by
 obtain⟨a,c⟩:=qv.1 h;have d:=(b e (by rw[<-c];exact qn a)).2;refine⟨?_,?_⟩;rw[Bq b];have:(i+1)*z<=es.length*z:=wd z a;rw[wi,Nat.one_mul]at this;exact this;rw[(J4 b i).2,qA a,c,va,<-d,List.take_left]
theorem Q6{z:Nat}{es:List SV}(a:∀e∈es,e.B=true/\e.cells.length=z){j:Nat}{e:SV}(b:j<es.length):(es.flatMap SV.cells).take (j*z)++(e.cells++(es.flatMap SV.cells).drop (j*z+z))=(es.set j e).flatMap SV.cells:=by
 have h1:=(J4 a j).1;have h2:=(J4 a (j+1)).2;rw[wi,Nat.one_mul]at h2;rw[h1,h2,List.set_eq_take_append_cons_drop,my b];simp
section
variable{P:Program}
theorem NH{H:Hp}{n m k z j len:Nat}{es:List SV}{e:SV}{t t2 el:TypeId}(ht:A5 P t=some el)(f:(A5 P t2).isSome=true)(r:Bj P el=z)(g:z≠0)(d:(BU P el).B=true)(h:(BU P el).cells.length=z)
 (hb:Cv P el<=65536) (a:es.length+1<=1073741824) (l:CD n m z (some j) es) (q:e.cells.length=z) (h1:H k=some (.cells e.cells)) (h2:H j=some (.cells (es.flatMap SV.cells))) (p:Nat) (b:len=es.length) (c:Hn el=none:=by rfl):
 Ak P H p .append [t,t2] [.sl j 0 z len false,.sl k 0 z 1 true] =
  some { val:=.sl p 0 z (es.length+1) false,upd:=some (j,none),new:=some (.cells (es.flatMap SV.cells++e.cells)) }:=by
 subst b;exact Hf (o:=some j) ht f r g d h hb a l q h1 (λi e=>by cases e;exact h2) p c
theorem PZ{H:Hp}{k z:Nat}{e:SV}{t t2 el:TypeId}(ht:A5 P t=some el)(c:(A5 P t2).isSome=true)(h:Bj P el=z)(d:z≠0)(b:(BU P el).B=true)(f:(BU P el).cells.length=z)
 (hb:Cv P el<=65536) (g:e.cells.length=z) (h1:H k=some (.cells e.cells)) (p:Nat) (a:Hn el=none:=by rfl):
 Ak P H p .append [t,t2] [.y 0 [] true,.sl k 0 z 1 true]=some { val:=.sl p 0 z 1 false,new:=some (.cells e.cells) }:=
 Hf (n:=0) (m:=0) (o:=none) (es:=[]) ht c h d b f hb mr (wQ 0 0 z) g h1 mr p a
end
theorem ll(l:List Fp)(c:l.length<=1048576):LC 93 [.y 2 (l.map Fp.h) false] 2 (l.map Fp.h):=by
 intro h n;refine gq func93 rfl λd=>?_;simp[go_sem];refine BO rfl mu rfl (λe=>?_) ?_;simp[go_sem];have:l=[]:=by simpa using e
 subst this;exact .inl ⟨IO _,AC,.inl ⟨rfl,_,_,rfl⟩⟩;simp[go_sem];refine BX (z:=2) rfl rfl mu ?_;cases l with
 | nil=>
  simp[go_sem];exact .inl ⟨IO _,AC,.inl ⟨rfl,_,_,rfl⟩⟩
 | cons a l=>
  have b:=Gi (P:=prog) (h:=h) (n:=n) (t:=23) (t2:=23) (el:=164) (z:=2) (es:=(a::l).map Fp.h) (full:=false) ms ms ms mr ms ms ms mr (by simp at c ⊢;omega);simp only[qi]at b;simp[go_sem,b];refine .inl ⟨vZ n,Aa d (IO _) AC,.inr ⟨n,false,IO _,vh n,?_,?_⟩⟩;simp;simp[AE];rfl
theorem Ze(l:List Fp)(a:l.length<=1048576):PC 93 [.y 2 (l.map Fp.h) false] (.y 2 (l.map Fp.h) false):=(ll l a).pc (Fp.E.size l) λn=>Fp.E.c_ n l
theorem gt(l:List Di)(c:l.length<=1048576):LC 94 [.y 2 (l.map Di.h) false] 2 (l.map Di.h):=by
 intro h n;refine gq func94 rfl λd=>?_;simp[go_sem];refine BO rfl mu rfl (λe=>?_) ?_;simp[go_sem];have:l=[]:=by simpa using e
 subst this;exact .inl ⟨IO _,AC,.inl ⟨rfl,_,_,rfl⟩⟩;simp[go_sem];refine BX (z:=2) rfl rfl mu ?_;cases l with
 | nil=>
  simp[go_sem];exact .inl ⟨IO _,AC,.inl ⟨rfl,_,_,rfl⟩⟩
 | cons a l=>
  have b:=Gi (P:=prog) (h:=h) (n:=n) (t:=24) (t2:=24) (el:=74) (z:=2) (es:=(a::l).map Di.h) (full:=false) ms ms ms mr ms ms ms mr (by simp at c ⊢;omega);simp only[qi]at b;simp[go_sem,b];refine .inl ⟨vZ n,Aa d (IO _) AC,.inr ⟨n,false,IO _,vh n,?_,?_⟩⟩;simp;simp[AE];rfl
theorem kD(l:List Di)(a:l.length<=1048576):PC 94 [.y 2 (l.map Di.h) false] (.y 2 (l.map Di.h) false):=(gt l a).pc (Di.E.size l) λn=>Di.E.c_ n l
theorem gu(l:List A3)(c:l.length<=1048576):LC 95 [.y 4 (l.map A3.h) false] 4 (l.map A3.h):=by
 intro h n;refine gq func95 rfl λd=>?_;simp[go_sem];refine BO rfl mu rfl (λe=>?_) ?_;simp[go_sem];have:l=[]:=by simpa using e
 subst this;exact .inl ⟨IO _,AC,.inl ⟨rfl,_,_,rfl⟩⟩;simp[go_sem];refine BX (z:=4) rfl rfl mu ?_;cases l with
 | nil=>
  simp[go_sem];exact .inl ⟨IO _,AC,.inl ⟨rfl,_,_,rfl⟩⟩
 | cons a l=>
  have b:=Gi (P:=prog) (h:=h) (n:=n) (t:=25) (t2:=25) (el:=76) (z:=4) (es:=(a::l).map A3.h) (full:=false) ms ms ms mr ms ms ms mr (by simp at c ⊢;omega);simp only[qi]at b;simp[go_sem,b];refine .inl ⟨vZ n,Aa d (IO _) AC,.inr ⟨n,false,IO _,vh n,?_,?_⟩⟩;simp;simp[AE];rfl
theorem kE(l:List A3)(a:l.length<=1048576):PC 95 [.y 4 (l.map A3.h) false] (.y 4 (l.map A3.h) false):=(gu l a).pc (A3.E.size l) λn=>A3.E.c_ n l
theorem jQ(l:List By)(c:l.length<=1048576):LC 105 [.y 3 (l.map By.h) false] 3 (l.map By.h):=by
 intro h n;refine gq func105 rfl λd=>?_;simp[go_sem];refine BO rfl mu rfl (λe=>?_) ?_;simp[go_sem];have:l=[]:=by simpa using e
 subst this;exact .inl ⟨IO _,AC,.inl ⟨rfl,_,_,rfl⟩⟩;simp[go_sem];refine BX (z:=3) rfl rfl mu ?_;cases l with
 | nil=>
  simp[go_sem];exact .inl ⟨IO _,AC,.inl ⟨rfl,_,_,rfl⟩⟩
 | cons a l=>
  have b:=Gi (P:=prog) (h:=h) (n:=n) (t:=30) (t2:=30) (el:=68) (z:=3) (es:=(a::l).map By.h) (full:=false) ms ms ms mr ms ms ms mr (by simp at c ⊢;omega);simp only[qi]at b;simp[go_sem,b];refine .inl ⟨vZ n,Aa d (IO _) AC,.inr ⟨n,false,IO _,vh n,?_,?_⟩⟩;simp;simp[AE];rfl
theorem c76(l:List By)(a:l.length<=1048576):PC 105 [.y 3 (l.map By.h) false] (.y 3 (l.map By.h) false):=(jQ l a).pc (By.E.size l) λn=>By.E.c_ n l
theorem gw(l:List Ao)(c:l.length<=1048576):LC 217 [.y 6 (l.map Ao.h) false] 6 (l.map Ao.h):=by
 intro h n;refine gq func217 rfl λd=>?_;simp[go_sem];refine BO rfl mu rfl (λe=>?_) ?_;simp[go_sem];have:l=[]:=by simpa using e
 subst this;exact .inl ⟨IO _,AC,.inl ⟨rfl,_,_,rfl⟩⟩;simp[go_sem];refine BX (z:=6) rfl rfl mu ?_;cases l with
 | nil=>
  simp[go_sem];exact .inl ⟨IO _,AC,.inl ⟨rfl,_,_,rfl⟩⟩
 | cons a l=>
  have b:=Gi (P:=prog) (h:=h) (n:=n) (t:=31) (t2:=31) (el:=110) (z:=6) (es:=(a::l).map Ao.h) (full:=false) ms ms ms mr ms ms ms mr (by simp at c ⊢;omega);simp only[qi]at b;simp[go_sem,b];refine .inl ⟨vZ n,Aa d (IO _) AC,.inr ⟨n,false,IO _,vh n,?_,?_⟩⟩;simp;simp[AE];rfl
theorem gx(l:List FT)(c:l.length<=1048576):LC 218 [.y 2 (l.map FT.h) false] 2 (l.map FT.h):=by
 intro h n;refine gq func218 rfl λd=>?_;simp[go_sem];refine BO rfl mu rfl (λe=>?_) ?_;simp[go_sem];have:l=[]:=by simpa using e
 subst this;exact .inl ⟨IO _,AC,.inl ⟨rfl,_,_,rfl⟩⟩;simp[go_sem];refine BX (z:=2) rfl rfl mu ?_;cases l with
 | nil=>
  simp[go_sem];exact .inl ⟨IO _,AC,.inl ⟨rfl,_,_,rfl⟩⟩
 | cons a l=>
  have b:=Gi (P:=prog) (h:=h) (n:=n) (t:=32) (t2:=32) (el:=113) (z:=2) (es:=(a::l).map FT.h) (full:=false) ms ms ms mr ms ms ms mr (by simp at c ⊢;omega);simp only[qi]at b;simp[go_sem,b];refine .inl ⟨vZ n,Aa d (IO _) AC,.inr ⟨n,false,IO _,vh n,?_,?_⟩⟩;simp;simp[AE];rfl
theorem gy(l:List AR)(c:l.length<=1048576):LC 219 [.y 6 (l.map AR.h) false] 6 (l.map AR.h):=by
 intro h n;refine gq func219 rfl λd=>?_;simp[go_sem];refine BO rfl mu rfl (λe=>?_) ?_;simp[go_sem];have:l=[]:=by simpa using e
 subst this;exact .inl ⟨IO _,AC,.inl ⟨rfl,_,_,rfl⟩⟩;simp[go_sem];refine BX (z:=6) rfl rfl mu ?_;cases l with
 | nil=>
  simp[go_sem];exact .inl ⟨IO _,AC,.inl ⟨rfl,_,_,rfl⟩⟩
 | cons a l=>
  have b:=Gi (P:=prog) (h:=h) (n:=n) (t:=33) (t2:=33) (el:=71) (z:=6) (es:=(a::l).map AR.h) (full:=false) ms ms ms mr ms ms ms mr (by simp at c ⊢;omega);simp only[qi]at b;simp[go_sem,b];refine .inl ⟨vZ n,Aa d (IO _) AC,.inr ⟨n,false,IO _,vh n,?_,?_⟩⟩;simp;simp[AE];rfl
theorem kH(l:List AR)(a:l.length<=1048576):PC 219 [.y 6 (l.map AR.h) false] (.y 6 (l.map AR.h) false):=(gy l a).pc (AR.E.size l) λn=>AR.E.c_ n l
theorem lm(l:List Ge)(c:l.length<=1048576):LC 220 [.y 2 (l.map Ge.h) false] 2 (l.map Ge.h):=by
 intro h n;refine gq func220 rfl λd=>?_;simp[go_sem];refine BO rfl mu rfl (λe=>?_) ?_;simp[go_sem];have:l=[]:=by simpa using e
 subst this;exact .inl ⟨IO _,AC,.inl ⟨rfl,_,_,rfl⟩⟩;simp[go_sem];refine BX (z:=2) rfl rfl mu ?_;cases l with
 | nil=>
  simp[go_sem];exact .inl ⟨IO _,AC,.inl ⟨rfl,_,_,rfl⟩⟩
 | cons a l=>
  have b:=Gi (P:=prog) (h:=h) (n:=n) (t:=34) (t2:=34) (el:=88) (z:=2) (es:=(a::l).map Ge.h) (full:=false) ms ms ms mr ms ms ms mr (by simp at c ⊢;omega);simp only[qi]at b;simp[go_sem,b];refine .inl ⟨vZ n,Aa d (IO _) AC,.inr ⟨n,false,IO _,vh n,?_,?_⟩⟩;simp;simp[AE];rfl
theorem fo(l:List Ge)(a:l.length<=1048576):PC 220 [.y 2 (l.map Ge.h) false] (.y 2 (l.map Ge.h) false):=(lm l a).pc (Ge.E.size l) λn=>Ge.E.c_ n l
theorem ln(l:List Cq)(c:l.length<=1048576):LC 221 [.y 4 (l.map Cq.h) false] 4 (l.map Cq.h):=by
 intro h n;refine gq func221 rfl λd=>?_;simp[go_sem];refine BO rfl mu rfl (λe=>?_) ?_;simp[go_sem];have:l=[]:=by simpa using e
 subst this;exact .inl ⟨IO _,AC,.inl ⟨rfl,_,_,rfl⟩⟩;simp[go_sem];refine BX (z:=4) rfl rfl mu ?_;cases l with
 | nil=>
  simp[go_sem];exact .inl ⟨IO _,AC,.inl ⟨rfl,_,_,rfl⟩⟩
 | cons a l=>
  have b:=Gi (P:=prog) (h:=h) (n:=n) (t:=111) (t2:=111) (el:=115) (z:=4) (es:=(a::l).map Cq.h) (full:=false) ms ms ms mr ms ms ms mr (by simp at c ⊢;omega);simp only[qi]at b;simp[go_sem,b];refine .inl ⟨vZ n,Aa d (IO _) AC,.inr ⟨n,false,IO _,vh n,?_,?_⟩⟩;simp;simp[AE];rfl
theorem fp(l:List Cq)(a:l.length<=1048576):PC 221 [.y 4 (l.map Cq.h) false] (.y 4 (l.map Cq.h) false):=(ln l a).pc (Cq.E.size l) λn=>Cq.E.c_ n l
theorem NL(h0:AG)(a:h0.l):PC 30 [h0.h] h0.h:=by
 intro h n;refine gq func30 rfl λb=>?_;simp[go_sem,AG.h,AG.j,AE,AD];refine(Ze _ a.Q).use ?_;simp[go_sem,AE,AD]
 repeat first|refine nq ?_|refine sq ?_|refine aq ?_
 refine vy _ _ _ _ _ _ (kD _ a.Y) ?_;simp[go_sem,AE]
 repeat first|refine nq ?_|refine sq ?_|refine aq ?_
 refine vy _ _ _ _ _ _ (kE _ a.Z) ?_;simp[go_sem,AE,AD]
 repeat first|refine nq ?_|refine sq ?_|refine aq ?_
 exact Bt b (by repeat(first|exact AC|refine Aa b mq ?_)) rfl (AG.E.cl n h0)
theorem lj(l:List AB)(hl:l.length<=1048576)(g:FuncId)(a b:List SV)(f:AB->AB)(hf:∀(i:Nat)(h:i<l.length),PC g (a++[AB.h l[i]]++b) (AB.h (f l[i]))):LC 155 [.y 11 (l.map AB.h) false,.fn (.func g) a b] 11 ((l.map f).map AB.h):=by
 intro h n;generalize hR:(l.map f).map AB.h=R;refine gq func155 rfl λho=>?_;simp[go_sem];refine BC 1 (α:=Nat×Option Nat) (λq=>[(1,.fn (.func g) a b),(5,AZ 11 q.2 (((l.take q.1).map f).map AB.h)),(8,.y 11 (l.map AB.h) false),(9,AA l.length),(10,AA q.1)]) (λq=>Ae q.2 (((l.take q.1).map f).map AB.h) h)
  (λq m=>q.1<=l.length/\n<=m/\CD n m 11 q.2 (((l.take q.1).map f).map AB.h)) (λq=>l.length-q.1) (0,none) ?_ ?_ AC ?_
 simp;exact wQ _ _ _;simp[look,AZ];rintro⟨k,o⟩ m ⟨hk,hnm,hA⟩;dsimp only at hk hA ⊢;have hlen:(((l.take k).map f).map AB.h).length=k:=by simp;omega
 by_cases hlt:k<l.length
 . have w1:=wS k mq;obtain⟨x,hx⟩:∃x,l[k]=x:=⟨_,rfl⟩
   have H:=hf k hlt;rw[hx]at H;simp only[qr,qB,qI]at H;have hgx:(l.map AB.h)[k]? = some x.h:=by simp[hlt,hx]
   have htk:((l.take (k+1)).map f).map AB.h=((l.take k).map f).map AB.h++[(f x).h]:=by rw[qb hlt,hx];simp
   have hpush:=hA.push (j:=m+1+1) (m':=m+1+1+1) (e:=(f x).h) (AB.E.st _) (AB.E.len _) mq mq;rw[<-htk]at hpush;generalize hes:((l.take k).map f).map AB.h=es at hA htk hlen ⊢;simp only[vo]at hgx;simp[go_sem,hlt,hx,qy,AE,-List.map_map,-List.map_take];refine qY (by simpa[qy]using H) ?_;simp[go_sem,-List.map_map,-List.map_take];rw[Hf (es:=es) (e:=(f x).h) (o:=o) (t:=22) (t2:=22) (el:=80) (z:=11) ms ms ms mr ms ms ms mq hA (AB.E.len _) ?a1 ?a2]
   case a1=>simp[AE,qy,SV.cells]
   case a2=>
    intro j e;have:=(hA.lt j e).2;rw[AD _ _ mq,AD _ _ mq,AD _ _ mq];exact GF j e
   simp[go_sem,w1,-Int.natCast_add,-List.map_map,-List.map_take];refine⟨k+1,by omega,some (m+1+1),⟨by omega,by omega,hpush⟩,⟨?_,Or⟩,?_⟩;rw[htk];simp[AZ,Or];rw[htk];have:=EG (p:=m+1+1) (v:=.sl (m+1+1) 0 11 (es.length+1) false) (e:=(f x).h) ho mq hA (H:=h_ (h_ (h_ (Ae o es h) m (some (.cells [.int .i64 0,.int .i64 0,.int .i64 0,.str .empty,.y 0 [] true,.int .i64 0,.int .i64 0,.y 0 [] true,.y 0 [] true,.y 0 [] true,.y 0 [] true]))) m (some (.cells x.h.cells))) (m+1) (some (.cells (f x).h.cells)))
    (Aa ho mq (Aa ho mq (Aa ho mq (Ae.old ho hA))))
   simpa[qy,SV.cells,Cg.app]using this
 have:k=l.length:=by omega
 subst this;simp only[qp,hR]at hA ⊢;simp[go_sem,-List.map_map,-List.map_take];exact .inl (MY ho hA AC hnm (IO _))
theorem gr(l:List AL)(hl:l.length<=1048576)(g:FuncId)(a b:List SV)(f:AL->AL)(hf:∀(i:Nat)(h:i<l.length),PC g (a++[AL.h l[i]]++b) (AL.h (f l[i]))):LC 157 [.y 6 (l.map AL.h) false,.fn (.func g) a b] 6 ((l.map f).map AL.h):=by
 intro h n;generalize hR:(l.map f).map AL.h=R;refine gq func157 rfl λho=>?_;simp[go_sem];refine BC 1 (α:=Nat×Option Nat) (λq=>[(1,.fn (.func g) a b),(5,AZ 6 q.2 (((l.take q.1).map f).map AL.h)),(8,.y 6 (l.map AL.h) false),(9,AA l.length),(10,AA q.1)]) (λq=>Ae q.2 (((l.take q.1).map f).map AL.h) h)
  (λq m=>q.1<=l.length/\n<=m/\CD n m 6 q.2 (((l.take q.1).map f).map AL.h)) (λq=>l.length-q.1) (0,none) ?_ ?_ AC ?_
 simp;exact wQ _ _ _;simp[look,AZ];rintro⟨k,o⟩ m ⟨hk,hnm,hA⟩;dsimp only at hk hA ⊢;have hlen:(((l.take k).map f).map AL.h).length=k:=by simp;omega
 by_cases hlt:k<l.length
 . have w1:=wS k mq;obtain⟨x,hx⟩:∃x,l[k]=x:=⟨_,rfl⟩
   have H:=hf k hlt;rw[hx]at H;simp only[qr,qB,qI]at H;have hgx:(l.map AL.h)[k]? = some x.h:=by simp[hlt,hx]
   have htk:((l.take (k+1)).map f).map AL.h=((l.take k).map f).map AL.h++[(f x).h]:=by rw[qb hlt,hx];simp
   have hpush:=hA.push (j:=m+1+1) (m':=m+1+1+1) (e:=(f x).h) (AL.E.st _) (AL.E.len _) mq mq;rw[<-htk]at hpush;generalize hes:((l.take k).map f).map AL.h=es at hA htk hlen ⊢;simp only[vo]at hgx;simp[go_sem,hlt,hx,qR,AE,-List.map_map,-List.map_take];refine qY (by simpa[qR]using H) ?_;simp[go_sem,-List.map_map,-List.map_take];rw[Hf (es:=es) (e:=(f x).h) (o:=o) (t:=78) (t2:=78) (el:=171) (z:=6) ms ms ms mr ms ms ms mq hA (AL.E.len _) ?a1 ?a2]
   case a1=>simp[AE,qR,SV.cells]
   case a2=>
    intro j e;have:=(hA.lt j e).2;rw[AD _ _ mq,AD _ _ mq,AD _ _ mq];exact GF j e
   simp[go_sem,w1,-Int.natCast_add,-List.map_map,-List.map_take];refine⟨k+1,by omega,some (m+1+1),⟨by omega,by omega,hpush⟩,⟨?_,Or⟩,?_⟩;rw[htk];simp[AZ,Or];rw[htk];have:=EG (p:=m+1+1) (v:=.sl (m+1+1) 0 6 (es.length+1) false) (e:=(f x).h) ho mq hA (H:=h_ (h_ (h_ (Ae o es h) m (some (.cells [.y 0 [] true,.int .i64 0,.int .i64 0,.y 0 [] true,.y 0 [] true,.y 0 [] true]))) m (some (.cells x.h.cells))) (m+1) (some (.cells (f x).h.cells)))
    (Aa ho mq (Aa ho mq (Aa ho mq (Ae.old ho hA))))
   simpa[qR,SV.cells,Cg.app]using this
 have:k=l.length:=by omega
 subst this;simp only[qp,hR]at hA ⊢;simp[go_sem,-List.map_map,-List.map_take];exact .inl (MY ho hA AC hnm (IO _))
theorem gv(l:List AF)(hl:l.length<=1048576)(g:FuncId)(a b:List SV)(f:AF->AF)(hf:∀(i:Nat)(h:i<l.length),PC g (a++[AF.h l[i]]++b) (AF.h (f l[i]))):LC 204 [.y 7 (l.map AF.h) false,.fn (.func g) a b] 7 ((l.map f).map AF.h):=by
 intro h n;generalize hR:(l.map f).map AF.h=R;refine gq func204 rfl λho=>?_;simp[go_sem];refine BC 1 (α:=Nat×Option Nat) (λq=>[(1,.fn (.func g) a b),(5,AZ 7 q.2 (((l.take q.1).map f).map AF.h)),(8,.y 7 (l.map AF.h) false),(9,AA l.length),(10,AA q.1)]) (λq=>Ae q.2 (((l.take q.1).map f).map AF.h) h)
  (λq m=>q.1<=l.length/\n<=m/\CD n m 7 q.2 (((l.take q.1).map f).map AF.h)) (λq=>l.length-q.1) (0,none) ?_ ?_ AC ?_
 simp;exact wQ _ _ _;simp[look,AZ];rintro⟨k,o⟩ m ⟨hk,hnm,hA⟩;dsimp only at hk hA ⊢;have hlen:(((l.take k).map f).map AF.h).length=k:=by simp;omega
 by_cases hlt:k<l.length
 . have w1:=wS k mq;obtain⟨x,hx⟩:∃x,l[k]=x:=⟨_,rfl⟩
   have H:=hf k hlt;rw[hx]at H;simp only[qr,qB,qI]at H;have hgx:(l.map AF.h)[k]? = some x.h:=by simp[hlt,hx]
   have htk:((l.take (k+1)).map f).map AF.h=((l.take k).map f).map AF.h++[(f x).h]:=by rw[qb hlt,hx];simp
   have hpush:=hA.push (j:=m+1+1) (m':=m+1+1+1) (e:=(f x).h) (AF.E.st _) (AF.E.len _) mq mq;rw[<-htk]at hpush;generalize hes:((l.take k).map f).map AF.h=es at hA htk hlen ⊢;simp only[vo]at hgx;simp[go_sem,hlt,hx,vD,AE,-List.map_map,-List.map_take];refine qY (by simpa[vD]using H) ?_;simp[go_sem,-List.map_map,-List.map_take];rw[Hf (es:=es) (e:=(f x).h) (o:=o) (t:=169) (t2:=169) (el:=173) (z:=7) ms ms ms mr ms ms ms mq hA (AF.E.len _) ?a1 ?a2]
   case a1=>simp[AE,vD,SV.cells]
   case a2=>
    intro j e;have:=(hA.lt j e).2;rw[AD _ _ mq,AD _ _ mq,AD _ _ mq];exact GF j e
   simp[go_sem,w1,-Int.natCast_add,-List.map_map,-List.map_take];refine⟨k+1,by omega,some (m+1+1),⟨by omega,by omega,hpush⟩,⟨?_,Or⟩,?_⟩;rw[htk];simp[AZ,Or];rw[htk];have:=EG (p:=m+1+1) (v:=.sl (m+1+1) 0 7 (es.length+1) false) (e:=(f x).h) ho mq hA (H:=h_ (h_ (h_ (Ae o es h) m (some (.cells [.int .i64 0,.y 0 [] true,.int .i64 0,.int .i64 0,.y 0 [] true,.y 0 [] true,.y 0 [] true]))) m (some (.cells x.h.cells))) (m+1) (some (.cells (f x).h.cells)))
    (Aa ho mq (Aa ho mq (Aa ho mq (Ae.old ho hA))))
   simpa[vD,SV.cells,Cg.app]using this
 have:k=l.length:=by omega
 subst this;simp only[qp,hR]at hA ⊢;simp[go_sem,-List.map_map,-List.map_take];exact .inl (MY ho hA AC hnm (IO _))
theorem Pc(l:List AB)(a:l.length<=1048576)(H:∀(i:Nat)(h:i<l.length),PC 156 [(l[i]).h] (l[i]).h):PC 96 [AH l] (AH l):=by
 intro h n;refine gq func96 rfl λb=>?_;simp[go_sem];have h1:=(lj l a 156 [] [] id (λi hi=>H i hi)).pc (by rw[wB];exact AB.E.size l) (λn=>by rw[wB];exact AB.E.c_ n l);rw[wB]at h1;refine h1.use ?_;simp[go_sem];exact Ar b (AB.E.y _ _ _ _) rfl
theorem Zg(x:AF)(b:x.H.l)(H:PC 96 [AH x.W] (AH x.W)):PC 205 [x.h] x.h:=by
 intro h n;refine gq func205 rfl λa=>?_;simp[go_sem,vD,AE,AD]
 repeat first|refine nq ?_|refine sq ?_|refine aq ?_
 refine vy _ _ _ _ _ _ (by simpa[AG.h,AG.j]using NL x.H b) ?_;simp[go_sem,AE,AD]
 repeat first|refine nq ?_|refine sq ?_|refine aq ?_
 refine vy _ _ _ _ _ _ H ?_;simp[go_sem,AE]
 repeat first|refine nq ?_|refine sq ?_|refine aq ?_
 exact Bt a (by repeat(first|exact AC|refine Aa a mq ?_)) rfl (by rw[<-vD];exact AF.cl n x)
theorem Zd(x:AL)(c:x.H.l)(b:x.cells.length<=1048576)(H:∀(i:Nat)(h:i<x.cells.length),PC 205 [(x.cells[i]).h] (x.cells[i]).h):PC 158 [x.h] x.h:=by
 intro h n;refine gq func158 rfl λa=>?_;have h1:=(gv x.cells b 205 [] [] id (λi hi=>H i hi)).pc (by rw[wB];exact AF.E.size _) (λn=>by rw[wB];exact AF.E.c_ n _);rw[wB]at h1;simp[go_sem,qR,AE,AD]
 repeat first|refine nq ?_|refine sq ?_|refine aq ?_
 refine vy _ _ _ _ _ _ (by simpa[AG.h,AG.j]using NL x.H c) ?_;simp[go_sem,AE,AD]
 repeat first|refine nq ?_|refine sq ?_|refine aq ?_
 refine vy _ _ _ _ _ _ h1 ?_;simp[go_sem,AE]
 repeat first|refine nq ?_|refine sq ?_|refine aq ?_
 exact Bt a (by repeat(first|exact AC|refine Aa a mq ?_)) rfl (by rw[<-qR];exact AL.cl n x)
theorem Zc(x:AB)(c:x.H.l)(hr:x.R.length<=1048576)(H:PC 96 [AH x.W] (AH x.W))(b:∀(i:Nat)(h:i<x.R.length),PC 158 [(x.R[i]).h] (x.R[i]).h):PC 156 [x.h] x.h:=by
 intro h n;refine gq func156 rfl λa=>?_;have h1:=(gr x.R hr 158 [] [] id (λi hi=>b i hi)).pc (by rw[wB];exact AL.E.size _) (λn=>by rw[wB];exact AL.E.c_ n _);rw[wB]at h1;simp[go_sem,qy,AE,AD]
 repeat first|refine nq ?_|refine sq ?_|refine aq ?_
 refine vy _ _ _ _ _ _ (by simpa[AG.h,AG.j]using NL x.H c) ?_;simp[go_sem,AE,AD]
 repeat first|refine nq ?_|refine sq ?_|refine aq ?_
 refine vy _ _ _ _ _ _ H ?_;simp[go_sem,AE,AD]
 repeat first|refine nq ?_|refine sq ?_|refine aq ?_
 refine vy _ _ _ _ _ _ h1 ?_;simp[go_sem,AE,AD]
 repeat first|refine nq ?_|refine sq ?_|refine aq ?_
 exact Bt a (by repeat(first|exact AC|refine Aa a mq ?_)) rfl (by rw[<-qy];exact AB.cl n x)
mutual
theorem j8:∀x:AB,x.l->PC 156 [x.h] x.h
 | .mk k c i t hd f r,hs=>by
  rw[AB.l]at hs;exact Zc (.mk k c i t hd f r) hs.2.1 hs.2.2.2.1 (Pc f hs.2.2.1 (T4 f hs.2.2.2.2.1)) (au r hs.2.2.2.2.2)
theorem T4:∀l:List AB,AB.G l->∀(i:Nat)(h:i<l.length),PC 156 [(l[i]).h] (l[i]).h
 | [],_,i,h=>by simp at h
 | x::l,hs,0,_=>by rw[AB.G]at hs;exact j8 x hs.1
 | x::l,hs,i+1,h=>by rw[AB.G]at hs;exact T4 l hs.2 i (by simpa using h)
theorem j9:∀x:AL,x.l->PC 158 [x.h] x.h
 | .mk hd c,hs=>by
  rw[AL.l]at hs;exact Zd (.mk hd c) hs.1 hs.2.1 (aw c hs.2.2)
theorem au:∀l:List AL,AL.G l->∀(i:Nat)(h:i<l.length),PC 158 [(l[i]).h] (l[i]).h
 | [],_,i,h=>by simp at h
 | x::l,hs,0,_=>by rw[AL.G]at hs;exact j9 x hs.1
 | x::l,hs,i+1,h=>by rw[AL.G]at hs;exact au l hs.2 i (by simpa using h)
theorem kP:∀x:AF,x.l->PC 205 [x.h] x.h
 | .mk i hd f,hs=>by
  rw[AF.l]at hs;exact Zg (.mk i hd f) hs.1 (Pc f hs.2.1 (T4 f hs.2.2))
theorem aw:∀l:List AF,AF.G l->∀(i:Nat)(h:i<l.length),PC 205 [(l[i]).h] (l[i]).h
 | [],_,i,h=>by simp at h
 | x::l,hs,0,_=>by rw[AF.G]at hs;exact kP x hs.1
 | x::l,hs,i+1,h=>by rw[AF.G]at hs;exact aw l hs.2 i (by simpa using h)
end
theorem jp(l:List AB)(a:l.length<=1048576)(b:AB.G l):PC 96 [AH l] (AH l):=Pc l a (T4 l b)
def AB.units(x:AB):Int:=if x.x=1 then(if Ci x.J then D9 x.J x.J.size else 0)else 1
def AB.uerr(x:AB):Int:=if x.x=1 then(if Ci x.J then 0 else 12)else 0
def Yw:List AB->Int
 | []=>0
 | x::l=>x.units+Yw l
def ip(l:List AB):Bool:=l.any λx=>decide (x.uerr≠0)
def eC(l:List AB):Int×Int:=if ip l then(0,12)else(Yw l,0)
end Go.Proofs.YthinbkgpjmjfeaaGreatDoor.Sh
