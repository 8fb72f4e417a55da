/- A part of the proof (part 4 of 18). -/
import Derived.Test.YthinbkgpjmjfeaaGreatDoorM3
import Derived.RangeFuncIn
import Derived.Laws.StructEq
namespace Go.Proofs.YthinbkgpjmjfeaaGreatDoor.Sh
open Go.Proofs.Tryz
abbrev qO:=@PC.use
abbrev qR:=@AM.zo
abbrev qz:=@AD.zo
abbrev vB:=@AG.zo
abbrev vw:=@Be.pure
abbrev wF:=@BG.nil
abbrev wT:=@Ab.fz
open Proofs
set_option maxRecDepth 10000
theorem LV(a b c:Int):PC 148 [AA a,AA b,AA c] (.bool (decide (b<=a/\a<=c))):=by
 intro h n;refine gq func148 rfl λd=>?_;by_cases h1:b<=a<;>simp[go_sem,h1];exact An d rfl (by simp[]);exact An d rfl (by simp[])
theorem Kc(b:Bool)(e:Int):PC 83 [.bool b,AA e] (AA (if b then e else 0)):=by
 intro h n;refine gq func83 rfl λa=>?_;cases b<;>simp[go_sem];exact An a rfl rfl;exact An a rfl rfl
def BH:List Int->Int
 | []=>0
 | e::l=>if e=0 then BH l else e
theorem RB(l:List Int)(k:Nat)(hk:k<l.length):BH (l.drop k)=if l[k]=0 then BH (l.drop (k+1))else l[k]:=by
 rw[qG hk,BH]
theorem SY(l:List Int)(hl:l.length<=1048576):PC 78 [.x 1 (l.map AA) false] (AA (BH l)):=by
 intro h n;refine gq func78 rfl λd=>?_;simp[go_sem];refine A9 1 (α:=Nat) (λk=>[(5,.x 1 (l.map AA) false),(6,AA l.length),(7,AA k)]) (λ_=>h) (λk m=>k<=l.length/\n<=m/\BH l=BH (l.drop k)) (λk=>l.length-k) 0 ?_ ?_ AE ?_;simp;simp[look];rintro k m ⟨hk,c,b⟩;by_cases a:k<l.length;have e:=wS k nN;rw[RB l k a]at b;by_cases h0:l[k]=0;simp[go_sem,a,h0,e,-Int.natCast_add];exact⟨k+1,by omega,⟨by omega,c,by simpa[h0]using b⟩,Or⟩;simp[go_sem,a,h0];exact An d rfl (by simp[b,h0]);simp[go_sem,a];have:k=l.length:=by omega
 subst this;simp[BH]at b;exact An d rfl (by rw[b])
def Ds(s:ByteArray):Bool:=decide (1<=s.size/\s.size<=40)&&Cj s
theorem fx(s:ByteArray)(d:s.size<=1099511627776):PC 147 [.str s] (.bool (Ds s)):=by
 intro h n;refine gq func147 rfl λc=>?_;by_cases h1:(1:Int)<=s.size;have a:1<=s.size:=by omega
 by_cases h2:(s.size:Int)<=40;have b:s.size<=40:=by omega
 simp[go_sem,h1,h2];refine(WX s d).use ?_;simp[go_sem];exact An c rfl (by simp[Ds,a,b]);have b:¬s.size<=40:=by omega
 simp[go_sem,h1,h2];exact An c rfl (by simp[Ds,b]);have a:¬1<=s.size:=by omega
 simp[go_sem,h1];exact An c rfl (by simp[Ds,a])
def IT(s:ByteArray):Int:=BH [if !Cj s then 12 else 0,if decide ((1024:Int)<s.size)then 10 else 0]
theorem cy(s:ByteArray)(b:s.size<=1099511627776):PC 196 [.str s] (AA (IT s)):=by
 intro h n;refine gq func196 rfl λa=>?_;simp[go_sem];refine(WX s b).use ?_;simp[go_sem];refine(Kc _ _).use ?_;simp[go_sem];refine(Kc _ _).use ?_;simp[go_sem];refine(SY [if !Cj s then 12 else 0,if decide ((1024:Int)<s.size)then 10 else 0] nO).lend 2 rfl ?_ ?_;simp[AT,Fz,h_,CP,SV.B,SV.cells];simp[go_sem];exact Bq a (AY a (IO _) AE) (by simp[IT]) rfl
def HV(F:Nat->Int)(i:Nat):Int:=if ¬(1<=F i/\F i<=1073741824)then 18 else if 0<i/\F i=F (i-1)then 7 else if 0<i/\F i<F (i-1)then 6 else 0
theorem cw(i:Nat)(hi:i<=1099511627776)(g:FuncId)(a b:List SV)(F:Nat->Int)(m:∀j,j<=i->PC g (a++[AA j]++b) (AA (F j))):PC 145 [AA i,.fn (.func g) a b] (AA (HV F i)):=by
 intro h n;refine gq func145 rfl λc=>?_;have d:=m i (IO _);have k:=m (i-1) nN;simp only[qv,List.singleton_append]at d k;simp[go_sem];refine d.use ?_;simp[go_sem];refine(LV _ _ _).use ?_;by_cases h1:1<=F i/\F i<=1073741824;by_cases h0:0<i;have l:IntKind.i64.wrap ((i:Int)-1)=((i-1:Nat):Int):=by rw[D5]<;>omega
 simp[go_sem,h1,h0];refine d.use ?_;simp[go_sem,l];refine k.use ?_;by_cases h2:F i=F (i-1);simp[go_sem,h2];have e:HV F i=7:=by unfold HV;rw[nR (by simpa using h1),nS ⟨h0,h2⟩]
 exact An c rfl (by rw[e]);simp[go_sem,h2,h0];refine d.use ?_;simp[go_sem,l];refine k.use ?_;by_cases f:F i<F (i-1);simp[go_sem,f];exact An c rfl (by simp[HV,h1,h0,h2,f]);simp[go_sem,f];exact An c rfl (by simp[HV,h1,h0,h2,f]);simp[go_sem,h1,h0];exact An c rfl (by simp[HV,h1,h0]);simp[go_sem,h1];exact An c rfl (by simp[HV,h1])
def CK(F:Nat->Int):Nat->Int
 | 0=>0
 | n+1=>if CK F n=0 then F n else CK F n
theorem E4(F:Nat->Int){k n:Nat}(hk:k<n)(h0:CK F k=0)(h1:F k≠0):CK F n=F k:=by
 induction n with
 | zero=>omega
 | succ n ih=>
  rw[CK];by_cases e:k=n;subst e;simp[h0];have:=ih nN;rw[this,nR h1]
theorem Zp(N:Nat)(hN:N<=1099511627776)(g:FuncId)(a b:List SV)(F:Nat->Int)(l:∀j,j<N->PC g (a++[AA j]++b) (AA (F j))):PC 143 [AA N,.fn (.func g) a b] (AA (CK F N)):=by
 intro h n;refine gq func143 rfl λi=>?_;simp[go_sem];refine A9 1 (α:=Nat) (λk=>[(1,.fn (.func g) a b),(7,AA N),(8,AA k)]) (λ_=>h) (λk m=>k<=N/\n<=m/\CK F k=0) (λk=>N-k) 0 ?_ ?_ AE ?_;simp[CK];simp[look];rintro k m ⟨hk,e,d⟩;by_cases c:k<N;have o:=wS k nN;have f:=l k c;simp only[qv,List.singleton_append]at f;simp[go_sem,c];refine f.use ?_;by_cases h0:F k=0;simp[go_sem,h0,o,-Int.natCast_add];exact⟨k+1,by omega,⟨by omega,e,by simp[CK,d,h0]⟩,Or⟩;simp[go_sem,h0];exact An i rfl (by rw[E4 F c d h0]);simp[go_sem,c];have:k=N:=by omega
 subst this;exact An i rfl (by rw[d])
theorem kM(l:List CI)(i:Nat)(hi:i<l.length):PC 146 [AA i,.q [Cq l]] (AA (l[i]).id):=by
 intro h n;refine gq func146 rfl λa=>?_;simp[go_sem,hi,CI.h];exact An a rfl rfl
def KH(l:List CI)(i:Nat):Int:=match l[i]? with
 | some r=>BH [HV (λj=>match l[j]? with|some r=>r.id|none=>0) i,if !Ds r.O then 39 else 0,if !decide (0<=r.time/\r.time<=1099511627776)then 40 else 0]
 | none=>0
theorem kL(l:List CI)(i:Nat)(hi:i<l.length)(hl:l.length<=1048576)(d:∀r∈l,r.O.size<=1048576):PC 144 [AA i,.q [Cq l]] (AA (KH l i)):=by
 intro h n;refine gq func144 rfl λc=>?_;simp[go_sem]
 repeat first|refine nq ?_|refine sq ?_
 have a:=cw i nN 146 [] [.q [Cq l]] (λj=>match l[j]? with|some r=>r.id|none=>0) (λj hj=>by
  have b:j<l.length:=by omega
  simpa[b]using kM l j b)
 refine vw _ _ _ _ _ _ a ?_;simp[go_sem,hi,CI.h]
 repeat first|refine nq ?_|refine sq ?_
 refine vw _ _ _ _ _ _ (fx _ (by have:=d _ (qp hi);omega)) ?_;simp[go_sem]
 repeat first|refine nq ?_|refine sq ?_
 refine vw _ _ _ _ _ _ (Kc _ _) ?_;simp[go_sem,hi,CI.h]
 repeat first|refine nq ?_|refine sq ?_
 refine vw _ _ _ _ _ _ (LV _ _ _) ?_;simp[go_sem]
 repeat first|refine nq ?_|refine sq ?_
 refine vw _ _ _ _ _ _ (Kc _ _) ?_;simp[go_sem]
 repeat first|refine nq ?_|refine sq ?_
 refine Be.lend _ _ _ _ _ _ 2 [n] (SY [HV (λj=>match l[j]? with|some r=>r.id|none=>0) i,if !Ds (l[i]).O then 39 else 0,if !decide (0<=(l[i]).time/\(l[i]).time<=1099511627776)then 40 else 0] nO) rfl nO (λh' hh=>?_) ?_;have:=hh n nO;simp[h_]at this;simp[AT,Fz,this,CP,SV.B,SV.cells];simp[go_sem]
 repeat first|refine nq ?_|refine sq ?_
 exact Bq c (AY c (IO _) AE) (by simp[KH,hi]) rfl
def FX(l:List CI):Int:=BH [if decide (256<(l.length:Int))then 9 else 0,CK (KH l) (min l.length 256)]
theorem c84(l:List CI)(d:l.length<=1048576)(e:∀r∈l,r.O.size<=1048576):PC 80 [Cq l] (AA (FX l)):=by
 intro h n;refine gq func80 rfl λc=>?_;simp[go_sem,AC]
 repeat first|refine nq ?_|refine sq ?_
 refine vw _ _ _ _ _ _ (Kc _ _) ?_;have a:(if(256:Int)<(l.length:Int)then(256:Int)else(l.length:Int))=((min l.length 256:Nat):Int):=by split<;>omega
 simp[go_sem,AC,a]
 repeat first|refine nq ?_|refine sq ?_
 have b:=Zp (min l.length 256) nN 144 [] [.q [Cq l]] (KH l) (λj hj=>kL l j nN d e);refine Be.lend _ _ _ _ _ _ 3 [n] b rfl nO (λh' hh=>?_) ?_;have:=hh n nO;simp[h_]at this;simp[AT,Fz,this];simp[go_sem]
 repeat first|refine nq ?_|refine sq ?_
 refine Be.lend _ _ _ _ _ _ 2 [n+1] (SY [if decide (256<(l.length:Int))then 9 else 0,CK (KH l) (min l.length 256)] nO) rfl nO (λh' hh=>?_) ?_;have:=hh (n+1) nO;simp[h_]at this;simp[AT,Fz,this,CP,SV.B,SV.cells];simp[go_sem]
 repeat first|refine nq ?_|refine sq ?_
 exact Bq c (AY c (vP n) (AY c (IO _) AE)) (by simp[FX]) rfl
theorem cx(a:Int):PC 185 [AA a] (.bool false):=by
 intro h n;refine gq func185 rfl λb=>?_;simp[go_sem];exact An b rfl rfl
def Fe(a b:Int):Int:=if a<b then -1 else if b<a then 1 else 0
theorem cv(a b:Int):PC 138 [AA a,AA b] (AA (Fe a b)):=by
 intro h n;refine gq func138 rfl λc=>?_;simp[go_sem];refine(cx _).use ?_;simp[go_sem];refine(cx _).use ?_;by_cases h1:a<b<;>by_cases h2:b<a<;>simp[go_sem,h1,h2]
 all_goals exact An c rfl (by simp[Fe,h1,h2])
def BI(p:Nat->Bool)(n:Nat)(k:Nat):Int:=if _:k<n then if p k then k else BI p n (k+1)else -1
termination_by n-k
theorem GV(p:Nat->Bool)(n k:Nat):BI p n k = -1\/∃i,k<=i/\i<n/\BI p n k=i/\p i=true:=by
 rw[BI];by_cases h:k<n;by_cases hp:p k=true;exact .inr ⟨k,IO _,h,by simp[h,hp],hp⟩;have:=GV p n (k+1);simp only[h,dite_true,hp];rcases this with e|⟨i,h1,h2,h3,h4⟩
 exact .inl (by simpa using e);exact .inr ⟨i,by omega,h2,by simpa using h3,h4⟩;exact .inl (by simp[h])
termination_by n-k
theorem kS(l:List Int)(x:Int)(hl:l.length<=1048576):PC 288 [.x 1 (l.map AA) false,AA x] (AA (BI (λi=>decide (l[i]? = some x)) l.length 0)):=by
 intro h n;refine gq func288 rfl λd=>?_;simp[go_sem];refine A9 1 (α:=Nat) (λk=>[(0,.x 1 (l.map AA) false),(1,AA x),(7,AA l.length),(8,AA k)]) (λ_=>h) (λk m=>k<=l.length/\n<=m/\BI (λi=>decide (l[i]? = some x)) l.length 0=BI (λi=>decide (l[i]? = some x)) l.length k) (λk=>l.length-k) 0 ?_ ?_ AE ?_;simp;simp[look];rintro k m ⟨hk,c,b⟩;rw[BI.eq_def _ _ k]at b;by_cases a:k<l.length;have e:=wS k nN;by_cases h0:x=l[k];simp[go_sem,a,h0];exact An d rfl (by rw[<-h0,b];simp[a,h0]);simp[go_sem,a,h0,e,-Int.natCast_add];exact⟨k+1,by omega,⟨by omega,c,by rw[b];simp[a,Ne.symm h0]⟩,Or⟩;simp[go_sem,a];exact An d rfl (by rw[b];simp[a])
theorem S7(l:List Int)(x:Int):decide (0<=BI (λi=>decide (l[i]? = some x)) l.length 0)=decide (x∈l):=by
 have gen:∀k,k<=l.length->(0<=BI (λi=>decide (l[i]? = some x)) l.length k↔x∈l.drop k):=by
  intro k hk
  induction hd:l.length-k generalizing k with
  | zero=>
   have:k=l.length:=by omega
   subst this;rw[BI];simp
  | succ d ih=>
   have hlt:k<l.length:=by omega
   have hd:x∈l.drop k↔x=l[k]\/x∈l.drop (k+1):=by rw[qG hlt,qd]
   rw[BI,hd];by_cases e:l[k]=x;simp[hlt,e];have:=ih (k+1) nN nN;simp[hlt,e,this,Ne.symm e]
 have:=gen 0 (qi _);simp only[wq]at this;simp[this]
theorem kD(l:List Int)(x:Int)(a:l.length<=1048576):PC 252 [.x 1 (l.map AA) false,AA x] (.bool (decide (x∈l))):=by
 intro h n;refine gq func252 rfl λb=>?_;simp[go_sem];refine(kS l x a).use ?_;simp[go_sem];exact An b rfl (by rw[S7])
def IG(c:Nat->Int)(i j:Nat):Nat:=if _:i<j then if c ((i+j) / 2)<0 then IG c ((i+j) / 2+1) j else IG c i ((i+j) / 2)else i
termination_by j-i
def Bc(c:Nat->Int)(n:Nat):Nat×Bool:=(IG c 0 n,decide (IG c 0 n<n/\c (IG c 0 n)=0))
theorem cP{x:Int}(h0:0<=x)(h1:x<=4611686018427387904):IntKind.u64.wrap x=x:=IntWalk.u64_in x nN
structure Jn where
 number:Int
 group:Int
 low:Int
 high:Int
 standard:Int
 name:ByteArray
def Jn.h(k:Jn):SV:=.agg [AA k.number,AA k.group,AA k.low,AA k.high,AA k.standard,.str k.name]
theorem lE(l:List Jn)(hl:l.length<=1048576)(t:SV)(g:FuncId)(a b:List SV)(c:Nat->Int)(p:∀(i:Nat)(h:i<l.length),PC g (a++[Jn.h l[i],t]++b) (AA (c i))):
 PC 286 [.x 6 (l.map Jn.h) false,t,.fn (.func g) a b] (.tup [AA (Bc c l.length).1,.bool (Bc c l.length).2]):=by
 intro h n;refine gq func286 rfl λs=>?_;simp[go_sem];refine A9 1 (α:=Nat×Nat) (λq=>[(0,.x 6 (l.map Jn.h) false),(1,t),(2,.fn (.func g) a b),(8,AA l.length),(9,AA q.1),(10,AA q.2)]) (λ_=>h) (λq m=>q.1<=q.2/\q.2<=l.length/\n<=m/\IG c 0 l.length=IG c q.1 q.2) (λq=>q.2-q.1) (0,l.length) ?_ ?_ AE ?_;simp;simp[look];rintro⟨i,j⟩ m ⟨o,r,k,f⟩;dsimp only at o r f;by_cases d:i<j;have hm:(i+j) / 2<l.length:=by omega
 have u:IntKind.i64.wrap ((i:Int)+j)=((i+j:Nat):Int):=by rw[D5]<;>omega
 have v:IntKind.u64.wrap ((i+j:Nat):Int)=((i+j:Nat):Int):=by rw[cP]<;>omega
 have w:(((i+j:Nat):Int)).fdiv 2=(((i+j) / 2:Nat):Int):=by rw[Int.fdiv_eq_ediv_of_nonneg _ nN];omega
 have y:IntKind.i64.wrap (((i+j) / 2:Nat):Int)=(((i+j) / 2:Nat):Int):=by rw[D5]<;>omega
 have z:IntKind.i64.wrap ((((i+j) / 2:Nat):Int)+1)=(((i+j) / 2+1:Nat):Int):=by rw[D5]<;>omega
 have H:=p _ hm;simp only[qv,qB,qK]at H;rw[IG.eq_def c i j]at f;simp[go_sem,d,u,v,w,y,hm,Jn.h,-Int.natCast_add,-Int.natCast_ediv];refine qO (by simpa[Jn.h]using H) ?_;by_cases hb:c ((i+j) / 2)<0;simp[d,hb]at f;simp[go_sem,hb,z,-Int.natCast_add,-Int.natCast_ediv];exact⟨(i+j) / 2+1,j,by omega,⟨by omega,r,k,f⟩,Or,Or⟩;simp[d,hb]at f;simp[go_sem,hb,-Int.natCast_add,-Int.natCast_ediv];exact⟨i,(i+j) / 2,by omega,⟨by omega,by omega,k,f⟩,Or,Or⟩;have e:IG c 0 l.length=i:=by rw[f,IG.eq_def];simp[d]
 by_cases hi:i<l.length;have H:=p i hi;simp only[qv,qB,qK]at H;simp[go_sem,d,hi,Jn.h];refine qO (by simpa[Jn.h]using H) ?_;simp[go_sem];exact An s rfl (by simp[Bc,e,hi];by_cases h0:c i=0<;>simp[h0]);simp[go_sem,d,hi];exact An s rfl (by simp[Bc,e,hi])
set_option maxRecDepth 100000
def B7:List Jn:=[
 ⟨1,1,0,1073741824,0,⟨#[99,104,97,114,97,99,116,101,114,45,115,116,121,108,101]⟩⟩,
 ⟨2,1,0,1,0,⟨#[98,111,108,100]⟩⟩,
 ⟨3,1,0,1,0,⟨#[105,116,97,108,105,99]⟩⟩,
 ⟨4,1,0,3,0,⟨#[117,110,100,101,114,108,105,110,101]⟩⟩,
 ⟨5,1,2,1638,22,⟨#[115,105,122,101]⟩⟩,
 ⟨6,1,0,16777215,0,⟨#[99,111,108,111,114]⟩⟩,
 ⟨7,1,0,63,0,⟨#[102,111,110,116]⟩⟩,
 ⟨8,1,0,255,0,⟨#[108,97,110,103,117,97,103,101]⟩⟩,
 ⟨9,1,(-400),400,0,⟨#[114,97,105,115,101]⟩⟩,
 ⟨10,1,0,1,0,⟨#[104,105,100,100,101,110]⟩⟩,
 ⟨20,2,0,1073741824,0,⟨#[112,97,114,97,103,114,97,112,104,45,115,116,121,108,101]⟩⟩,
 ⟨21,2,0,3,0,⟨#[97,108,105,103,110]⟩⟩,
 ⟨22,2,(-31680),31680,0,⟨#[108,101,102,116]⟩⟩,
 ⟨23,2,(-31680),31680,0,⟨#[114,105,103,104,116]⟩⟩,
 ⟨24,2,(-31680),31680,0,⟨#[102,105,114,115,116]⟩⟩,
 ⟨25,2,0,31680,0,⟨#[98,101,102,111,114,101]⟩⟩,
 ⟨26,2,0,31680,0,⟨#[97,102,116,101,114]⟩⟩,
 ⟨27,2,0,31680,0,⟨#[108,101,97,100,105,110,103]⟩⟩,
 ⟨28,2,0,1,0,⟨#[107,101,101,112,45,110,101,120,116]⟩⟩,
 ⟨29,2,0,1,0,⟨#[107,101,101,112,45,108,105,110,101,115]⟩⟩,
 ⟨30,2,0,1,1,⟨#[119,105,100,111,119]⟩⟩,
 ⟨31,2,0,1,0,⟨#[112,97,103,101,45,98,101,102,111,114,101]⟩⟩,
 ⟨32,2,0,9,0,⟨#[111,117,116,108,105,110,101]⟩⟩,
 ⟨33,2,0,1073741824,0,⟨#[108,105,115,116]⟩⟩,
 ⟨34,2,1,9,1,⟨#[108,101,118,101,108]⟩⟩,
 ⟨35,2,0,32767,0,⟨#[114,101,115,116,97,114,116]⟩⟩,
 ⟨36,2,1,31680,720,⟨#[116,97,98,45,115,116,111,112]⟩⟩,
 ⟨37,2,0,1,0,⟨#[104,121,112,104,101,110,97,116,101]⟩⟩,
 ⟨40,3,720,31680,12240,⟨#[112,97,103,101,45,119,105,100,116,104]⟩⟩,
 ⟨41,3,720,31680,15840,⟨#[112,97,103,101,45,104,101,105,103,104,116]⟩⟩,
 ⟨42,3,0,31680,1440,⟨#[116,111,112]⟩⟩,
 ⟨43,3,0,31680,1440,⟨#[98,111,116,116,111,109]⟩⟩,
 ⟨44,3,0,31680,1440,⟨#[105,110,110,101,114]⟩⟩,
 ⟨45,3,0,31680,1440,⟨#[111,117,116,101,114]⟩⟩,
 ⟨46,3,0,32767,0,⟨#[102,105,114,115,116,45,112,97,103,101]⟩⟩,
 ⟨47,3,1,6,1,⟨#[112,97,103,101,45,102,111,114,109,97,116]⟩⟩,
 ⟨50,4,0,1,0,⟨#[104,101,97,100,101,114]⟩⟩,
 ⟨51,4,0,1,0,⟨#[99,97,110,116,45,115,112,108,105,116]⟩⟩,
 ⟨52,4,0,31680,0,⟨#[114,111,119,45,104,101,105,103,104,116]⟩⟩,
 ⟨60,5,1,32,1,⟨#[99,111,108,117,109,110,45,115,112,97,110]⟩⟩,
 ⟨61,5,0,2,0,⟨#[118,101,114,116,105,99,97,108,45,109,101,114,103,101]⟩⟩,
 ⟨62,5,0,31680,0,⟨#[99,101,108,108,45,119,105,100,116,104]⟩⟩,
 ⟨63,5,0,16777215,16777215,⟨#[115,104,97,100,101]⟩⟩,
 ⟨70,6,0,31680,0,⟨#[116,97,98,108,101,45,119,105,100,116,104]⟩⟩,
 ⟨71,6,0,2,0,⟨#[116,97,98,108,101,45,97,108,105,103,110]⟩⟩]
def Iz:List SV:=B7.flatMap λk=>k.h.cells
theorem eV(Q:Exit->SV->Hp->Nat->Prop)(h:Hp)(n:Nat):swp prog 47 (Tryz.f285.body.getD .ret) (λe sa h n=>Q e (look sa 0) h n) [] h n=Q .ret (.sl n 0 6 45 true) (h_ h n (some (.cells Iz))) (n+1):=by kernel_rfl
theorem lD:PC 285 [] (.x 6 (B7.map Jn.h) false):=by
 intro h n;refine gq func285 rfl λc=>?_;rw[FB];have e:=eV (λe v h' n'=>(e=.normal\/e=.ret)/\∃rs,some [v]=some rs/\Cb n h' n' (Jj rs) (Is (.x 6 (B7.map Jn.h) false) h n)) h n;refine cast e.symm ⟨.inr rfl,_,rfl,?_⟩;refine IZ 1 c (AY c (IO _) AE) (.inr ⟨c.none (IO _),by simp,by kernel_rfl,rfl,Iz,Iz,AC _ _ _,by kernel_rfl,?_,?_⟩) ?_;intro x b;simp only[qb]at b;obtain⟨k,_,rfl⟩:=b;exact⟨rfl,rfl⟩;have all:∀l:List SV,AT (Fz (h_ h n (some (.cells Iz))) h 0) l l:=by
  intro l;induction l with
  | nil=>trivial
  | cons a l ih=>exact⟨Or,ih⟩
 have e:(B7.map Jn.h).flatMap SV.cells=Iz:=by kernel_rfl
 rw[e];exact all _;rw[C_];refine EK.2 λx b=>?_;simp only[qb]at b;obtain⟨k,_,rfl⟩:=b;rfl
end Go.Proofs.YthinbkgpjmjfeaaGreatDoor.Sh
namespace Go.Proofs.YthinbkgpjmjfeaaGreatDoor.Sh
open Go.Proofs.Tryz
open Proofs
set_option maxRecDepth 100000
theorem lF(k:Jn)(t:Int):PC 287 [k.h,AA t] (AA (Fe k.number t)):=by
 intro h n;refine gq func287 rfl λa=>?_;simp[go_sem,Jn.h,AC];refine(cv _ _).use ?_;simp[go_sem];exact Bq a (AY a (IO _) AE) rfl rfl
def IN(t:Int)(i:Nat):Int:=match B7[i]? with|some k=>Fe k.number t|none=>0
def Ew(t:Int):Option Jn:=if(Bc (IN t) B7.length).2 then B7[(Bc (IN t) B7.length).1]? else none
def Jn.zero:Jn:=⟨0,0,0,0,0,⟨#[]⟩⟩
theorem OV:B7.length=45:=by kernel_rfl
theorem gK(t:Int):PC 251 [AA t] (.tup [((Ew t).getD Jn.zero).h,.bool (Ew t).isSome]):=by
 intro h n;refine gq func251 rfl λb=>?_;simp[go_sem];refine lD.use ?_;simp[go_sem];refine(lE B7 (by rw[OV];omega) (AA t) 287 [] [] (IN t) (λi hi=>by simpa[IN,hi]using lF B7[i] t)).use ?_;by_cases hb:(Bc (IN t) B7.length).2=true;have hi:(Bc (IN t) B7.length).1<B7.length:=by
  simp only[Bc,decide_eq_true_eq]at hb;exact hb.1
 have a:Ew t=some B7[(Bc (IN t) B7.length).1]:=by simp[Ew,hb,hi]
 generalize hk:B7[(Bc (IN t) B7.length).1]=k at a;have hg:(B7.map Jn.h)[(Bc (IN t) B7.length).1]? = some k.h:=by rw[<-hk];simp[hi]
 simp only[vj]at hg;simp[go_sem,hb,hg,Jn.h,AC];refine Bq b (λo y e=>?_) (by simp[a]) rfl;have:=(b o y e).1;have ne:o≠n:=by omega
 simp[h_,ne,e];have a:Ew t=none:=by simp[Ew,hb]
 simp[go_sem,hb,AC];refine Bq b (λo y e=>?_) (by simp[a,Jn.zero,Jn.h];rfl) rfl;have:=(b o y e).1;have ne:o≠n:=by omega
 simp[h_,ne,e]
def CR(e:Int):List Int:=
 if e=1\/e=4\/e=5\/e=6 then[1]else if e=2 then[1,2]else if e=3 then[3]else if e=7 then[6]else if e=9 then[4]else if e=10 then[5]else[]
theorem ky(e:Int):PC 253 [AA e] (.x 1 ((CR e).map AA) false):=by
 intro h n;refine gq func253 rfl λd=>?_;have fin:∀(g:List Int)(m:Nat),n<=m->Cb n (h_ h m (some (.cells (g.map AA)))) (m+1) (.sl m 0 1 g.length true) (Is (.x 1 (g.map AA) false) h n):=λg m hm=>by
  refine IZ 1 d (AY d hm AE) (.inr ⟨d.none hm,by simp,by simp,rfl,_,_,AC _ _ _,by simp[CP];rfl,?_,?_⟩) ?_;intro x c;simp at c;obtain⟨_,_,rfl⟩:=c;exact⟨rfl,rfl⟩;have e:(g.map AA).flatMap SV.cells=g.map AA:=by induction g with|nil=>rfl|cons a l ih=>simpa[SV.cells]using ih
  rw[e];have all:∀l:List SV,AT (Fz (h_ h m (some (.cells (g.map AA)))) h 0) l l:=by
   intro l;induction l with
   | nil=>trivial
   | cons a l ih=>exact⟨Or,ih⟩
  rw[qD nO];exact all _;rw[C_];refine EK.2 λx c=>?_;simp only[qb]at c;obtain⟨k,_,rfl⟩:=c;rfl
 by_cases h1:e=1;subst h1;simp[go_sem,CR];exact fin [1] n (IO _);by_cases i:e=4;subst i;simp[go_sem,CR];exact fin [1] n (IO _);by_cases j:e=5;subst j;simp[go_sem,CR];exact fin [1] n (IO _);by_cases o:e=6;subst o;simp[go_sem,CR];exact fin [1] n (IO _);by_cases h2:e=2;subst h2;simp[go_sem,CR];exact fin [1,2] n (IO _);by_cases f:e=3;subst f;simp[go_sem,CR];exact fin [3] n (IO _);by_cases p:e=7;subst p;simp[go_sem,CR];exact fin [6] n (IO _);by_cases q:e=9;subst q;simp[go_sem,CR];exact fin [4] n (IO _);by_cases b:e=10;subst b;simp[go_sem,CR];exact fin [5] n (IO _);simp[go_sem,CR,h1,h2,f,i,j,o,p,q,b];exact IZ 1 d AE (.inr ⟨by simp,.inl rfl,trivial,by simp⟩) rfl
def RC(el key:Int):Bool:=match Ew key with|some k=>decide (k.group∈CR el)|none=>false
theorem N5(e:Int):(CR e).length<=1048576:=by unfold CR;(repeat' split)<;>simp
theorem gJ(el key:Int):PC 199 [AA el,AA key] (.bool (RC el key)):=by
 intro h n;refine gq func199 rfl λa=>?_;simp[go_sem];refine(gK key).use ?_;cases b:Ew key with
 | none=>
  simp[go_sem,Jn.zero,Jn.h,AC]
  repeat first|refine nq ?_|refine sq ?_
  refine Bq a (λo y e=>?_) (by simp[RC,b]) rfl;have:=(a o y e).1;have ne:o≠n:=by omega
  simp[h_,ne,e]
 | some k=>
  simp[go_sem,Jn.h,AC]
  repeat first|refine nq ?_|refine sq ?_
  refine vw _ _ _ _ _ _ (ky el) ?_;simp[go_sem,AC]
  repeat first|refine nq ?_|refine sq ?_
  refine vw _ _ _ _ _ _ (kD (CR el) k.group (N5 el)) ?_;simp[go_sem]
  repeat first|refine nq ?_|refine sq ?_
  refine Bq a (λo y e=>?_) (by simp[RC,b]) rfl;have:=(a o y e).1;have ne:o≠n:=by omega
  simp[h_,ne,e]
def EU(key v:Int):Int:=match Ew key with|some k=>if v<k.low\/k.high<v then 5 else 0|none=>4
theorem dA(key v:Int):PC 200 [AA key,AA v] (AA (EU key v)):=by
 intro h n;refine gq func200 rfl λc=>?_;simp[go_sem];refine(gK key).use ?_;have hh:∀a b:Option A7,∀o x,h o=some x->h_ (h_ h n a) n b o=some x:=λa b o y e=>by
  have:=(c o y e).1;have ne:o≠n:=by omega
  simp[h_,ne,e]
 cases d:Ew key with
 | none=>
  simp[go_sem,Jn.zero,Jn.h,AC];exact Bq c (hh _ _) (by simp[EU,d]) rfl
 | some k=>
  by_cases h1:v<k.low<;>by_cases h2:k.high<v<;>simp[go_sem,Jn.h,AC,h1,h2]
  all_goals exact Bq c (hh _ _) (by simp[EU,d,h1,h2]) rfl
def Dv(el:Int)(l:List Fd)(i:Nat):Int:=match l[i]? with
 | some p=>if !RC el p.key then 4 else if decide (0<i)&&((l[i-1]?).map Fd.key==some p.key)then 7
  else if decide (0<i)&&(match l[i-1]? with|some q=>decide (p.key<q.key)|none=>false)then 6 else EU p.key p.value
 | none=>0
def C9(el:Int)(l:List Fd):Int:=if el<1\/10<el then 3 else CK (Dv el l) l.length
theorem fy(el:Int)(l:List Fd)(hl:l.length<=1048576):PC 149 [AA el,AU l] (AA (C9 el l)):=by
 intro h n;refine gq func149 rfl λg=>?_;by_cases r:el<1;simp[go_sem,r];exact An g rfl (by simp[C9,r]);by_cases u:10<el;simp[go_sem,r,u];exact An g rfl (by simp[C9,u]);have D:C9 el l=CK (Dv el l) l.length:=by simp[C9,r,u]
 rw[D];simp[go_sem,r,u];refine A9 1 (α:=Nat) (λk=>[(0,AA el),(1,AU l),(14,AU l),(15,AA l.length),(16,AA k)]) (λ_=>h) (λk m=>k<=l.length/\n<=m/\CK (Dv el l) k=0) (λk=>l.length-k) 0 ?_ ?_ AE ?_;simp[CK];simp[look];rintro k m ⟨hk,hnm,w⟩;have hh:∀a b:Option A7,∀o x,h o=some x->h_ (h_ h m a) m b o=some x:=λa b o y e=>by
  have:=(g o y e).1;have ne:o≠m:=by omega
  simp[h_,ne,e]
 by_cases f:k<l.length
 . have C:=wS k nN;obtain⟨p,hp⟩:∃p,l[k]? = some p:=⟨l[k],by simp[f]⟩
   have z:l[k]=p:=by simpa[f]using hp
   have t:∀e,Dv el l k=e->e≠0->CK (Dv el l) l.length=e:=λe h1 h2=>by rw[E4 _ f w (by rw[h1];exact h2),h1]
   simp[go_sem,f,z,Fd.h,AC];refine(gJ _ _).use ?_;by_cases c:RC el p.key=true
   . by_cases h0:0<k
     . obtain⟨q,j⟩:∃q,l[k-1]? = some q:=⟨l[k-1],by simp[show k-1<l.length by omega]⟩
       have B:IntKind.i64.wrap ((k:Int)-1)=((k-1:Nat):Int):=by rw[D5]<;>omega
       have A:(l.map Fd.h)[k-1]? = some q.h:=by simp[j]
       simp only[vj]at A;by_cases i:p.key=q.key
       . have d:RC el q.key=true:=by rw[<-i];exact c
         simp[go_sem,d,h0,B,j,Fd.h,AC,i]
         repeat first|refine nq ?_|refine sq ?_
         exact Bq g (hh _ _) (by rw[t 7 (by simp[Dv,hp,d,h0,j,i]) nO]) rfl
       . by_cases v:p.key<q.key
         . simp[go_sem,c,h0,B,j,Fd.h,AC,i,v]
           repeat first|refine nq ?_|refine sq ?_
           exact Bq g (hh _ _) (by rw[t 6 (by simp[Dv,hp,c,h0,j,v,Ne.symm i]) nO]) rfl
         . simp[go_sem,c,h0,B,j,Fd.h,AC,i,v]
           repeat first|refine nq ?_|refine sq ?_
           refine(dA _ _).use ?_;have s:Dv el l k=EU p.key p.value:=by simp[Dv,hp,c,h0,j,v,Ne.symm i]
           by_cases hv:EU p.key p.value=0;simp[go_sem,hv,C,-Int.natCast_add];exact⟨k+1,by omega,⟨by omega,by omega,by simp[CK,w,s,hv]⟩,Or,hh _ _⟩;simp[go_sem,hv];exact Bq g (hh _ _) (by rw[t _ s hv]) rfl
     . simp[go_sem,c,h0,AC]
       repeat first|refine nq ?_|refine sq ?_
       refine(dA _ _).use ?_;have s:Dv el l k=EU p.key p.value:=by simp[Dv,hp,c,h0]
       by_cases hv:EU p.key p.value=0;simp[go_sem,hv,C,-Int.natCast_add];exact⟨k+1,by omega,⟨by omega,by omega,by simp[CK,w,s,hv]⟩,Or,hh _ _⟩;simp[go_sem,hv];exact Bq g (hh _ _) (by rw[t _ s hv]) rfl
   simp[go_sem,c];exact Bq g (hh _ _) (by rw[t 4 (by simp[Dv,hp,c]) nO]) rfl
 simp[go_sem,f];have:k=l.length:=by omega
 subst this;exact An g rfl (by rw[w])
end Go.Proofs.YthinbkgpjmjfeaaGreatDoor.Sh
namespace Go.Proofs.YthinbkgpjmjfeaaGreatDoor.Sh
open Go.Proofs.Tryz
open Proofs
set_option maxRecDepth 10000
def MT(p:Nat->Bool)(n:Nat):Bool:=decide (0<=BI p n 0)
structure CH where
 literal:ByteArray
 level:Int
 plain:Bool
def CH.h(p:CH):SV:=.agg [.str p.literal,AA p.level,.bool p.plain]
abbrev Je:Int->SV:=.int .u8
theorem gL(l:List Al)(hl:l.length<=1048576)(g:FuncId)(a b:List SV)(p:Nat->Bool)(hp:∀(i:Nat)(h:i<l.length),PC g (a++[Al.h l[i]]++b) (.bool (p i))):
 PC 279 [.x 6 (l.map Al.h) false,.fn (.func g) a b] (AA (BI p l.length 0)):=by
 intro h n;refine gq func279 rfl λf=>?_;simp[go_sem];refine A9 1 (α:=Nat) (λk=>[(0,.x 6 (l.map Al.h) false),(1,.fn (.func g) a b),(7,AA l.length),(8,AA k)]) (λ_=>h) (λk m=>k<=l.length/\n<=m/\BI p l.length 0=BI p l.length k) (λk=>l.length-k) 0 ?_ ?_ AE ?_;simp;simp[look];rintro k m ⟨hk,e,d⟩;rw[BI.eq_def _ _ k]at d;by_cases c:k<l.length;have j:=wS k nN;have H:=hp k c;simp only[qv,qB,qK]at H;simp[go_sem,c,Al.h];refine qO (by simpa[Al.h]using H) ?_;by_cases h0:p k=true;simp[go_sem,h0];exact An f rfl (by rw[d];simp[c,h0]);simp[go_sem,h0,j,-Int.natCast_add];exact⟨k+1,by omega,⟨by omega,e,by rw[d];simp[c,h0]⟩,Or⟩;simp[go_sem,c];exact An f rfl (by rw[d];simp[c])
theorem kx(l:List AX)(hl:l.length<=1048576)(g:FuncId)(a b:List SV)(p:Nat->Bool)(hp:∀(i:Nat)(h:i<l.length),PC g (a++[AX.h l[i]]++b) (.bool (p i))):
 PC 250 [.x 6 (l.map AX.h) false,.fn (.func g) a b] (AA (BI p l.length 0)):=by
 intro h n;refine gq func250 rfl λf=>?_;simp[go_sem];refine A9 1 (α:=Nat) (λk=>[(0,.x 6 (l.map AX.h) false),(1,.fn (.func g) a b),(7,AA l.length),(8,AA k)]) (λ_=>h) (λk m=>k<=l.length/\n<=m/\BI p l.length 0=BI p l.length k) (λk=>l.length-k) 0 ?_ ?_ AE ?_;simp;simp[look];rintro k m ⟨hk,e,d⟩;rw[BI.eq_def _ _ k]at d;by_cases c:k<l.length;have j:=wS k nN;have H:=hp k c;simp only[qv,qB,qK]at H;simp[go_sem,c,AX.h];refine qO (by simpa[AX.h]using H) ?_;by_cases h0:p k=true;simp[go_sem,h0];exact An f rfl (by rw[d];simp[c,h0]);simp[go_sem,h0,j,-Int.natCast_add];exact⟨k+1,by omega,⟨by omega,e,by rw[d];simp[c,h0]⟩,Or⟩;simp[go_sem,c];exact An f rfl (by rw[d];simp[c])
theorem fv(l:List CI)(hl:l.length<=1048576)(g:FuncId)(a b:List SV)(p:Nat->Bool)(hp:∀(i:Nat)(h:i<l.length),PC g (a++[CI.h l[i]]++b) (.bool (p i))):
 PC 169 [.x 3 (l.map CI.h) false,.fn (.func g) a b] (AA (BI p l.length 0)):=by
 intro h n;refine gq func169 rfl λf=>?_;simp[go_sem];refine A9 1 (α:=Nat) (λk=>[(0,.x 3 (l.map CI.h) false),(1,.fn (.func g) a b),(7,AA l.length),(8,AA k)]) (λ_=>h) (λk m=>k<=l.length/\n<=m/\BI p l.length 0=BI p l.length k) (λk=>l.length-k) 0 ?_ ?_ AE ?_;simp;simp[look];rintro k m ⟨hk,e,d⟩;rw[BI.eq_def _ _ k]at d;by_cases c:k<l.length;have j:=wS k nN;have H:=hp k c;simp only[qv,qB,qK]at H;simp[go_sem,c,CI.h];refine qO (by simpa[CI.h]using H) ?_;by_cases h0:p k=true;simp[go_sem,h0];exact An f rfl (by rw[d];simp[c,h0]);simp[go_sem,h0,j,-Int.natCast_add];exact⟨k+1,by omega,⟨by omega,e,by rw[d];simp[c,h0]⟩,Or⟩;simp[go_sem,c];exact An f rfl (by rw[d];simp[c])
theorem gB(l:List AM)(hl:l.length<=1048576)(g:FuncId)(a b:List SV)(p:Nat->Bool)(hp:∀(i:Nat)(h:i<l.length),PC g (a++[AM.h l[i]]++b) (.bool (p i))):
 PC 212 [.x 6 (l.map AM.h) false,.fn (.func g) a b] (AA (BI p l.length 0)):=by
 intro h n;refine gq func212 rfl λf=>?_;simp[go_sem];refine A9 1 (α:=Nat) (λk=>[(0,.x 6 (l.map AM.h) false),(1,.fn (.func g) a b),(7,AA l.length),(8,AA k)]) (λ_=>h) (λk m=>k<=l.length/\n<=m/\BI p l.length 0=BI p l.length k) (λk=>l.length-k) 0 ?_ ?_ AE ?_;simp;simp[look];rintro k m ⟨hk,e,d⟩;rw[BI.eq_def _ _ k]at d;by_cases c:k<l.length;have j:=wS k nN;have H:=hp k c;simp only[qv,qB,qK]at H;simp[go_sem,c,qR];refine qO (by simpa[qR]using H) ?_;by_cases h0:p k=true;simp[go_sem,h0];exact An f rfl (by rw[d];simp[c,h0]);simp[go_sem,h0,j,-Int.natCast_add];exact⟨k+1,by omega,⟨by omega,e,by rw[d];simp[c,h0]⟩,Or⟩;simp[go_sem,c];exact An f rfl (by rw[d];simp[c])
theorem lI(l:List CH)(hl:l.length<=1048576)(g:FuncId)(a b:List SV)(p:Nat->Bool)(hp:∀(i:Nat)(h:i<l.length),PC g (a++[CH.h l[i]]++b) (.bool (p i))):
 PC 310 [.x 3 (l.map CH.h) false,.fn (.func g) a b] (AA (BI p l.length 0)):=by
 intro h n;refine gq func310 rfl λf=>?_;simp[go_sem];refine A9 1 (α:=Nat) (λk=>[(0,.x 3 (l.map CH.h) false),(1,.fn (.func g) a b),(7,AA l.length),(8,AA k)]) (λ_=>h) (λk m=>k<=l.length/\n<=m/\BI p l.length 0=BI p l.length k) (λk=>l.length-k) 0 ?_ ?_ AE ?_;simp;simp[look];rintro k m ⟨hk,e,d⟩;rw[BI.eq_def _ _ k]at d;by_cases c:k<l.length;have j:=wS k nN;have H:=hp k c;simp only[qv,qB,qK]at H;simp[go_sem,c,CH.h];refine qO (by simpa[CH.h]using H) ?_;by_cases h0:p k=true;simp[go_sem,h0];exact An f rfl (by rw[d];simp[c,h0]);simp[go_sem,h0,j,-Int.natCast_add];exact⟨k+1,by omega,⟨by omega,e,by rw[d];simp[c,h0]⟩,Or⟩;simp[go_sem,c];exact An f rfl (by rw[d];simp[c])
theorem lJ(l:List Int)(hl:l.length<=1048576)(g:FuncId)(a b:List SV)(p:Nat->Bool)(hp:∀(i:Nat)(h:i<l.length),PC g (a++[Je l[i]]++b) (.bool (p i))):
 PC 319 [.x 1 (l.map Je) false,.fn (.func g) a b] (AA (BI p l.length 0)):=by
 intro h n;refine gq func319 rfl λf=>?_;simp[go_sem];refine A9 1 (α:=Nat) (λk=>[(0,.x 1 (l.map Je) false),(1,.fn (.func g) a b),(7,AA l.length),(8,AA k)]) (λ_=>h) (λk m=>k<=l.length/\n<=m/\BI p l.length 0=BI p l.length k) (λk=>l.length-k) 0 ?_ ?_ AE ?_;simp;simp[look];rintro k m ⟨hk,e,d⟩;rw[BI.eq_def _ _ k]at d;by_cases c:k<l.length;have j:=wS k nN;have H:=hp k c;simp only[qv,qB,qK]at H;simp[go_sem,c,Je];refine qO (by simpa[Je]using H) ?_;by_cases h0:p k=true;simp[go_sem,h0];exact An f rfl (by rw[d];simp[c,h0]);simp[go_sem,h0,j,-Int.natCast_add];exact⟨k+1,by omega,⟨by omega,e,by rw[d];simp[c,h0]⟩,Or⟩;simp[go_sem,c];exact An f rfl (by rw[d];simp[c])
theorem kf(l:List AX)(c:l.length<=1048576)(g:FuncId)(a b:List SV)(p:Nat->Bool)(hp:∀(i:Nat)(h:i<l.length),PC g (a++[AX.h l[i]]++b) (.bool (p i))):
 PC 193 [.x 6 (l.map AX.h) false,.fn (.func g) a b] (.bool (MT p l.length)):=by
 intro h n;refine gq func193 rfl λd=>?_;simp[go_sem];refine(kx l c g a b p hp).use ?_;simp[go_sem];exact An d rfl rfl
theorem lB(l:List CH)(c:l.length<=1048576)(g:FuncId)(a b:List SV)(p:Nat->Bool)(hp:∀(i:Nat)(h:i<l.length),PC g (a++[CH.h l[i]]++b) (.bool (p i))):
 PC 283 [.x 3 (l.map CH.h) false,.fn (.func g) a b] (.bool (MT p l.length)):=by
 intro h n;refine gq func283 rfl λd=>?_;simp[go_sem];refine(lI l c g a b p hp).use ?_;simp[go_sem];exact An d rfl rfl
theorem lG(l:List Int)(c:l.length<=1048576)(g:FuncId)(a b:List SV)(p:Nat->Bool)(hp:∀(i:Nat)(h:i<l.length),PC g (a++[Je l[i]]++b) (.bool (p i))):
 PC 307 [.x 1 (l.map Je) false,.fn (.func g) a b] (.bool (MT p l.length)):=by
 intro h n;refine gq func307 rfl λd=>?_;simp[go_sem];refine(lJ l c g a b p hp).use ?_;simp[go_sem];exact An d rfl rfl
abbrev SP(E:BU)(N:Nat)(c:Code)(Q:Ca)(sa:SA)(h:Hp)(n:Nat):Prop:=Fc E prog N c Q sa h n
section
variable{E:BU}{N:Nat}{a b:Code}{Q:Ca}{sa:SA}{h:Hp}{n:Nat}
theorem AJ(H:LL E prog N a Q sa h n):SP E N a Q sa h n:=FI follows _ _ _ _ _ (by rw[<-FB];exact H)
theorem LM(sb:SA)(d:LL E prog N a (Dd (λc h' n'=>(∀p∈sb,look c p.1=p.2)/\h'=h/\n'=n) Q) sa h n)(e:SP E N b Q sb h n):SP E N (.seq a b) Q sa h n:=
 JH (Gp (AJ d) (Fw λc h' n' ⟨h1,h2,f⟩=>by subst h2;subst f;exact Sc e h1))
theorem EF{α:Type}(k:Nat)(fr:α->SA)(hp:α->Hp)(I:α->Nat->Prop)
 (d:LL E prog N a (Dd (λc h' n'=>∃x,I x n'/\(∀p∈fr x,Fz h' (hp x) k (look c p.1) p.2)/\(∀o y,hp x o=some y->h' o=some y)) Q) sa h n)
 (e:∀x m,I x m->SP E N b Q (fr x) (hp x) m):SP E N (.seq a b) Q sa h n:=
 JH (Gp (AJ d) (Fw λ_c _h' n' ⟨x,hI,h1,h2⟩=>Pc k h2 (IO _) h1 (e x n' hI)))
theorem AR{α:Type}(k:Nat)(fr:α->SA)(hp:α->Hp)(I:α->Nat->Prop)
 (d:SP E N a (Dd (λc h' n'=>∃x,I x n'/\(∀p∈fr x,Fz h' (hp x) k (look c p.1) p.2)/\(∀o y,hp x o=some y->h' o=some y)) Q) sa h n)
 (e:∀x m,I x m->SP E N b Q (fr x) (hp x) m):SP E N (.seq a b) Q sa h n:=
 JH (Gp d (Fw λ_c _h' n' ⟨x,hI,h1,h2⟩=>Pc k h2 (IO _) h1 (e x n' hI)))
theorem A6(k:Nat)(fr:SA)(hp:Hp)(I:Nat->Prop)
 (d:LL E prog N a (Dd (λc h' n'=>∃_:Unit,I n'/\(∀p∈fr,Fz h' hp k (look c p.1) p.2)/\(∀o y,hp o=some y->h' o=some y)) Q) sa h n)
 (e:∀m,I m->SP E N b Q fr hp m):SP E N (.seq a b) Q sa h n:=
 EF k (α:=Unit) (λ_=>fr) (λ_=>hp) (λ_=>I) d λ_=>e
theorem Bz(k:Nat)(fr:SA)(hp:Hp)(I:Nat->Prop)
 (d:SP E N a (Dd (λc h' n'=>∃_:Unit,I n'/\(∀p∈fr,Fz h' hp k (look c p.1) p.2)/\(∀o y,hp o=some y->h' o=some y)) Q) sa h n)
 (e:∀m,I m->SP E N b Q fr hp m):SP E N (.seq a b) Q sa h n:=
 AR k (α:=Unit) (λ_=>fr) (λ_=>hp) (λ_=>I) d λ_=>e
theorem Ao(k:Nat)(fr:SA)(hp:Hp)(q:Nat)
 (d:LL E prog N a (Dd (λc h' n'=>∃_:Unit,q<=n'/\(∀p∈fr,Fz h' hp k (look c p.1) p.2)/\(∀o y,hp o=some y->h' o=some y)) Q) sa h n)
 (e:∀m,q<=m->SP E N b Q fr hp m):SP E N (.seq a b) Q sa h n:=A6 k fr hp (q ≤ ·) d e
theorem LO(k:Nat)(fr:SA)(hp:Hp)(q:Nat)
 (d:SP E N a (Dd (λc h' n'=>∃_:Unit,q<=n'/\(∀p∈fr,Fz h' hp k (look c p.1) p.2)/\(∀o y,hp o=some y->h' o=some y)) Q) sa h n)
 (e:∀m,q<=m->SP E N b Q fr hp m):SP E N (.seq a b) Q sa h n:=Bz k fr hp (q ≤ ·) d e
theorem Ai(k:Nat)(fr:SA)(hp:Hp)(q:Nat)
 (d:LL E prog N a (Dd (λc h' n'=>∃_:Unit,q=n'/\(∀p∈fr,Fz h' hp k (look c p.1) p.2)/\(∀o y,hp o=some y->h' o=some y)) Q) sa h n)
 (e:∀m,q=m->SP E N b Q fr hp m):SP E N (.seq a b) Q sa h n:=A6 k fr hp (q = ·) d e
theorem jy(k:Nat)(fr:SA)(hp:Hp)(q:Nat)
 (d:SP E N a (Dd (λc h' n'=>∃_:Unit,q=n'/\(∀p∈fr,Fz h' hp k (look c p.1) p.2)/\(∀o y,hp o=some y->h' o=some y)) Q) sa h n)
 (e:∀m,q=m->SP E N b Q fr hp m):SP E N (.seq a b) Q sa h n:=Bz k fr hp (q = ·) d e
theorem AP{id:Nat}(H:SP E N a (FQ id Q) sa h n):SP E N (.block id a) Q sa h n:=LP H
theorem LN(H:SP E N a (Dd (SP E N b Q) Q) sa h n):SP E N (.seq a b) Q sa h n:=JH H
theorem goS{f:FuncId}{fn:Func}{code:Code}{args:List SV}{K:SV->Hp->Nat->Prop}(a:prog.funcs[f]? = some fn)(hb:fn.body=some code)
 (c:(fn.name != "runtime.NumGoroutine")=true) (hd:Code.dok fn.ntmps code=true) (b:args.length<=fn.ntmps)
 (H:HQ h n->SP (E.call false 0) fn.ntmps code (N7 prog fn n K) (D1 0 args) h n):Ab E prog f args h n K:=
 Oe a hb c hd b λ_ d=>H d
theorem E8{f:FuncId}{fn:Func}{code:Code}{args:List SV}{K:SV->Hp->Nat->Prop}(a:prog.funcs[f]? = some fn)(hb:fn.body=some code)
 (H:HQ h n->SP (E.call false 0) fn.ntmps code (N7 prog fn n K) (D1 0 args) h n)
 (c:(fn.name != "runtime.NumGoroutine")=true:=by kernel_rfl) (hd:Code.dok fn.ntmps code=true:=by kernel_rfl) (b:args.length<=fn.ntmps:=by simp[go_sem]):Ab E prog f args h n K:=
 goS a hb c hd b H
theorem As{x:Code}{α:Type}(k:Nat)(fr:α->SA)(hp:α->Hp)(I:α->Nat->Prop)(μ:α->Nat)(a0:α)(hI:I a0 n)
 (b:∀p∈fr a0,Fz h (hp a0) k (look sa p.1) p.2) (c:∀o y,hp a0 o=some y->h o=some y)
 (d:∀a n,I a n->SP E N x (Dd (λe h' n'=>∃a',μ a'<μ a/\I a' n'/\(∀p∈fr a',Fz h' (hp a') k (look e p.1) p.2)/\(∀o y,hp a' o=some y->h' o=some y)) Q) (fr a) (hp a) n):
 SP E N (.loop x) Q sa h n:=by
 refine M9 (μ a0) (λm sa h n=>∃a,m=μ a/\I a n/\(∀p∈fr a,Fz h (hp a) k (look sa p.1) p.2)/\(∀o y,hp a o=some y->h o=some y)) ⟨a0,rfl,hI,b,c⟩ ?_;rintro m sa h n ⟨a,rfl,hI,b,c⟩;refine Pc k c (IO _) b (Gp (d a n hI) ?_);refine Fw λe h' n' ⟨a',h1,h2,f,g⟩=>⟨μ a',h1,a',rfl,h2,f,g⟩
end
@[go_sem] theorem ZJ(id:Nat)(Q:Ca):FQ id Q .normal=Q .normal:=rfl
@[go_sem] theorem ct(id:Nat)(Q:Ca):FQ id Q .ret=Q .ret:=rfl
@[go_sem] theorem bN(id i:Nat)(Q:Ca)(sa:SA)(h:Hp)(n:Nat):FQ id Q (.exit i) sa h n=if i=id then Q .normal sa h n else Q (.exit i) sa h n:=rfl
def Jw(p:Nat->Bool):Nat->Bool
 | 0=>true
 | n+1=>Jw p n&&p n
theorem Jy{p:Nat->Bool}{k n:Nat}(hk:k<n)(h:p k=false):Jw p n=false:=by
 induction n with
 | zero=>omega
 | succ n ih=>
  rw[Jw];by_cases e:k=n;subst e;simp[h];rw[ih nN];rfl
def QA(d:Int):Int:=IntKind.u8.wrap (BitVec.ofInt 8 d ||| BitVec.ofInt 8 32).toNat
def Ev(first:Bool)(d:Int):Bool:=decide (97<=QA d/\QA d<=122)||(!first&&decide ((48<=d/\d<=57)\/d=45\/d=95))
def F6(s:ByteArray):Bool:=decide ((1:Int)<=s.size/\(s.size:Int)<=40)&&Jw (λi=>Ev (decide (i=0)) (BJ s i)) s.size
theorem c9(s:ByteArray):PC 198 [.str s] (.bool (F6 s)):=by
 intro h n;refine gq func198 rfl λf=>?_;by_cases q:(s.size:Int)<1;simp[go_sem,q];exact An f rfl (by simp[F6];omega);by_cases t:(40:Int)<s.size;simp[go_sem,q,t];exact An f rfl (by simp[F6];omega);have w:F6 s=Jw (λi=>Ev (decide (i=0)) (BJ s i)) s.size:=by
  have:decide ((1:Int)<=s.size/\(s.size:Int)<=40)=true:=by simp;omega
  rw[F6,this];rfl
 rw[w];simp[go_sem,q,t];refine As 1 (α:=Nat) (λk=>[(0,.str s),(16,AA s.size),(17,AA k)]) (λ_=>h) (λk m=>k<=s.size/\n<=m/\Jw (λi=>Ev (decide (i=0)) (BJ s i)) k=true) (λk=>s.size-k) 0 ?_ ?_ AE ?_;simp[Jw];simp[look];rintro k m ⟨hk,hnm,u⟩;by_cases a:k<s.size
 . have A:=wS k nN;obtain⟨g1,e⟩:=Fp a;have no:Ev (decide (k=0)) (BJ s k)=false->Jw (λi=>Ev (decide (i=0)) (BJ s i)) s.size=false:=λhb=>Jy a hb;have g:Ev (decide (k=0)) (BJ s k)=true->Jw (λi=>Ev (decide (i=0)) (BJ s i)) (k+1)=true:=λhb=>by rw[Jw,u,hb];rfl
   refine LM [(0,.str s),(16,AA s.size),(17,AA k),(18,.bool true)] (by simp[go_sem,a]) ?_;refine LM [(0,.str s),(16,AA s.size),(17,AA k)] nP ?_;refine AR 1 (α:=Unit) (λ_=>[(0,.str s),(16,AA s.size),(17,AA k)]) (λ_=>h) (λ_ m'=>m'=m/\Ev (decide (k=0)) (BJ s k)=true) (AP ?_) (λ_ m' hI=>AJ ?_)
   rotate_left
   simp[go_sem,A,-Int.natCast_add];exact⟨k+1,by omega,⟨by omega,by omega,g hI.2⟩,Or⟩;refine LM [(0,.str s),(16,AA s.size),(17,AA k),(3,AA k)] nP ?_;refine LM [(0,.str s),(16,AA s.size),(17,AA k),(3,AA k),(4,.int .u8 (QA (BJ s k)))] (by simp[go_sem,g1,<-e];rfl) ?_;generalize y:QA (BJ s k)=c;generalize hd:BJ s k=d at e;refine LM [(0,.str s),(16,AA s.size),(17,AA k),(3,AA k),(5,.bool (decide (97<=c/\c<=122)))] (by by_cases z:97<=c<;>simp[go_sem,z]) ?_;refine LM [(0,.str s),(16,AA s.size),(17,AA k),(3,AA k),(5,.bool (decide (97<=c/\c<=122))),(6,.bool (decide ((48<=d/\d<=57)\/d=45\/d=95)))] ?_ ?_;by_cases l:48<=d;by_cases r:d<=57;simp[go_sem,g1,<-e,l,r];have o:¬d=45:=by omega
   by_cases p:d=95<;>simp[go_sem,g1,<-e,l,r,o,p];have p:¬d=95:=by omega
   by_cases o:d=45<;>simp[go_sem,g1,<-e,l,o,p];generalize v:decide (97<=c/\c<=122)=L;generalize x:decide ((48<=d/\d<=57)\/d=45\/d=95)=O;have b:Ev (decide (k=0)) (BJ s k)=(L||(!decide (k=0)&&O)):=by rw[Ev,y,hd,v,x]
   rw[b]at no;rw[hd]at b;rw[b];refine AJ ?_;by_cases j:k=0
   . cases L<;>cases O<;>simp[j]at no ⊢ <;> simp[go_sem]
     all_goals exact An f rfl (by rw[no])
   . cases L<;>cases O<;>simp[j]at no ⊢ <;> simp[go_sem,j]
     all_goals exact An f rfl (by rw[no])
 . refine AJ ?_;simp[go_sem,a];have:k=s.size:=by omega
   subst this;exact An f rfl (by rw[u])
theorem kq(k:Int):PC 246 [AA k] (AA (if k=1 then 2 else 1)):=by
 intro h n;refine gq func246 rfl λa=>?_;by_cases h1:k=1<;>simp[go_sem,h1]<;>exact An a rfl rfl
theorem lA(s:Al)(id:Int):PC 281 [s.h,.q [AA id]] (.bool (decide (s.id=id))):=by
 intro h n;refine gq func281 rfl λa=>?_;simp[go_sem,Al.h,AC];exact Bq a (AY a (IO _) AE) (by by_cases e:s.id=id<;>simp[e]) rfl
def U6(a b:ByteArray):Bool:=a.toList==b.toList
theorem k9(s:Al)(a:Int)(name:ByteArray):PC 280 [s.h,.q [AA a],.q [.str name]] (.bool (decide (s.l=a)&&U6 s.name name)):=by
 intro h n;refine gq func280 rfl λb=>?_;by_cases e:s.l=a<;>simp[go_sem,Al.h,AC,e]
 all_goals exact Bq b (AY b (IO _) AE) (by simp[U6]) rfl
def El(l:List Al)(id:Int):Int:=BI (λi=>match l[i]? with|some s=>decide (s.id=id)|none=>false) l.length 0
theorem ku(l:List Al)(id:Int)(c:l.length<=1048576):PC 247 [AW l,AA id] (.tup [AA (if 0<=El l id then El l id else 0),.bool (decide (0<=El l id))]):=by
 intro h n;refine gq func247 rfl λb=>?_;simp[go_sem];have H:=gL l c 281 [] [.q [AA id]] (λi=>match l[i]? with|some s=>decide (s.id=id)|none=>false) (λi hi=>by simpa[hi]using lA l[i] id);refine H.lend 3 rfl ?_ ?_;simp[AT,Fz,h_];by_cases e:0<=El l id;have a:¬El l id<0:=by omega
 simp only[El]at e a;simp[go_sem,e,a];exact Bq b (AY b (IO _) AE) (by simp[El,e]) rfl;have a:El l id<0:=by omega
 simp only[El]at e a;simp[go_sem,e,a];exact Bq b (AY b (IO _) AE) (by simp[El,e]) rfl
def Cu(l:List Al)(kind:Int)(name:ByteArray):Int:=BI (λi=>match l[i]? with|some s=>decide (s.l=kind)&&U6 s.name name|none=>false) l.length 0
theorem kn(l:List Al)(c:Int)(name:ByteArray)(g:l.length<=1048576):PC 245 [AW l,AA c,.str name] (.tup [AA (if 0<=Cu l c name then Cu l c name else 0),.bool (decide (0<=Cu l c name))]):=by
 intro h n;refine gq func245 rfl λf=>?_;simp[go_sem];have H:=gL l g 280 [] [.q [AA c],.q [.str name]] (λi=>match l[i]? with|some s=>decide (s.l=c)&&U6 s.name name|none=>false) (λi hi=>by simpa[hi]using k9 l[i] c name);have hh:∀a b:Option A7,∀o x,h o=some x->h_ (h_ h n a) (n+1) b o=some x:=λa b=>AY f (vP n) (AY f (IO _) AE);refine H.lend 3 rfl ?_ ?_;simp[AT,Fz,h_];by_cases e:0<=Cu l c name;have d:¬Cu l c name<0:=by omega
 simp only[Cu]at e d;simp[go_sem,e,d];exact Bq f (hh _ _) (by simp[Cu,e]) rfl;have d:Cu l c name<0:=by omega
 simp only[Cu]at e d;simp[go_sem,e,d];exact Bq f (hh _ _) (by simp[Cu,e]) rfl
theorem Vv(l:List Al)(id:Int)(h:0<=El l id):∃i s,El l id=(i:Nat)/\l[i]? = some s:=by
 rcases GV (λi=>match l[i]? with|some s=>decide (s.id=id)|none=>false) l.length 0 with e|⟨i,_,h2,a,_⟩
 have:El l id = -1:=e;omega;exact⟨i,l[i],a,by simp[h2]⟩
def SI(l:List Al)(kind id:Int):Bool:=decide (0<=El l id)&&(match l[(El l id).toNat]? with|some s=>decide (s.l=kind)|none=>false)
theorem kZ(l:List Al)(a id:Int)(c:l.length<=1048576):PC 187 [AW l,AA a,AA id] (.bool (SI l a id)):=by
 intro h n;refine gq func187 rfl λb=>?_;simp[go_sem];refine(ku l id c).use ?_;by_cases e:0<=El l id;obtain⟨i,s,h1,h2⟩:=Vv l id e;simp[go_sem,h1,h2,Al.h];exact An b rfl (by simp[SI,h1,h2];by_cases hk:s.l=a<;>simp[hk]);simp[go_sem,e];exact An b rfl (by simp[SI,e])
def JZ(b:Int):Bool:=decide (32<=b/\b<=126)
def GJ(s:ByteArray):Bool:=!decide (s.size=0)&&decide ((s.size:Int)<=40) && !decide (BJ s 0=32) && !decide (BJ s (s.size-1)=32)&&Jw (λi=>JZ (BJ s i)) s.size
theorem km(s:ByteArray):PC 244 [.str s] (.bool (GJ s)):=by
 intro h n;refine gq func244 rfl λd=>?_;by_cases b:s.size=0;simp[go_sem,b];exact An d rfl (by simp[GJ,b]);by_cases e:(40:Int)<s.size;simp[go_sem,b,e];exact An d rfl (by simp[GJ,b];omega);have j:(s.size:Int)<=40:=by omega
 obtain⟨a1,a2⟩:=Fp (s:=s) (i:=0) nN;obtain⟨b1,q⟩:=Fp (s:=s) (i:=s.size-1) nN;have u:IntKind.i64.wrap ((s.size:Int)-1)=((s.size-1:Nat):Int):=by rw[D5]<;>omega
 have c:0<s.size:=by omega
 by_cases f:BJ s 0=32;simp[go_sem,b,c,e,<-a2,f];exact An d rfl (by simp[GJ,b,f]);by_cases g:BJ s (s.size-1)=32;simp[go_sem,b,c,e,<-a2,f,b1,<-q,g,u];exact An d rfl (by simp[GJ,b,g]);have v:GJ s=Jw (λi=>JZ (BJ s i)) s.size:=by simp[GJ,b,j,f,g]
 rw[v];simp[go_sem,b,c,e,<-a2,f,b1,<-q,g,u];refine A9 1 (α:=Nat) (λk=>[(0,.str s),(26,AA s.size),(27,AA k)]) (λ_=>h) (λk m=>k<=s.size/\n<=m/\Jw (λi=>JZ (BJ s i)) k=true) (λk=>s.size-k) 0 ?_ ?_ AE ?_;simp[Jw];simp[look];rintro k m ⟨hk,o,r⟩;by_cases a:k<s.size;have w:=wS k nN;obtain⟨g1,l⟩:=Fp a;by_cases p:BJ s k<32;simp[go_sem,a,<-l,p];exact An d rfl (by rw[Jy a (by simp[JZ];omega)]);by_cases t:126<BJ s k;simp[go_sem,a,<-l,p,t];exact An d rfl (by rw[Jy a (by simp[JZ];omega)]);simp[go_sem,a,<-l,p,t,w,-Int.natCast_add];exact⟨k+1,by omega,⟨by omega,o,by rw[Jw,r];simp[JZ];omega⟩,Or⟩;simp[go_sem,a];have:k=s.size:=by omega
 subst this;exact An d rfl (by rw[r])
theorem Ns(h:Hp)(j:Nat)(x:Option A7):h_ h j x j=x:=by simp[h_]
theorem AZ(h:Hp)(j:Nat)(x y:Option A7):h_ (h_ h j x) j y=h_ h j y:=by funext k;simp only[h_];split<;>rfl
def BU.inRound(E:BU)(l:Nat):BU:={ ro:=some l,mks:=false,base:=0,inv:=E.inv,ext:=E.ext }
def Ic:List (Tmp×SV)->SA->SA
 | [],sa=>sa
 | p::r,sa=>Ic r (p::sa)
section
variable{P:Program}{E:BU}{N:Nat}
theorem FR.zip{c:Cx}:∀{ps:List Tmp} {args:List SV} {vs:List Value} {sa:SA} {b:Array Value},(∀p∈ps,p<N)->AT (V c) args vs->ps.length=args.length->FR E N sa c { tmps:=b,defers:=[] }->
 FR E N (Ic (ps.zip args) sa) c { tmps:=(ps.zip vs).foldl (λt p=>t.setIfInBounds p.1 p.2) b,defers:=[] }
 | [],_,_,_,_,_,_,_,F=>F
 | p::ps,[],_,_,_,_,_,hl,_=>by simp at hl
 | p::ps,a::args,[],_,_,_,h,_,_=>h.elim
 | p::ps,a::args,v::vs,sa,b,hp,h,hl,F=>by
  have:=F.put (dst:=some p) (λd e=>by cases e;exact hp _ nO) h.1;exact FR.zip (ps:=ps) (λq f=>hp q (by simp[f])) h.2 (by simpa using hl) this
theorem I6{h:Hp}{c:Cx}{o l:Nat}{r:Loop}(R:Bk h c)(a:h o=some (.loop r))(d:c.ρ o=some (l,0)):c.w.heap[l]? = some (.loop r):=by
 obtain⟨b,h1,h2⟩:=R.obj o _ a;rw[d]at h1;cases h1;exact h2
theorem J9{h:Hp}{c:Cx}{o l:Nat}{r:Loop}(e:Loop)(R:Bk h c)(g:h o=some (.loop r))(d:c.ρ o=some (l,0)):
 Bk (h_ h o (some (.loop e))) { c with w:=c.w.putObj l (.loop e) }/\DF c { c with w:=c.w.putObj l (.loop e) }:=by
 have f:=I6 R g d;have b:=(qe.1 f).1;refine R.write g d nO (λb' a=>World.putObj_heap_other a) ?_ rfl rfl λX=>⟨l,d,World.putObj_heap_same b⟩
 simp[rm,f]
def Hv(fn:FuncId)(tm:Array Value)(ps:Array Tmp)(assign body:Code)(D:Nat)(st:LoopState)(pe:Option Code):Loop:=
 { state:=st,pending:=pe,fn:=fn,tmps:=tm,params:=ps,assign:=assign,body:=body,defers:=D }
def Ln(n:Nat)(R:LoopState->Option Code->Loop)(Q1:SV->Hp->Nat->Prop):Ca:=λe _ h2 m2=>
 h2 n=some (.loop (R .busy none))/\match e with
  | .normal=>Q1 (.bool true) (h_ h2 n (some (.loop (R .ready none)))) m2
  | .ret=>Q1 (.bool false) (h_ h2 n (some (.loop (R .done (some .ret))))) m2
  | .exit id=>Q1 (.bool false) (h_ h2 n (some (.loop (R .done (some (.exit id)))))) m2
  | _=>False
def Lo(P:Program)(E:BU)(N n:Nat)(R:LoopState->Option Code->Loop)(assign body:Code)(Q1:SV->Hp->Nat->Prop)(sa:SA)(h:Hp)(m:Nat):Prop:=
 Fc E P N assign (λe sa1 h1 m1=>e=.normal/\h1 n=some (.loop (R .ready none))/\Fc E P N body (Ln n R Q1) sa1 (h_ h1 n (some (.loop (R .busy none)))) m1) sa h m
def Xf(n:Nat)(R:LoopState->Option Code->Loop)(Q:Ca)(sa:SA):SV->Hp->Nat->Prop:=λ_ h' n'=>
 ∃st pe,h' n=some (.loop (R st pe))/\st≠.busy/\match pe with
  | none=>Q .normal sa (h_ h' n none) n'
  | some .ret=>Q .ret sa (h_ h' n none) n'
  | some (.exit id)=>Q (.exit id) sa (h_ h' n none) n'
  | _=>False
theorem Rz{E1:BU}{c1:Cx}{l n:Nat}{fn:FuncId}{d:Array Value}{ps:Array Tmp}{assign body:Code}{D:Nat}{sa:SA}(q:∀c',E1.inv c'->DF c1 c')(hρ:c1.ρ n=some (l,0))
 (L:∀p∈ps.toList,p<N) (G:Code.dok N assign=true) (J:Code.dok N body=true) (M:d.size=N) (hv:∀t,V c1 (look sa t) (d.getD t undef))
 {args:List SV} {O:Hp} {m:Nat} {B:SV->Hp->Nat->Prop} (hn:O n=some (.loop (Hv fn d ps assign body D .ready none))) (hl:args.length=ps.size)
 (H:Lo P (E1.inRound l) N n (Hv fn d ps assign body D) assign body B (Ic (ps.toList.zip args) sa) O m):Fm E1 P l args O m B:=by
 intro c vs I R F A;have T:=q c I;have z:c.ρ n=some (l,0):=T.ρ _ _ hρ;have hlen:=A.length;refine⟨_,_,_,_,run_yield (I6 R hn z) (by simp[Hv];omega),roundIn_of_wpIn (F:=Fence.wide) trivial ?_⟩;have F0:FR (E1.inRound l) N sa c { tmps:=d,defers:=[] }:=⟨M,⟨qi _,λ_=>rfl,by simp,by simp⟩,λt=>wK T (hv t)⟩
 have FZ:=F0.zip (ps:=ps.toList) L A (by simp;omega);have E:(ps.zip vs.toArray).foldl (λtmps x=>tmps.setIfInBounds x.1 x.2) d=(ps.toList.zip vs).foldl (λt p=>t.setIfInBounds p.1 p.2) d:=by
  rw[<-Array.foldl_toList,Array.toList_zip]
 have X:=H G c _ I R F FZ;rw[<-E]at X;refine wpIn_mono X ?_;rintro e a2 w2 ⟨sa2,h2,n2,o,⟨rfl,r,hB⟩,rfl,Q,F2,A2,i⟩;have f:o.ρ n=some (l,0):=i.ext.ρ _ _ z;obtain⟨R3,U⟩:=J9 (Hv fn d ps assign body D .busy none) Q r f;refine⟨_,run_beginRound (I6 Q r f) rfl,?_⟩;have k:DF c { o with w:=o.w.putObj l (.loop (Hv fn d ps assign body D .busy none)) }:=i.ext.trans U;refine wpIn_mono (hB J { o with w:=o.w.putObj l (.loop (Hv fn d ps assign body D .busy none)) } a2 (E1.ext k I) R3 F2 (A2.ext U)) ?_;rintro e a4 w4 ⟨sa4,h4,Z,W,⟨s,g⟩,rfl,S,F4,A4,C⟩;have y:W.ρ n=some (l,0):=C.ext.ρ _ _ f;have K:=I6 S s y;have fin:∀(a:Option Code)(b:Bool)(st:LoopState),b=a.isNone->st=(if a.isNone then .ready else .done)->B (.bool b) (h_ h4 n (some (.loop (Hv fn d ps assign body D st a)))) Z->
  ∃v w',(Instr.endRound l a).run P W.w=.ok v w'/\∃u v' h' n' c',Ending.returned v=.returned u/\B v' h' n'/\c'.w=w'/\V c' v' u/\Bk h' c'/\Fr n' c'/\Fx m c n' c':=by
  rintro a b st rfl rfl g;obtain⟨R5,X5⟩:=J9 (Hv fn d ps assign body D (if a.isNone then .ready else .done) a) S s y;refine⟨_,_,run_endRound a K,.bool a.isNone,.bool a.isNone,_,Z,_,rfl,g,rfl,by simp[V],R5,F4,⟨k.trans (C.ext.trans X5),qy i.le C.le,λj Y=>?_⟩⟩;exact(C.same j (wB Y i.le)).trans (i.same j Y)
 cases e with
 | normal=>exact fin none true .ready rfl rfl g
 | ret=>exact fin (some .ret) false .done rfl rfl g
 | exit id=>exact fin (some (.exit id)) false .done rfl rfl g
 | _=>exact g.elim
def Cx.begin(c:Cx)(n:Nat)(r:Loop):Cx:=Cx.alloc { c with w:=c.w.alloc (.deferred (some [])) } n (.loop r)
theorem NQ(c:Cx):DF c { c with w:=c.w.alloc (.deferred (some [])) }:=by
 refine⟨λ_ _ e=>e,by simp,λb hb d=>⟨d,?_⟩,λb=>?_,rfl,rfl,⟨rfl,IO _⟩⟩;simp[Bt,vJ,wH hb];unfold rm;rcases vk b c.w.heap.size with a|a;simp[Bt,vJ,wH a];simp[vo a]
theorem Sg{h:Hp}{c:Cx}(R:Bk h c):Bk h { c with w:=c.w.alloc (.deferred (some [])) }:=by
 refine⟨λo x e=>(R.obj o x e).mono (NQ c) λb hb=>?_,R.inj2,R.own2⟩;have h2:=(R.obj o x e).hold_lt hb;simp[Bt,vJ,wH h2]
theorem Im{g:Operand}{ps:Array Tmp}{assign body:Code}{Q:Ca}{sa:SA}{h:Hp}{n:Nat}{f:FuncId}{ys:List SV}(y:Nat->SV)(hy0:∀(c:Cx)(l:Nat),c.ρ n=some (l,0)->V c (y l) (.func (.yield l) #[] #[]))(hro:E.ro=none)(hmk:E.mks=true)(hg:EV sa g=.fn (.func f) [] ys)
 (H:∀(E1:BU)(l:Nat)(R:LoopState->Option Code->Loop),(∀c,E1.inv c->E.inv c/\c.ρ n=some (l,0))->
   (∀args X m Y,X n=some (.loop (R .ready none))->args.length=ps.size->Lo P (E1.inRound l) N n R assign body Y (Ic (ps.toList.zip args) sa) X m->Fm E1 P l args X m Y)->
   Ab E1 P f (y l::ys) (h_ h n (some (.loop (R .ready none)))) (n+1) (Xf n R Q sa)):
 Fc E P N (.rangeFunc g ps assign body) Q sa h n:=by
 intro hd c a I R F A;simp only[Code.dok,qh,qE,decide_eq_true_eq]at hd;obtain⟨hps,hda,hdb⟩:=hd;have hfc:E.fc=Fence.wide:=by simp only[BU.fc,hro,Fence.wide]
 rw[hfc];refine wpIn_rangeFunc λfn _=>?_;have O:c.ρ n=none:=F n (IO _);obtain⟨r0,K⟩:∃r0,r0=Hv fn a.tmps ps assign body c.w.heap.size .ready none:=⟨_,rfl⟩
 have R1:Bk (h_ h n (some (.loop r0))) (c.begin n r0):=(Sg R).alloc O ⟨c.w.heap.size+1,by simp[Cx.alloc],by have:=World.alloc_heap_new (c.w.alloc (.deferred (some []))) (.loop r0);rwa [World.size_alloc]at this⟩;have T:DF c (c.begin n r0):=(NQ c).trans (Cx.zd _ n (.loop r0) O);have q:(c.begin n r0).ρ n=some (c.w.heap.size+1,0):=by simp[Cx.begin,Cx.alloc]
 have F1:Fr (n+1) (c.begin n r0):=λj hj=>by
  have:j≠n:=by omega
  simp[Cx.begin,Cx.alloc,this];exact F j nN
 have L:(c.begin n r0).w=(c.w.alloc (.deferred (some []))).alloc (.loop r0):=rfl;have C:(c.begin n r0).w.heap[c.w.heap.size]? = some (.deferred (some [])):=by
  rw[L];simp[Bt,vJ]
 have hDo:¬(c.begin n r0).own c.w.heap.size:=by
  rintro(h1|h1);obtain⟨o,x,Z,W⟩:=(R.own2 _).1 h1;have h4:=(R.obj o x Z).hold_lt W;omega;simp at h1
 let E1:BU:={ ro:=none,mks:=false,base:=0,inv:=λp=>E.inv p/\DF (c.begin n r0) p,ext:=λx i=>⟨E.ext x i.1,i.2.trans x⟩ }
 have b:=H E1 (c.w.heap.size+1) (Hv fn a.tmps ps assign body c.w.heap.size) (λp i=>⟨i.1,i.2.ρ _ _ q⟩) λargs X m Y hn hl hW=>
  Rz (E1:=E1) (c1:=c.begin n r0) (λp i=>i.2) q hps hda hdb A.size (λt=>wK T (A.val t)) hn hl hW
 rw[<-K]at b;have hf:=A.ev g;rw[hg,V]at hf;obtain⟨xs,yv,hfv,h1,h2⟩:=hf;simp only[VL]at h1;subst h1;have r:AT (V (c.begin n r0)) (y (c.w.heap.size+1)::ys) (.func (.yield (c.w.heap.size+1)) #[] #[]::yv):=
  ⟨hy0 _ _ q,BE.1 (VL.mono T h2)⟩
 have hcl:=b.2 (c.begin n r0) _ ⟨E.ext T I,wR _⟩ R1 F1 r;have k:=b.1;unfold K3 at k;cases s:P.funcs[f]? with
 | none=>simp[s]at k
 | some fn'=>
 simp only[s,qh,bne_iff_ne,ne_eq]at k;have hb:fn'.body≠none:=by intro e;simp[e]at k
 refine⟨c.w.heap.size+1,[Xk c.w.heap.size],(c.begin n r0).w,{ target:=.fn (.func f) yv.toArray,args:=#[.func (.yield (c.w.heap.size+1)) #[] #[]] },(c.begin n r0).w,f,
  (.func (.yield (c.w.heap.size+1)) #[] #[]::yv).toArray,(c.begin n r0).w,?_,?_,λ_ _=>trivial,?_,λe=>by simp[Fence.wide]at e,?_⟩
 rw[L,K];exact run_enterLoop_outer _ _ _ _ _;simp[resolve,Deferred.ofValue,hfv];rfl;simp[invoke,callFunc,s,k.2,hb];refine callsIn_wide.2 (hcl.mono ?_);rintro e w3 ⟨u,v,h',n',p,rfl,⟨st,S,J,hst,z⟩,rfl,hv,R',F',B⟩;have M:p.ρ n=some (c.w.heap.size+1,0):=B.ext.ρ _ _ q;obtain⟨R3,X3⟩:=J9 (Hv fn a.tmps ps assign body c.w.heap.size .exhausted S) R' J M;have R4:=R3.kill n (Ns _ _ _);have X4:=X3.trans (Cx.kill_ext { p with w:=p.w.putObj (c.w.heap.size+1) (.loop (Hv fn a.tmps ps assign body c.w.heap.size .exhausted S)) } n);rw[AZ]at R4;have U:=T.trans (B.ext.trans X4);have G:=(B.ext.trans X4).keep _ (qe.1 C).1 hDo;refine⟨S,_,run_endLoop (I6 R' J M) hst,?_⟩;have mk:∀e,Q e sa (h_ h' n none) n'->ZW E N n c Q e { a with defers:=[Xk c.w.heap.size]++a.defers } (p.w.putObj (c.w.heap.size+1) (.loop (Hv fn a.tmps ps assign body c.w.heap.size .exhausted S))):=λe z=>by
  refine⟨sa,h_ h' n none,n',_,z,rfl,R4,F',⟨A.size,⟨qy A.defers.base U.size,λe=>(by rw[hmk]at e;cases e),?_,λd hd=>?_⟩,λt=>wK U (A.val t)⟩,⟨U,by have:=B.le;omega,λj hj=>?_⟩⟩;refine qY.2 ⟨λhm=>?_,A.defers.nodup⟩;obtain⟨D,_,W,e3,_⟩:=A.defers.ok _ hm;have:D=c.w.heap.size:=by simp[Xk]at W;exact W.symm
  have:=(qe.1 e3).1;omega;rcases qd.1 hd with rfl|hd;exact⟨c.w.heap.size,A.defers.base,rfl,G.2.trans C,G.1⟩;exact(A.defers.mono U).ok d hd;have:j≠n:=by omega
  have Z:(c.begin n r0).ρ j=c.ρ j:=by simp[Cx.begin,Cx.alloc,this]
  exact(B.same j nN).trans Z
 cases S with
 | none=>exact mk .normal z
 | some j=>
  cases j with
  | ret=>exact wpIn_ret (mk .ret z)
  | exit id=>exact wpIn_exit (mk (.exit id) z)
  | _=>exact z.elim
theorem He{g:Operand}{ps:Array Tmp}{assign body:Code}{Q:Ca}{sa:SA}{h:Hp}{n:Nat}{f:FuncId}{ys:List SV}(b:E.ro=none)(a:E.mks=true)(hg:EV sa g=.fn (.func f) [] ys)
 (H:∀(E1:BU)(l:Nat)(R:LoopState->Option Code->Loop),
   (∀args hy m Q1,hy n=some (.loop (R .ready none))->args.length=ps.size->Lo P (E1.inRound l) N n R assign body Q1 (Ic (ps.toList.zip args) sa) hy m->Fm E1 P l args hy m Q1)->
   Ab E1 P f (.fn (.yield l) [] []::ys) (h_ h n (some (.loop (R .ready none)))) (n+1) (Xf n R Q sa)):
 Fc E P N (.rangeFunc g ps assign body) Q sa h n:=
 Im (λl=>.fn (.yield l) [] []) (λ_ _ _=>by simp[V,VL]) b a hg λE1 l R _ c=>H E1 l R c
theorem NB{g:Operand}{ps:Array Tmp}{assign body:Code}{Q:Ca}{sa:SA}{h:Hp}{n:Nat}{f:FuncId}{ys:List SV}(j:E.ro=none)(e:E.mks=true)(hg:EV sa g=.fn (.func f) [] ys)
 (H:∀(E1:BU)(l:Nat)(R:LoopState->Option Code->Loop),(∀c,E1.inv c->E.inv c)->
   (∀args a m b,a n=some (.loop (R .ready none))->args.length=ps.size->Lo P (E1.inRound l) N n R assign body b (Ic (ps.toList.zip args) sa) a m->Ju E1 P n args a m b)->
   Ab E1 P f (.yl n::ys) (h_ h n (some (.loop (R .ready none)))) (n+1) (Xf n R Q sa)):
 Fc E P N (.rangeFunc g ps assign body) Q sa h n:=
 Im (λ_=>.yl n) (λc l d=>by rw[V];exact⟨l,d,rfl⟩) j e hg λE1 l R hi p=>H E1 l R (λc i=>(hi c i).1) λargs a m b h1 h2 o c vs l' d I k F A=>by
  have:=(hi c I).2;rw[d]at this;cases this;exact p args a m b h1 h2 o c vs I k F A
end
theorem goM{E:BU}{f:FuncId}{fn:Func}{code:Code}{args:List SV}{h:Hp}{n:Nat}{K:SV->Hp->Nat->Prop}(a:prog.funcs[f]? = some fn)(hb:fn.body=some code)
 (c:(fn.name != "runtime.NumGoroutine")=true) (hd:Code.dok fn.ntmps code=true) (b:args.length<=fn.ntmps)
 (H:HQ h n->∀B,LL (E.call true B) prog fn.ntmps code (N7 prog fn n K) (D1 0 args) h n):Ab E prog f args h n K:=
 Jr a hb c hd b λ_ d B=>AJ (H d B)
theorem Lp{E:BU}{N n:Nat}{R:LoopState->Option Code->Loop}{assign body:Code}{f:SV->Hp->Nat->Prop}{sa:SA}{h:Hp}{m:Nat}
 (H:LL E prog N assign (λe d h1 m1=>e=.normal/\h1 n=some (.loop (R .ready none))/\LL E prog N body (Ln n R f) d (h_ h1 n (some (.loop (R .busy none)))) m1) sa h m):Lo prog E N n R assign body f sa h m:=
 Gp (AJ H) λ_ _ _ _ ⟨a,b,c⟩=>⟨a,b,AJ c⟩
section
variable{P:Program}{E:BU}
theorem KJ(d:Nat){t e:TypeId}(a:Option Addr)(l cap:Nat)(b:P.underlying t=some (.slice e))(w:World):(Op.equalIn (d+1) t (.slice a l cap) (.slice none 0 0)).run P w=.ok a.isNone w:=by
 cases a<;>simp[Op.equalIn,AL b]
theorem MB{t e:TypeId}(a:Option Addr)(l cap:Nat)(b:P.underlying t=some (.slice e))(w:World):
 (binOp .eql t (.slice a l cap) (.slice none 0 0)).run P w=.ok (.bool a.isNone) w:=by
 have:=KJ 9999 a l cap b w;simp only[binOp,Op.equal];simp[Op.maxDepth,this]
theorem BM{evs:Operand->SV}{o:Oper}{h:Hp}{n:Nat}{K:SV->Hp->Nat->Prop}{t t2:TypeId}{x:Operand}{z:Nat}{es:List SV}{full:Bool}(d:o.op=.binOp .eql t x (.const (.slice none 0 0)) t2)
 (ht:(Ax P t).isSome=true) (i:evs x=.x z es full) (h1:es=[]->K (.bool true) h n) (h2:K (.bool false) h n):Ff E P evs o h n K:=by
 refine⟨by rw[d];simp,λc ev f _ R F hv=>?_⟩;have b:=hv x;obtain⟨e,ht⟩:=vR.1 ht;have ht:=Az ht;rw[i,V]at b;have fin:∀(a:Option Addr)(l cap:Nat),ev x=.slice a l cap->K (.bool a.isNone) h n->∃u v h' n' c',(execOp ev o).run P c.w=.ok (.value u) c'.w/\V c' v u/\Bk h' c'/\Fr n' c'/\Fx n c n' c'/\K v h' n':=λa l cap e hk=>
  ⟨.bool a.isNone,.bool a.isNone,h,n,c,by simp[execOp,d,e,f,HY (P:=P) (a:=.slice a l cap),MB a l cap ht],by simp[V],R,F,wD n c,hk⟩
 rcases b with⟨g,e⟩|⟨a,cap,vs,e,_⟩
 exact fin _ _ _ e (h1 g);exact fin _ _ _ e h2
def DW(P:Program)(t:TypeId):SV->SV->Option Bool
 | .int k a,.int k' b=>if k=k'/\(Ob P t).isSome=true/\Bd P t=1/\GR P t=some false then some (a==b)else none
 | .str a,.str b=>if Dj P t=true/\Bd P t=1/\GR P t=some false then some (a.toList==b.toList)else none
 | .bool a,.bool b=>if JE P t=true/\Bd P t=1/\GR P t=some false then some (a==b)else none
 | _,_=>none
def CM(P:Program)(cs ds:List SV):List Field->Option Bool
 | []=>some true
 | f::fs=>if f.name = "_" then none else
  match cs[f.offset]?,ds[f.offset]? with
  | some x,some y=>match DW P f.type x y with|some true=>CM P cs ds fs|r=>r
  | _,_=>none
def BY(P:Program)(t:TypeId):List Field:=(P.fieldsOf t).toList
theorem So{c:Cx}{t:TypeId}{x y:SV}{u v:Value}{b:Bool}(h:DW P t x y=some b)(f:V c x u)(g:V c y v)(d:Nat)(w:World):(Op.equalIn (d+1) t u v).run P w=.ok b w/\Bd P t=1/\GR P t=some false:=by
 unfold DW at h;split at h
 . split at h<;>try cases h
   rename_i e;obtain⟨rfl,h1,h2,a⟩:=e;rw[Dl f,Dl g];obtain⟨i,hi⟩:=vR.1 h1;exact⟨run_equalIn_int w d t _ _ _ _ (H8 hi),h2,a⟩
 . split at h<;>try cases h
   rename_i e;obtain⟨h1,h2,a⟩:=e;rw[KT f,KT g];exact⟨run_equalIn_string w d t _ _ (by unfold Dj at h1;split at h1<;>first|assumption|cases h1),h2,a⟩
 . split at h<;>try cases h
   rename_i e;obtain⟨h1,h2,a⟩:=e;rw[Hc f,Hc g];exact⟨HZ d _ _ (IS h1) w,h2,a⟩
 cases h
theorem IJ{c:Cx}{j k:List SV}{vs us:List Value}(m:AT (V c) j vs)(hd:AT (V c) k us)(h1:∀x∈vs,x.oneCell'=true)(h2:∀x∈us,x.oneCell'=true)(d:Nat)(w:World):
 ∀(e:List Field)(b:Bool),CM P j k e=some b->(Op.eqFields (d+1) vs.toArray us.toArray e).run P w=.ok b w
 | [],b,h=>by simp[CM]at h;subst h;simp[Op.eqFields]
 | f :: e, b, h => by
  simp only[CM]at h;split at h<;>try cases h
  rename_i n;split at h<;>try cases h
  rename_i x y p q;obtain⟨u,o,g⟩:=m.get p;obtain⟨v,hv,i⟩:=hd.get q;obtain⟨a,hb⟩:∃a,DW P f.type x y=some a:=by
   cases hb:DW P f.type x y with
   | none=>simp[hb]at h
   | some a=>exact⟨a,rfl⟩
  obtain⟨hr,hs,l⟩:=So hb g i d w;have r:(part f.type vs.toArray f.offset).run P w=.ok u w:=by simp[part,E9 l,o]
  have s:(part f.type us.toArray f.offset).run P w=.ok v w:=by simp[part,E9 l,hv]
  simp only[Op.eqFields,ne_eq,n,not_false_eq_true,if_true,Sem.run_bind,r,s,hr,Result.andThen_ok];rw[hb]at h;cases a;simp at h;subst h;simp;simp only at h;simp only[Bool.not_true,qq,if_false];exact IJ m hd h1 h2 d w e b h
theorem C7{evs:Operand->SV}{o:Oper}{t t2:TypeId}{x y:Operand}{op:BinOp}{h i:List SV}{b:Bool}(a:o.op=.binOp op t x y t2)(g:op=.eql\/op=.neq)
 (ht:P.underlying t=some (.struct (P.fieldsOf t))) (hp:P.stoodInHeld t=false) (hm:P.eqGuardType P.depth t=false)
 (n:evs x=.agg h) (p:evs y=.agg i) (hb:CM P h i (BY P t)=some b):LQ P evs o (.bool (if op=.eql then b else !b)):=by
 refine⟨by rw[a];simp,λc ev _ hv=>?_⟩;have e:=hv x (by simp[a,Op.operands]);have f:=hv y (by simp[a,Op.operands]);rw[n]at e;rw[p]at f;obtain⟨vs,j,h1,h2⟩:=Gg e;obtain⟨us,k,l,m⟩:=Gg f;have hr:=IJ h1 l h2 m 9998 c.w _ _ hb;have d:(Op.equalIn 10000 t (.agg vs.toArray) (.agg us.toArray)).run P c.w=.ok b c.w:=by rw[run_equalIn_struct c.w 9999 t _ _ ht hp];exact hr
 rcases g with rfl|rfl;exact⟨.bool b,by simp only[execOp,a,j,k,Sem.run_bind,run_eqGuard_agg c.w _ _ _ _ _ _ hm,Result.andThen_ok,run_eql_struct,d];simp,by simp[V]⟩;exact⟨.bool !b,by simp only[execOp,a,j,k,Sem.run_bind,run_eqGuard_agg c.w _ _ _ _ _ _ hm,Result.andThen_ok,run_neq_struct,d];simp,by simp[V]⟩
theorem Bi{evs:Operand->SV}{o:Oper}{h:Hp}{n:Nat}{K:SV->Hp->Nat->Prop}{t:TypeId}{z:Nat}{ps:Array (Nat×Operand)}(f:o.op=.buildSlice t 0 ps)(a:ps = #[])(hi:((Ax P t).bind P.info?).isSome=true)
 (hk:K (.x z [] true) h n):Ff E P evs o h n K:=by
 subst a;refine⟨by rw[f];simp,λc ev hc _ R F hv=>?_⟩;obtain⟨i,hi⟩:=vR.1 hi;obtain⟨e,ht,hi⟩:=Option.bind_eq_some_iff.1 hi;have j:=Az ht;have hw:(execOp ev o).run P c.w=.ok (.value (.slice (some ⟨c.w.heap.size,0,none⟩) 0 0)) (c.w.alloc (.cells #[] e)):=by
  simp[execOp,f,Instr.buildSlice,AL j,sizeOf,typeInfo,hi,Instr.fill,newRow];congr 2;simp
 have X:DF c { c with w:=c.w.alloc (.cells #[] e) }:=by
  refine⟨λ_ _ e=>e,by simp,λb hb g=>⟨g,?_⟩,λb=>?_,rfl,rfl,⟨rfl,IO _⟩⟩;simp[Bt,vJ,wH hb];unfold rm;rcases vk b c.w.heap.size with d|d;simp[Bt,vJ,wH d];simp[vo d]
 refine⟨_,.x z [] true,h,n,{ c with w:=c.w.alloc (.cells #[] e) },hw,?_,⟨λo x e=>(R.obj o x e).mono X λb hb=>?_,R.inj2,R.own2⟩,F,⟨X,IO _,λ_ _=>rfl⟩,hk⟩;rw[V];exact .inr ⟨⟨c.w.heap.size,0,none⟩,0,[],rfl,IO _,λ_=>rfl,⟨by simp,by simp,by simp,by simp⟩,by simp[VE]⟩;have h2:=(R.obj o x e).hold_lt hb;simp[Bt,vJ,wH h2]
def DH(P:Program)(cs ds:List SV):List (Bool×TypeId×Nat)->Option Bool
 | []=>some true
 | f::fs=>if f.1=true then none else
  match cs[f.2.2]?,ds[f.2.2]? with
  | some x,some y=>match DW P f.2.1 x y with|some true=>DH P cs ds fs|r=>r
  | _,_=>none
theorem Cy(a b:List SV):∀fs:List Field,CM P a b fs=DH P a b (fs.map λf=>(f.name == "_",f.type,f.offset))
 | []=>rfl
 | f::fs=>by
  simp only[CM,DH,qg,beq_iff_eq,Cy a b fs]
end
structure OS{α:Type}(f:α->SV)(z:Nat):Prop where
 st:∀x,(f x).B=true
 len:∀x,(f x).cells.length=z
 cl:∀n x,C_ n (f x)=true
theorem OS.size{α:Type}{f:α->SV}{z:Nat}(H:OS f z)(l:List α):∀e∈l.map f,e.B=true/\e.cells.length=z:=by
 intro e a;simp only[qb]at a;obtain⟨x,_,rfl⟩:=a;exact⟨H.st x,H.len x⟩
theorem OS.c_{α:Type}{f:α->SV}{z:Nat}(H:OS f z)(n:Nat)(l:List α):c_ n (l.map f)=true:=EK.2 (by
 intro e a;simp only[qb]at a;obtain⟨x,_,rfl⟩:=a;exact H.cl n x)
theorem OS.x{α:Type}{f:α->SV}{z:Nat}(H:OS f z)(n a:Nat)(l:List α)(full:Bool):C_ n (.x a (l.map f) full)=true:=by rw[C_];exact H.c_ n l
theorem dR:OS AA 1:=⟨λ_=>rfl,λ_=>rfl,λ_ _=>rfl⟩
theorem Fd.E:OS Fd.h 2:=⟨λ_=>rfl,λ_=>rfl,λ_ _=>rfl⟩
theorem Dx.E:OS Dx.h 2:=⟨λ_=>rfl,λ_=>rfl,λ_ _=>rfl⟩
theorem BC.E:OS BC.h 4:=⟨λ_=>rfl,λ_=>rfl,λ_ _=>rfl⟩
theorem CI.E:OS CI.h 3:=⟨λ_=>rfl,λ_=>rfl,λ_ _=>rfl⟩
theorem Cv.E:OS Cv.h 4:=⟨λ_=>rfl,λ_=>rfl,λ_ _=>rfl⟩
theorem AX.E:OS AX.h 6:=⟨λ_=>rfl,λ_=>rfl,λ_ _=>rfl⟩
theorem Gq.E:OS Gq.h 2:=⟨λ_=>rfl,λ_=>rfl,λ_ _=>rfl⟩
theorem Al.E:OS Al.h 6:=⟨λ_=>rfl,λ_=>rfl,λn s=>by simp[Al.h,C_,c_,Fd.E.c_]⟩
theorem Fb.E:OS Fb.h 2:=⟨λ_=>rfl,λ_=>rfl,λn s=>by simp[Fb.h,C_,c_,Cv.E.c_]⟩
theorem AF.flat_closed(n:Nat)(h:AF):Sh.c_ n h.j=true:=by simp[AF.j,C_,c_,Fd.E.c_,Dx.E.c_,BC.E.c_]
theorem AF.E:OS AF.h 5:=⟨λ_=>rfl,λ_=>rfl,λn s=>by rw[AF.h,C_];exact s.flat_closed n⟩
theorem Cc(n:Nat):∀(a b:List SV),c_ n (a++b)=(c_ n a&&c_ n b)
 | [],b=>by simp[c_]
 | x::a,b=>by simp[c_,Cc n a b,Bool.and_assoc]
mutual
theorem AD.cl(n:Nat):∀x:AD,C_ n x.h=true
 | .mk k c i t h f r=>by
  rw[AD.h,C_,Cc,Cc];simp[C_,c_,h.flat_closed,AD.clL n f,AM.clL n r]
theorem AD.clL(n:Nat):∀l:List AD,c_ n (AD.encL l)=true
 | []=>by simp[AD.encL,c_]
 | x::l=>by rw[AD.encL,c_,AD.cl n x,AD.clL n l];rfl
theorem AM.cl(n:Nat):∀x:AM,C_ n x.h=true
 | .mk h c=>by
  rw[AM.h,C_,Cc];simp[C_,c_,h.flat_closed,AG.clL n c]
theorem AM.clL(n:Nat):∀l:List AM,c_ n (AM.encL l)=true
 | []=>by simp[AM.encL,c_]
 | x::l=>by rw[AM.encL,c_,AM.cl n x,AM.clL n l];rfl
theorem AG.cl(n:Nat):∀x:AG,C_ n x.h=true
 | .mk i h f=>by
  rw[AG.h,C_,Cc,Cc];simp[C_,c_,h.flat_closed,AD.clL n f]
theorem AG.clL(n:Nat):∀l:List AG,c_ n (AG.encL l)=true
 | []=>by simp[AG.encL,c_]
 | x::l=>by rw[AG.encL,c_,AG.cl n x,AG.clL n l];rfl
end
theorem AD.E:OS AD.h 11:=⟨λx=>by rw[qz];rfl,λx=>by rw[qz];rfl,AD.cl⟩
theorem AM.E:OS AM.h 6:=⟨λx=>by rw[qR];rfl,λx=>by rw[qR];rfl,AM.cl⟩
theorem AG.E:OS AG.h 7:=⟨λx=>by rw[vB];rfl,λx=>by rw[vB];rfl,AG.cl⟩
def AH.h(d:AH):SV:=.agg ([AI d.W]++d.T0.j++[Cq d.V]++d.S.j)
theorem Ez{h' h:Hp}{k z o:Nat}{es:List SV}{full full':Bool}(d:h o=none)(c:full'=true->full=true)(hh:h' o=some (.cells (es.flatMap SV.cells)))(b:∀e∈es,e.B=true/\e.cells.length=z):
 Fz h' h (k+1) (.sl o 0 z es.length full) (.x z es full'):=by
 refine .inr ⟨d,c,rfl,rfl,_,_,hh,by simp[CP,Bv b];rfl,b,?_⟩;have:∀l:List SV,AT (Fz h' h k) l l:=by
  intro l;induction l with
  | nil=>trivial
  | cons a l ih=>exact⟨Or,ih⟩
 simp only[<-Bv b,qn];exact this _
theorem Iv{h' h:Hp}{k z b:Nat}{full full':Bool}(a:full'=true->full=true):Fz h' h (k+1) (.x z [] full) (.x b [] full'):=
 .inr ⟨a,.inl rfl,trivial,by simp⟩
theorem dz{α:Type}{f:α->SV}{z:Nat}(H:OS f z){h h':Hp}{n n' o:Nat}{v:SV}{l:List α}{full:Bool}(a:HQ h n)(hh:∀o x,h o=some x->h' o=some x)(c:n<=o)(hv:v=.sl o 0 z l.length full)(b:h' o=some (.cells ((l.map f).flatMap SV.cells))):
 Cb n h' n' v (Is (.x z (l.map f) false) h n):=by
 subst hv;have:=Ez (h':=h') (h:=h) (k:=0) (z:=z) (es:=l.map f) (full:=full) (full':=false) (a.none c) nO b (H.size l);rw[qj]at this;exact IZ 1 a hh this (H.x _ _ _ _)
theorem QD{h h':Hp}{n n' z c:Nat}{v:SV}{full full':Bool}(b:HQ h n)(hh:∀o x,h o=some x->h' o=some x)(a:full'=true->full=true)(hv:v=.x z [] full):Cb n h' n' v (Is (.x c [] full') h n):=by
 subst hv;exact IZ 1 b hh (Iv a) (by simp[C_,c_])
theorem IF{P:Program}{h:Hp}{n z:Nat}{t t2 el:TypeId}{es:List SV}{full:Bool}(ht:Ax P t=some el)(e:(Ax P t2).isSome=true)(i:Bd P el=z)(f:z≠0)(d:(BO P el).B=true)(g:(BO P el).cells.length=z)
 (hb:Ce P el<=65536) (c:es≠[]) (a:es.length<=1073741824) (b:HE el=none:=by rfl):
 Af P h n .append [t,t2] [.x z [] true,.x z es full]=some { val:=.sl n 0 z es.length false,new:=some (.cells (es.flatMap SV.cells)) }:=by
 have h0:es.length≠0:=by cases es<;>simp at c ⊢
 have hr:Ex (0+es.length) (Ce P el)=true:=by simp[Ex];exact⟨a,hb⟩
 simp only[Af,e,if_true,FP,ht,Ie,flat,i,g,d];simp[OR,f,h0,b];simpa using hr
def M7(z:Nat)(es:List SV)(h:Hp)(n:Nat):SV->Hp->Nat->Prop:=λv h' n'=>
 n<=n'/\(∀o x,h o=some x->h' o=some x)/\((es=[]/\∃z' full,v=.x z' [] full)\/∃o full,n<=o/\o<n'/\v=.sl o 0 z es.length full/\h' o=some (.cells (es.flatMap SV.cells)))
abbrev LC(f:FuncId)(args:List SV)(z:Nat)(es:List SV):Prop:=∀h n,BF prog f args h n (M7 z es h n)
theorem LC.pc{f:FuncId}{args:List SV}{z:Nat}{es:List SV}(H:LC f args z es)(r:∀e∈es,e.B=true/\e.cells.length=z)(d:∀n,c_ n es=true):PC f args (.x z es false):=by
 intro h n;refine⟨(H h n).1,λc vs I R F A=>((H h n).2 c vs I R F A).mono ?_⟩;rintro e w' ⟨u,v,h',n',k,rfl,⟨hle,hh,hv⟩,rfl,q,a,F',X⟩;have m:HQ h n:=λo x e=>E5 F (R.obj o x e);have g:Fz h' h 1 v (.x z es false):=by
  rcases hv with⟨rfl,z',full,rfl⟩|⟨o,full,h1,h2,rfl,p⟩
  exact Iv nO;exact Ez (m.none h1) nO p r
 have b:=a.less hh;have i:V ((k.less h).cut h n) (.x z es false) u:=(g.sound a hh 1 q).cut b (λ_ _ e=>e) (by rw[C_];exact d n);refine⟨u,_,h,n,(k.less h).cut h n,rfl,⟨rfl,rfl,rfl⟩,rfl,i,b.cut (λo x e=>⟨e,m o x e⟩),Pp,⟨Po b (λ_ _ e=>e) F (IO _) (X.ext.trans (DE a hh)),IO _,λj l=>?_⟩⟩;simp only[Cx.cut,l,if_true];exact X.same j l
theorem LC.use{E:BU}{f:FuncId}{args:List SV}{z:Nat}{es:List SV}(H:LC f args z es){h:Hp}{n:Nat}{K:SV->Hp->Nat->Prop}(hk:∀v h' n',M7 z es h n v h' n'->K v h' n'):Ab E prog f args h n K:=
 Ab.lift ((H h n).mono hk)
structure AF.D(h:AF):Prop where
 Q:h.Q.length<=1048576
 Y:h.Y.length<=1048576
 Z:h.Z.length<=1048576
mutual
def AD.D:AD->Prop
 | .mk _ _ _ t h f r=>t.size<=1048576/\h.D/\f.length<=1048576/\r.length<=1048576/\AD.G f/\AM.G r
def AD.G:List AD->Prop
 | []=>True
 | x::l=>x.D/\AD.G l
def AM.D:AM->Prop
 | .mk h c=>h.D/\c.length<=1048576/\AG.G c
def AM.G:List AM->Prop
 | []=>True
 | x::l=>x.D/\AM.G l
def AG.D:AG->Prop
 | .mk _ h f=>h.D/\f.length<=1048576/\AD.G f
def AG.G:List AG->Prop
 | []=>True
 | x::l=>x.D/\AG.G l
end
theorem AD.zn:∀{l:List AD},AD.G l->∀x∈l,x.D
 | _::_,h,x,a=>by rw[AD.G]at h;rcases qd.1 a with rfl|a;exact h.1;exact AD.zn h.2 x a
theorem AM.zn:∀{l:List AM},AM.G l->∀x∈l,x.D
 | _::_,h,x,a=>by rw[AM.G]at h;rcases qd.1 a with rfl|a;exact h.1;exact AM.zn h.2 x a
theorem AG.zn:∀{l:List AG},AG.G l->∀x∈l,x.D
 | _::_,h,x,a=>by rw[AG.G]at h;rcases qd.1 a with rfl|a;exact h.1;exact AG.zn h.2 x a
theorem AD.sizedL_of:∀{l:List AD},(∀x∈l,x.D)->AD.G l
 | [],_=>by rw[AD.G];trivial
 | x::l,h=>by rw[AD.G];exact⟨h x nO,AD.sizedL_of λy a=>h y (by simp[a])⟩
theorem AM.sizedL_of:∀{l:List AM},(∀x∈l,x.D)->AM.G l
 | [],_=>by rw[AM.G];trivial
 | x::l,h=>by rw[AM.G];exact⟨h x nO,AM.sizedL_of λy a=>h y (by simp[a])⟩
theorem AG.sizedL_of:∀{l:List AG},(∀x∈l,x.D)->AG.G l
 | [],_=>by rw[AG.G];trivial
 | x::l,h=>by rw[AG.G];exact⟨h x nO,AG.sizedL_of λy a=>h y (by simp[a])⟩
section
variable{P:Program}
theorem Hl{H:Hp}{n m k z:Nat}{es:List SV}{e:SV}{o:Option Nat}{t t2 el:TypeId}(ht:Ax P t=some el)(h:(Ax P t2).isSome=true)(r:Bd P el=z)(b:z≠0)(g:(BO P el).B=true)(i:(BO P el).cells.length=z)
 (hb:Ce P el<=65536) (hroom:es.length+1<=1073741824) (c:BG n m z o es) (l:e.cells.length=z) (h1:H k=some (.cells e.cells)) (h2:∀j,o=some j->H j=some (.cells (es.flatMap SV.cells))) (p:Nat) (a:HE el=none:=by rfl):
 Af P H p .append [t,t2] [AQ z o es,.sl k 0 z 1 true] =
  some { val:=.sl p 0 z (es.length+1) false,upd:=o.map λj=>(j,none),new:=some (.cells (es.flatMap SV.cells++e.cells)) }:=by
 have d:flat H (.sl k 0 z 1 true)=some e.cells:=by
  simp[flat,h1,CP,l];exact qD nN
 have hr:Ex (es.length+1) (Ce P el)=true:=by simp[Ex];exact⟨by omega,hb⟩
 simp only[Af,h,if_true,FP,ht,Ie,d,r,i,g];cases o with
 | none=>
  have:=c.none rfl;subst this;simp[AQ,OR,b,a];have f:Ex 1 (Ce P el)=true:=by simpa using hr
  exact f
 | some j =>
  have q:flat H (.sl j 0 z es.length false)=some (es.flatMap SV.cells):=by
   simp only[flat,h2 j rfl,CP,qW,Bv c.size,IO,if_true,wq];rw[<-Bv c.size,qn]
  simp[AQ,OR,b,q,hr,Tl a]
end
theorem EG{h H:Hp}{n m p z:Nat}{es:List SV}{e:SV}{o:Option Nat}{v:SV}(f:HQ h n)(hn:n<=p)(d:BG n m z o es)(c:∀j y,h j=some y->H j=some y):
 ∀j y,AS (some p) (es++[e]) h j=some y->(CS.app H p { val:=v,upd:=o.map λj=>(j,none),new:=some (.cells (es.flatMap SV.cells++e.cells)) }) j=some y:=by
 intro j y a;simp only[AS]at a;by_cases b:j=p;subst b;rw[AC]at a;simp only[CS.app,AC];rw[<-a];simp;rw[AB _ _ b]at a;have hlt:=(f j y a).1;cases o with
 | none=>simp[CS.app,AB _ _ b,c j y a]
 | some k=>
  have hk:j≠k:=by have:=(d.lt k rfl).1;omega
  simp[CS.app,AB _ _ b,AB _ _ hk,c j y a]
theorem GN{h:Hp}{o:Option Nat}{es:List SV}:∀j,o=some j->AS o es h j=some (.cells (es.flatMap SV.cells)):=by
 rintro j rfl;simp[AS,h_]
theorem Md{h h':Hp}{n m m' z:Nat}{o:Option Nat}{es:List SV}(c:HQ h n)(a:BG n m z o es)(hh:∀j y,AS o es h j=some y->h' j=some y)(hm:n<=m')(b:m<=m'):M7 z es h n (AQ z o es) h' m':=by
 refine⟨hm,λj x e=>hh j x (AS.old c a j x e),?_⟩;cases o with
 | none=>exact .inl ⟨a.none rfl,0,true,rfl⟩
 | some j=>exact .inr ⟨j,false,(a.lt j rfl).1,wB (a.lt j rfl).2 b,rfl,hh j _ (by simp[AS,h_])⟩
theorem J2{z:Nat}{es:List SV}(hs:∀e∈es,e.B=true/\e.cells.length=z)(i:Nat):(es.flatMap SV.cells).take (i*z)=(es.take i).flatMap SV.cells/\(es.flatMap SV.cells).drop (i*z)=(es.drop i).flatMap SV.cells:=by
 induction es generalizing i with
 | nil=>simp
 | cons e es ih =>
  cases i with
  | zero=>simp
  | succ i=>
   have he:=(hs e nO).2;obtain⟨h1,h2⟩:=ih (λx hx=>hs x (by simp[hx])) i;have e1:(i+1)*z=e.cells.length+i*z:=by rw[he,wd,Nat.one_mul,Nat.add_comm]
   simp only[qV,List.take_succ_cons,List.drop_succ_cons,e1];rw[List.take_length_add_append,wy,h1,h2];exact⟨rfl,rfl⟩
theorem Nn{z:Nat}{es:List SV}(b:∀e∈es,e.B=true/\e.cells.length=z){i:Nat}{e:SV}(h:es[i]? = some e):i*z+z<=(es.flatMap SV.cells).length/\((es.flatMap SV.cells).drop (i*z)).take z=e.cells:=by
 obtain⟨a,c⟩:=qu.1 h;have d:=(b e (by rw[<-c];exact qp a)).2;refine⟨?_,?_⟩;rw[Bv b];have:(i+1)*z<=es.length*z:=vX z a;rw[wd,Nat.one_mul]at this;exact this;rw[(J2 b i).2,qG a,c,qV,<-d,List.take_left]
theorem RD{z:Nat}{es:List SV}(a:∀e∈es,e.B=true/\e.cells.length=z){j:Nat}{e:SV}(b:j<es.length):(es.flatMap SV.cells).take (j*z)++(e.cells++(es.flatMap SV.cells).drop (j*z+z))=(es.set j e).flatMap SV.cells:=by
 have h1:=(J2 a j).1;have h2:=(J2 a (j+1)).2;rw[wd,Nat.one_mul]at h2;rw[h1,h2,List.set_eq_take_append_cons_drop,nS b];simp
section
variable{P:Program}
theorem NP{H:Hp}{n m k z j len:Nat}{es:List SV}{e:SV}{t t2 el:TypeId}(ht:Ax P t=some el)(f:(Ax P t2).isSome=true)(r:Bd P el=z)(g:z≠0)(d:(BO P el).B=true)(h:(BO P el).cells.length=z)
 (hb:Ce P el<=65536) (a:es.length+1<=1073741824) (l:BG n m z (some j) es) (q:e.cells.length=z) (h1:H k=some (.cells e.cells)) (h2:H j=some (.cells (es.flatMap SV.cells))) (p:Nat) (b:len=es.length) (c:HE el=none:=by rfl):
 Af P H p .append [t,t2] [.sl j 0 z len false,.sl k 0 z 1 true] =
  some { val:=.sl p 0 z (es.length+1) false,upd:=some (j,none),new:=some (.cells (es.flatMap SV.cells++e.cells)) }:=by
 subst b;exact Hl (o:=some j) ht f r g d h hb a l q h1 (λi e=>by cases e;exact h2) p c
theorem Ph{H:Hp}{k z:Nat}{e:SV}{t t2 el:TypeId}(ht:Ax P t=some el)(c:(Ax P t2).isSome=true)(h:Bd P el=z)(d:z≠0)(b:(BO P el).B=true)(f:(BO P el).cells.length=z)
 (hb:Ce P el<=65536) (g:e.cells.length=z) (h1:H k=some (.cells e.cells)) (p:Nat) (a:HE el=none:=by rfl):
 Af P H p .append [t,t2] [.x 0 [] true,.sl k 0 z 1 true]=some { val:=.sl p 0 z 1 false,new:=some (.cells e.cells) }:=
 Hl (n:=0) (m:=0) (o:=none) (es:=[]) ht c h d b f hb nO (wF 0 0 z) g h1 nO p a
end
theorem mH(l:List Fd)(c:l.length<=1048576):LC 93 [.x 2 (l.map Fd.h) false] 2 (l.map Fd.h):=by
 intro h n;refine gq func93 rfl λd=>?_;simp[go_sem];refine BM rfl nQ rfl (λe=>?_) ?_;simp[go_sem];have:l=[]:=by simpa using e
 subst this;exact .inl ⟨IO _,AE,.inl ⟨rfl,_,_,rfl⟩⟩;simp[go_sem];refine Bi (z:=2) rfl rfl nQ ?_;cases l with
 | nil=>
  simp[go_sem];exact .inl ⟨IO _,AE,.inl ⟨rfl,_,_,rfl⟩⟩
 | cons a l=>
  have b:=IF (P:=prog) (h:=h) (n:=n) (t:=23) (t2:=23) (el:=164) (z:=2) (es:=(a::l).map Fd.h) (full:=false) nP nP nP nO nP nP nP nO (by simp at c ⊢;omega);simp only[qg]at b;simp[go_sem,b];refine .inl ⟨vP n,AY d (IO _) AE,.inr ⟨n,false,IO _,ve n,?_,?_⟩⟩;simp;simp[AC];rfl
theorem Zs(l:List Fd)(a:l.length<=1048576):PC 93 [.x 2 (l.map Fd.h) false] (.x 2 (l.map Fd.h) false):=(mH l a).pc (Fd.E.size l) λn=>Fd.E.c_ n l
theorem iE(l:List Dx)(c:l.length<=1048576):LC 94 [.x 2 (l.map Dx.h) false] 2 (l.map Dx.h):=by
 intro h n;refine gq func94 rfl λd=>?_;simp[go_sem];refine BM rfl nQ rfl (λe=>?_) ?_;simp[go_sem];have:l=[]:=by simpa using e
 subst this;exact .inl ⟨IO _,AE,.inl ⟨rfl,_,_,rfl⟩⟩;simp[go_sem];refine Bi (z:=2) rfl rfl nQ ?_;cases l with
 | nil=>
  simp[go_sem];exact .inl ⟨IO _,AE,.inl ⟨rfl,_,_,rfl⟩⟩
 | cons a l=>
  have b:=IF (P:=prog) (h:=h) (n:=n) (t:=24) (t2:=24) (el:=74) (z:=2) (es:=(a::l).map Dx.h) (full:=false) nP nP nP nO nP nP nP nO (by simp at c ⊢;omega);simp only[qg]at b;simp[go_sem,b];refine .inl ⟨vP n,AY d (IO _) AE,.inr ⟨n,false,IO _,ve n,?_,?_⟩⟩;simp;simp[AC];rfl
theorem kU(l:List Dx)(a:l.length<=1048576):PC 94 [.x 2 (l.map Dx.h) false] (.x 2 (l.map Dx.h) false):=(iE l a).pc (Dx.E.size l) λn=>Dx.E.c_ n l
theorem iF(l:List BC)(c:l.length<=1048576):LC 95 [.x 4 (l.map BC.h) false] 4 (l.map BC.h):=by
 intro h n;refine gq func95 rfl λd=>?_;simp[go_sem];refine BM rfl nQ rfl (λe=>?_) ?_;simp[go_sem];have:l=[]:=by simpa using e
 subst this;exact .inl ⟨IO _,AE,.inl ⟨rfl,_,_,rfl⟩⟩;simp[go_sem];refine Bi (z:=4) rfl rfl nQ ?_;cases l with
 | nil=>
  simp[go_sem];exact .inl ⟨IO _,AE,.inl ⟨rfl,_,_,rfl⟩⟩
 | cons a l=>
  have b:=IF (P:=prog) (h:=h) (n:=n) (t:=25) (t2:=25) (el:=76) (z:=4) (es:=(a::l).map BC.h) (full:=false) nP nP nP nO nP nP nP nO (by simp at c ⊢;omega);simp only[qg]at b;simp[go_sem,b];refine .inl ⟨vP n,AY d (IO _) AE,.inr ⟨n,false,IO _,ve n,?_,?_⟩⟩;simp;simp[AC];rfl
theorem kV(l:List BC)(a:l.length<=1048576):PC 95 [.x 4 (l.map BC.h) false] (.x 4 (l.map BC.h) false):=(iF l a).pc (BC.E.size l) λn=>BC.E.c_ n l
theorem jg(l:List CI)(c:l.length<=1048576):LC 105 [.x 3 (l.map CI.h) false] 3 (l.map CI.h):=by
 intro h n;refine gq func105 rfl λd=>?_;simp[go_sem];refine BM rfl nQ rfl (λe=>?_) ?_;simp[go_sem];have:l=[]:=by simpa using e
 subst this;exact .inl ⟨IO _,AE,.inl ⟨rfl,_,_,rfl⟩⟩;simp[go_sem];refine Bi (z:=3) rfl rfl nQ ?_;cases l with
 | nil=>
  simp[go_sem];exact .inl ⟨IO _,AE,.inl ⟨rfl,_,_,rfl⟩⟩
 | cons a l=>
  have b:=IF (P:=prog) (h:=h) (n:=n) (t:=30) (t2:=30) (el:=68) (z:=3) (es:=(a::l).map CI.h) (full:=false) nP nP nP nO nP nP nP nO (by simp at c ⊢;omega);simp only[qg]at b;simp[go_sem,b];refine .inl ⟨vP n,AY d (IO _) AE,.inr ⟨n,false,IO _,ve n,?_,?_⟩⟩;simp;simp[AC];rfl
theorem c76(l:List CI)(a:l.length<=1048576):PC 105 [.x 3 (l.map CI.h) false] (.x 3 (l.map CI.h) false):=(jg l a).pc (CI.E.size l) λn=>CI.E.c_ n l
theorem iH(l:List Al)(c:l.length<=1048576):LC 217 [.x 6 (l.map Al.h) false] 6 (l.map Al.h):=by
 intro h n;refine gq func217 rfl λd=>?_;simp[go_sem];refine BM rfl nQ rfl (λe=>?_) ?_;simp[go_sem];have:l=[]:=by simpa using e
 subst this;exact .inl ⟨IO _,AE,.inl ⟨rfl,_,_,rfl⟩⟩;simp[go_sem];refine Bi (z:=6) rfl rfl nQ ?_;cases l with
 | nil=>
  simp[go_sem];exact .inl ⟨IO _,AE,.inl ⟨rfl,_,_,rfl⟩⟩
 | cons a l=>
  have b:=IF (P:=prog) (h:=h) (n:=n) (t:=31) (t2:=31) (el:=110) (z:=6) (es:=(a::l).map Al.h) (full:=false) nP nP nP nO nP nP nP nO (by simp at c ⊢;omega);simp only[qg]at b;simp[go_sem,b];refine .inl ⟨vP n,AY d (IO _) AE,.inr ⟨n,false,IO _,ve n,?_,?_⟩⟩;simp;simp[AC];rfl
theorem iI(l:List Fb)(c:l.length<=1048576):LC 218 [.x 2 (l.map Fb.h) false] 2 (l.map Fb.h):=by
 intro h n;refine gq func218 rfl λd=>?_;simp[go_sem];refine BM rfl nQ rfl (λe=>?_) ?_;simp[go_sem];have:l=[]:=by simpa using e
 subst this;exact .inl ⟨IO _,AE,.inl ⟨rfl,_,_,rfl⟩⟩;simp[go_sem];refine Bi (z:=2) rfl rfl nQ ?_;cases l with
 | nil=>
  simp[go_sem];exact .inl ⟨IO _,AE,.inl ⟨rfl,_,_,rfl⟩⟩
 | cons a l=>
  have b:=IF (P:=prog) (h:=h) (n:=n) (t:=32) (t2:=32) (el:=113) (z:=2) (es:=(a::l).map Fb.h) (full:=false) nP nP nP nO nP nP nP nO (by simp at c ⊢;omega);simp only[qg]at b;simp[go_sem,b];refine .inl ⟨vP n,AY d (IO _) AE,.inr ⟨n,false,IO _,ve n,?_,?_⟩⟩;simp;simp[AC];rfl
theorem iJ(l:List AX)(c:l.length<=1048576):LC 219 [.x 6 (l.map AX.h) false] 6 (l.map AX.h):=by
 intro h n;refine gq func219 rfl λd=>?_;simp[go_sem];refine BM rfl nQ rfl (λe=>?_) ?_;simp[go_sem];have:l=[]:=by simpa using e
 subst this;exact .inl ⟨IO _,AE,.inl ⟨rfl,_,_,rfl⟩⟩;simp[go_sem];refine Bi (z:=6) rfl rfl nQ ?_;cases l with
 | nil=>
  simp[go_sem];exact .inl ⟨IO _,AE,.inl ⟨rfl,_,_,rfl⟩⟩
 | cons a l=>
  have b:=IF (P:=prog) (h:=h) (n:=n) (t:=33) (t2:=33) (el:=71) (z:=6) (es:=(a::l).map AX.h) (full:=false) nP nP nP nO nP nP nP nO (by simp at c ⊢;omega);simp only[qg]at b;simp[go_sem,b];refine .inl ⟨vP n,AY d (IO _) AE,.inr ⟨n,false,IO _,ve n,?_,?_⟩⟩;simp;simp[AC];rfl
theorem kY(l:List AX)(a:l.length<=1048576):PC 219 [.x 6 (l.map AX.h) false] (.x 6 (l.map AX.h) false):=(iJ l a).pc (AX.E.size l) λn=>AX.E.c_ n l
theorem mI(l:List Gq)(c:l.length<=1048576):LC 220 [.x 2 (l.map Gq.h) false] 2 (l.map Gq.h):=by
 intro h n;refine gq func220 rfl λd=>?_;simp[go_sem];refine BM rfl nQ rfl (λe=>?_) ?_;simp[go_sem];have:l=[]:=by simpa using e
 subst this;exact .inl ⟨IO _,AE,.inl ⟨rfl,_,_,rfl⟩⟩;simp[go_sem];refine Bi (z:=2) rfl rfl nQ ?_;cases l with
 | nil=>
  simp[go_sem];exact .inl ⟨IO _,AE,.inl ⟨rfl,_,_,rfl⟩⟩
 | cons a l=>
  have b:=IF (P:=prog) (h:=h) (n:=n) (t:=34) (t2:=34) (el:=88) (z:=2) (es:=(a::l).map Gq.h) (full:=false) nP nP nP nO nP nP nP nO (by simp at c ⊢;omega);simp only[qg]at b;simp[go_sem,b];refine .inl ⟨vP n,AY d (IO _) AE,.inr ⟨n,false,IO _,ve n,?_,?_⟩⟩;simp;simp[AC];rfl
theorem gE(l:List Gq)(a:l.length<=1048576):PC 220 [.x 2 (l.map Gq.h) false] (.x 2 (l.map Gq.h) false):=(mI l a).pc (Gq.E.size l) λn=>Gq.E.c_ n l
theorem mJ(l:List Cv)(c:l.length<=1048576):LC 221 [.x 4 (l.map Cv.h) false] 4 (l.map Cv.h):=by
 intro h n;refine gq func221 rfl λd=>?_;simp[go_sem];refine BM rfl nQ rfl (λe=>?_) ?_;simp[go_sem];have:l=[]:=by simpa using e
 subst this;exact .inl ⟨IO _,AE,.inl ⟨rfl,_,_,rfl⟩⟩;simp[go_sem];refine Bi (z:=4) rfl rfl nQ ?_;cases l with
 | nil=>
  simp[go_sem];exact .inl ⟨IO _,AE,.inl ⟨rfl,_,_,rfl⟩⟩
 | cons a l=>
  have b:=IF (P:=prog) (h:=h) (n:=n) (t:=111) (t2:=111) (el:=115) (z:=4) (es:=(a::l).map Cv.h) (full:=false) nP nP nP nO nP nP nP nO (by simp at c ⊢;omega);simp only[qg]at b;simp[go_sem,b];refine .inl ⟨vP n,AY d (IO _) AE,.inr ⟨n,false,IO _,ve n,?_,?_⟩⟩;simp;simp[AC];rfl
theorem gG(l:List Cv)(a:l.length<=1048576):PC 221 [.x 4 (l.map Cv.h) false] (.x 4 (l.map Cv.h) false):=(mJ l a).pc (Cv.E.size l) λn=>Cv.E.c_ n l
theorem NS(h0:AF)(a:h0.D):PC 30 [h0.h] h0.h:=by
 intro h n;refine gq func30 rfl λb=>?_;simp[go_sem,AF.h,AF.j,AC,AB];refine(Zs _ a.Q).use ?_;simp[go_sem,AC,AB]
 repeat first|refine nq ?_|refine sq ?_|refine aq ?_
 refine vw _ _ _ _ _ _ (kU _ a.Y) ?_;simp[go_sem,AC]
 repeat first|refine nq ?_|refine sq ?_|refine aq ?_
 refine vw _ _ _ _ _ _ (kV _ a.Z) ?_;simp[go_sem,AC,AB]
 repeat first|refine nq ?_|refine sq ?_|refine aq ?_
 exact Bq b (by repeat(first|exact AE|refine AY b nN ?_)) rfl (AF.E.cl n h0)
theorem mG(l:List AD)(hl:l.length<=1048576)(g:FuncId)(a b:List SV)(f:AD->AD)(hf:∀(i:Nat)(h:i<l.length),PC g (a++[AD.h l[i]]++b) (AD.h (f l[i]))):LC 155 [.x 11 (l.map AD.h) false,.fn (.func g) a b] 11 ((l.map f).map AD.h):=by
 intro h n;generalize hR:(l.map f).map AD.h=R;refine gq func155 rfl λho=>?_;simp[go_sem];refine A9 1 (α:=Nat×Option Nat) (λq=>[(1,.fn (.func g) a b),(5,AQ 11 q.2 (((l.take q.1).map f).map AD.h)),(8,.x 11 (l.map AD.h) false),(9,AA l.length),(10,AA q.1)]) (λq=>AS q.2 (((l.take q.1).map f).map AD.h) h)
  (λq m=>q.1<=l.length/\n<=m/\BG n m 11 q.2 (((l.take q.1).map f).map AD.h)) (λq=>l.length-q.1) (0,none) ?_ ?_ AE ?_
 simp;exact wF _ _ _;simp[look,AQ];rintro⟨k,o⟩ m ⟨hk,hnm,hA⟩;dsimp only at hk hA ⊢;have hlen:(((l.take k).map f).map AD.h).length=k:=by simp;omega
 by_cases hlt:k<l.length
 . have w1:=wS k nN;obtain⟨x,hx⟩:∃x,l[k]=x:=⟨_,rfl⟩
   have H:=hf k hlt;rw[hx]at H;simp only[qv,qB,qK]at H;have hgx:(l.map AD.h)[k]? = some x.h:=by simp[hlt,hx]
   have htk:((l.take (k+1)).map f).map AD.h=((l.take k).map f).map AD.h++[(f x).h]:=by rw[qa hlt,hx];simp
   have hpush:=hA.push (j:=m+1+1) (m':=m+1+1+1) (e:=(f x).h) (AD.E.st _) (AD.E.len _) nN nN;rw[<-htk]at hpush;generalize hes:((l.take k).map f).map AD.h=es at hA htk hlen ⊢;simp only[vj]at hgx;simp[go_sem,hlt,hx,qz,AC,-List.map_map,-List.map_take];refine qO (by simpa[qz]using H) ?_;simp[go_sem,-List.map_map,-List.map_take];rw[Hl (es:=es) (e:=(f x).h) (o:=o) (t:=22) (t2:=22) (el:=80) (z:=11) nP nP nP nO nP nP nP nN hA (AD.E.len _) ?a1 ?a2]
   case a1=>simp[AC,qz,SV.cells]
   case a2=>
    intro j e;have:=(hA.lt j e).2;rw[AB _ _ nN,AB _ _ nN,AB _ _ nN];exact GN j e
   simp[go_sem,w1,-Int.natCast_add,-List.map_map,-List.map_take];refine⟨k+1,by omega,some (m+1+1),⟨by omega,by omega,hpush⟩,⟨?_,Or⟩,?_⟩;rw[htk];simp[AQ,Or];rw[htk];have:=EG (p:=m+1+1) (v:=.sl (m+1+1) 0 11 (es.length+1) false) (e:=(f x).h) ho nN hA (H:=h_ (h_ (h_ (AS o es h) m (some (.cells [.int .i64 0,.int .i64 0,.int .i64 0,.str .empty,.x 0 [] true,.int .i64 0,.int .i64 0,.x 0 [] true,.x 0 [] true,.x 0 [] true,.x 0 [] true]))) m (some (.cells x.h.cells))) (m+1) (some (.cells (f x).h.cells)))
    (AY ho nN (AY ho nN (AY ho nN (AS.old ho hA))))
   simpa[qz,SV.cells,CS.app]using this
 have:k=l.length:=by omega
 subst this;simp only[qn,hR]at hA ⊢;simp[go_sem,-List.map_map,-List.map_take];exact .inl (Md ho hA AE hnm (IO _))
theorem iD(l:List AM)(hl:l.length<=1048576)(g:FuncId)(a b:List SV)(f:AM->AM)(hf:∀(i:Nat)(h:i<l.length),PC g (a++[AM.h l[i]]++b) (AM.h (f l[i]))):LC 157 [.x 6 (l.map AM.h) false,.fn (.func g) a b] 6 ((l.map f).map AM.h):=by
 intro h n;generalize hR:(l.map f).map AM.h=R;refine gq func157 rfl λho=>?_;simp[go_sem];refine A9 1 (α:=Nat×Option Nat) (λq=>[(1,.fn (.func g) a b),(5,AQ 6 q.2 (((l.take q.1).map f).map AM.h)),(8,.x 6 (l.map AM.h) false),(9,AA l.length),(10,AA q.1)]) (λq=>AS q.2 (((l.take q.1).map f).map AM.h) h)
  (λq m=>q.1<=l.length/\n<=m/\BG n m 6 q.2 (((l.take q.1).map f).map AM.h)) (λq=>l.length-q.1) (0,none) ?_ ?_ AE ?_
 simp;exact wF _ _ _;simp[look,AQ];rintro⟨k,o⟩ m ⟨hk,hnm,hA⟩;dsimp only at hk hA ⊢;have hlen:(((l.take k).map f).map AM.h).length=k:=by simp;omega
 by_cases hlt:k<l.length
 . have w1:=wS k nN;obtain⟨x,hx⟩:∃x,l[k]=x:=⟨_,rfl⟩
   have H:=hf k hlt;rw[hx]at H;simp only[qv,qB,qK]at H;have hgx:(l.map AM.h)[k]? = some x.h:=by simp[hlt,hx]
   have htk:((l.take (k+1)).map f).map AM.h=((l.take k).map f).map AM.h++[(f x).h]:=by rw[qa hlt,hx];simp
   have hpush:=hA.push (j:=m+1+1) (m':=m+1+1+1) (e:=(f x).h) (AM.E.st _) (AM.E.len _) nN nN;rw[<-htk]at hpush;generalize hes:((l.take k).map f).map AM.h=es at hA htk hlen ⊢;simp only[vj]at hgx;simp[go_sem,hlt,hx,qR,AC,-List.map_map,-List.map_take];refine qO (by simpa[qR]using H) ?_;simp[go_sem,-List.map_map,-List.map_take];rw[Hl (es:=es) (e:=(f x).h) (o:=o) (t:=78) (t2:=78) (el:=171) (z:=6) nP nP nP nO nP nP nP nN hA (AM.E.len _) ?a1 ?a2]
   case a1=>simp[AC,qR,SV.cells]
   case a2=>
    intro j e;have:=(hA.lt j e).2;rw[AB _ _ nN,AB _ _ nN,AB _ _ nN];exact GN j e
   simp[go_sem,w1,-Int.natCast_add,-List.map_map,-List.map_take];refine⟨k+1,by omega,some (m+1+1),⟨by omega,by omega,hpush⟩,⟨?_,Or⟩,?_⟩;rw[htk];simp[AQ,Or];rw[htk];have:=EG (p:=m+1+1) (v:=.sl (m+1+1) 0 6 (es.length+1) false) (e:=(f x).h) ho nN hA (H:=h_ (h_ (h_ (AS o es h) m (some (.cells [.x 0 [] true,.int .i64 0,.int .i64 0,.x 0 [] true,.x 0 [] true,.x 0 [] true]))) m (some (.cells x.h.cells))) (m+1) (some (.cells (f x).h.cells)))
    (AY ho nN (AY ho nN (AY ho nN (AS.old ho hA))))
   simpa[qR,SV.cells,CS.app]using this
 have:k=l.length:=by omega
 subst this;simp only[qn,hR]at hA ⊢;simp[go_sem,-List.map_map,-List.map_take];exact .inl (Md ho hA AE hnm (IO _))
theorem iG(l:List AG)(hl:l.length<=1048576)(g:FuncId)(a b:List SV)(f:AG->AG)(hf:∀(i:Nat)(h:i<l.length),PC g (a++[AG.h l[i]]++b) (AG.h (f l[i]))):LC 204 [.x 7 (l.map AG.h) false,.fn (.func g) a b] 7 ((l.map f).map AG.h):=by
 intro h n;generalize hR:(l.map f).map AG.h=R;refine gq func204 rfl λho=>?_;simp[go_sem];refine A9 1 (α:=Nat×Option Nat) (λq=>[(1,.fn (.func g) a b),(5,AQ 7 q.2 (((l.take q.1).map f).map AG.h)),(8,.x 7 (l.map AG.h) false),(9,AA l.length),(10,AA q.1)]) (λq=>AS q.2 (((l.take q.1).map f).map AG.h) h)
  (λq m=>q.1<=l.length/\n<=m/\BG n m 7 q.2 (((l.take q.1).map f).map AG.h)) (λq=>l.length-q.1) (0,none) ?_ ?_ AE ?_
 simp;exact wF _ _ _;simp[look,AQ];rintro⟨k,o⟩ m ⟨hk,hnm,hA⟩;dsimp only at hk hA ⊢;have hlen:(((l.take k).map f).map AG.h).length=k:=by simp;omega
 by_cases hlt:k<l.length
 . have w1:=wS k nN;obtain⟨x,hx⟩:∃x,l[k]=x:=⟨_,rfl⟩
   have H:=hf k hlt;rw[hx]at H;simp only[qv,qB,qK]at H;have hgx:(l.map AG.h)[k]? = some x.h:=by simp[hlt,hx]
   have htk:((l.take (k+1)).map f).map AG.h=((l.take k).map f).map AG.h++[(f x).h]:=by rw[qa hlt,hx];simp
   have hpush:=hA.push (j:=m+1+1) (m':=m+1+1+1) (e:=(f x).h) (AG.E.st _) (AG.E.len _) nN nN;rw[<-htk]at hpush;generalize hes:((l.take k).map f).map AG.h=es at hA htk hlen ⊢;simp only[vj]at hgx;simp[go_sem,hlt,hx,vB,AC,-List.map_map,-List.map_take];refine qO (by simpa[vB]using H) ?_;simp[go_sem,-List.map_map,-List.map_take];rw[Hl (es:=es) (e:=(f x).h) (o:=o) (t:=169) (t2:=169) (el:=173) (z:=7) nP nP nP nO nP nP nP nN hA (AG.E.len _) ?a1 ?a2]
   case a1=>simp[AC,vB,SV.cells]
   case a2=>
    intro j e;have:=(hA.lt j e).2;rw[AB _ _ nN,AB _ _ nN,AB _ _ nN];exact GN j e
   simp[go_sem,w1,-Int.natCast_add,-List.map_map,-List.map_take];refine⟨k+1,by omega,some (m+1+1),⟨by omega,by omega,hpush⟩,⟨?_,Or⟩,?_⟩;rw[htk];simp[AQ,Or];rw[htk];have:=EG (p:=m+1+1) (v:=.sl (m+1+1) 0 7 (es.length+1) false) (e:=(f x).h) ho nN hA (H:=h_ (h_ (h_ (AS o es h) m (some (.cells [.int .i64 0,.x 0 [] true,.int .i64 0,.int .i64 0,.x 0 [] true,.x 0 [] true,.x 0 [] true]))) m (some (.cells x.h.cells))) (m+1) (some (.cells (f x).h.cells)))
    (AY ho nN (AY ho nN (AY ho nN (AS.old ho hA))))
   simpa[vB,SV.cells,CS.app]using this
 have:k=l.length:=by omega
 subst this;simp only[qn,hR]at hA ⊢;simp[go_sem,-List.map_map,-List.map_take];exact .inl (Md ho hA AE hnm (IO _))
theorem Pl(l:List AD)(a:l.length<=1048576)(H:∀(i:Nat)(h:i<l.length),PC 156 [(l[i]).h] (l[i]).h):PC 96 [AI l] (AI l):=by
 intro h n;refine gq func96 rfl λb=>?_;simp[go_sem];have h1:=(mG l a 156 [] [] id (λi hi=>H i hi)).pc (by rw[wz];exact AD.E.size l) (λn=>by rw[wz];exact AD.E.c_ n l);rw[wz]at h1;refine h1.use ?_;simp[go_sem];exact An b (AD.E.x _ _ _ _) rfl
theorem Zu(x:AG)(b:x.H.D)(H:PC 96 [AI x.W] (AI x.W)):PC 205 [x.h] x.h:=by
 intro h n;refine gq func205 rfl λa=>?_;simp[go_sem,vB,AC,AB]
 repeat first|refine nq ?_|refine sq ?_|refine aq ?_
 refine vw _ _ _ _ _ _ (by simpa[AF.h,AF.j]using NS x.H b) ?_;simp[go_sem,AC,AB]
 repeat first|refine nq ?_|refine sq ?_|refine aq ?_
 refine vw _ _ _ _ _ _ H ?_;simp[go_sem,AC]
 repeat first|refine nq ?_|refine sq ?_|refine aq ?_
 exact Bq a (by repeat(first|exact AE|refine AY a nN ?_)) rfl (by rw[<-vB];exact AG.cl n x)
theorem Zr(x:AM)(c:x.H.D)(b:x.cells.length<=1048576)(H:∀(i:Nat)(h:i<x.cells.length),PC 205 [(x.cells[i]).h] (x.cells[i]).h):PC 158 [x.h] x.h:=by
 intro h n;refine gq func158 rfl λa=>?_;have h1:=(iG x.cells b 205 [] [] id (λi hi=>H i hi)).pc (by rw[wz];exact AG.E.size _) (λn=>by rw[wz];exact AG.E.c_ n _);rw[wz]at h1;simp[go_sem,qR,AC,AB]
 repeat first|refine nq ?_|refine sq ?_|refine aq ?_
 refine vw _ _ _ _ _ _ (by simpa[AF.h,AF.j]using NS x.H c) ?_;simp[go_sem,AC,AB]
 repeat first|refine nq ?_|refine sq ?_|refine aq ?_
 refine vw _ _ _ _ _ _ h1 ?_;simp[go_sem,AC]
 repeat first|refine nq ?_|refine sq ?_|refine aq ?_
 exact Bq a (by repeat(first|exact AE|refine AY a nN ?_)) rfl (by rw[<-qR];exact AM.cl n x)
theorem Zq(x:AD)(c:x.H.D)(hr:x.R.length<=1048576)(H:PC 96 [AI x.W] (AI x.W))(b:∀(i:Nat)(h:i<x.R.length),PC 158 [(x.R[i]).h] (x.R[i]).h):PC 156 [x.h] x.h:=by
 intro h n;refine gq func156 rfl λa=>?_;have h1:=(iD x.R hr 158 [] [] id (λi hi=>b i hi)).pc (by rw[wz];exact AM.E.size _) (λn=>by rw[wz];exact AM.E.c_ n _);rw[wz]at h1;simp[go_sem,qz,AC,AB]
 repeat first|refine nq ?_|refine sq ?_|refine aq ?_
 refine vw _ _ _ _ _ _ (by simpa[AF.h,AF.j]using NS x.H c) ?_;simp[go_sem,AC,AB]
 repeat first|refine nq ?_|refine sq ?_|refine aq ?_
 refine vw _ _ _ _ _ _ H ?_;simp[go_sem,AC,AB]
 repeat first|refine nq ?_|refine sq ?_|refine aq ?_
 refine vw _ _ _ _ _ _ h1 ?_;simp[go_sem,AC,AB]
 repeat first|refine nq ?_|refine sq ?_|refine aq ?_
 exact Bq a (by repeat(first|exact AE|refine AY a nN ?_)) rfl (by rw[<-qz];exact AD.cl n x)
mutual
theorem kP:∀x:AD,x.D->PC 156 [x.h] x.h
 | .mk k c i t hd f r,hs=>by
  rw[AD.D]at hs;exact Zq (.mk k c i t hd f r) hs.2.1 hs.2.2.2.1 (Pl f hs.2.2.1 (T6 f hs.2.2.2.2.1)) (bP r hs.2.2.2.2.2)
theorem T6:∀l:List AD,AD.G l->∀(i:Nat)(h:i<l.length),PC 156 [(l[i]).h] (l[i]).h
 | [],_,i,h=>by simp at h
 | x::l,hs,0,_=>by rw[AD.G]at hs;exact kP x hs.1
 | x::l,hs,i+1,h=>by rw[AD.G]at hs;exact T6 l hs.2 i (by simpa using h)
theorem kQ:∀x:AM,x.D->PC 158 [x.h] x.h
 | .mk hd c,hs=>by
  rw[AM.D]at hs;exact Zr (.mk hd c) hs.1 hs.2.1 (bR c hs.2.2)
theorem bP:∀l:List AM,AM.G l->∀(i:Nat)(h:i<l.length),PC 158 [(l[i]).h] (l[i]).h
 | [],_,i,h=>by simp at h
 | x::l,hs,0,_=>by rw[AM.G]at hs;exact kQ x hs.1
 | x::l,hs,i+1,h=>by rw[AM.G]at hs;exact bP l hs.2 i (by simpa using h)
theorem kj:∀x:AG,x.D->PC 205 [x.h] x.h
 | .mk i hd f,hs=>by
  rw[AG.D]at hs;exact Zu (.mk i hd f) hs.1 (Pl f hs.2.1 (T6 f hs.2.2))
theorem bR:∀l:List AG,AG.G l->∀(i:Nat)(h:i<l.length),PC 205 [(l[i]).h] (l[i]).h
 | [],_,i,h=>by simp at h
 | x::l,hs,0,_=>by rw[AG.G]at hs;exact kj x hs.1
 | x::l,hs,i+1,h=>by rw[AG.G]at hs;exact bR l hs.2 i (by simpa using h)
end
theorem kC(l:List AD)(a:l.length<=1048576)(b:AD.G l):PC 96 [AI l] (AI l):=Pl l a (T6 l b)
def AD.units(x:AD):Int:=if x.l=1 then(if Cj x.J then DS x.J x.J.size else 0)else 1
def AD.uerr(x:AD):Int:=if x.l=1 then(if Cj x.J then 0 else 12)else 0
def Y7:List AD->Int
 | []=>0
 | x::l=>x.units+Y7 l
def jB(l:List AD):Bool:=l.any λx=>decide (x.uerr≠0)
def eW(l:List AD):Int×Int:=if jB l then(0,12)else(Y7 l,0)
end Go.Proofs.YthinbkgpjmjfeaaGreatDoor.Sh
