/- A part of the proof (part 4 of 18). -/
import Derived.Test.YtgakninlhfkkmaaGreatN3
import Derived.RangeFuncIn
import Derived.Laws.StructEq
namespace Go.Proofs.YtgakninlhfkkmaaGreat.Sh
open Tryz
abbrev Us:=@cr.q8
abbrev Yg:=@BX.pure
abbrev Yw:=@AP.q8
abbrev qw:=@AB.q8
abbrev qz:=@PC.use
abbrev vA:=@BR.nil
abbrev wn:=@Ap.fz
open Proofs
set_option maxRecDepth 10000
theorem Zq(a:Int):PC 170 [AA a] (.bool false):=by
 intro h n;refine gq func170 rfl λb=>?_;simp[go_sem];exact As b rfl rfl
def GD(a b:Int):Int:=if a<b then -1 else if b<a then 1 else 0
theorem V4(a b:Int):PC 100 [AA a,AA b] (AA (GD a b)):=by
 intro h n;refine gq func100 rfl λc=>?_;simp[go_sem];refine(Zq _).use ?_;simp[go_sem];refine(Zq _).use ?_;by_cases h1:a<b<;>by_cases h2:b<a<;>simp[go_sem,h1,h2]
 all_goals exact As c rfl (by simp[GD,h1,h2])
def BI(p:Nat->Bool)(n:Nat)(k:Nat):Int:=if _:k<n then if p k then k else BI p n (k+1)else -1
termination_by n-k
theorem Ei(p:Nat->Bool)(n k:Nat):BI p n k = -1\/∃i,k<=i/\i<n/\BI p n k=i/\p i=true:=by
 rw[BI];by_cases h:k<n;by_cases hp:p k=true;exact .inr ⟨k,qa _,h,by simp[h,hp],hp⟩;have:=Ei p n (k+1);simp only[h,dite_true,hp];rcases this with e|⟨i,h1,h2,h3,h4⟩
 exact .inl (by simpa using e);exact .inr ⟨i,by omega,h2,by simpa using h3,h4⟩;exact .inl (by simp[h])
termination_by n-k
theorem fO(l:List Int)(x:Int)(hl:l.length<=1048576):PC 178 [.i 1 (l.map AA) false,AA x] (AA (BI (λi=>decide (l[i]? = some x)) l.length 0)):=by
 intro h n;refine gq func178 rfl λd=>?_;simp[go_sem];refine Av 1 (α:=Nat) (λk=>[(0,.i 1 (l.map AA) false),(1,AA x),(7,AA l.length),(8,AA k)]) (λ_=>h) (λk m=>k<=l.length/\n<=m/\BI (λi=>decide (l[i]? = some x)) l.length 0=BI (λi=>decide (l[i]? = some x)) l.length k) (λk=>l.length-k) 0 ?_ ?_ AC ?_;simp;simp[Ao];rintro k m ⟨hk,c,b⟩;rw[BI.eq_def _ _ k]at b;by_cases a:k<l.length;have w1:=wS k (by omega);by_cases h0:x=l[k];simp[go_sem,a,h0];exact As d rfl (by rw[<-h0,b];simp[a,h0]);simp[go_sem,a,h0,w1,-Int.natCast_add];exact⟨k+1,by omega,⟨by omega,c,by rw[b];simp[a,Ne.symm h0]⟩,IO⟩;simp[go_sem,a];exact As d rfl (by rw[b];simp[a])
theorem TI(l:List Int)(x:Int):decide (0<=BI (λi=>decide (l[i]? = some x)) l.length 0)=decide (x∈l):=by
 have gen:∀k,k<=l.length->(0<=BI (λi=>decide (l[i]? = some x)) l.length k↔x∈l.drop k):=by
  intro k hk
  induction hd:l.length-k generalizing k with
  | zero=>
   have:k=l.length:=by omega
   subst this;rw[BI];simp
  | succ d ih=>
   have hlt:k<l.length:=by omega
   have hd:x∈l.drop k↔x=l[k]\/x∈l.drop (k+1):=by rw[qQ hlt,qt]
   rw[BI,hd];by_cases e:l[k]=x;simp[hlt,e];have:=ih (k+1) (by omega) (by omega);simp[hlt,e,this,Ne.symm e]
 have:=gen 0 (qg _);simp only[vt]at this;simp[this]
theorem bQ(l:List Int)(x:Int)(hl:l.length<=1048576):PC 113 [.i 1 (l.map AA) false,AA x] (.bool (decide (x∈l))):=by
 intro h n;refine gq func113 rfl λa=>?_;simp[go_sem];refine(fO l x hl).use ?_;simp[go_sem];exact As a rfl (by rw[TI])
def EI(c:Nat->Int)(i j:Nat):Nat:=if _:i<j then if c ((i+j) / 2)<0 then EI c ((i+j) / 2+1) j else EI c i ((i+j) / 2)else i
termination_by j-i
theorem Mu(c:Nat->Int)(i j:Nat)(h:i<=j):i<=EI c i j/\EI c i j<=j:=by
 rw[EI];split;split;have:=Mu c ((i+j) / 2+1) j (by omega);omega;have:=Mu c i ((i+j) / 2) (by omega);omega;omega
termination_by j-i
def Az(c:Nat->Int)(n:Nat):Nat×Bool:=(EI c 0 n,decide (EI c 0 n<n/\c (EI c 0 n)=0))
theorem Un{x:Int}(h0:0<=x)(h1:x<=4611686018427387904):IntKind.u64.wrap x=x:=IntWalk.u64_in x (by omega)
structure Jt where
 number:Int
 group:Int
 low:Int
 high:Int
 standard:Int
 name:ByteArray
def Jt.e(k:Jt):SV:=.agg [AA k.number,AA k.group,AA k.low,AA k.high,AA k.standard,.str k.name]
theorem gw(l:List Jt)(hl:l.length<=1048576)(t:SV)(g:FuncId)(a b:List SV)(c:Nat->Int)(hc:∀(i:Nat)(h:i<l.length),PC g (a++[Jt.e l[i],t]++b) (AA (c i))):
 PC 306 [.i 6 (l.map Jt.e) false,t,.fn (.func g) a b] (.tup [AA (Az c l.length).1,.bool (Az c l.length).2]):=by
 intro h n;refine gq func306 rfl λs=>?_;simp[go_sem];refine Av 1 (α:=Nat×Nat) (λq=>[(0,.i 6 (l.map Jt.e) false),(1,t),(2,.fn (.func g) a b),(8,AA l.length),(9,AA q.1),(10,AA q.2)]) (λ_=>h) (λq m=>q.1<=q.2/\q.2<=l.length/\n<=m/\EI c 0 l.length=EI c q.1 q.2) (λq=>q.2-q.1) (0,l.length) ?_ ?_ AC ?_;simp;simp[Ao];rintro⟨i,j⟩ m ⟨o,p,k,f⟩;dsimp only at o p f;by_cases d:i<j;have r:(i+j) / 2<l.length:=by omega
 have w1:IntKind.i64.wrap ((i:Int)+j)=((i+j:Nat):Int):=by rw[DA]<;>omega
 have w2:IntKind.u64.wrap ((i+j:Nat):Int)=((i+j:Nat):Int):=by rw[Un]<;>omega
 have w3:(((i+j:Nat):Int)).fdiv 2=(((i+j) / 2:Nat):Int):=by rw[Int.fdiv_eq_ediv_of_nonneg _ (by omega)];omega
 have u:IntKind.i64.wrap (((i+j) / 2:Nat):Int)=(((i+j) / 2:Nat):Int):=by rw[DA]<;>omega
 have v:IntKind.i64.wrap ((((i+j) / 2:Nat):Int)+1)=(((i+j) / 2+1:Nat):Int):=by rw[DA]<;>omega
 have H:=hc _ r;simp only[qj,qx,qE]at H;rw[EI.eq_def c i j]at f;simp[go_sem,d,w1,w2,w3,u,r,Jt.e,-Int.natCast_add,-Int.natCast_ediv];refine qz (by simpa[Jt.e]using H) ?_;by_cases hb:c ((i+j) / 2)<0;simp[d,hb]at f;simp[go_sem,hb,v,-Int.natCast_add,-Int.natCast_ediv];exact⟨(i+j) / 2+1,j,by omega,⟨by omega,p,k,f⟩,IO,IO⟩;simp[d,hb]at f;simp[go_sem,hb,-Int.natCast_add,-Int.natCast_ediv];exact⟨i,(i+j) / 2,by omega,⟨by omega,by omega,k,f⟩,IO,IO⟩;have e:EI c 0 l.length=i:=by rw[f,EI.eq_def];simp[d]
 by_cases hi:i<l.length;have H:=hc i hi;simp only[qj,qx,qE]at H;simp[go_sem,d,hi,Jt.e];refine qz (by simpa[Jt.e]using H) ?_;simp[go_sem];exact As s rfl (by simp[Az,e,hi];by_cases h0:c i=0<;>simp[h0]);simp[go_sem,d,hi];exact As s rfl (by simp[Az,e,hi])
theorem ez(l:List BC)(hl:l.length<=1048576)(t:SV)(g:FuncId)(a b:List SV)(c:Nat->Int)(hc:∀(i:Nat)(h:i<l.length),PC g (a++[BC.e l[i],t]++b) (AA (c i))):
 PC 131 [.i 3 (l.map BC.e) false,t,.fn (.func g) a b] (.tup [AA (Az c l.length).1,.bool (Az c l.length).2]):=by
 intro h n;refine gq func131 rfl λs=>?_;simp[go_sem];refine Av 1 (α:=Nat×Nat) (λq=>[(0,.i 3 (l.map BC.e) false),(1,t),(2,.fn (.func g) a b),(8,AA l.length),(9,AA q.1),(10,AA q.2)]) (λ_=>h) (λq m=>q.1<=q.2/\q.2<=l.length/\n<=m/\EI c 0 l.length=EI c q.1 q.2) (λq=>q.2-q.1) (0,l.length) ?_ ?_ AC ?_;simp;simp[Ao];rintro⟨i,j⟩ m ⟨o,p,k,f⟩;dsimp only at o p f;by_cases d:i<j;have r:(i+j) / 2<l.length:=by omega
 have w1:IntKind.i64.wrap ((i:Int)+j)=((i+j:Nat):Int):=by rw[DA]<;>omega
 have w2:IntKind.u64.wrap ((i+j:Nat):Int)=((i+j:Nat):Int):=by rw[Un]<;>omega
 have w3:(((i+j:Nat):Int)).fdiv 2=(((i+j) / 2:Nat):Int):=by rw[Int.fdiv_eq_ediv_of_nonneg _ (by omega)];omega
 have u:IntKind.i64.wrap (((i+j) / 2:Nat):Int)=(((i+j) / 2:Nat):Int):=by rw[DA]<;>omega
 have v:IntKind.i64.wrap ((((i+j) / 2:Nat):Int)+1)=(((i+j) / 2+1:Nat):Int):=by rw[DA]<;>omega
 have H:=hc _ r;simp only[qj,qx,qE]at H;rw[EI.eq_def c i j]at f;simp[go_sem,d,w1,w2,w3,u,r,BC.e,-Int.natCast_add,-Int.natCast_ediv];refine qz (by simpa[BC.e]using H) ?_;by_cases hb:c ((i+j) / 2)<0;simp[d,hb]at f;simp[go_sem,hb,v,-Int.natCast_add,-Int.natCast_ediv];exact⟨(i+j) / 2+1,j,by omega,⟨by omega,p,k,f⟩,IO,IO⟩;simp[d,hb]at f;simp[go_sem,hb,-Int.natCast_add,-Int.natCast_ediv];exact⟨i,(i+j) / 2,by omega,⟨by omega,by omega,k,f⟩,IO,IO⟩;have e:EI c 0 l.length=i:=by rw[f,EI.eq_def];simp[d]
 by_cases hi:i<l.length;have H:=hc i hi;simp only[qj,qx,qE]at H;simp[go_sem,d,hi,BC.e];refine qz (by simpa[BC.e]using H) ?_;simp[go_sem];exact As s rfl (by simp[Az,e,hi];by_cases h0:c i=0<;>simp[h0]);simp[go_sem,d,hi];exact As s rfl (by simp[Az,e,hi])
set_option maxRecDepth 100000
def Bk:List Jt:=[
 ⟨1,1,0,1073741824,0,⟨#[99,104,97,114,97,99,116,101,114,45,115,116,121,108,101]⟩⟩,
 ⟨2,1,0,1,0,⟨#[98,111,108,100]⟩⟩,
 ⟨3,1,0,1,0,⟨#[105,116,97,108,105,99]⟩⟩,
 ⟨4,1,0,3,0,⟨#[117,110,100,101,114,108,105,110,101]⟩⟩,
 ⟨5,1,2,1638,22,⟨#[115,105,122,101]⟩⟩,
 ⟨6,1,0,16777215,0,⟨#[99,111,108,111,114]⟩⟩,
 ⟨7,1,0,63,0,⟨#[102,111,110,116]⟩⟩,
 ⟨8,1,0,255,0,⟨#[108,97,110,103,117,97,103,101]⟩⟩,
 ⟨9,1,(-400),400,0,⟨#[114,97,105,115,101]⟩⟩,
 ⟨10,1,0,1,0,⟨#[104,105,100,100,101,110]⟩⟩,
 ⟨20,2,0,1073741824,0,⟨#[112,97,114,97,103,114,97,112,104,45,115,116,121,108,101]⟩⟩,
 ⟨21,2,0,3,0,⟨#[97,108,105,103,110]⟩⟩,
 ⟨22,2,(-31680),31680,0,⟨#[108,101,102,116]⟩⟩,
 ⟨23,2,(-31680),31680,0,⟨#[114,105,103,104,116]⟩⟩,
 ⟨24,2,(-31680),31680,0,⟨#[102,105,114,115,116]⟩⟩,
 ⟨25,2,0,31680,0,⟨#[98,101,102,111,114,101]⟩⟩,
 ⟨26,2,0,31680,0,⟨#[97,102,116,101,114]⟩⟩,
 ⟨27,2,0,31680,0,⟨#[108,101,97,100,105,110,103]⟩⟩,
 ⟨28,2,0,1,0,⟨#[107,101,101,112,45,110,101,120,116]⟩⟩,
 ⟨29,2,0,1,0,⟨#[107,101,101,112,45,108,105,110,101,115]⟩⟩,
 ⟨30,2,0,1,1,⟨#[119,105,100,111,119]⟩⟩,
 ⟨31,2,0,1,0,⟨#[112,97,103,101,45,98,101,102,111,114,101]⟩⟩,
 ⟨32,2,0,9,0,⟨#[111,117,116,108,105,110,101]⟩⟩,
 ⟨33,2,0,1073741824,0,⟨#[108,105,115,116]⟩⟩,
 ⟨34,2,1,9,1,⟨#[108,101,118,101,108]⟩⟩,
 ⟨35,2,0,32767,0,⟨#[114,101,115,116,97,114,116]⟩⟩,
 ⟨36,2,1,31680,720,⟨#[116,97,98,45,115,116,111,112]⟩⟩,
 ⟨37,2,0,1,0,⟨#[104,121,112,104,101,110,97,116,101]⟩⟩,
 ⟨40,3,720,31680,12240,⟨#[112,97,103,101,45,119,105,100,116,104]⟩⟩,
 ⟨41,3,720,31680,15840,⟨#[112,97,103,101,45,104,101,105,103,104,116]⟩⟩,
 ⟨42,3,0,31680,1440,⟨#[116,111,112]⟩⟩,
 ⟨43,3,0,31680,1440,⟨#[98,111,116,116,111,109]⟩⟩,
 ⟨44,3,0,31680,1440,⟨#[105,110,110,101,114]⟩⟩,
 ⟨45,3,0,31680,1440,⟨#[111,117,116,101,114]⟩⟩,
 ⟨46,3,0,32767,0,⟨#[102,105,114,115,116,45,112,97,103,101]⟩⟩,
 ⟨47,3,1,6,1,⟨#[112,97,103,101,45,102,111,114,109,97,116]⟩⟩,
 ⟨50,4,0,1,0,⟨#[104,101,97,100,101,114]⟩⟩,
 ⟨51,4,0,1,0,⟨#[99,97,110,116,45,115,112,108,105,116]⟩⟩,
 ⟨52,4,0,31680,0,⟨#[114,111,119,45,104,101,105,103,104,116]⟩⟩,
 ⟨60,5,1,32,1,⟨#[99,111,108,117,109,110,45,115,112,97,110]⟩⟩,
 ⟨61,5,0,2,0,⟨#[118,101,114,116,105,99,97,108,45,109,101,114,103,101]⟩⟩,
 ⟨62,5,0,31680,0,⟨#[99,101,108,108,45,119,105,100,116,104]⟩⟩,
 ⟨63,5,0,16777215,16777215,⟨#[115,104,97,100,101]⟩⟩,
 ⟨70,6,0,31680,0,⟨#[116,97,98,108,101,45,119,105,100,116,104]⟩⟩,
 ⟨71,6,0,2,0,⟨#[116,97,98,108,101,45,97,108,105,103,110]⟩⟩]
def Iq:List SV:=Bk.flatMap λk=>k.e.cells
theorem aZ(Q:Exit->SV->Hp->Nat->Prop)(h:Hp)(n:Nat):swp prog 47 (Tryz.f305.body.getD .ret) (λe sa h n=>Q e (Ao sa 0) h n) [] h n=Q .ret (.sl n 0 6 45 true) (h_ h n (some (.cells Iq))) (n+1):=by kernel_rfl
theorem gv:PC 305 [] (.i 6 (Bk.map Jt.e) false):=by
 intro h n;refine gq func305 rfl λc=>?_;rw[FI];have e:=aZ (λe v h' n'=>(e=.normal\/e=.ret)/\∃rs,some [v]=some rs/\CO n h' n' (LB rs) (Is (.i 6 (Bk.map Jt.e) false) h n)) h n;refine cast e.symm ⟨.inr rfl,_,rfl,?_⟩;refine Dj 1 c (AR c (qa _) AC) (.inr ⟨c.none (qa _),by simp,by kernel_rfl,rfl,Iq,Iq,AD _ _ _,by kernel_rfl,?_,?_⟩) ?_;intro x b;simp only[ql]at b;obtain⟨k,_,rfl⟩:=b;exact⟨rfl,rfl⟩;have all:∀l:List SV,Ag (Fz (h_ h n (some (.cells Iq))) h 0) l l:=by
  intro l;induction l with
  | nil=>trivial
  | cons a l ih=>exact⟨IO,ih⟩
 have e:(Bk.map Jt.e).flatMap SV.cells=Iq:=by kernel_rfl
 rw[e];exact all _;rw[cc];refine EO.2 λx b=>?_;simp only[ql]at b;obtain⟨k,_,rfl⟩:=b;rfl
end Go.Proofs.YtgakninlhfkkmaaGreat.Sh
namespace Go.Proofs.YtgakninlhfkkmaaGreat.Sh
open Tryz
open Proofs
set_option maxRecDepth 100000
theorem gy(k:Jt)(t:Int):PC 307 [k.e,AA t] (AA (GD k.number t)):=by
 intro h n;refine gq func307 rfl λa=>?_;simp[go_sem,Jt.e,AD];refine(V4 _ _).use ?_;simp[go_sem];exact A3 a (AR a (qa _) AC) rfl rfl
def GV(t:Int)(i:Nat):Int:=match Bk[i]? with|some k=>GD k.number t|none=>0
def Dz(t:Int):Option Jt:=if(Az (GV t) Bk.length).2 then Bk[(Az (GV t) Bk.length).1]? else none
def Jt.zero:Jt:=⟨0,0,0,0,0,⟨#[]⟩⟩
theorem Oi:Bk.length=45:=by kernel_rfl
theorem bw(t:Int):PC 273 [AA t] (.tup [((Dz t).getD Jt.zero).e,.bool (Dz t).isSome]):=by
 intro h n;refine gq func273 rfl λb=>?_;simp[go_sem];refine gv.use ?_;simp[go_sem];refine(gw Bk (by rw[Oi];omega) (AA t) 307 [] [] (GV t) (λi hi=>by simpa[GV,hi]using gy Bk[i] t)).use ?_;by_cases hb:(Az (GV t) Bk.length).2=true;have hi:(Az (GV t) Bk.length).1<Bk.length:=by
  simp only[Az,decide_eq_true_eq]at hb;exact hb.1
 have a:Dz t=some Bk[(Az (GV t) Bk.length).1]:=by simp[Dz,hb,hi]
 generalize c:Bk[(Az (GV t) Bk.length).1]=k at a;have hg:(Bk.map Jt.e)[(Az (GV t) Bk.length).1]? = some k.e:=by rw[<-c];simp[hi]
 simp only[qX]at hg;simp[go_sem,hb,hg,Jt.e,AD];refine A3 b (λo y e=>?_) (by simp[a]) rfl;have:=(b o y e).1;have ne:o≠n:=by omega
 simp[h_,ne,e];have a:Dz t=none:=by simp[Dz,hb]
 simp[go_sem,hb,AD];refine A3 b (λo y e=>?_) (by simp[a,Jt.zero,Jt.e];rfl) rfl;have:=(b o y e).1;have ne:o≠n:=by omega
 simp[h_,ne,e]
def CP(e:Int):List Int:=
 if e=1\/e=4\/e=5\/e=6 then[1]else if e=2 then[1,2]else if e=3 then[3]else if e=7 then[6]else if e=9 then[4]else if e=10 then[5]else[]
theorem gW(e:Int):PC 274 [AA e] (.i 1 ((CP e).map AA) false):=by
 intro h n;refine gq func274 rfl λd=>?_;have fin:∀(g:List Int)(m:Nat),n<=m->CO n (h_ h m (some (.cells (g.map AA)))) (m+1) (.sl m 0 1 g.length true) (Is (.i 1 (g.map AA) false) h n):=λg m r=>by
  refine Dj 1 d (AR d r AC) (.inr ⟨d.none r,by simp,by simp,rfl,_,_,AD _ _ _,by simp[Bz];rfl,?_,?_⟩) ?_;intro x c;simp at c;obtain⟨_,_,rfl⟩:=c;exact⟨rfl,rfl⟩;have e:(g.map AA).flatMap SV.cells=g.map AA:=by induction g with|nil=>rfl|cons a l ih=>simpa[SV.cells]using ih
  rw[e];have all:∀l:List SV,Ag (Fz (h_ h m (some (.cells (g.map AA)))) h 0) l l:=by
   intro l;induction l with
   | nil=>trivial
   | cons a l ih=>exact⟨IO,ih⟩
  rw[qv (by simp)];exact all _;rw[cc];refine EO.2 λx c=>?_;simp only[ql]at c;obtain⟨k,_,rfl⟩:=c;rfl
 by_cases h1:e=1;subst h1;simp[go_sem,CP];exact fin [1] n (qa _);by_cases i:e=4;subst i;simp[go_sem,CP];exact fin [1] n (qa _);by_cases j:e=5;subst j;simp[go_sem,CP];exact fin [1] n (qa _);by_cases o:e=6;subst o;simp[go_sem,CP];exact fin [1] n (qa _);by_cases h2:e=2;subst h2;simp[go_sem,CP];exact fin [1,2] n (qa _);by_cases f:e=3;subst f;simp[go_sem,CP];exact fin [3] n (qa _);by_cases p:e=7;subst p;simp[go_sem,CP];exact fin [6] n (qa _);by_cases q:e=9;subst q;simp[go_sem,CP];exact fin [4] n (qa _);by_cases b:e=10;subst b;simp[go_sem,CP];exact fin [5] n (qa _);simp[go_sem,CP,h1,h2,f,i,j,o,p,q,b];exact Dj 1 d AC (.inr ⟨by simp,.inl rfl,trivial,by simp⟩) rfl
def Oh(el key:Int):Bool:=match Dz key with|some k=>decide (k.group∈CP el)|none=>false
theorem N8(e:Int):(CP e).length<=1048576:=by unfold CP;(repeat' split)<;>simp
theorem bh(el key:Int):PC 220 [AA el,AA key] (.bool (Oh el key)):=by
 intro h n;refine gq func220 rfl λa=>?_;simp[go_sem];refine(bw key).use ?_;cases b:Dz key with
 | none=>
  simp[go_sem,Jt.zero,Jt.e,AD]
  repeat first|refine nq ?_|refine sq ?_
  refine A3 a (λo y e=>?_) (by simp[Oh,b]) rfl;have:=(a o y e).1;have ne:o≠n:=by omega
  simp[h_,ne,e]
 | some k=>
  simp[go_sem,Jt.e,AD]
  repeat first|refine nq ?_|refine sq ?_
  refine Yg _ _ _ _ _ _ (gW el) ?_;simp[go_sem,AD]
  repeat first|refine nq ?_|refine sq ?_
  refine Yg _ _ _ _ _ _ (bQ (CP el) k.group (N8 el)) ?_;simp[go_sem]
  repeat first|refine nq ?_|refine sq ?_
  refine A3 a (λo y e=>?_) (by simp[Oh,b]) rfl;have:=(a o y e).1;have ne:o≠n:=by omega
  simp[h_,ne,e]
def EZ(key v:Int):Int:=match Dz key with|some k=>if v<k.low\/k.high<v then 5 else 0|none=>4
theorem Zu(key v:Int):PC 221 [AA key,AA v] (AA (EZ key v)):=by
 intro h n;refine gq func221 rfl λc=>?_;simp[go_sem];refine(bw key).use ?_;have f:∀a b:Option Bb,∀o x,h o=some x->h_ (h_ h n a) n b o=some x:=λa b o y e=>by
  have:=(c o y e).1;have ne:o≠n:=by omega
  simp[h_,ne,e]
 cases d:Dz key with
 | none=>
  simp[go_sem,Jt.zero,Jt.e,AD];exact A3 c (f _ _) (by simp[EZ,d]) rfl
 | some k=>
  by_cases h1:v<k.low<;>by_cases h2:k.high<v<;>simp[go_sem,Jt.e,AD,h1,h2]
  all_goals exact A3 c (f _ _) (by simp[EZ,d,h1,h2]) rfl
def Di(el:Int)(l:List Bi)(i:Nat):Int:=match l[i]? with
 | some p=>if !Oh el p.key then 4 else if decide (0<i)&&((l[i-1]?).map Bi.key==some p.key)then 7
  else if decide (0<i)&&(match l[i-1]? with|some q=>decide (p.key<q.key)|none=>false)then 6 else EZ p.key p.value
 | none=>0
def CY(el:Int)(l:List Bi):Int:=if el<1\/10<el then 3 else CD (Di el l) l.length
theorem bX(el:Int)(l:List Bi)(hl:l.length<=1048576):PC 156 [AA el,AU l] (AA (CY el l)):=by
 intro h n;refine gq func156 rfl λg=>?_;by_cases t:el<1;simp[go_sem,t];exact As g rfl (by simp[CY,t]);by_cases v:10<el;simp[go_sem,t,v];exact As g rfl (by simp[CY,v]);have B:CY el l=CD (Di el l) l.length:=by simp[CY,t,v]
 rw[B];simp[go_sem,t,v];refine Av 1 (α:=Nat) (λk=>[(0,AA el),(1,AU l),(14,AU l),(15,AA l.length),(16,AA k)]) (λ_=>h) (λk m=>k<=l.length/\n<=m/\CD (Di el l) k=0) (λk=>l.length-k) 0 ?_ ?_ AC ?_;simp[CD];simp[Ao];rintro k m ⟨hk,hnm,z⟩;have r:∀a b:Option Bb,∀o x,h o=some x->h_ (h_ h m a) m b o=some x:=λa b o y e=>by
  have:=(g o y e).1;have ne:o≠m:=by omega
  simp[h_,ne,e]
 by_cases f:k<l.length
 . have w1:=wS k (by omega);obtain⟨p,hp⟩:∃p,l[k]? = some p:=⟨l[k],by simp[f]⟩
   have hp':l[k]=p:=by simpa[f]using hp
   have nz:∀e,Di el l k=e->e≠0->CD (Di el l) l.length=e:=λe h1 h2=>by rw[EM _ f z (by rw[h1];exact h2),h1]
   simp[go_sem,f,hp',Bi.e,AD];refine(bh _ _).use ?_;by_cases c:Oh el p.key=true
   . by_cases h0:0<k
     . obtain⟨q,s⟩:∃q,l[k-1]? = some q:=⟨l[k-1],by simp[show k-1<l.length by omega]⟩
       have w2:IntKind.i64.wrap ((k:Int)-1)=((k-1:Nat):Int):=by rw[DA]<;>omega
       have A:(l.map Bi.e)[k-1]? = some q.e:=by simp[s]
       simp only[qX]at A;by_cases j:p.key=q.key
       . have d:Oh el q.key=true:=by rw[<-j];exact c
         simp[go_sem,d,h0,w2,s,Bi.e,AD,j]
         repeat first|refine nq ?_|refine sq ?_
         exact A3 g (r _ _) (by rw[nz 7 (by simp[Di,hp,d,h0,s,j]) (by simp)]) rfl
       . by_cases w:p.key<q.key
         . simp[go_sem,c,h0,w2,s,Bi.e,AD,j,w]
           repeat first|refine nq ?_|refine sq ?_
           exact A3 g (r _ _) (by rw[nz 6 (by simp[Di,hp,c,h0,s,w,Ne.symm j]) (by simp)]) rfl
         . simp[go_sem,c,h0,w2,s,Bi.e,AD,j,w]
           repeat first|refine nq ?_|refine sq ?_
           refine(Zu _ _).use ?_;have u:Di el l k=EZ p.key p.value:=by simp[Di,hp,c,h0,s,w,Ne.symm j]
           by_cases i:EZ p.key p.value=0;simp[go_sem,i,w1,-Int.natCast_add];exact⟨k+1,by omega,⟨by omega,by omega,by simp[CD,z,u,i]⟩,IO,r _ _⟩;simp[go_sem,i];exact A3 g (r _ _) (by rw[nz _ u i]) rfl
     . simp[go_sem,c,h0,AD]
       repeat first|refine nq ?_|refine sq ?_
       refine(Zu _ _).use ?_;have u:Di el l k=EZ p.key p.value:=by simp[Di,hp,c,h0]
       by_cases i:EZ p.key p.value=0;simp[go_sem,i,w1,-Int.natCast_add];exact⟨k+1,by omega,⟨by omega,by omega,by simp[CD,z,u,i]⟩,IO,r _ _⟩;simp[go_sem,i];exact A3 g (r _ _) (by rw[nz _ u i]) rfl
   simp[go_sem,c];exact A3 g (r _ _) (by rw[nz 4 (by simp[Di,hp,c]) (by simp)]) rfl
 simp[go_sem,f];have:k=l.length:=by omega
 subst this;exact As g rfl (by rw[z])
end Go.Proofs.YtgakninlhfkkmaaGreat.Sh
namespace Go.Proofs.YtgakninlhfkkmaaGreat.Sh
open Tryz
open Proofs
set_option maxRecDepth 10000
def Jo(p:Nat->Bool)(n:Nat):Bool:=decide (0<=BI p n 0)
structure CJ where
 literal:ByteArray
 level:Int
 plain:Bool
def CJ.e(p:CJ):SV:=.agg [.str p.literal,AA p.level,.bool p.plain]
abbrev Jy:Int->SV:=.int .u8
theorem bz(l:List A7)(hl:l.length<=1048576)(g:FuncId)(a b:List SV)(p:Nat->Bool)(hp:∀(i:Nat)(h:i<l.length),PC g (a++[A7.e l[i]]++b) (.bool (p i))):
 PC 299 [.i 6 (l.map A7.e) false,.fn (.func g) a b] (AA (BI p l.length 0)):=by
 intro h n;refine gq func299 rfl λf=>?_;simp[go_sem];refine Av 1 (α:=Nat) (λk=>[(0,.i 6 (l.map A7.e) false),(1,.fn (.func g) a b),(7,AA l.length),(8,AA k)]) (λ_=>h) (λk m=>k<=l.length/\n<=m/\BI p l.length 0=BI p l.length k) (λk=>l.length-k) 0 ?_ ?_ AC ?_;simp;simp[Ao];rintro k m ⟨hk,e,d⟩;rw[BI.eq_def _ _ k]at d;by_cases c:k<l.length;have w1:=wS k (by omega);have H:=hp k c;simp only[qj,qx,qE]at H;simp[go_sem,c,A7.e];refine qz (by simpa[A7.e]using H) ?_;by_cases h0:p k=true;simp[go_sem,h0];exact As f rfl (by rw[d];simp[c,h0]);simp[go_sem,h0,w1,-Int.natCast_add];exact⟨k+1,by omega,⟨by omega,e,by rw[d];simp[c,h0]⟩,IO⟩;simp[go_sem,c];exact As f rfl (by rw[d];simp[c])
theorem gV(l:List A9)(hl:l.length<=1048576)(g:FuncId)(a b:List SV)(p:Nat->Bool)(hp:∀(i:Nat)(h:i<l.length),PC g (a++[A9.e l[i]]++b) (.bool (p i))):
 PC 272 [.i 6 (l.map A9.e) false,.fn (.func g) a b] (AA (BI p l.length 0)):=by
 intro h n;refine gq func272 rfl λf=>?_;simp[go_sem];refine Av 1 (α:=Nat) (λk=>[(0,.i 6 (l.map A9.e) false),(1,.fn (.func g) a b),(7,AA l.length),(8,AA k)]) (λ_=>h) (λk m=>k<=l.length/\n<=m/\BI p l.length 0=BI p l.length k) (λk=>l.length-k) 0 ?_ ?_ AC ?_;simp;simp[Ao];rintro k m ⟨hk,e,d⟩;rw[BI.eq_def _ _ k]at d;by_cases c:k<l.length;have w1:=wS k (by omega);have H:=hp k c;simp only[qj,qx,qE]at H;simp[go_sem,c,A9.e];refine qz (by simpa[A9.e]using H) ?_;by_cases h0:p k=true;simp[go_sem,h0];exact As f rfl (by rw[d];simp[c,h0]);simp[go_sem,h0,w1,-Int.natCast_add];exact⟨k+1,by omega,⟨by omega,e,by rw[d];simp[c,h0]⟩,IO⟩;simp[go_sem,c];exact As f rfl (by rw[d];simp[c])
theorem bU(l:List BC)(hl:l.length<=1048576)(g:FuncId)(a b:List SV)(p:Nat->Bool)(hp:∀(i:Nat)(h:i<l.length),PC g (a++[BC.e l[i]]++b) (.bool (p i))):
 PC 141 [.i 3 (l.map BC.e) false,.fn (.func g) a b] (AA (BI p l.length 0)):=by
 intro h n;refine gq func141 rfl λf=>?_;simp[go_sem];refine Av 1 (α:=Nat) (λk=>[(0,.i 3 (l.map BC.e) false),(1,.fn (.func g) a b),(7,AA l.length),(8,AA k)]) (λ_=>h) (λk m=>k<=l.length/\n<=m/\BI p l.length 0=BI p l.length k) (λk=>l.length-k) 0 ?_ ?_ AC ?_;simp;simp[Ao];rintro k m ⟨hk,e,d⟩;rw[BI.eq_def _ _ k]at d;by_cases c:k<l.length;have w1:=wS k (by omega);have H:=hp k c;simp only[qj,qx,qE]at H;simp[go_sem,c,BC.e];refine qz (by simpa[BC.e]using H) ?_;by_cases h0:p k=true;simp[go_sem,h0];exact As f rfl (by rw[d];simp[c,h0]);simp[go_sem,h0,w1,-Int.natCast_add];exact⟨k+1,by omega,⟨by omega,e,by rw[d];simp[c,h0]⟩,IO⟩;simp[go_sem,c];exact As f rfl (by rw[d];simp[c])
theorem bf(l:List AP)(hl:l.length<=1048576)(g:FuncId)(a b:List SV)(p:Nat->Bool)(hp:∀(i:Nat)(h:i<l.length),PC g (a++[AP.e l[i]]++b) (.bool (p i))):
 PC 193 [.i 6 (l.map AP.e) false,.fn (.func g) a b] (AA (BI p l.length 0)):=by
 intro h n;refine gq func193 rfl λf=>?_;simp[go_sem];refine Av 1 (α:=Nat) (λk=>[(0,.i 6 (l.map AP.e) false),(1,.fn (.func g) a b),(7,AA l.length),(8,AA k)]) (λ_=>h) (λk m=>k<=l.length/\n<=m/\BI p l.length 0=BI p l.length k) (λk=>l.length-k) 0 ?_ ?_ AC ?_;simp;simp[Ao];rintro k m ⟨hk,e,d⟩;rw[BI.eq_def _ _ k]at d;by_cases c:k<l.length;have w1:=wS k (by omega);have H:=hp k c;simp only[qj,qx,qE]at H;simp[go_sem,c,Yw];refine qz (by simpa[Yw]using H) ?_;by_cases h0:p k=true;simp[go_sem,h0];exact As f rfl (by rw[d];simp[c,h0]);simp[go_sem,h0,w1,-Int.natCast_add];exact⟨k+1,by omega,⟨by omega,e,by rw[d];simp[c,h0]⟩,IO⟩;simp[go_sem,c];exact As f rfl (by rw[d];simp[c])
theorem iD(l:List CJ)(hl:l.length<=1048576)(g:FuncId)(a b:List SV)(p:Nat->Bool)(hp:∀(i:Nat)(h:i<l.length),PC g (a++[CJ.e l[i]]++b) (.bool (p i))):
 PC 321 [.i 3 (l.map CJ.e) false,.fn (.func g) a b] (AA (BI p l.length 0)):=by
 intro h n;refine gq func321 rfl λf=>?_;simp[go_sem];refine Av 1 (α:=Nat) (λk=>[(0,.i 3 (l.map CJ.e) false),(1,.fn (.func g) a b),(7,AA l.length),(8,AA k)]) (λ_=>h) (λk m=>k<=l.length/\n<=m/\BI p l.length 0=BI p l.length k) (λk=>l.length-k) 0 ?_ ?_ AC ?_;simp;simp[Ao];rintro k m ⟨hk,e,d⟩;rw[BI.eq_def _ _ k]at d;by_cases c:k<l.length;have w1:=wS k (by omega);have H:=hp k c;simp only[qj,qx,qE]at H;simp[go_sem,c,CJ.e];refine qz (by simpa[CJ.e]using H) ?_;by_cases h0:p k=true;simp[go_sem,h0];exact As f rfl (by rw[d];simp[c,h0]);simp[go_sem,h0,w1,-Int.natCast_add];exact⟨k+1,by omega,⟨by omega,e,by rw[d];simp[c,h0]⟩,IO⟩;simp[go_sem,c];exact As f rfl (by rw[d];simp[c])
theorem iG(l:List Int)(hl:l.length<=1048576)(g:FuncId)(a b:List SV)(p:Nat->Bool)(hp:∀(i:Nat)(h:i<l.length),PC g (a++[Jy l[i]]++b) (.bool (p i))):
 PC 327 [.i 1 (l.map Jy) false,.fn (.func g) a b] (AA (BI p l.length 0)):=by
 intro h n;refine gq func327 rfl λf=>?_;simp[go_sem];refine Av 1 (α:=Nat) (λk=>[(0,.i 1 (l.map Jy) false),(1,.fn (.func g) a b),(7,AA l.length),(8,AA k)]) (λ_=>h) (λk m=>k<=l.length/\n<=m/\BI p l.length 0=BI p l.length k) (λk=>l.length-k) 0 ?_ ?_ AC ?_;simp;simp[Ao];rintro k m ⟨hk,e,d⟩;rw[BI.eq_def _ _ k]at d;by_cases c:k<l.length;have w1:=wS k (by omega);have H:=hp k c;simp only[qj,qx,qE]at H;simp[go_sem,c,Jy];refine qz (by simpa[Jy]using H) ?_;by_cases h0:p k=true;simp[go_sem,h0];exact As f rfl (by rw[d];simp[c,h0]);simp[go_sem,h0,w1,-Int.natCast_add];exact⟨k+1,by omega,⟨by omega,e,by rw[d];simp[c,h0]⟩,IO⟩;simp[go_sem,c];exact As f rfl (by rw[d];simp[c])
theorem fg(l:List A9)(hl:l.length<=1048576)(g:FuncId)(a b:List SV)(p:Nat->Bool)(hp:∀(i:Nat)(h:i<l.length),PC g (a++[A9.e l[i]]++b) (.bool (p i))):
 PC 214 [.i 6 (l.map A9.e) false,.fn (.func g) a b] (.bool (Jo p l.length)):=by
 intro h n;refine gq func214 rfl λc=>?_;simp[go_sem];refine(gV l hl g a b p hp).use ?_;simp[go_sem];exact As c rfl rfl
theorem gr(l:List CJ)(hl:l.length<=1048576)(g:FuncId)(a b:List SV)(p:Nat->Bool)(hp:∀(i:Nat)(h:i<l.length),PC g (a++[CJ.e l[i]]++b) (.bool (p i))):
 PC 303 [.i 3 (l.map CJ.e) false,.fn (.func g) a b] (.bool (Jo p l.length)):=by
 intro h n;refine gq func303 rfl λc=>?_;simp[go_sem];refine(iD l hl g a b p hp).use ?_;simp[go_sem];exact As c rfl rfl
theorem iB(l:List Int)(hl:l.length<=1048576)(g:FuncId)(a b:List SV)(p:Nat->Bool)(hp:∀(i:Nat)(h:i<l.length),PC g (a++[Jy l[i]]++b) (.bool (p i))):
 PC 318 [.i 1 (l.map Jy) false,.fn (.func g) a b] (.bool (Jo p l.length)):=by
 intro h n;refine gq func318 rfl λc=>?_;simp[go_sem];refine(iG l hl g a b p hp).use ?_;simp[go_sem];exact As c rfl rfl
abbrev SP(E:CC)(N:Nat)(c:Code)(Q:Cu)(sa:SA)(h:Hp)(n:Nat):Prop:=Ic E prog N c Q sa h n
section
variable{E:CC}{N:Nat}{a b:Code}{Q:Cu}{sa:SA}{h:Hp}{n:Nat}
theorem AJ(H:LP E prog N a Q sa h n):SP E N a Q sa h n:=FQ follows _ _ _ _ _ (by rw[<-FI];exact H)
theorem LU(d:SA)(e:LP E prog N a (Do (λc h' n'=>(∀p∈d,Ao c p.1=p.2)/\h'=h/\n'=n) Q) sa h n)(f:SP E N b Q d h n):SP E N (.seq a b) Q sa h n:=
 Kg (GC (AJ e) (F7 λc h' n' ⟨h1,h2,g⟩=>by subst h2;subst g;exact NG f h1))
theorem B8{α:Type}(k:Nat)(fr:α->SA)(hp:α->Hp)(I:α->Nat->Prop)
 (d:LP E prog N a (Do (λc h' n'=>∃x,I x n'/\(∀p∈fr x,Fz h' (hp x) k (Ao c p.1) p.2)/\(∀o y,hp x o=some y->h' o=some y)) Q) sa h n)
 (e:∀x m,I x m->SP E N b Q (fr x) (hp x) m):SP E N (.seq a b) Q sa h n:=
 Kg (GC (AJ d) (F7 λ_c _h' n' ⟨x,hI,h1,h2⟩=>Pr k h2 (qa _) h1 (e x n' hI)))
theorem AX{α:Type}(k:Nat)(fr:α->SA)(hp:α->Hp)(I:α->Nat->Prop)
 (d:SP E N a (Do (λc h' n'=>∃x,I x n'/\(∀p∈fr x,Fz h' (hp x) k (Ao c p.1) p.2)/\(∀o y,hp x o=some y->h' o=some y)) Q) sa h n)
 (e:∀x m,I x m->SP E N b Q (fr x) (hp x) m):SP E N (.seq a b) Q sa h n:=
 Kg (GC d (F7 λ_c _h' n' ⟨x,hI,h1,h2⟩=>Pr k h2 (qa _) h1 (e x n' hI)))
theorem By(k:Nat)(fr:SA)(hp:Hp)(I:Nat->Prop)
 (d:LP E prog N a (Do (λc h' n'=>∃_:Unit,I n'/\(∀p∈fr,Fz h' hp k (Ao c p.1) p.2)/\(∀o y,hp o=some y->h' o=some y)) Q) sa h n)
 (e:∀m,I m->SP E N b Q fr hp m):SP E N (.seq a b) Q sa h n:=
 B8 k (α:=Unit) (λ_=>fr) (λ_=>hp) (λ_=>I) d λ_=>e
theorem Bg(k:Nat)(fr:SA)(hp:Hp)(I:Nat->Prop)
 (d:SP E N a (Do (λc h' n'=>∃_:Unit,I n'/\(∀p∈fr,Fz h' hp k (Ao c p.1) p.2)/\(∀o y,hp o=some y->h' o=some y)) Q) sa h n)
 (e:∀m,I m->SP E N b Q fr hp m):SP E N (.seq a b) Q sa h n:=
 AX k (α:=Unit) (λ_=>fr) (λ_=>hp) (λ_=>I) d λ_=>e
theorem Aa(k:Nat)(fr:SA)(hp:Hp)(q:Nat)
 (d:LP E prog N a (Do (λc h' n'=>∃_:Unit,q<=n'/\(∀p∈fr,Fz h' hp k (Ao c p.1) p.2)/\(∀o y,hp o=some y->h' o=some y)) Q) sa h n)
 (e:∀m,q<=m->SP E N b Q fr hp m):SP E N (.seq a b) Q sa h n:=By k fr hp (q ≤ ·) d e
theorem CW(k:Nat)(fr:SA)(hp:Hp)(q:Nat)
 (d:SP E N a (Do (λc h' n'=>∃_:Unit,q<=n'/\(∀p∈fr,Fz h' hp k (Ao c p.1) p.2)/\(∀o y,hp o=some y->h' o=some y)) Q) sa h n)
 (e:∀m,q<=m->SP E N b Q fr hp m):SP E N (.seq a b) Q sa h n:=Bg k fr hp (q ≤ ·) d e
theorem B5(k:Nat)(fr:SA)(hp:Hp)(q:Nat)
 (d:LP E prog N a (Do (λc h' n'=>∃_:Unit,q=n'/\(∀p∈fr,Fz h' hp k (Ao c p.1) p.2)/\(∀o y,hp o=some y->h' o=some y)) Q) sa h n)
 (e:∀m,q=m->SP E N b Q fr hp m):SP E N (.seq a b) Q sa h n:=By k fr hp (q = ·) d e
theorem CG(k:Nat)(fr:SA)(hp:Hp)(q:Nat)
 (d:SP E N a (Do (λc h' n'=>∃_:Unit,q=n'/\(∀p∈fr,Fz h' hp k (Ao c p.1) p.2)/\(∀o y,hp o=some y->h' o=some y)) Q) sa h n)
 (e:∀m,q=m->SP E N b Q fr hp m):SP E N (.seq a b) Q sa h n:=Bg k fr hp (q = ·) d e
theorem AY{id:Nat}(H:SP E N a (Fv id Q) sa h n):SP E N (.block id a) Q sa h n:=O1 H
theorem Gz(H:SP E N a (Do (SP E N b Q) Q) sa h n):SP E N (.seq a b) Q sa h n:=Kg H
theorem goS{f:FuncId}{fn:Func}{code:Code}{args:List SV}{K:SV->Hp->Nat->Prop}(b:prog.funcs[f]? = some fn)(hb:fn.body=some code)
 (hn:(fn.name != "runtime.NumGoroutine")=true) (a:Code.dok fn.ntmps code=true) (hl:args.length<=fn.ntmps)
 (H:Gm h n->SP (E.call false 0) fn.ntmps code (Om prog fn n K) (FA 0 args) h n):Ap E prog f args h n K:=
 O0 b hb hn a hl λ_ c=>H c
theorem DO{f:FuncId}{fn:Func}{code:Code}{args:List SV}{K:SV->Hp->Nat->Prop}(b:prog.funcs[f]? = some fn)(hb:fn.body=some code)
 (H:Gm h n->SP (E.call false 0) fn.ntmps code (Om prog fn n K) (FA 0 args) h n)
 (hn:(fn.name != "runtime.NumGoroutine")=true:=by kernel_rfl) (a:Code.dok fn.ntmps code=true:=by kernel_rfl) (hl:args.length<=fn.ntmps:=by simp[go_sem]):Ap E prog f args h n K:=
 goS b hb hn a hl H
theorem BT{x:Code}{α:Type}(k:Nat)(fr:α->SA)(hp:α->Hp)(I:α->Nat->Prop)(μ:α->Nat)(a0:α)(hI:I a0 n)
 (b:∀p∈fr a0,Fz h (hp a0) k (Ao sa p.1) p.2) (c:∀o y,hp a0 o=some y->h o=some y)
 (d:∀a n,I a n->SP E N x (Do (λe h' n'=>∃a',μ a'<μ a/\I a' n'/\(∀p∈fr a',Fz h' (hp a') k (Ao e p.1) p.2)/\(∀o y,hp a' o=some y->h' o=some y)) Q) (fr a) (hp a) n):
 SP E N (.loop x) Q sa h n:=by
 refine Qq (μ a0) (λm sa h n=>∃a,m=μ a/\I a n/\(∀p∈fr a,Fz h (hp a) k (Ao sa p.1) p.2)/\(∀o y,hp a o=some y->h o=some y)) ⟨a0,rfl,hI,b,c⟩ ?_;rintro m sa h n ⟨a,rfl,hI,b,c⟩;refine Pr k c (qa _) b (GC (d a n hI) ?_);refine F7 λe h' n' ⟨a',h1,h2,f,g⟩=>⟨μ a',h1,a',rfl,h2,f,g⟩
end
@[go_sem] theorem Oe(id:Nat)(Q:Cu):Fv id Q .normal=Q .normal:=rfl
@[go_sem] theorem Zm(id:Nat)(Q:Cu):Fv id Q .ret=Q .ret:=rfl
@[go_sem] theorem Y8(id i:Nat)(Q:Cu)(sa:SA)(h:Hp)(n:Nat):Fv id Q (.exit i) sa h n=if i=id then Q .normal sa h n else Q (.exit i) sa h n:=rfl
def J3(p:Nat->Bool):Nat->Bool
 | 0=>true
 | n+1=>J3 p n&&p n
theorem J4{p:Nat->Bool}{k n:Nat}(hk:k<n)(h:p k=false):J3 p n=false:=by
 induction n with
 | zero=>omega
 | succ n ih=>
  rw[J3];by_cases e:k=n;subst e;simp[h];rw[ih (by omega)];rfl
def QG(d:Int):Int:=IntKind.u8.wrap (BitVec.ofInt 8 d ||| BitVec.ofInt 8 32).toNat
def Ey(first:Bool)(d:Int):Bool:=decide (97<=QG d/\QG d<=122)||(!first&&decide ((48<=d/\d<=57)\/d=45\/d=95))
def Fb(s:ByteArray):Bool:=decide ((1:Int)<=s.size/\(s.size:Int)<=40)&&J3 (λi=>Ey (decide (i=0)) (An s i)) s.size
theorem Zt(s:ByteArray):PC 219 [.str s] (.bool (Fb s)):=by
 intro h n;refine gq func219 rfl λf=>?_;by_cases r:(s.size:Int)<1;simp[go_sem,r];exact As f rfl (by simp[Fb];omega);by_cases u:(40:Int)<s.size;simp[go_sem,r,u];exact As f rfl (by simp[Fb];omega);have y:Fb s=J3 (λi=>Ey (decide (i=0)) (An s i)) s.size:=by
  have:decide ((1:Int)<=s.size/\(s.size:Int)<=40)=true:=by simp;omega
  rw[Fb,this];rfl
 rw[y];simp[go_sem,r,u];refine BT 1 (α:=Nat) (λk=>[(0,.str s),(16,AA s.size),(17,AA k)]) (λ_=>h) (λk m=>k<=s.size/\n<=m/\J3 (λi=>Ey (decide (i=0)) (An s i)) k=true) (λk=>s.size-k) 0 ?_ ?_ AC ?_;simp[J3];simp[Ao];rintro k m ⟨hk,hnm,w⟩;by_cases a:k<s.size
 . have w1:=wS k (by omega);obtain⟨j,e⟩:=Ed a;have no:Ey (decide (k=0)) (An s k)=false->J3 (λi=>Ey (decide (i=0)) (An s i)) s.size=false:=λhb=>J4 a hb;have g:Ey (decide (k=0)) (An s k)=true->J3 (λi=>Ey (decide (i=0)) (An s i)) (k+1)=true:=λhb=>by rw[J3,w,hb];rfl
   refine LU [(0,.str s),(16,AA s.size),(17,AA k),(18,.bool true)] (by simp[go_sem,a]) ?_;refine LU [(0,.str s),(16,AA s.size),(17,AA k)] (by simp[go_sem]) ?_;refine AX 1 (α:=Unit) (λ_=>[(0,.str s),(16,AA s.size),(17,AA k)]) (λ_=>h) (λ_ m'=>m'=m/\Ey (decide (k=0)) (An s k)=true) (AY ?_) (λ_ m' hI=>AJ ?_)
   rotate_left
   simp[go_sem,w1,-Int.natCast_add];exact⟨k+1,by omega,⟨by omega,by omega,g hI.2⟩,IO⟩;refine LU [(0,.str s),(16,AA s.size),(17,AA k),(3,AA k)] (by simp[go_sem]) ?_;refine LU [(0,.str s),(16,AA s.size),(17,AA k),(3,AA k),(4,.int .u8 (QG (An s k)))] (by simp[go_sem,j,<-e];rfl) ?_;generalize hc:QG (An s k)=c;generalize v:An s k=d at e;refine LU [(0,.str s),(16,AA s.size),(17,AA k),(3,AA k),(5,.bool (decide (97<=c/\c<=122)))] (by by_cases A:97<=c<;>simp[go_sem,A]) ?_;refine LU [(0,.str s),(16,AA s.size),(17,AA k),(3,AA k),(5,.bool (decide (97<=c/\c<=122))),(6,.bool (decide ((48<=d/\d<=57)\/d=45\/d=95)))] ?_ ?_;by_cases o:48<=d;by_cases t:d<=57;simp[go_sem,j,<-e,o,t];have p:¬d=45:=by omega
   by_cases q:d=95<;>simp[go_sem,j,<-e,o,t,p,q];have q:¬d=95:=by omega
   by_cases p:d=45<;>simp[go_sem,j,<-e,o,p,q];generalize x:decide (97<=c/\c<=122)=L;generalize z:decide ((48<=d/\d<=57)\/d=45\/d=95)=O;have b:Ey (decide (k=0)) (An s k)=(L||(!decide (k=0)&&O)):=by rw[Ey,hc,v,x,z]
   rw[b]at no;rw[v]at b;rw[b];refine AJ ?_;by_cases l:k=0
   . cases L<;>cases O<;>simp[l]at no ⊢ <;> simp[go_sem]
     all_goals exact As f rfl (by rw[no])
   . cases L<;>cases O<;>simp[l]at no ⊢ <;> simp[go_sem,l]
     all_goals exact As f rfl (by rw[no])
 . refine AJ ?_;simp[go_sem,a];have:k=s.size:=by omega
   subst this;exact As f rfl (by rw[w])
theorem gQ(k:Int):PC 268 [AA k] (AA (if k=1 then 2 else 1)):=by
 intro h n;refine gq func268 rfl λa=>?_;by_cases h1:k=1<;>simp[go_sem,h1]<;>exact As a rfl rfl
theorem gp(s:A7)(id:Int):PC 301 [s.e,.q [AA id]] (.bool (decide (s.id=id))):=by
 intro h n;refine gq func301 rfl λa=>?_;simp[go_sem,A7.e,AD];exact A3 a (AR a (qa _) AC) (by by_cases e:s.id=id<;>simp[e]) rfl
def Uh(a b:ByteArray):Bool:=a.toList==b.toList
theorem gn(s:A7)(kind:Int)(name:ByteArray):PC 300 [s.e,.q [AA kind],.q [.str name]] (.bool (decide (s.k=kind)&&Uh s.name name)):=by
 intro h n;refine gq func300 rfl λa=>?_;by_cases e:s.k=kind<;>simp[go_sem,A7.e,AD,e]
 all_goals exact A3 a (AR a (qa _) AC) (by simp[Uh]) rfl
def Es(l:List A7)(id:Int):Int:=BI (λi=>match l[i]? with|some s=>decide (s.id=id)|none=>false) l.length 0
theorem gT(l:List A7)(id:Int)(hl:l.length<=1048576):PC 269 [Aj l,AA id] (.tup [AA (if 0<=Es l id then Es l id else 0),.bool (decide (0<=Es l id))]):=by
 intro h n;refine gq func269 rfl λb=>?_;simp[go_sem];have H:=bz l hl 301 [] [.q [AA id]] (λi=>match l[i]? with|some s=>decide (s.id=id)|none=>false) (λi hi=>by simpa[hi]using gp l[i] id);refine H.lend 3 rfl ?_ ?_;simp[Ag,Fz,h_];by_cases e:0<=Es l id;have a:¬Es l id<0:=by omega
 simp only[Es]at e a;simp[go_sem,e,a];exact A3 b (AR b (qa _) AC) (by simp[Es,e]) rfl;have a:Es l id<0:=by omega
 simp only[Es]at e a;simp[go_sem,e,a];exact A3 b (AR b (qa _) AC) (by simp[Es,e]) rfl
def Cd(l:List A7)(kind:Int)(name:ByteArray):Int:=BI (λi=>match l[i]? with|some s=>decide (s.k=kind)&&Uh s.name name|none=>false) l.length 0
theorem gP(l:List A7)(kind:Int)(name:ByteArray)(hl:l.length<=1048576):PC 267 [Aj l,AA kind,.str name] (.tup [AA (if 0<=Cd l kind name then Cd l kind name else 0),.bool (decide (0<=Cd l kind name))]):=by
 intro h n;refine gq func267 rfl λd=>?_;simp[go_sem];have H:=bz l hl 300 [] [.q [AA kind],.q [.str name]] (λi=>match l[i]? with|some s=>decide (s.k=kind)&&Uh s.name name|none=>false) (λi hi=>by simpa[hi]using gn l[i] kind name);have f:∀a b:Option Bb,∀o x,h o=some x->h_ (h_ h n a) (n+1) b o=some x:=λa b=>AR d (Zc n) (AR d (qa _) AC);refine H.lend 3 rfl ?_ ?_;simp[Ag,Fz,h_];by_cases e:0<=Cd l kind name;have c:¬Cd l kind name<0:=by omega
 simp only[Cd]at e c;simp[go_sem,e,c];exact A3 d (f _ _) (by simp[Cd,e]) rfl;have c:Cd l kind name<0:=by omega
 simp only[Cd]at e c;simp[go_sem,e,c];exact A3 d (f _ _) (by simp[Cd,e]) rfl
theorem VY(l:List A7)(id:Int)(h:0<=Es l id):∃i s,Es l id=(i:Nat)/\l[i]? = some s:=by
 rcases Ei (λi=>match l[i]? with|some s=>decide (s.id=id)|none=>false) l.length 0 with e|⟨i,_,h2,a,_⟩
 have:Es l id = -1:=e;omega;exact⟨i,l[i],a,by simp[h2]⟩
def SD(l:List A7)(kind id:Int):Bool:=decide (0<=Es l id)&&(match l[(Es l id).toNat]? with|some s=>decide (s.k=kind)|none=>false)
theorem fe(l:List A7)(kind id:Int)(hl:l.length<=1048576):PC 208 [Aj l,AA kind,AA id] (.bool (SD l kind id)):=by
 intro h n;refine gq func208 rfl λa=>?_;simp[go_sem];refine(gT l id hl).use ?_;by_cases e:0<=Es l id;obtain⟨i,s,h1,h2⟩:=VY l id e;simp[go_sem,h1,h2,A7.e];exact As a rfl (by simp[SD,h1,h2];by_cases b:s.k=kind<;>simp[b]);simp[go_sem,e];exact As a rfl (by simp[SD,e])
def Jj(b:Int):Bool:=decide (32<=b/\b<=126)
def GO(s:ByteArray):Bool:=!decide (s.size=0)&&decide ((s.size:Int)<=40) && !decide (An s 0=32) && !decide (An s (s.size-1)=32)&&J3 (λi=>Jj (An s i)) s.size
theorem gO(s:ByteArray):PC 266 [.str s] (.bool (GO s)):=by
 intro h n;refine gq func266 rfl λd=>?_;by_cases b:s.size=0;simp[go_sem,b];exact As d rfl (by simp[GO,b]);by_cases e:(40:Int)<s.size;simp[go_sem,b,e];exact As d rfl (by simp[GO,b];omega);have j:(s.size:Int)<=40:=by omega
 obtain⟨a1,a2⟩:=Ed (s:=s) (i:=0) (by omega);obtain⟨b1,r⟩:=Ed (s:=s) (i:=s.size-1) (by omega);have w0:IntKind.i64.wrap ((s.size:Int)-1)=((s.size-1:Nat):Int):=by rw[DA]<;>omega
 have c:0<s.size:=by omega
 by_cases f:An s 0=32;simp[go_sem,b,c,e,<-a2,f];exact As d rfl (by simp[GO,b,f]);by_cases g:An s (s.size-1)=32;simp[go_sem,b,c,e,<-a2,f,b1,<-r,g,w0];exact As d rfl (by simp[GO,b,g]);have v:GO s=J3 (λi=>Jj (An s i)) s.size:=by simp[GO,b,j,f,g]
 rw[v];simp[go_sem,b,c,e,<-a2,f,b1,<-r,g,w0];refine Av 1 (α:=Nat) (λk=>[(0,.str s),(26,AA s.size),(27,AA k)]) (λ_=>h) (λk m=>k<=s.size/\n<=m/\J3 (λi=>Jj (An s i)) k=true) (λk=>s.size-k) 0 ?_ ?_ AC ?_;simp[J3];simp[Ao];rintro k m ⟨hk,p,t⟩;by_cases a:k<s.size;have w1:=wS k (by omega);obtain⟨l,o⟩:=Ed a;by_cases q:An s k<32;simp[go_sem,a,<-o,q];exact As d rfl (by rw[J4 a (by simp[Jj];omega)]);by_cases u:126<An s k;simp[go_sem,a,<-o,q,u];exact As d rfl (by rw[J4 a (by simp[Jj];omega)]);simp[go_sem,a,<-o,q,u,w1,-Int.natCast_add];exact⟨k+1,by omega,⟨by omega,p,by rw[J3,t];simp[Jj];omega⟩,IO⟩;simp[go_sem,a];have:k=s.size:=by omega
 subst this;exact As d rfl (by rw[t])
theorem RO(h:Hp)(j:Nat)(x:Option Bb):h_ h j x j=x:=by simp[h_]
theorem Ah(h:Hp)(j:Nat)(x y:Option Bb):h_ (h_ h j x) j y=h_ h j y:=by funext k;simp only[h_];split<;>rfl
def CC.inRound(E:CC)(l:Nat):CC:={ ro:=some l,mks:=false,base:=0,inv:=E.inv,ext:=E.ext }
def J0:List (Tmp×SV)->SA->SA
 | [],sa=>sa
 | p::r,sa=>J0 r (p::sa)
section
variable{P:Program}{E:CC}{N:Nat}
theorem FR.zip{c:Cx}:∀{ps:List Tmp} {args:List SV} {vs:List Value} {sa:SA} {b:Array Value},(∀p∈ps,p<N)->Ag (V c) args vs->ps.length=args.length->FR E N sa c { tmps:=b,defers:=[] }->
 FR E N (J0 (ps.zip args) sa) c { tmps:=(ps.zip vs).foldl (λt p=>t.setIfInBounds p.1 p.2) b,defers:=[] }
 | [],_,_,_,_,_,_,_,F=>F
 | p::ps,[],_,_,_,_,_,hl,_=>by simp at hl
 | p::ps,a::args,[],_,_,_,h,_,_=>h.elim
 | p::ps,a::args,v::vs,sa,b,hp,h,hl,F=>by
  have:=F.put (dst:=some p) (λd e=>by cases e;exact hp _ (by simp)) h.1;exact FR.zip (ps:=ps) (λq f=>hp q (by simp[f])) h.2 (by simpa using hl) this
theorem Iz{h:Hp}{c:Cx}{o l:Nat}{r:Loop}(R:CF h c)(a:h o=some (.loop r))(d:c.ρ o=some (l,0)):c.w.heap[l]? = some (.loop r):=by
 obtain⟨b,h1,h2⟩:=R.obj o _ a;rw[d]at h1;cases h1;exact h2
theorem KS{h:Hp}{c:Cx}{o l:Nat}{r:Loop}(e:Loop)(R:CF h c)(f:h o=some (.loop r))(d:c.ρ o=some (l,0)):
 CF (h_ h o (some (.loop e))) { c with w:=c.w.putObj l (.loop e) }/\EH c { c with w:=c.w.putObj l (.loop e) }:=by
 have hl:=Iz R f d;have b:=(qp.1 hl).1;refine R.write f d (by simp) (λb' a=>World.putObj_heap_other a) ?_ rfl rfl λX=>⟨l,d,World.putObj_heap_same b⟩
 simp[rm,hl]
def Hv(fn:FuncId)(tm:Array Value)(ps:Array Tmp)(assign body:Code)(D:Nat)(st:LoopState)(pe:Option Code):Loop:=
 { state:=st,pending:=pe,fn:=fn,tmps:=tm,params:=ps,assign:=assign,body:=body,defers:=D }
def Hg(n:Nat)(R:LoopState->Option Code->Loop)(Q1:SV->Hp->Nat->Prop):Cu:=λe _ h2 m2=>
 h2 n=some (.loop (R .busy none))/\match e with
  | .normal=>Q1 (.bool true) (h_ h2 n (some (.loop (R .ready none)))) m2
  | .ret=>Q1 (.bool false) (h_ h2 n (some (.loop (R .done (some .ret))))) m2
  | .exit id=>Q1 (.bool false) (h_ h2 n (some (.loop (R .done (some (.exit id)))))) m2
  | _=>False
def QL(P:Program)(E:CC)(N n:Nat)(R:LoopState->Option Code->Loop)(assign body:Code)(Q1:SV->Hp->Nat->Prop)(sa:SA)(h:Hp)(m:Nat):Prop:=
 Ic E P N assign (λe sa1 h1 m1=>e=.normal/\h1 n=some (.loop (R .ready none))/\Ic E P N body (Hg n R Q1) sa1 (h_ h1 n (some (.loop (R .busy none)))) m1) sa h m
def dC(n:Nat)(R:LoopState->Option Code->Loop)(Q:Cu)(sa:SA):SV->Hp->Nat->Prop:=λ_ h' n'=>
 ∃st pe,h' n=some (.loop (R st pe))/\st≠.busy/\match pe with
  | none=>Q .normal sa (h_ h' n none) n'
  | some .ret=>Q .ret sa (h_ h' n none) n'
  | some (.exit id)=>Q (.exit id) sa (h_ h' n none) n'
  | _=>False
theorem Rr{E1:CC}{c1:Cx}{l n:Nat}{fn:FuncId}{d:Array Value}{ps:Array Tmp}{assign body:Code}{D:Nat}{sa:SA}(q:∀c',E1.inv c'->EH c1 c')(hρ:c1.ρ n=some (l,0))
 (L:∀p∈ps.toList,p<N) (G:Code.dok N assign=true) (J:Code.dok N body=true) (M:d.size=N) (hv:∀t,V c1 (Ao sa t) (d.getD t undef))
 {args:List SV} {O:Hp} {m:Nat} {B:SV->Hp->Nat->Prop} (hn:O n=some (.loop (Hv fn d ps assign body D .ready none))) (hl:args.length=ps.size)
 (H:QL P (E1.inRound l) N n (Hv fn d ps assign body D) assign body B (J0 (ps.toList.zip args) sa) O m):FV E1 P l args O m B:=by
 intro c vs I R F A;have T:=q c I;have z:c.ρ n=some (l,0):=T.ρ _ _ hρ;have hlen:=A.length;refine⟨_,_,_,_,run_yield (Iz R hn z) (by simp[Hv];omega),roundIn_of_wpIn (F:=Fence.wide) trivial ?_⟩;have F0:FR (E1.inRound l) N sa c { tmps:=d,defers:=[] }:=⟨M,⟨qg _,λ_=>rfl,by simp,by simp⟩,λt=>wc T (hv t)⟩
 have FZ:=F0.zip (ps:=ps.toList) L A (by simp;omega);have E:(ps.zip vs.toArray).foldl (λtmps x=>tmps.setIfInBounds x.1 x.2) d=(ps.toList.zip vs).foldl (λt p=>t.setIfInBounds p.1 p.2) d:=by
  rw[<-Array.foldl_toList,Array.toList_zip]
 have X:=H G c _ I R F FZ;rw[<-E]at X;refine wpIn_mono X ?_;rintro e a2 w2 ⟨sa2,h2,n2,o,⟨rfl,r,hB⟩,rfl,Q,F2,Z,i⟩;have f:o.ρ n=some (l,0):=i.ext.ρ _ _ z;obtain⟨R3,U⟩:=KS (Hv fn d ps assign body D .busy none) Q r f;refine⟨_,run_beginRound (Iz Q r f) rfl,?_⟩;have k:EH c { o with w:=o.w.putObj l (.loop (Hv fn d ps assign body D .busy none)) }:=i.ext.trans U;refine wpIn_mono (hB J { o with w:=o.w.putObj l (.loop (Hv fn d ps assign body D .busy none)) } a2 (E1.ext k I) R3 F2 (Z.ext U)) ?_;rintro e a4 w4 ⟨sa4,h4,n4,W,⟨s,g⟩,rfl,S,F4,A4,C⟩;have y:W.ρ n=some (l,0):=C.ext.ρ _ _ f;have K:=Iz S s y;have fin:∀(a:Option Code)(b:Bool)(st:LoopState),b=a.isNone->st=(if a.isNone then .ready else .done)->B (.bool b) (h_ h4 n (some (.loop (Hv fn d ps assign body D st a)))) n4->
  ∃v w',(Instr.endRound l a).run P W.w=.ok v w'/\∃u v' h' n' c',Ending.returned v=.returned u/\B v' h' n'/\c'.w=w'/\V c' v' u/\CF h' c'/\Fr n' c'/\GB m c n' c':=by
  rintro a b st rfl rfl g;obtain⟨R5,X5⟩:=KS (Hv fn d ps assign body D (if a.isNone then .ready else .done) a) S s y;refine⟨_,_,run_endRound a K,.bool a.isNone,.bool a.isNone,_,n4,_,rfl,g,rfl,by simp[V],R5,F4,⟨k.trans (C.ext.trans X5),qI i.le C.le,λj Y=>?_⟩⟩;exact(C.same j (Wm Y i.le)).trans (i.same j Y)
 cases e with
 | normal=>exact fin none true .ready rfl rfl g
 | ret=>exact fin (some .ret) false .done rfl rfl g
 | exit id=>exact fin (some (.exit id)) false .done rfl rfl g
 | _=>exact g.elim
def Cx.begin(c:Cx)(n:Nat)(r:Loop):Cx:=Cx.alloc { c with w:=c.w.alloc (.deferred (some [])) } n (.loop r)
theorem NN(c:Cx):EH c { c with w:=c.w.alloc (.deferred (some [])) }:=by
 refine⟨λ_ _ e=>e,by simp,λb hb d=>⟨d,?_⟩,λb=>?_,rfl,rfl,⟨rfl,qa _⟩⟩;simp[Bu,Xk,vM hb];unfold rm;rcases YV b c.w.heap.size with a|a;simp[Bu,Xk,vM a];simp[Yv a]
theorem Sm{h:Hp}{c:Cx}(R:CF h c):CF h { c with w:=c.w.alloc (.deferred (some [])) }:=by
 refine⟨λo x e=>(R.obj o x e).mono (NN c) λb hb=>?_,R.inj2,R.own2⟩;have h2:=(R.obj o x e).hold_lt hb;simp[Bu,Xk,vM h2]
theorem Et{g:Operand}{ps:Array Tmp}{assign body:Code}{Q:Cu}{sa:SA}{h:Hp}{n:Nat}{f:FuncId}{ys:List SV}(hro:E.ro=none)(hmk:E.mks=true)(hg:Hc sa g=.fn (.func f) [] ys)
 (H:∀(E1:CC)(l:Nat)(R:LoopState->Option Code->Loop),
   (∀args X m Y,X n=some (.loop (R .ready none))->args.length=ps.size->QL P (E1.inRound l) N n R assign body Y (J0 (ps.toList.zip args) sa) X m->FV E1 P l args X m Y)->
   Ap E1 P f (.fn (.yield l) [] []::ys) (h_ h n (some (.loop (R .ready none)))) (n+1) (dC n R Q sa)):
 Ic E P N (.rangeFunc g ps assign body) Q sa h n:=by
 intro s c a I R F A;simp only[Code.dok,qo,YO,decide_eq_true_eq]at s;obtain⟨hps,hda,hdb⟩:=s;have hfc:E.fc=Fence.wide:=by simp only[CC.fc,hro,Fence.wide]
 rw[hfc];refine wpIn_rangeFunc λfn _=>?_;have O:c.ρ n=none:=F n (qa _);obtain⟨r0,J⟩:∃r0,r0=Hv fn a.tmps ps assign body c.w.heap.size .ready none:=⟨_,rfl⟩
 have R1:CF (h_ h n (some (.loop r0))) (c.begin n r0):=(Sm R).alloc O ⟨c.w.heap.size+1,by simp[Cx.alloc],by have:=World.alloc_heap_new (c.w.alloc (.deferred (some []))) (.loop r0);rwa [World.size_alloc]at this⟩;have T:EH c (c.begin n r0):=(NN c).trans (Cx.CZ _ n (.loop r0) O);have M:(c.begin n r0).ρ n=some (c.w.heap.size+1,0):=by simp[Cx.begin,Cx.alloc]
 have F1:Fr (n+1) (c.begin n r0):=λj hj=>by
  have:j≠n:=by omega
  simp[Cx.begin,Cx.alloc,this];exact F j (by omega)
 have K:(c.begin n r0).w=(c.w.alloc (.deferred (some []))).alloc (.loop r0):=rfl;have B:(c.begin n r0).w.heap[c.w.heap.size]? = some (.deferred (some [])):=by
  rw[K];simp[Bu,Xk]
 have hDo:¬(c.begin n r0).own c.w.heap.size:=by
  rintro(h1|h1);obtain⟨o,x,Z,W⟩:=(R.own2 _).1 h1;have h4:=(R.obj o x Z).hold_lt W;omega;simp at h1
 let E1:CC:={ ro:=none,mks:=false,base:=0,inv:=λp=>E.inv p/\EH (c.begin n r0) p,ext:=λx i=>⟨E.ext x i.1,i.2.trans x⟩ }
 have b:=H E1 (c.w.heap.size+1) (Hv fn a.tmps ps assign body c.w.heap.size) λargs X m Y hn hl hW=>
  Rr (E1:=E1) (c1:=c.begin n r0) (λp i=>i.2) M hps hda hdb A.size (λt=>wc T (A.val t)) hn hl hW
 rw[<-J]at b;have hf:=A.ev g;rw[hg,V]at hf;obtain⟨xs,yv,hfv,h1,h2⟩:=hf;simp only[VL]at h1;subst h1;have q:Ag (V (c.begin n r0)) (.fn (.yield (c.w.heap.size+1)) [] []::ys) (.func (.yield (c.w.heap.size+1)) #[] #[]::yv):=
  ⟨by simp[V,VL],BP.1 (VL.mono T h2)⟩
 have hcl:=b.2 (c.begin n r0) _ ⟨E.ext T I,wp _⟩ R1 F1 q;have k:=b.1;unfold Ok at k;cases r:P.funcs[f]? with
 | none=>simp[r]at k
 | some fn'=>
 simp only[r,qo,bne_iff_ne,ne_eq]at k;have hb:fn'.body≠none:=by intro e;simp[e]at k
 refine⟨c.w.heap.size+1,[Wx c.w.heap.size],(c.begin n r0).w,{ target:=.fn (.func f) yv.toArray,args:=#[.func (.yield (c.w.heap.size+1)) #[] #[]] },(c.begin n r0).w,f,
  (.func (.yield (c.w.heap.size+1)) #[] #[]::yv).toArray,(c.begin n r0).w,?_,?_,λ_ _=>trivial,?_,λe=>by simp[Fence.wide]at e,?_⟩
 rw[K,J];exact run_enterLoop_outer _ _ _ _ _;simp[resolve,Deferred.ofValue,hfv];rfl;simp[invoke,callFunc,r,k.2,hb];refine callsIn_wide.2 (hcl.mono ?_);rintro e w3 ⟨u,v,h',n',p,rfl,⟨st,S,G,hst,y⟩,rfl,hv,R',F',z⟩;have L:p.ρ n=some (c.w.heap.size+1,0):=z.ext.ρ _ _ M;obtain⟨R3,X3⟩:=KS (Hv fn a.tmps ps assign body c.w.heap.size .exhausted S) R' G L;have R4:=R3.kill n (RO _ _ _);have X4:=X3.trans (Cx.kill_ext { p with w:=p.w.putObj (c.w.heap.size+1) (.loop (Hv fn a.tmps ps assign body c.w.heap.size .exhausted S)) } n);rw[Ah]at R4;have U:=T.trans (z.ext.trans X4);have C:=(z.ext.trans X4).keep _ (qp.1 B).1 hDo;refine⟨S,_,run_endLoop (Iz R' G L) hst,?_⟩;have mk:∀e,Q e sa (h_ h' n none) n'->Vr E N n c Q e { a with defers:=[Wx c.w.heap.size]++a.defers } (p.w.putObj (c.w.heap.size+1) (.loop (Hv fn a.tmps ps assign body c.w.heap.size .exhausted S))):=λe y=>by
  refine⟨sa,h_ h' n none,n',_,y,rfl,R4,F',⟨A.size,⟨qI A.defers.base U.size,λe=>(by rw[hmk]at e;cases e),?_,λd s=>?_⟩,λt=>wc U (A.val t)⟩,⟨U,by have:=z.le;omega,λj hj=>?_⟩⟩;refine vd.2 ⟨λhm=>?_,A.defers.nodup⟩;obtain⟨D,_,W,e3,_⟩:=A.defers.ok _ hm;have:D=c.w.heap.size:=by simp[Wx]at W;exact W.symm
  have:=(qp.1 e3).1;omega;rcases qt.1 s with rfl|s;exact⟨c.w.heap.size,A.defers.base,rfl,C.2.trans B,C.1⟩;exact(A.defers.mono U).ok d s;have:j≠n:=by omega
  have Z:(c.begin n r0).ρ j=c.ρ j:=by simp[Cx.begin,Cx.alloc,this]
  exact(z.same j (by omega)).trans Z
 cases S with
 | none=>exact mk .normal y
 | some j=>
  cases j with
  | ret=>exact wpIn_ret (mk .ret y)
  | exit id=>exact wpIn_exit (mk (.exit id) y)
  | _=>exact y.elim
end
theorem jE{E:CC}{f:FuncId}{fn:Func}{code:Code}{args:List SV}{h:Hp}{n:Nat}{K:SV->Hp->Nat->Prop}(b:prog.funcs[f]? = some fn)(hb:fn.body=some code)
 (hn:(fn.name != "runtime.NumGoroutine")=true) (a:Code.dok fn.ntmps code=true) (hl:args.length<=fn.ntmps)
 (H:Gm h n->∀B,LP (E.call true B) prog fn.ntmps code (Om prog fn n K) (FA 0 args) h n):Ap E prog f args h n K:=
 NF b hb hn a hl λ_ c B=>AJ (H c B)
theorem Je{E:CC}{N n:Nat}{R:LoopState->Option Code->Loop}{assign body:Code}{f:SV->Hp->Nat->Prop}{sa:SA}{h:Hp}{m:Nat}
 (H:LP E prog N assign (λe d h1 m1=>e=.normal/\h1 n=some (.loop (R .ready none))/\LP E prog N body (Hg n R f) d (h_ h1 n (some (.loop (R .busy none)))) m1) sa h m):QL prog E N n R assign body f sa h m:=
 GC (AJ H) λ_ _ _ _ ⟨a,b,c⟩=>⟨a,b,AJ c⟩
section
variable{P:Program}{E:CC}
theorem KU(d:Nat){t e:TypeId}(a:Option Addr)(l cap:Nat)(b:P.underlying t=some (.slice e))(w:World):(Op.equalIn (d+1) t (.slice a l cap) (.slice none 0 0)).run P w=.ok a.isNone w:=by
 cases a<;>simp[Op.equalIn,AN b]
theorem Qv{t e:TypeId}(a:Option Addr)(l cap:Nat)(b:P.underlying t=some (.slice e))(w:World):
 (binOp .eql t (.slice a l cap) (.slice none 0 0)).run P w=.ok (.bool a.isNone) w:=by
 have:=KU 9999 a l cap b w;simp only[binOp,Op.equal];simp[Op.maxDepth,this]
theorem Cj{evs:Operand->SV}{o:Oper}{h:Hp}{n:Nat}{K:SV->Hp->Nat->Prop}{t t2:TypeId}{x:Operand}{z:Nat}{es:List SV}{full:Bool}(d:o.op=.binOp .eql t x (.const (.slice none 0 0)) t2)
 (ht:(BA P t).isSome=true) (j:evs x=.i z es full) (h1:es=[]->K (.bool true) h n) (h2:K (.bool false) h n):DS E P evs o h n K:=by
 refine⟨by rw[d];simp,λc ev hc _ R F i=>?_⟩;have b:=i x;obtain⟨e,ht⟩:=X6.1 ht;have ht:=Ay ht;rw[j,V]at b;have fin:∀(a:Option Addr)(l cap:Nat),ev x=.slice a l cap->K (.bool a.isNone) h n->∃u v h' n' c',(execOp ev o).run P c.w=.ok (.value u) c'.w/\V c' v u/\CF h' c'/\Fr n' c'/\GB n c n' c'/\K v h' n':=λa l cap e g=>
  ⟨.bool a.isNone,.bool a.isNone,h,n,c,by simp[execOp,d,e,hc,I4 (P:=P) (a:=.slice a l cap),Qv a l cap ht],by simp[V],R,F,vm n c,g⟩
 rcases b with⟨f,e⟩|⟨a,cap,vs,e,_⟩
 exact fin _ _ _ e (h1 f);exact fin _ _ _ e h2
def DX(P:Program)(t:TypeId):SV->SV->Option Bool
 | .int k a,.int k' b=>if k=k'/\(L6 P t).isSome=true/\Br P t=1/\Gl P t=some false then some (a==b)else none
 | .str a,.str b=>if Fo P t=true/\Br P t=1/\Gl P t=some false then some (a.toList==b.toList)else none
 | .bool a,.bool b=>if OT P t=true/\Br P t=1/\Gl P t=some false then some (a==b)else none
 | _,_=>none
def CS(P:Program)(cs ds:List SV):List Field->Option Bool
 | []=>some true
 | f::fs=>if f.name = "_" then none else
  match cs[f.offset]?,ds[f.offset]? with
  | some x,some y=>match DX P f.type x y with|some true=>CS P cs ds fs|r=>r
  | _,_=>none
def Bt(P:Program)(t:TypeId):List Field:=(P.fieldsOf t).toList
theorem St{c:Cx}{t:TypeId}{x y:SV}{u v:Value}{b:Bool}(h:DX P t x y=some b)(e:V c x u)(f:V c y v)(d:Nat)(w:World):(Op.equalIn (d+1) t u v).run P w=.ok b w/\Br P t=1/\Gl P t=some false:=by
 unfold DX at h;split at h
 . split at h<;>try cases h
   rename_i hc;obtain⟨rfl,h1,h2,a⟩:=hc;rw[DF e,DF f];obtain⟨i,hi⟩:=X6.1 h1;exact⟨run_equalIn_int w d t _ _ _ _ (Gw hi),h2,a⟩
 . split at h<;>try cases h
   rename_i hc;obtain⟨h1,h2,a⟩:=hc;rw[Mm e,Mm f];exact⟨run_equalIn_string w d t _ _ (by unfold Fo at h1;split at h1<;>first|assumption|cases h1),h2,a⟩
 . split at h<;>try cases h
   rename_i hc;obtain⟨h1,h2,a⟩:=hc;rw[Hb e,Hb f];exact⟨Ha d _ _ (IT h1) w,h2,a⟩
 cases h
theorem IF{c:Cx}{cs j:List SV}{vs us:List Value}(hc:Ag (V c) cs vs)(l:Ag (V c) j us)(h1:∀x∈vs,x.oneCell'=true)(h2:∀x∈us,x.oneCell'=true)(d:Nat)(w:World):
 ∀(e:List Field)(b:Bool),CS P cs j e=some b->(Op.eqFields (d+1) vs.toArray us.toArray e).run P w=.ok b w
 | [],b,h=>by simp[CS]at h;subst h;simp[Op.eqFields]
 | f :: e, b, h => by
  simp only[CS]at h;split at h<;>try cases h
  rename_i hn;split at h<;>try cases h
  rename_i x y p q;obtain⟨u,n,g⟩:=hc.get p;obtain⟨v,o,i⟩:=l.get q;obtain⟨a,hb⟩:∃a,DX P f.type x y=some a:=by
   cases hb:DX P f.type x y with
   | none=>simp[hb]at h
   | some a=>exact⟨a,rfl⟩
  obtain⟨m,hs,k⟩:=St hb g i d w;have r:(part f.type vs.toArray f.offset).run P w=.ok u w:=by simp[part,FG k,n]
  have s:(part f.type us.toArray f.offset).run P w=.ok v w:=by simp[part,FG k,o]
  simp only[Op.eqFields,ne_eq,hn,not_false_eq_true,if_true,Sem.run_bind,r,s,m,Result.andThen_ok];rw[hb]at h;cases a;simp at h;subst h;simp;simp only at h;simp only[Bool.not_true,qn,if_false];exact IF hc l h1 h2 d w e b h
theorem Dx{evs:Operand->SV}{o:Oper}{t t2:TypeId}{x y:Operand}{g:BinOp}{cs i:List SV}{b:Bool}(a:o.op=.binOp g t x y t2)(h:g=.eql\/g=.neq)
 (ht:P.underlying t=some (.struct (P.fieldsOf t))) (hp:P.stoodInHeld t=false) (l:P.eqGuardType P.depth t=false)
 (r:evs x=.agg cs) (s:evs y=.agg i) (hb:CS P cs i (Bt P t)=some b):Xw P evs o (.bool (if g=.eql then b else !b)):=by
 refine⟨by rw[a];simp,λc ev _ m=>?_⟩;have e:=m x (by simp[a,Op.operands]);have f:=m y (by simp[a,Op.operands]);rw[r]at e;rw[s]at f;obtain⟨vs,j,h1,h2⟩:=Gn e;obtain⟨us,k,n,p⟩:=Gn f;have q:=IF h1 n h2 p 9998 c.w _ _ hb;have d:(Op.equalIn 10000 t (.agg vs.toArray) (.agg us.toArray)).run P c.w=.ok b c.w:=by rw[run_equalIn_struct c.w 9999 t _ _ ht hp];exact q
 rcases h with rfl|rfl;exact⟨.bool b,by simp only[execOp,a,j,k,Sem.run_bind,run_eqGuard_agg c.w _ _ _ _ _ _ l,Result.andThen_ok,run_eql_struct,d];simp,by simp[V]⟩;exact⟨.bool !b,by simp only[execOp,a,j,k,Sem.run_bind,run_eqGuard_agg c.w _ _ _ _ _ _ l,Result.andThen_ok,run_neq_struct,d];simp,by simp[V]⟩
theorem DP{evs:Operand->SV}{o:Oper}{h:Hp}{n:Nat}{K:SV->Hp->Nat->Prop}{t:TypeId}{z:Nat}{ps:Array (Nat×Operand)}(f:o.op=.buildSlice t 0 ps)(a:ps = #[])(hi:((BA P t).bind P.info?).isSome=true)
 (g:K (.i z [] true) h n):DS E P evs o h n K:=by
 subst a;refine⟨by rw[f];simp,λc ev hc _ R F hv=>?_⟩;obtain⟨i,hi⟩:=X6.1 hi;obtain⟨e,ht,hi⟩:=Yc.1 hi;have j:=Ay ht;have hw:(execOp ev o).run P c.w=.ok (.value (.slice (some ⟨c.w.heap.size,0,none⟩) 0 0)) (c.w.alloc (.cells #[] e)):=by
  simp[execOp,f,Instr.buildSlice,AN j,sizeOf,typeInfo,hi,Instr.fill,newRow];congr 2;simp
 have X:EH c { c with w:=c.w.alloc (.cells #[] e) }:=by
  refine⟨λ_ _ e=>e,by simp,λb hb hn=>⟨hn,?_⟩,λb=>?_,rfl,rfl,⟨rfl,qa _⟩⟩;simp[Bu,Xk,vM hb];unfold rm;rcases YV b c.w.heap.size with d|d;simp[Bu,Xk,vM d];simp[Yv d]
 refine⟨_,.i z [] true,h,n,{ c with w:=c.w.alloc (.cells #[] e) },hw,?_,⟨λo x e=>(R.obj o x e).mono X λb hb=>?_,R.inj2,R.own2⟩,F,⟨X,qa _,λ_ _=>rfl⟩,g⟩;rw[V];exact .inr ⟨⟨c.w.heap.size,0,none⟩,0,[],rfl,qa _,λ_=>rfl,⟨by simp,by simp,by simp,by simp⟩,by simp[VE]⟩;have h2:=(R.obj o x e).hold_lt hb;simp[Bu,Xk,vM h2]
def DG(P:Program)(cs ds:List SV):List (Bool×TypeId×Nat)->Option Bool
 | []=>some true
 | f::fs=>if f.1=true then none else
  match cs[f.2.2]?,ds[f.2.2]? with
  | some x,some y=>match DX P f.2.1 x y with|some true=>DG P cs ds fs|r=>r
  | _,_=>none
theorem Ch(cs a:List SV):∀fs:List Field,CS P cs a fs=DG P cs a (fs.map λf=>(f.name == "_",f.type,f.offset))
 | []=>rfl
 | f::fs=>by
  simp only[CS,DG,qr,beq_iff_eq,Ch cs a fs]
end
structure Od{α:Type}(f:α->SV)(z:Nat):Prop where
 st:∀x,(f x).B=true
 len:∀x,(f x).cells.length=z
 cl:∀n x,cc n (f x)=true
theorem Od.size{α:Type}{f:α->SV}{z:Nat}(H:Od f z)(l:List α):∀e∈l.map f,e.B=true/\e.cells.length=z:=by
 intro e a;simp only[ql]at a;obtain⟨x,_,rfl⟩:=a;exact⟨H.st x,H.len x⟩
theorem Od.ca{α:Type}{f:α->SV}{z:Nat}(H:Od f z)(n:Nat)(l:List α):ca n (l.map f)=true:=EO.2 (by
 intro e a;simp only[ql]at a;obtain⟨x,_,rfl⟩:=a;exact H.cl n x)
theorem Od.i{α:Type}{f:α->SV}{z:Nat}(H:Od f z)(n a:Nat)(l:List α)(full:Bool):cc n (.i a (l.map f) full)=true:=by rw[cc];exact H.ca n l
theorem Ns:Od AA 1:=⟨λ_=>rfl,λ_=>rfl,λ_ _=>rfl⟩
theorem Bi.E:Od Bi.e 2:=⟨λ_=>rfl,λ_=>rfl,λ_ _=>rfl⟩
theorem Bs.E:Od Bs.e 2:=⟨λ_=>rfl,λ_=>rfl,λ_ _=>rfl⟩
theorem AM.E:Od AM.e 4:=⟨λ_=>rfl,λ_=>rfl,λ_ _=>rfl⟩
theorem BC.E:Od BC.e 3:=⟨λ_=>rfl,λ_=>rfl,λ_ _=>rfl⟩
theorem Ce.E:Od Ce.e 4:=⟨λ_=>rfl,λ_=>rfl,λ_ _=>rfl⟩
theorem A9.E:Od A9.e 6:=⟨λ_=>rfl,λ_=>rfl,λ_ _=>rfl⟩
theorem GY.E:Od GY.e 2:=⟨λ_=>rfl,λ_=>rfl,λ_ _=>rfl⟩
theorem A7.E:Od A7.e 6:=⟨λ_=>rfl,λ_=>rfl,λn s=>by simp[A7.e,cc,ca,Bi.E.ca]⟩
theorem GQ.E:Od GQ.e 2:=⟨λ_=>rfl,λ_=>rfl,λn s=>by simp[GQ.e,cc,ca,Ce.E.ca]⟩
theorem AF.flat_closed(n:Nat)(h:AF):Sh.ca n h.g=true:=by simp[AF.g,cc,ca,Bi.E.ca,Bs.E.ca,AM.E.ca]
theorem AF.E:Od AF.e 5:=⟨λ_=>rfl,λ_=>rfl,λn s=>by rw[AF.e,cc];exact s.flat_closed n⟩
theorem DY(n:Nat):∀(a b:List SV),ca n (a++b)=(ca n a&&ca n b)
 | [],b=>by simp[ca]
 | x::a,b=>by simp[ca,DY n a b,Bool.and_assoc]
mutual
theorem AB.cl(n:Nat):∀x:AB,cc n x.e=true
 | .mk k c i t h f r=>by
  rw[AB.e,cc,DY,DY];simp[cc,ca,h.flat_closed,AB.clL n f,AP.clL n r]
theorem AB.clL(n:Nat):∀l:List AB,ca n (AB.encL l)=true
 | []=>by simp[AB.encL,ca]
 | x::l=>by rw[AB.encL,ca,AB.cl n x,AB.clL n l];rfl
theorem AP.cl(n:Nat):∀x:AP,cc n x.e=true
 | .mk h c=>by
  rw[AP.e,cc,DY];simp[cc,ca,h.flat_closed,cr.clL n c]
theorem AP.clL(n:Nat):∀l:List AP,ca n (AP.encL l)=true
 | []=>by simp[AP.encL,ca]
 | x::l=>by rw[AP.encL,ca,AP.cl n x,AP.clL n l];rfl
theorem cr.cl(n:Nat):∀x:cr,cc n x.e=true
 | .mk i h f=>by
  rw[cr.e,cc,DY,DY];simp[cc,ca,h.flat_closed,AB.clL n f]
theorem cr.clL(n:Nat):∀l:List cr,ca n (cr.encL l)=true
 | []=>by simp[cr.encL,ca]
 | x::l=>by rw[cr.encL,ca,cr.cl n x,cr.clL n l];rfl
end
theorem AB.E:Od AB.e 11:=⟨λx=>by rw[qw];rfl,λx=>by rw[qw];rfl,AB.cl⟩
theorem AP.E:Od AP.e 6:=⟨λx=>by rw[Yw];rfl,λx=>by rw[Yw];rfl,AP.cl⟩
theorem cr.E:Od cr.e 7:=⟨λx=>by rw[Us];rfl,λx=>by rw[Us];rfl,cr.cl⟩
def AG.e(d:AG):SV:=.agg ([AK d.W]++d.T0.g++[BE d.V]++d.S.g)
theorem Cz{h' h:Hp}{k z o:Nat}{es:List SV}{full full':Bool}(hn:h o=none)(c:full'=true->full=true)(d:h' o=some (.cells (es.flatMap SV.cells)))(b:∀e∈es,e.B=true/\e.cells.length=z):
 Fz h' h (k+1) (.sl o 0 z es.length full) (.i z es full'):=by
 refine .inr ⟨hn,c,rfl,rfl,_,_,d,by simp[Bz,BO b];rfl,b,?_⟩;have:∀l:List SV,Ag (Fz h' h k) l l:=by
  intro l;induction l with
  | nil=>trivial
  | cons a l ih=>exact⟨IO,ih⟩
 simp only[<-BO b,qm];exact this _
theorem Bj{h' h:Hp}{k z b:Nat}{full full':Bool}(a:full'=true->full=true):Fz h' h (k+1) (.i z [] full) (.i b [] full'):=
 .inr ⟨a,.inl rfl,trivial,by simp⟩
theorem XK{α:Type}{f:α->SV}{z:Nat}(H:Od f z){h h':Hp}{n n' o:Nat}{v:SV}{l:List α}{full:Bool}(a:Gm h n)(b:∀o x,h o=some x->h' o=some x)(hn:n<=o)(c:v=.sl o 0 z l.length full)(hc:h' o=some (.cells ((l.map f).flatMap SV.cells))):
 CO n h' n' v (Is (.i z (l.map f) false) h n):=by
 subst c;have:=Cz (h':=h') (h:=h) (k:=0) (z:=z) (es:=l.map f) (full:=full) (full':=false) (a.none hn) (by simp) hc (H.size l);rw[qf]at this;exact Dj 1 a b this (H.i _ _ _ _)
theorem LH{h h':Hp}{n n' z e:Nat}{v:SV}{full full':Bool}(c:Gm h n)(b:∀o x,h o=some x->h' o=some x)(a:full'=true->full=true)(d:v=.i z [] full):CO n h' n' v (Is (.i e [] full') h n):=by
 subst d;exact Dj 1 c b (Bj a) (by simp[cc,ca])
theorem H7{P:Program}{h:Hp}{n z:Nat}{t t2 el:TypeId}{es:List SV}{full:Bool}(ht:BA P t=some el)(e:(BA P t2).isSome=true)(j:Br P el=z)(f:z≠0)(d:(BK P el).B=true)(g:(BK P el).cells.length=z)
 (hb:Bw P el<=65536) (c:es≠[]) (a:es.length<=1073741824) (b:Ib el=none:=by rfl):
 Al P h n .append [t,t2] [.i z [] true,.i z es full]=some { val:=.sl n 0 z es.length false,new:=some (.cells (es.flatMap SV.cells)) }:=by
 have h0:es.length≠0:=by cases es<;>simp at c ⊢
 have i:EF (0+es.length) (Bw P el)=true:=by simp[EF];exact⟨a,hb⟩
 simp only[Al,e,if_true,Ec,ht,GW,flat,j,g,d];simp[LT,f,h0,b];simpa using i
def Qo(z:Nat)(es:List SV)(h:Hp)(n:Nat):SV->Hp->Nat->Prop:=λv h' n'=>
 n<=n'/\(∀o x,h o=some x->h' o=some x)/\((es=[]/\∃z' full,v=.i z' [] full)\/∃o full,n<=o/\o<n'/\v=.sl o 0 z es.length full/\h' o=some (.cells (es.flatMap SV.cells)))
abbrev LC(f:FuncId)(args:List SV)(z:Nat)(es:List SV):Prop:=∀h n,BL prog f args h n (Qo z es h n)
theorem LC.pc{f:FuncId}{args:List SV}{z:Nat}{es:List SV}(H:LC f args z es)(s:∀e∈es,e.B=true/\e.cells.length=z)(d:∀n,ca n es=true):PC f args (.i z es false):=by
 intro h n;refine⟨(H h n).1,λc vs I R F A=>((H h n).2 c vs I R F A).mono ?_⟩;rintro e w' ⟨u,v,h',n',l,rfl,⟨hle,i,t⟩,rfl,r,a,F',X⟩;have p:Gm h n:=λo x e=>H9 F (R.obj o x e);have g:Fz h' h 1 v (.i z es false):=by
  rcases t with⟨rfl,z',full,rfl⟩|⟨o,full,h1,h2,rfl,q⟩
  exact Bj (by simp);exact Cz (p.none h1) (by simp) q s
 have b:=a.less i;have k:V ((l.less h).cut h n) (.i z es false) u:=(g.sound a i 1 r).cut b (λ_ _ e=>e) (by rw[cc];exact d n);refine⟨u,_,h,n,(l.less h).cut h n,rfl,⟨rfl,rfl,rfl⟩,rfl,k,b.cut (λo x e=>⟨e,p o x e⟩),WG,⟨T9 b (λ_ _ e=>e) F (qa _) (X.ext.trans (Dd a i)),qa _,λj m=>?_⟩⟩;simp only[Cx.cut,m,if_true];exact X.same j m
theorem LC.use{E:CC}{f:FuncId}{args:List SV}{z:Nat}{es:List SV}(H:LC f args z es){h:Hp}{n:Nat}{K:SV->Hp->Nat->Prop}(a:∀v h' n',Qo z es h n v h' n'->K v h' n'):Ap E prog f args h n K:=
 Ap.lift ((H h n).mono a)
structure AF.D(h:AF):Prop where
 Q:h.Q.length<=1048576
 Y:h.Y.length<=1048576
 Z:h.Z.length<=1048576
mutual
def AB.D:AB->Prop
 | .mk _ _ _ t h f r=>t.size<=1048576/\h.D/\f.length<=1048576/\r.length<=1048576/\AB.G f/\AP.G r
def AB.G:List AB->Prop
 | []=>True
 | x::l=>x.D/\AB.G l
def AP.D:AP->Prop
 | .mk h c=>h.D/\c.length<=1048576/\cr.G c
def AP.G:List AP->Prop
 | []=>True
 | x::l=>x.D/\AP.G l
def cr.D:cr->Prop
 | .mk _ h f=>h.D/\f.length<=1048576/\AB.G f
def cr.G:List cr->Prop
 | []=>True
 | x::l=>x.D/\cr.G l
end
theorem AB.qR:∀{l:List AB},AB.G l->∀x∈l,x.D
 | _::_,h,x,a=>by rw[AB.G]at h;rcases qt.1 a with rfl|a;exact h.1;exact AB.qR h.2 x a
theorem AP.qR:∀{l:List AP},AP.G l->∀x∈l,x.D
 | _::_,h,x,a=>by rw[AP.G]at h;rcases qt.1 a with rfl|a;exact h.1;exact AP.qR h.2 x a
theorem cr.qR:∀{l:List cr},cr.G l->∀x∈l,x.D
 | _::_,h,x,a=>by rw[cr.G]at h;rcases qt.1 a with rfl|a;exact h.1;exact cr.qR h.2 x a
theorem AB.sizedL_of:∀{l:List AB},(∀x∈l,x.D)->AB.G l
 | [],_=>by rw[AB.G];trivial
 | x::l,h=>by rw[AB.G];exact⟨h x (by simp),AB.sizedL_of λy a=>h y (by simp[a])⟩
theorem AP.sizedL_of:∀{l:List AP},(∀x∈l,x.D)->AP.G l
 | [],_=>by rw[AP.G];trivial
 | x::l,h=>by rw[AP.G];exact⟨h x (by simp),AP.sizedL_of λy a=>h y (by simp[a])⟩
theorem cr.sizedL_of:∀{l:List cr},(∀x∈l,x.D)->cr.G l
 | [],_=>by rw[cr.G];trivial
 | x::l,h=>by rw[cr.G];exact⟨h x (by simp),cr.sizedL_of λy a=>h y (by simp[a])⟩
section
variable{P:Program}
theorem Fa{H:Hp}{n m k z:Nat}{es:List SV}{e:SV}{o:Option Nat}{t t2 el:TypeId}(ht:BA P t=some el)(h:(BA P t2).isSome=true)(s:Br P el=z)(b:z≠0)(g:(BK P el).B=true)(i:(BK P el).cells.length=z)
 (hb:Bw P el<=65536) (hroom:es.length+1<=1073741824) (c:BR n m z o es) (q:e.cells.length=z) (h1:H k=some (.cells e.cells)) (h2:∀j,o=some j->H j=some (.cells (es.flatMap SV.cells))) (p:Nat) (a:Ib el=none:=by rfl):
 Al P H p .append [t,t2] [AW z o es,.sl k 0 z 1 true] =
  some { val:=.sl p 0 z (es.length+1) false,upd:=o.map λj=>(j,none),new:=some (.cells (es.flatMap SV.cells++e.cells)) }:=by
 have d:flat H (.sl k 0 z 1 true)=some e.cells:=by
  simp[flat,h1,Bz,q];exact qv (by omega)
 have l:EF (es.length+1) (Bw P el)=true:=by simp[EF];exact⟨by omega,hb⟩
 simp only[Al,h,if_true,Ec,ht,GW,d,s,i,g];cases o with
 | none=>
  have:=c.none rfl;subst this;simp[AW,LT,b,a];have f:EF 1 (Bw P el)=true:=by simpa using l
  exact f
 | some j =>
  have r:flat H (.sl j 0 z es.length false)=some (es.flatMap SV.cells):=by
   simp only[flat,h2 j rfl,Bz,qU,BO c.size,qa,if_true,vt];rw[<-BO c.size,qm]
  simp[AW,LT,b,r,l,Kb a]
end
theorem EK{h H:Hp}{n m p z:Nat}{es:List SV}{e:SV}{o:Option Nat}{v:SV}(g:Gm h n)(hn:n<=p)(d:BR n m z o es)(c:∀j y,h j=some y->H j=some y):
 ∀j y,AV (some p) (es++[e]) h j=some y->(C5.app H p { val:=v,upd:=o.map λj=>(j,none),new:=some (.cells (es.flatMap SV.cells++e.cells)) }) j=some y:=by
 intro j y a;simp only[AV]at a;by_cases b:j=p;subst b;rw[AD]at a;simp only[C5.app,AD];rw[<-a];simp;rw[AE _ _ b]at a;have hlt:=(g j y a).1;cases o with
 | none=>simp[C5.app,AE _ _ b,c j y a]
 | some k=>
  have f:j≠k:=by have:=(d.lt k rfl).1;omega
  simp[C5.app,AE _ _ b,AE _ _ f,c j y a]
theorem FX{h:Hp}{o:Option Nat}{es:List SV}:∀j,o=some j->AV o es h j=some (.cells (es.flatMap SV.cells)):=by
 rintro j rfl;simp[AV,h_]
theorem Mo{h h':Hp}{n m m' z:Nat}{o:Option Nat}{es:List SV}(f:Gm h n)(a:BR n m z o es)(c:∀j y,AV o es h j=some y->h' j=some y)(d:n<=m')(b:m<=m'):Qo z es h n (AW z o es) h' m':=by
 refine⟨d,λj x e=>c j x (AV.old f a j x e),?_⟩;cases o with
 | none=>exact .inl ⟨a.none rfl,0,true,rfl⟩
 | some j=>exact .inr ⟨j,false,(a.lt j rfl).1,Wm (a.lt j rfl).2 b,rfl,c j _ (by simp[AV,h_])⟩
theorem KA{z:Nat}{es:List SV}(hs:∀e∈es,e.B=true/\e.cells.length=z)(i:Nat):(es.flatMap SV.cells).take (i*z)=(es.take i).flatMap SV.cells/\(es.flatMap SV.cells).drop (i*z)=(es.drop i).flatMap SV.cells:=by
 induction es generalizing i with
 | nil=>simp
 | cons e es ih =>
  cases i with
  | zero=>simp
  | succ i=>
   have he:=(hs e (by simp)).2;obtain⟨h1,h2⟩:=ih (λx hx=>hs x (by simp[hx])) i;have e1:(i+1)*z=e.cells.length+i*z:=by rw[he,UI,Nat.one_mul,Nat.add_comm]
   simp only[QZ,YP,vi,e1];rw[List.take_length_add_append,vC,h1,h2];exact⟨rfl,rfl⟩
theorem Nh{z:Nat}{es:List SV}(b:∀e∈es,e.B=true/\e.cells.length=z){i:Nat}{e:SV}(h:es[i]? = some e):i*z+z<=(es.flatMap SV.cells).length/\((es.flatMap SV.cells).drop (i*z)).take z=e.cells:=by
 obtain⟨a,c⟩:=qh.1 h;have d:=(b e (by rw[<-c];exact qi a)).2;refine⟨?_,?_⟩;rw[BO b];have:(i+1)*z<=es.length*z:=YR z a;rw[UI,Nat.one_mul]at this;exact this;rw[(KA b i).2,qQ a,c,QZ,<-d,List.take_left]
theorem RI{z:Nat}{es:List SV}(a:∀e∈es,e.B=true/\e.cells.length=z){j:Nat}{e:SV}(b:j<es.length):(es.flatMap SV.cells).take (j*z)++(e.cells++(es.flatMap SV.cells).drop (j*z+z))=(es.set j e).flatMap SV.cells:=by
 have h1:=(KA a j).1;have h2:=(KA a (j+1)).2;rw[UI,Nat.one_mul]at h2;rw[h1,h2,WK,if_pos b];simp
section
variable{P:Program}
theorem G4{H:Hp}{n m k z j len:Nat}{es:List SV}{e:SV}{t t2 el:TypeId}(ht:BA P t=some el)(f:(BA P t2).isSome=true)(r:Br P el=z)(g:z≠0)(d:(BK P el).B=true)(h:(BK P el).cells.length=z)
 (hb:Bw P el<=65536) (a:es.length+1<=1073741824) (l:BR n m z (some j) es) (q:e.cells.length=z) (h1:H k=some (.cells e.cells)) (h2:H j=some (.cells (es.flatMap SV.cells))) (p:Nat) (b:len=es.length) (c:Ib el=none:=by rfl):
 Al P H p .append [t,t2] [.sl j 0 z len false,.sl k 0 z 1 true] =
  some { val:=.sl p 0 z (es.length+1) false,upd:=some (j,none),new:=some (.cells (es.flatMap SV.cells++e.cells)) }:=by
 subst b;exact Fa (o:=some j) ht f r g d h hb a l q h1 (λi e=>by cases e;exact h2) p c
theorem Mr{H:Hp}{k z:Nat}{e:SV}{t t2 el:TypeId}(ht:BA P t=some el)(c:(BA P t2).isSome=true)(h:Br P el=z)(d:z≠0)(b:(BK P el).B=true)(f:(BK P el).cells.length=z)
 (hb:Bw P el<=65536) (g:e.cells.length=z) (h1:H k=some (.cells e.cells)) (p:Nat) (a:Ib el=none:=by rfl):
 Al P H p .append [t,t2] [.i 0 [] true,.sl k 0 z 1 true]=some { val:=.sl p 0 z 1 false,new:=some (.cells e.cells) }:=
 Fa (n:=0) (m:=0) (o:=none) (es:=[]) ht c h d b f hb (by simp) (vA 0 0 z) g h1 (by simp) p a
end
theorem cv(l:List Bi)(hl:l.length<=1048576):LC 185 [.i 2 (l.map Bi.e) false] 2 (l.map Bi.e):=by
 intro h n;refine gq func185 rfl λc=>?_;simp[go_sem];refine Cj rfl (by kernel_rfl) rfl (λe=>?_) ?_;simp[go_sem];have:l=[]:=by simpa using e
 subst this;exact .inl ⟨qa _,AC,.inl ⟨rfl,_,_,rfl⟩⟩;simp[go_sem];refine DP (z:=2) rfl rfl (by kernel_rfl) ?_;cases l with
 | nil=>
  simp[go_sem];exact .inl ⟨qa _,AC,.inl ⟨rfl,_,_,rfl⟩⟩
 | cons a l=>
  have b:=H7 (P:=prog) (h:=h) (n:=n) (t:=23) (t2:=23) (el:=193) (z:=2) (es:=(a::l).map Bi.e) (full:=false) (by simp[go_sem]) (by simp[go_sem]) (by simp[go_sem]) (by simp) (by simp[go_sem]) (by simp[go_sem]) (by simp[go_sem]) (by simp) (by simp at hl ⊢;omega);simp only[qr]at b;simp[go_sem,b];refine .inl ⟨Zc n,AR c (qa _) AC,.inr ⟨n,false,qa _,qY n,?_,?_⟩⟩;simp;simp[AD];rfl
theorem YC(l:List Bi)(hl:l.length<=1048576):PC 185 [.i 2 (l.map Bi.e) false] (.i 2 (l.map Bi.e) false):=(cv l hl).pc (Bi.E.size l) λn=>Bi.E.ca n l
theorem cw(l:List Bs)(hl:l.length<=1048576):LC 186 [.i 2 (l.map Bs.e) false] 2 (l.map Bs.e):=by
 intro h n;refine gq func186 rfl λc=>?_;simp[go_sem];refine Cj rfl (by kernel_rfl) rfl (λe=>?_) ?_;simp[go_sem];have:l=[]:=by simpa using e
 subst this;exact .inl ⟨qa _,AC,.inl ⟨rfl,_,_,rfl⟩⟩;simp[go_sem];refine DP (z:=2) rfl rfl (by kernel_rfl) ?_;cases l with
 | nil=>
  simp[go_sem];exact .inl ⟨qa _,AC,.inl ⟨rfl,_,_,rfl⟩⟩
 | cons a l=>
  have b:=H7 (P:=prog) (h:=h) (n:=n) (t:=24) (t2:=24) (el:=166) (z:=2) (es:=(a::l).map Bs.e) (full:=false) (by simp[go_sem]) (by simp[go_sem]) (by simp[go_sem]) (by simp) (by simp[go_sem]) (by simp[go_sem]) (by simp[go_sem]) (by simp) (by simp at hl ⊢;omega);simp only[qr]at b;simp[go_sem,b];refine .inl ⟨Zc n,AR c (qa _) AC,.inr ⟨n,false,qa _,qY n,?_,?_⟩⟩;simp;simp[AD];rfl
theorem fQ(l:List Bs)(hl:l.length<=1048576):PC 186 [.i 2 (l.map Bs.e) false] (.i 2 (l.map Bs.e) false):=(cw l hl).pc (Bs.E.size l) λn=>Bs.E.ca n l
theorem cx(l:List AM)(hl:l.length<=1048576):LC 187 [.i 4 (l.map AM.e) false] 4 (l.map AM.e):=by
 intro h n;refine gq func187 rfl λc=>?_;simp[go_sem];refine Cj rfl (by kernel_rfl) rfl (λe=>?_) ?_;simp[go_sem];have:l=[]:=by simpa using e
 subst this;exact .inl ⟨qa _,AC,.inl ⟨rfl,_,_,rfl⟩⟩;simp[go_sem];refine DP (z:=4) rfl rfl (by kernel_rfl) ?_;cases l with
 | nil=>
  simp[go_sem];exact .inl ⟨qa _,AC,.inl ⟨rfl,_,_,rfl⟩⟩
 | cons a l=>
  have b:=H7 (P:=prog) (h:=h) (n:=n) (t:=25) (t2:=25) (el:=164) (z:=4) (es:=(a::l).map AM.e) (full:=false) (by simp[go_sem]) (by simp[go_sem]) (by simp[go_sem]) (by simp) (by simp[go_sem]) (by simp[go_sem]) (by simp[go_sem]) (by simp) (by simp at hl ⊢;omega);simp only[qr]at b;simp[go_sem,b];refine .inl ⟨Zc n,AR c (qa _) AC,.inr ⟨n,false,qa _,qY n,?_,?_⟩⟩;simp;simp[AD];rfl
theorem fR(l:List AM)(hl:l.length<=1048576):PC 187 [.i 4 (l.map AM.e) false] (.i 4 (l.map AM.e) false):=(cx l hl).pc (AM.E.size l) λn=>AM.E.ca n l
theorem dA(l:List BC)(hl:l.length<=1048576):LC 76 [.i 3 (l.map BC.e) false] 3 (l.map BC.e):=by
 intro h n;refine gq func76 rfl λc=>?_;simp[go_sem];refine Cj rfl (by kernel_rfl) rfl (λe=>?_) ?_;simp[go_sem];have:l=[]:=by simpa using e
 subst this;exact .inl ⟨qa _,AC,.inl ⟨rfl,_,_,rfl⟩⟩;simp[go_sem];refine DP (z:=3) rfl rfl (by kernel_rfl) ?_;cases l with
 | nil=>
  simp[go_sem];exact .inl ⟨qa _,AC,.inl ⟨rfl,_,_,rfl⟩⟩
 | cons a l=>
  have b:=H7 (P:=prog) (h:=h) (n:=n) (t:=30) (t2:=30) (el:=42) (z:=3) (es:=(a::l).map BC.e) (full:=false) (by simp[go_sem]) (by simp[go_sem]) (by simp[go_sem]) (by simp) (by simp[go_sem]) (by simp[go_sem]) (by simp[go_sem]) (by simp) (by simp at hl ⊢;omega);simp only[qr]at b;simp[go_sem,b];refine .inl ⟨Zc n,AR c (qa _) AC,.inr ⟨n,false,qa _,qY n,?_,?_⟩⟩;simp;simp[AD];rfl
theorem c76(l:List BC)(hl:l.length<=1048576):PC 76 [.i 3 (l.map BC.e) false] (.i 3 (l.map BC.e) false):=(dA l hl).pc (BC.E.size l) λn=>BC.E.ca n l
theorem jP(l:List A7)(hl:l.length<=1048576):LC 199 [.i 6 (l.map A7.e) false] 6 (l.map A7.e):=by
 intro h n;refine gq func199 rfl λc=>?_;simp[go_sem];refine Cj rfl (by kernel_rfl) rfl (λe=>?_) ?_;simp[go_sem];have:l=[]:=by simpa using e
 subst this;exact .inl ⟨qa _,AC,.inl ⟨rfl,_,_,rfl⟩⟩;simp[go_sem];refine DP (z:=6) rfl rfl (by kernel_rfl) ?_;cases l with
 | nil=>
  simp[go_sem];exact .inl ⟨qa _,AC,.inl ⟨rfl,_,_,rfl⟩⟩
 | cons a l=>
  have b:=H7 (P:=prog) (h:=h) (n:=n) (t:=31) (t2:=31) (el:=198) (z:=6) (es:=(a::l).map A7.e) (full:=false) (by simp[go_sem]) (by simp[go_sem]) (by simp[go_sem]) (by simp) (by simp[go_sem]) (by simp[go_sem]) (by simp[go_sem]) (by simp) (by simp at hl ⊢;omega);simp only[qr]at b;simp[go_sem,b];refine .inl ⟨Zc n,AR c (qa _) AC,.inr ⟨n,false,qa _,qY n,?_,?_⟩⟩;simp;simp[AD];rfl
theorem jQ(l:List GQ)(hl:l.length<=1048576):LC 200 [.i 2 (l.map GQ.e) false] 2 (l.map GQ.e):=by
 intro h n;refine gq func200 rfl λc=>?_;simp[go_sem];refine Cj rfl (by kernel_rfl) rfl (λe=>?_) ?_;simp[go_sem];have:l=[]:=by simpa using e
 subst this;exact .inl ⟨qa _,AC,.inl ⟨rfl,_,_,rfl⟩⟩;simp[go_sem];refine DP (z:=2) rfl rfl (by kernel_rfl) ?_;cases l with
 | nil=>
  simp[go_sem];exact .inl ⟨qa _,AC,.inl ⟨rfl,_,_,rfl⟩⟩
 | cons a l=>
  have b:=H7 (P:=prog) (h:=h) (n:=n) (t:=32) (t2:=32) (el:=103) (z:=2) (es:=(a::l).map GQ.e) (full:=false) (by simp[go_sem]) (by simp[go_sem]) (by simp[go_sem]) (by simp) (by simp[go_sem]) (by simp[go_sem]) (by simp[go_sem]) (by simp) (by simp at hl ⊢;omega);simp only[qr]at b;simp[go_sem,b];refine .inl ⟨Zc n,AR c (qa _) AC,.inr ⟨n,false,qa _,qY n,?_,?_⟩⟩;simp;simp[AD];rfl
theorem jS(l:List A9)(hl:l.length<=1048576):LC 201 [.i 6 (l.map A9.e) false] 6 (l.map A9.e):=by
 intro h n;refine gq func201 rfl λc=>?_;simp[go_sem];refine Cj rfl (by kernel_rfl) rfl (λe=>?_) ?_;simp[go_sem];have:l=[]:=by simpa using e
 subst this;exact .inl ⟨qa _,AC,.inl ⟨rfl,_,_,rfl⟩⟩;simp[go_sem];refine DP (z:=6) rfl rfl (by kernel_rfl) ?_;cases l with
 | nil=>
  simp[go_sem];exact .inl ⟨qa _,AC,.inl ⟨rfl,_,_,rfl⟩⟩
 | cons a l=>
  have b:=H7 (P:=prog) (h:=h) (n:=n) (t:=33) (t2:=33) (el:=115) (z:=6) (es:=(a::l).map A9.e) (full:=false) (by simp[go_sem]) (by simp[go_sem]) (by simp[go_sem]) (by simp) (by simp[go_sem]) (by simp[go_sem]) (by simp[go_sem]) (by simp) (by simp at hl ⊢;omega);simp only[qr]at b;simp[go_sem,b];refine .inl ⟨Zc n,AR c (qa _) AC,.inr ⟨n,false,qa _,qY n,?_,?_⟩⟩;simp;simp[AD];rfl
theorem fX(l:List A9)(hl:l.length<=1048576):PC 201 [.i 6 (l.map A9.e) false] (.i 6 (l.map A9.e) false):=(jS l hl).pc (A9.E.size l) λn=>A9.E.ca n l
theorem jT(l:List GY)(hl:l.length<=1048576):LC 202 [.i 2 (l.map GY.e) false] 2 (l.map GY.e):=by
 intro h n;refine gq func202 rfl λc=>?_;simp[go_sem];refine Cj rfl (by kernel_rfl) rfl (λe=>?_) ?_;simp[go_sem];have:l=[]:=by simpa using e
 subst this;exact .inl ⟨qa _,AC,.inl ⟨rfl,_,_,rfl⟩⟩;simp[go_sem];refine DP (z:=2) rfl rfl (by kernel_rfl) ?_;cases l with
 | nil=>
  simp[go_sem];exact .inl ⟨qa _,AC,.inl ⟨rfl,_,_,rfl⟩⟩
 | cons a l=>
  have b:=H7 (P:=prog) (h:=h) (n:=n) (t:=34) (t2:=34) (el:=118) (z:=2) (es:=(a::l).map GY.e) (full:=false) (by simp[go_sem]) (by simp[go_sem]) (by simp[go_sem]) (by simp) (by simp[go_sem]) (by simp[go_sem]) (by simp[go_sem]) (by simp) (by simp at hl ⊢;omega);simp only[qr]at b;simp[go_sem,b];refine .inl ⟨Zc n,AR c (qa _) AC,.inr ⟨n,false,qa _,qY n,?_,?_⟩⟩;simp;simp[AD];rfl
theorem fY(l:List GY)(hl:l.length<=1048576):PC 202 [.i 2 (l.map GY.e) false] (.i 2 (l.map GY.e) false):=(jT l hl).pc (GY.E.size l) λn=>GY.E.ca n l
theorem jU(l:List Ce)(hl:l.length<=1048576):LC 203 [.i 4 (l.map Ce.e) false] 4 (l.map Ce.e):=by
 intro h n;refine gq func203 rfl λc=>?_;simp[go_sem];refine Cj rfl (by kernel_rfl) rfl (λe=>?_) ?_;simp[go_sem];have:l=[]:=by simpa using e
 subst this;exact .inl ⟨qa _,AC,.inl ⟨rfl,_,_,rfl⟩⟩;simp[go_sem];refine DP (z:=4) rfl rfl (by kernel_rfl) ?_;cases l with
 | nil=>
  simp[go_sem];exact .inl ⟨qa _,AC,.inl ⟨rfl,_,_,rfl⟩⟩
 | cons a l=>
  have b:=H7 (P:=prog) (h:=h) (n:=n) (t:=101) (t2:=101) (el:=106) (z:=4) (es:=(a::l).map Ce.e) (full:=false) (by simp[go_sem]) (by simp[go_sem]) (by simp[go_sem]) (by simp) (by simp[go_sem]) (by simp[go_sem]) (by simp[go_sem]) (by simp) (by simp at hl ⊢;omega);simp only[qr]at b;simp[go_sem,b];refine .inl ⟨Zc n,AR c (qa _) AC,.inr ⟨n,false,qa _,qY n,?_,?_⟩⟩;simp;simp[AD];rfl
theorem fZ(l:List Ce)(hl:l.length<=1048576):PC 203 [.i 4 (l.map Ce.e) false] (.i 4 (l.map Ce.e) false):=(jU l hl).pc (Ce.E.size l) λn=>Ce.E.ca n l
theorem So(h0:AF)(a:h0.D):PC 118 [h0.e] h0.e:=by
 intro h n;refine gq func118 rfl λb=>?_;simp[go_sem,AF.e,AF.g,AD,AE];refine(YC _ a.Q).use ?_;simp[go_sem,AD,AE]
 repeat first|refine nq ?_|refine sq ?_|refine aq ?_
 refine Yg _ _ _ _ _ _ (fQ _ a.Y) ?_;simp[go_sem,AD]
 repeat first|refine nq ?_|refine sq ?_|refine aq ?_
 refine Yg _ _ _ _ _ _ (fR _ a.Z) ?_;simp[go_sem,AD,AE]
 repeat first|refine nq ?_|refine sq ?_|refine aq ?_
 exact A3 b (by repeat(first|exact AC|refine AR b (by omega) ?_)) rfl (AF.E.cl n h0)
theorem jO(l:List AB)(hl:l.length<=1048576)(g:FuncId)(a b:List SV)(f:AB->AB)(hf:∀(i:Nat)(h:i<l.length),PC g (a++[AB.e l[i]]++b) (AB.e (f l[i]))):LC 174 [.i 11 (l.map AB.e) false,.fn (.func g) a b] 11 ((l.map f).map AB.e):=by
 intro h n;generalize hR:(l.map f).map AB.e=R;refine gq func174 rfl λho=>?_;simp[go_sem];refine Av 1 (α:=Nat×Option Nat) (λq=>[(1,.fn (.func g) a b),(5,AW 11 q.2 (((l.take q.1).map f).map AB.e)),(8,.i 11 (l.map AB.e) false),(9,AA l.length),(10,AA q.1)]) (λq=>AV q.2 (((l.take q.1).map f).map AB.e) h)
  (λq m=>q.1<=l.length/\n<=m/\BR n m 11 q.2 (((l.take q.1).map f).map AB.e)) (λq=>l.length-q.1) (0,none) ?_ ?_ AC ?_
 simp;exact vA _ _ _;simp[Ao,AW];rintro⟨k,o⟩ m ⟨hk,hnm,hA⟩;dsimp only at hk hA ⊢;have hlen:(((l.take k).map f).map AB.e).length=k:=by simp;omega
 by_cases hlt:k<l.length
 . have w1:=wS k (by omega);obtain⟨x,hx⟩:∃x,l[k]=x:=⟨_,rfl⟩
   have H:=hf k hlt;rw[hx]at H;simp only[qj,qx,qE]at H;have hgx:(l.map AB.e)[k]? = some x.e:=by simp[hlt,hx]
   have htk:((l.take (k+1)).map f).map AB.e=((l.take k).map f).map AB.e++[(f x).e]:=by rw[qb hlt,hx];simp
   have hpush:=hA.push (j:=m+1+1) (m':=m+1+1+1) (e:=(f x).e) (AB.E.st _) (AB.E.len _) (by omega) (by omega);rw[<-htk]at hpush;generalize hes:((l.take k).map f).map AB.e=es at hA htk hlen ⊢;simp only[qX]at hgx;simp[go_sem,hlt,hx,qw,AD,-List.map_map,-List.map_take];refine qz (by simpa[qw]using H) ?_;simp[go_sem,-List.map_map,-List.map_take];rw[Fa (es:=es) (e:=(f x).e) (o:=o) (t:=22) (t2:=22) (el:=70) (z:=11) (by simp[go_sem]) (by simp[go_sem]) (by simp[go_sem]) (by simp) (by simp[go_sem]) (by simp[go_sem]) (by simp[go_sem]) (by omega) hA (AB.E.len _) ?a1 ?a2]
   case a1=>simp[AD,qw,SV.cells]
   case a2=>
    intro j e;have:=(hA.lt j e).2;rw[AE _ _ (by omega),AE _ _ (by omega),AE _ _ (by omega)];exact FX j e
   simp[go_sem,w1,-Int.natCast_add,-List.map_map,-List.map_take];refine⟨k+1,by omega,some (m+1+1),⟨by omega,by omega,hpush⟩,⟨?_,IO⟩,?_⟩;rw[htk];simp[AW,IO];rw[htk];have:=EK (p:=m+1+1) (v:=.sl (m+1+1) 0 11 (es.length+1) false) (e:=(f x).e) ho (by omega) hA (H:=h_ (h_ (h_ (AV o es h) m (some (.cells [.int .i64 0,.int .i64 0,.int .i64 0,.str .empty,.i 0 [] true,.int .i64 0,.int .i64 0,.i 0 [] true,.i 0 [] true,.i 0 [] true,.i 0 [] true]))) m (some (.cells x.e.cells))) (m+1) (some (.cells (f x).e.cells)))
    (AR ho (by omega) (AR ho (by omega) (AR ho (by omega) (AV.old ho hA))))
   simpa[qw,SV.cells,C5.app]using this
 have:k=l.length:=by omega
 subst this;simp only[qm,hR]at hA ⊢;simp[go_sem,-List.map_map,-List.map_take];exact .inl (Mo ho hA AC hnm (qa _))
theorem ct(l:List AP)(hl:l.length<=1048576)(g:FuncId)(a b:List SV)(f:AP->AP)(hf:∀(i:Nat)(h:i<l.length),PC g (a++[AP.e l[i]]++b) (AP.e (f l[i]))):LC 134 [.i 6 (l.map AP.e) false,.fn (.func g) a b] 6 ((l.map f).map AP.e):=by
 intro h n;generalize hR:(l.map f).map AP.e=R;refine gq func134 rfl λho=>?_;simp[go_sem];refine Av 1 (α:=Nat×Option Nat) (λq=>[(1,.fn (.func g) a b),(5,AW 6 q.2 (((l.take q.1).map f).map AP.e)),(8,.i 6 (l.map AP.e) false),(9,AA l.length),(10,AA q.1)]) (λq=>AV q.2 (((l.take q.1).map f).map AP.e) h)
  (λq m=>q.1<=l.length/\n<=m/\BR n m 6 q.2 (((l.take q.1).map f).map AP.e)) (λq=>l.length-q.1) (0,none) ?_ ?_ AC ?_
 simp;exact vA _ _ _;simp[Ao,AW];rintro⟨k,o⟩ m ⟨hk,hnm,hA⟩;dsimp only at hk hA ⊢;have hlen:(((l.take k).map f).map AP.e).length=k:=by simp;omega
 by_cases hlt:k<l.length
 . have w1:=wS k (by omega);obtain⟨x,hx⟩:∃x,l[k]=x:=⟨_,rfl⟩
   have H:=hf k hlt;rw[hx]at H;simp only[qj,qx,qE]at H;have hgx:(l.map AP.e)[k]? = some x.e:=by simp[hlt,hx]
   have htk:((l.take (k+1)).map f).map AP.e=((l.take k).map f).map AP.e++[(f x).e]:=by rw[qb hlt,hx];simp
   have hpush:=hA.push (j:=m+1+1) (m':=m+1+1+1) (e:=(f x).e) (AP.E.st _) (AP.E.len _) (by omega) (by omega);rw[<-htk]at hpush;generalize hes:((l.take k).map f).map AP.e=es at hA htk hlen ⊢;simp only[qX]at hgx;simp[go_sem,hlt,hx,Yw,AD,-List.map_map,-List.map_take];refine qz (by simpa[Yw]using H) ?_;simp[go_sem,-List.map_map,-List.map_take];rw[Fa (es:=es) (e:=(f x).e) (o:=o) (t:=68) (t2:=68) (el:=169) (z:=6) (by simp[go_sem]) (by simp[go_sem]) (by simp[go_sem]) (by simp) (by simp[go_sem]) (by simp[go_sem]) (by simp[go_sem]) (by omega) hA (AP.E.len _) ?a1 ?a2]
   case a1=>simp[AD,Yw,SV.cells]
   case a2=>
    intro j e;have:=(hA.lt j e).2;rw[AE _ _ (by omega),AE _ _ (by omega),AE _ _ (by omega)];exact FX j e
   simp[go_sem,w1,-Int.natCast_add,-List.map_map,-List.map_take];refine⟨k+1,by omega,some (m+1+1),⟨by omega,by omega,hpush⟩,⟨?_,IO⟩,?_⟩;rw[htk];simp[AW,IO];rw[htk];have:=EK (p:=m+1+1) (v:=.sl (m+1+1) 0 6 (es.length+1) false) (e:=(f x).e) ho (by omega) hA (H:=h_ (h_ (h_ (AV o es h) m (some (.cells [.i 0 [] true,.int .i64 0,.int .i64 0,.i 0 [] true,.i 0 [] true,.i 0 [] true]))) m (some (.cells x.e.cells))) (m+1) (some (.cells (f x).e.cells)))
    (AR ho (by omega) (AR ho (by omega) (AR ho (by omega) (AV.old ho hA))))
   simpa[Yw,SV.cells,C5.app]using this
 have:k=l.length:=by omega
 subst this;simp only[qm,hR]at hA ⊢;simp[go_sem,-List.map_map,-List.map_take];exact .inl (Mo ho hA AC hnm (qa _))
theorem c7(l:List cr)(hl:l.length<=1048576)(g:FuncId)(a b:List SV)(f:cr->cr)(hf:∀(i:Nat)(h:i<l.length),PC g (a++[cr.e l[i]]++b) (cr.e (f l[i]))):LC 194 [.i 7 (l.map cr.e) false,.fn (.func g) a b] 7 ((l.map f).map cr.e):=by
 intro h n;generalize hR:(l.map f).map cr.e=R;refine gq func194 rfl λho=>?_;simp[go_sem];refine Av 1 (α:=Nat×Option Nat) (λq=>[(1,.fn (.func g) a b),(5,AW 7 q.2 (((l.take q.1).map f).map cr.e)),(8,.i 7 (l.map cr.e) false),(9,AA l.length),(10,AA q.1)]) (λq=>AV q.2 (((l.take q.1).map f).map cr.e) h)
  (λq m=>q.1<=l.length/\n<=m/\BR n m 7 q.2 (((l.take q.1).map f).map cr.e)) (λq=>l.length-q.1) (0,none) ?_ ?_ AC ?_
 simp;exact vA _ _ _;simp[Ao,AW];rintro⟨k,o⟩ m ⟨hk,hnm,hA⟩;dsimp only at hk hA ⊢;have hlen:(((l.take k).map f).map cr.e).length=k:=by simp;omega
 by_cases hlt:k<l.length
 . have w1:=wS k (by omega);obtain⟨x,hx⟩:∃x,l[k]=x:=⟨_,rfl⟩
   have H:=hf k hlt;rw[hx]at H;simp only[qj,qx,qE]at H;have hgx:(l.map cr.e)[k]? = some x.e:=by simp[hlt,hx]
   have htk:((l.take (k+1)).map f).map cr.e=((l.take k).map f).map cr.e++[(f x).e]:=by rw[qb hlt,hx];simp
   have hpush:=hA.push (j:=m+1+1) (m':=m+1+1+1) (e:=(f x).e) (cr.E.st _) (cr.E.len _) (by omega) (by omega);rw[<-htk]at hpush;generalize hes:((l.take k).map f).map cr.e=es at hA htk hlen ⊢;simp only[qX]at hgx;simp[go_sem,hlt,hx,Us,AD,-List.map_map,-List.map_take];refine qz (by simpa[Us]using H) ?_;simp[go_sem,-List.map_map,-List.map_take];rw[Fa (es:=es) (e:=(f x).e) (o:=o) (t:=167) (t2:=167) (el:=171) (z:=7) (by simp[go_sem]) (by simp[go_sem]) (by simp[go_sem]) (by simp) (by simp[go_sem]) (by simp[go_sem]) (by simp[go_sem]) (by omega) hA (cr.E.len _) ?a1 ?a2]
   case a1=>simp[AD,Us,SV.cells]
   case a2=>
    intro j e;have:=(hA.lt j e).2;rw[AE _ _ (by omega),AE _ _ (by omega),AE _ _ (by omega)];exact FX j e
   simp[go_sem,w1,-Int.natCast_add,-List.map_map,-List.map_take];refine⟨k+1,by omega,some (m+1+1),⟨by omega,by omega,hpush⟩,⟨?_,IO⟩,?_⟩;rw[htk];simp[AW,IO];rw[htk];have:=EK (p:=m+1+1) (v:=.sl (m+1+1) 0 7 (es.length+1) false) (e:=(f x).e) ho (by omega) hA (H:=h_ (h_ (h_ (AV o es h) m (some (.cells [.int .i64 0,.i 0 [] true,.int .i64 0,.int .i64 0,.i 0 [] true,.i 0 [] true,.i 0 [] true]))) m (some (.cells x.e.cells))) (m+1) (some (.cells (f x).e.cells)))
    (AR ho (by omega) (AR ho (by omega) (AR ho (by omega) (AV.old ho hA))))
   simpa[Us,SV.cells,C5.app]using this
 have:k=l.length:=by omega
 subst this;simp only[qm,hR]at hA ⊢;simp[go_sem,-List.map_map,-List.map_take];exact .inl (Mo ho hA AC hnm (qa _))
theorem Pt(l:List AB)(hl:l.length<=1048576)(H:∀(i:Nat)(h:i<l.length),PC 175 [(l[i]).e] (l[i]).e):PC 110 [AK l] (AK l):=by
 intro h n;refine gq func110 rfl λa=>?_;simp[go_sem];have h1:=(jO l hl 175 [] [] id (λi hi=>H i hi)).pc (by rw[List.map_id];exact AB.E.size l) (λn=>by rw[List.map_id];exact AB.E.ca n l);rw[List.map_id]at h1;refine h1.use ?_;simp[go_sem];exact As a (AB.E.i _ _ _ _) rfl
theorem YE(x:cr)(b:x.H.D)(H:PC 110 [AK x.W] (AK x.W)):PC 249 [x.e] x.e:=by
 intro h n;refine gq func249 rfl λa=>?_;simp[go_sem,Us,AD,AE]
 repeat first|refine nq ?_|refine sq ?_|refine aq ?_
 refine Yg _ _ _ _ _ _ (by simpa[AF.e,AF.g]using So x.H b) ?_;simp[go_sem,AD,AE]
 repeat first|refine nq ?_|refine sq ?_|refine aq ?_
 refine Yg _ _ _ _ _ _ H ?_;simp[go_sem,AD]
 repeat first|refine nq ?_|refine sq ?_|refine aq ?_
 exact A3 a (by repeat(first|exact AC|refine AR a (by omega) ?_)) rfl (by rw[<-Us];exact cr.cl n x)
theorem YB(x:AP)(b:x.H.D)(hc:x.cells.length<=1048576)(H:∀(i:Nat)(h:i<x.cells.length),PC 249 [(x.cells[i]).e] (x.cells[i]).e):PC 176 [x.e] x.e:=by
 intro h n;refine gq func176 rfl λa=>?_;have h1:=(c7 x.cells hc 249 [] [] id (λi hi=>H i hi)).pc (by rw[List.map_id];exact cr.E.size _) (λn=>by rw[List.map_id];exact cr.E.ca n _);rw[List.map_id]at h1;simp[go_sem,Yw,AD,AE]
 repeat first|refine nq ?_|refine sq ?_|refine aq ?_
 refine Yg _ _ _ _ _ _ (by simpa[AF.e,AF.g]using So x.H b) ?_;simp[go_sem,AD,AE]
 repeat first|refine nq ?_|refine sq ?_|refine aq ?_
 refine Yg _ _ _ _ _ _ h1 ?_;simp[go_sem,AD]
 repeat first|refine nq ?_|refine sq ?_|refine aq ?_
 exact A3 a (by repeat(first|exact AC|refine AR a (by omega) ?_)) rfl (by rw[<-Yw];exact AP.cl n x)
theorem YA(x:AB)(d:x.H.D)(c:x.R.length<=1048576)(H:PC 110 [AK x.W] (AK x.W))(b:∀(i:Nat)(h:i<x.R.length),PC 176 [(x.R[i]).e] (x.R[i]).e):PC 175 [x.e] x.e:=by
 intro h n;refine gq func175 rfl λa=>?_;have h1:=(ct x.R c 176 [] [] id (λi hi=>b i hi)).pc (by rw[List.map_id];exact AP.E.size _) (λn=>by rw[List.map_id];exact AP.E.ca n _);rw[List.map_id]at h1;simp[go_sem,qw,AD,AE]
 repeat first|refine nq ?_|refine sq ?_|refine aq ?_
 refine Yg _ _ _ _ _ _ (by simpa[AF.e,AF.g]using So x.H d) ?_;simp[go_sem,AD,AE]
 repeat first|refine nq ?_|refine sq ?_|refine aq ?_
 refine Yg _ _ _ _ _ _ H ?_;simp[go_sem,AD,AE]
 repeat first|refine nq ?_|refine sq ?_|refine aq ?_
 refine Yg _ _ _ _ _ _ h1 ?_;simp[go_sem,AD,AE]
 repeat first|refine nq ?_|refine sq ?_|refine aq ?_
 exact A3 a (by repeat(first|exact AC|refine AR a (by omega) ?_)) rfl (by rw[<-qw];exact AB.cl n x)
mutual
theorem fM:∀x:AB,x.D->PC 175 [x.e] x.e
 | .mk k c i t hd f r,hs=>by
  rw[AB.D]at hs;exact YA (.mk k c i t hd f r) hs.2.1 hs.2.2.2.1 (Pt f hs.2.2.1 (T4 f hs.2.2.2.2.1)) (ZA r hs.2.2.2.2.2)
theorem T4:∀l:List AB,AB.G l->∀(i:Nat)(h:i<l.length),PC 175 [(l[i]).e] (l[i]).e
 | [],_,i,h=>by simp at h
 | x::l,hs,0,_=>by rw[AB.G]at hs;exact fM x hs.1
 | x::l,hs,i+1,h=>by rw[AB.G]at hs;exact T4 l hs.2 i (by simpa using h)
theorem fN:∀x:AP,x.D->PC 176 [x.e] x.e
 | .mk hd c,hs=>by
  rw[AP.D]at hs;exact YB (.mk hd c) hs.1 hs.2.1 (ZD c hs.2.2)
theorem ZA:∀l:List AP,AP.G l->∀(i:Nat)(h:i<l.length),PC 176 [(l[i]).e] (l[i]).e
 | [],_,i,h=>by simp at h
 | x::l,hs,0,_=>by rw[AP.G]at hs;exact fN x hs.1
 | x::l,hs,i+1,h=>by rw[AP.G]at hs;exact ZA l hs.2 i (by simpa using h)
theorem gD:∀x:cr,x.D->PC 249 [x.e] x.e
 | .mk i hd f,hs=>by
  rw[cr.D]at hs;exact YE (.mk i hd f) hs.1 (Pt f hs.2.1 (T4 f hs.2.2))
theorem ZD:∀l:List cr,cr.G l->∀(i:Nat)(h:i<l.length),PC 249 [(l[i]).e] (l[i]).e
 | [],_,i,h=>by simp at h
 | x::l,hs,0,_=>by rw[cr.G]at hs;exact gD x hs.1
 | x::l,hs,i+1,h=>by rw[cr.G]at hs;exact ZD l hs.2 i (by simpa using h)
end
theorem bP(l:List AB)(hl:l.length<=1048576)(a:AB.G l):PC 110 [AK l] (AK l):=Pt l hl (T4 l a)
def AB.units(x:AB):Int:=if x.k=1 then(if A5 x.x then Ar x.x x.x.size else 0)else 1
def AB.uerr(x:AB):Int:=if x.k=1 then(if A5 x.x then 0 else 12)else 0
theorem AB.units_le(x:AB)(h:x.x.size<=1048576):0<=x.units/\x.units<=1048576:=by
 unfold AB.units;have:=IB x.x x.x.size;split<;>(try split)<;>omega
theorem Zn(x:AB)(hs:x.x.size<=1048576):PC 111 [x.e] (.tup [AA x.units,AA x.uerr]):=by
 intro h n;refine gq func111 rfl λa=>?_;by_cases h1:x.k=1;simp[go_sem,qw,AD,h1];refine(ba x.x (by omega)).use ?_;simp[go_sem];exact A3 a (AR a (qa _) AC) (by simp[AB.units,AB.uerr,h1]) rfl;simp[go_sem,qw,AD,h1];exact A3 a (AR a (qa _) AC) (by simp[AB.units,AB.uerr,h1]) rfl
def BQ:List AB->Int
 | []=>0
 | x::l=>x.units+BQ l
def LK(l:List AB):Bool:=l.any λx=>decide (x.uerr≠0)
theorem GA:∀(a b:List AB),BQ (a++b)=BQ a+BQ b
 | [],b=>by simp[BQ]
 | x::a,b=>by simp[BQ,GA a b];omega
theorem Jh:∀(l:List AB),(∀x∈l,x.x.size<=1048576)->0<=BQ l/\BQ l<=l.length*1048576
 | [],_=>by simp[BQ]
 | x::l,h=>by
  have h1:=Jh l λy a=>h y (by simp[a]);have h2:=x.units_le (h x (by simp));simp only[BQ,qJ];omega
def BF(l:List AB):Int×Int:=if LK l then(0,12)else(BQ l,0)
theorem ay(l:List AB)(hl:l.length<=1048576)(j:∀x∈l,x.x.size<=1048576):PC 35 [AK l] (.tup [AA (BF l).1,AA (BF l).2]):=by
 intro h n;refine gq func35 rfl λg=>?_;simp[go_sem];refine Av 1 (α:=Nat) (λk=>[(4,AA (BQ (l.take k))),(9,AK l),(10,AA l.length),(11,AA k)]) (λ_=>h) (λk m=>k<=l.length/\n<=m/\LK (l.take k)=false) (λk=>l.length-k) 0 ?_ ?_ AC ?_;simp[LK];simp[Ao,BQ];rintro k m ⟨hk,hnm,f⟩;by_cases a:k<l.length
 . have w1:=wS k (by omega);obtain⟨x,i⟩:∃x,l[k]=x:=⟨_,rfl⟩
   have c:x∈l:=by rw[<-i];exact qi a
   have d:=j x c;have b:l.take (k+1)=l.take k++[x]:=by rw[qb a,i]
   have Me:=Jh (l.take k) λy o=>j y (qS o);have F8:=x.units_le d;have hlk:((l.take k).length:Int)<=1048576:=by simp;omega
   have w2:IntKind.i64.wrap (BQ (l.take k)+x.units)=BQ (l.take (k+1)):=by
    rw[DA,b,GA];simp[BQ];omega;have:((l.take k).length:Int)*1048576<=1048576*1048576:=by omega
    omega
   simp[go_sem,a,i,qw,AD];refine qz (by simpa[qw]using Zn x d) ?_;by_cases e:x.uerr=0
   . simp[go_sem,e,w1,w2,-Int.natCast_add];refine⟨k+1,by omega,⟨by omega,by omega,?_⟩,⟨IO,IO⟩,by repeat(first|exact AC|refine AR g (by omega) ?_)⟩;rw[b];simp only[LK,List.any_append]at f ⊢;rw[f];simp[e]
   . simp[go_sem,e];have:LK l=true:=by simp only[LK,vo];exact⟨x,c,by simpa using e⟩
     exact A3 g (by repeat(first|exact AC|refine AR g (by omega) ?_)) (by simp[BF,this]) rfl
 simp[go_sem,a];have:k=l.length:=by omega
 subst this;rw[qm]at f ⊢;exact As g rfl (by simp[BF,f])
def DL(l:List AB)(a b:Int):Int:=if(BF l).2=0 then if a<0\/b<a\/(BF l).1<b then 2 else 0 else(BF l).2
theorem gE(l:List AB)(a b:Int)(hl:l.length<=1048576)(e:∀x∈l,x.x.size<=1048576):PC 250 [AK l,AA a,AA b] (AA (DL l a b)):=by
 intro h n;refine gq func250 rfl λc=>?_;simp[go_sem];refine(ay l hl e).use ?_;by_cases h0:(BF l).2=0;by_cases h1:a<0;simp[go_sem,h0,h1];exact As c rfl (by simp[DL,h0,h1]);by_cases h2:b<a;simp[go_sem,h0,h1,h2];exact As c rfl (by simp[DL,h0,h2]);by_cases d:(BF l).1<b<;>simp[go_sem,h0,h1,h2,d]<;>exact As c rfl (by simp[DL,h0,h1,h2,d]);simp[go_sem,h0];exact As c rfl (by simp[DL,h0])
theorem cg:(Bt prog 193).map (λf=>(f.name == "_",f.type,f.offset))=[(false,3,0),(false,3,1)]:=by kernel_rfl
theorem ce:(Bt prog 166).map (λf=>(f.name == "_",f.type,f.offset))=[(false,3,0),(false,3,1)]:=by kernel_rfl
theorem cd:(Bt prog 164).map (λf=>(f.name == "_",f.type,f.offset))=[(false,3,0),(false,3,1),(false,3,2),(false,4,3)]:=by kernel_rfl
theorem cU(a b:Bi):CS prog [AA a.key,AA a.value] [AA b.key,AA b.value] (Bt prog 193)=some (decide (a=b)):=by
 rw[Ch,cg];cases a;cases b;rename_i a1 a2 b1 c;by_cases h1:a1=b1<;>by_cases h2:a2=c<;>simp[DG,DX,go_sem,h1,h2]
theorem cT(a b:Bs):CS prog [AA a.rev,AA a.move] [AA b.rev,AA b.move] (Bt prog 166)=some (decide (a=b)):=by
 rw[Ch,ce];cases a;cases b;rename_i a1 a2 b1 c;by_cases h1:a1=b1<;>by_cases h2:a2=c<;>simp[DG,DX,go_sem,h1,h2]
theorem cS(a b:AM):CS prog [AA a.rev,AA a.key,AA a.before,.bool a.had] [AA b.rev,AA b.key,AA b.before,.bool b.had] (Bt prog 164)=some (decide (a=b)):=by
 rw[Ch,cd];cases a;cases b;rename_i a1 a2 a3 a4 b1 c d e;by_cases h1:a1=b1<;>by_cases h2:a2=c<;>by_cases f:a3=d<;>by_cases g:a4=e<;>simp[DG,DX,go_sem,h1,h2,f,g]
theorem bS(a b:List Bi)(ha:a.length<=1048576)(hb:b.length<=1048576):PC 125 [.i 2 (a.map Bi.e) false,.i 2 (b.map Bi.e) false] (.bool (decide (a=b))):=by
 intro h n;refine gq func125 rfl λj=>?_;by_cases c:(a.length:Int)=b.length
 . have hlen':a.length=b.length:=by omega
   simp[go_sem,c];refine Av 1 (α:=Nat) (λk=>[(0,.i 2 (a.map Bi.e) false),(1,.i 2 (b.map Bi.e) false),(12,AA a.length),(13,AA k)]) (λ_=>h) (λk m=>k<=a.length/\n<=m/\a.take k=b.take k) (λk=>a.length-k) 0 ?_ ?_ AC ?_;simp;simp[Ao,c];rintro k m ⟨hk,i,g⟩;by_cases e:k<a.length
   . have w1:=wS k (by omega);have d:k<b.length:=by omega
     obtain⟨x,l⟩:∃x,a[k]=x:=⟨_,rfl⟩
     obtain⟨y,o⟩:∃y,b[k]=y:=⟨_,rfl⟩
     simp[go_sem,e,d,l,o,Bi.e]
     repeat first|refine nq ?_|refine sq ?_|refine aq ?_
     refine⟨_,Dx rfl (.inr rfl) (by kernel_rfl) (by kernel_rfl) (by kernel_rfl) rfl rfl (cU x y),?_⟩;simp[go_sem]
     repeat first|refine nq ?_|refine sq ?_|refine aq ?_
     by_cases f:x=y;simp[go_sem,f,w1,-Int.natCast_add];exact⟨k+1,by omega,⟨by omega,i,by rw[qb e,qb d,l,o,g,f]⟩,IO⟩;simp[go_sem,f];have:a≠b:=by rintro rfl;exact f (by rw[<-l,<-o])
     exact As j rfl (by simp[this])
   simp[go_sem,e];have:a=b:=by rw[qv (by omega),qv (by omega)]at g;exact g
   exact As j rfl (by simp[this])
 simp[go_sem,c];have:a≠b:=by rintro rfl;exact c rfl
 exact As j rfl (by simp[this])
theorem ew(a b:List Bs)(ha:a.length<=1048576)(hb:b.length<=1048576):PC 126 [.i 2 (a.map Bs.e) false,.i 2 (b.map Bs.e) false] (.bool (decide (a=b))):=by
 intro h n;refine gq func126 rfl λj=>?_;by_cases c:(a.length:Int)=b.length
 . have hlen':a.length=b.length:=by omega
   simp[go_sem,c];refine Av 1 (α:=Nat) (λk=>[(0,.i 2 (a.map Bs.e) false),(1,.i 2 (b.map Bs.e) false),(12,AA a.length),(13,AA k)]) (λ_=>h) (λk m=>k<=a.length/\n<=m/\a.take k=b.take k) (λk=>a.length-k) 0 ?_ ?_ AC ?_;simp;simp[Ao,c];rintro k m ⟨hk,i,g⟩;by_cases e:k<a.length
   . have w1:=wS k (by omega);have d:k<b.length:=by omega
     obtain⟨x,l⟩:∃x,a[k]=x:=⟨_,rfl⟩
     obtain⟨y,o⟩:∃y,b[k]=y:=⟨_,rfl⟩
     simp[go_sem,e,d,l,o,Bs.e]
     repeat first|refine nq ?_|refine sq ?_|refine aq ?_
     refine⟨_,Dx rfl (.inr rfl) (by kernel_rfl) (by kernel_rfl) (by kernel_rfl) rfl rfl (cT x y),?_⟩;simp[go_sem]
     repeat first|refine nq ?_|refine sq ?_|refine aq ?_
     by_cases f:x=y;simp[go_sem,f,w1,-Int.natCast_add];exact⟨k+1,by omega,⟨by omega,i,by rw[qb e,qb d,l,o,g,f]⟩,IO⟩;simp[go_sem,f];have:a≠b:=by rintro rfl;exact f (by rw[<-l,<-o])
     exact As j rfl (by simp[this])
   simp[go_sem,e];have:a=b:=by rw[qv (by omega),qv (by omega)]at g;exact g
   exact As j rfl (by simp[this])
 simp[go_sem,c];have:a≠b:=by rintro rfl;exact c rfl
 exact As j rfl (by simp[this])
theorem pj(a b:List AM)(ha:a.length<=1048576)(hb:b.length<=1048576):PC 127 [.i 4 (a.map AM.e) false,.i 4 (b.map AM.e) false] (.bool (decide (a=b))):=by
 intro h n;refine gq func127 rfl λj=>?_;by_cases c:(a.length:Int)=b.length
 . have hlen':a.length=b.length:=by omega
   simp[go_sem,c];refine Av 1 (α:=Nat) (λk=>[(0,.i 4 (a.map AM.e) false),(1,.i 4 (b.map AM.e) false),(12,AA a.length),(13,AA k)]) (λ_=>h) (λk m=>k<=a.length/\n<=m/\a.take k=b.take k) (λk=>a.length-k) 0 ?_ ?_ AC ?_;simp;simp[Ao,c];rintro k m ⟨hk,i,g⟩;by_cases e:k<a.length
   . have w1:=wS k (by omega);have d:k<b.length:=by omega
     obtain⟨x,l⟩:∃x,a[k]=x:=⟨_,rfl⟩
     obtain⟨y,o⟩:∃y,b[k]=y:=⟨_,rfl⟩
     simp[go_sem,e,d,l,o,AM.e]
     repeat first|refine nq ?_|refine sq ?_|refine aq ?_
     refine⟨_,Dx rfl (.inr rfl) (by kernel_rfl) (by kernel_rfl) (by kernel_rfl) rfl rfl (cS x y),?_⟩;simp[go_sem]
     repeat first|refine nq ?_|refine sq ?_|refine aq ?_
     by_cases f:x=y;simp[go_sem,f,w1,-Int.natCast_add];exact⟨k+1,by omega,⟨by omega,i,by rw[qb e,qb d,l,o,g,f]⟩,IO⟩;simp[go_sem,f];have:a≠b:=by rintro rfl;exact f (by rw[<-l,<-o])
     exact As j rfl (by simp[this])
   simp[go_sem,e];have:a=b:=by rw[qv (by omega),qv (by omega)]at g;exact g
   exact As j rfl (by simp[this])
 simp[go_sem,c];have:a≠b:=by rintro rfl;exact c rfl
 exact As j rfl (by simp[this])
theorem c58(a b:AF)(g:a.D)(hb:b.D):PC 58 [a.e,b.e] (.bool (decide (a=b))):=by
 intro h n;refine gq func58 rfl λc=>?_;have f:∀y z,∀o x,h o=some x->h_ (h_ h n y) (n+1) z o=some x:=λy z=>by repeat(first|exact AC|refine AR c (by omega) ?_)
 simp[go_sem,AF.e,AF.g,AD,AE];refine(bS _ _ g.Q hb.Q).use ?_;by_cases h1:a.Q=b.Q;by_cases h2:a.I=b.I;by_cases d:a.move=b.move;simp[go_sem,h1,h2,d,AD,AE];refine(ew _ _ g.Y hb.Y).use ?_;by_cases e:a.Y=b.Y;simp[go_sem,e,AD,AE];refine(pj _ _ g.Z hb.Z).use ?_;simp[go_sem];refine A3 c (f _ _) ?_ rfl;cases a;cases b;simp at h1 h2 d e;simp[h1,h2,d,e];simp[go_sem,e];refine A3 c (f _ _) ?_ rfl;have:a≠b:=by rintro rfl;exact e rfl
 simp[this];simp[go_sem,h1,h2,d,AD,AE];refine A3 c (f _ _) ?_ rfl;have:a≠b:=by rintro rfl;exact d rfl
 simp[this];simp[go_sem,h1,h2,AD,AE];refine A3 c (f _ _) ?_ rfl;have:a≠b:=by rintro rfl;exact h2 rfl
 simp[this];simp[go_sem,h1];refine A3 c (f _ _) ?_ rfl;have:a≠b:=by rintro rfl;exact h1 rfl
 simp[this]
end Go.Proofs.YtgakninlhfkkmaaGreat.Sh
