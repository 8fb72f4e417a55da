/- A part of the proof (part 4 of 17). -/
import Derived.Test.YtgakninlhfkkmaaGreatN3
import Derived.RangeFuncIn
import Derived.Laws.StructEq
namespace Go.Proofs.YtgakninlhfkkmaaGreat.Sh
abbrev QS:=@Wl.enc_eq
abbrev jK:=@Ar.nil
abbrev jw:=@Bs.pure
abbrev kU:=@Ak.fz
abbrev qQ:=@Aa.enc_eq
abbrev qw:=@PC.use
abbrev qx:=@AE.enc_eq
open Proofs
set_option maxRecDepth 10000
theorem V1 (a:Int):PC 170 [AA a] (.bool false):=by
 intro h n;refine gq Tryz.func170 rfl λb=>?_;simp[go_sem];exact As b rfl rfl
def Do (a b:Int):Int:=if a<b then -1 else if b<a then 1 else 0
theorem Rg (a b:Int):PC 100 [AA a,AA b] (AA (Do a b)):=by
 intro h n;refine gq Tryz.func100 rfl λd=>?_;simp[go_sem];refine(V1 _).use ?_;simp[go_sem];refine(V1 _).use ?_;by_cases c:a<b<;>by_cases h2:b<a<;>simp[go_sem,c,h2]
 all_goals exact As d rfl (by simp[Do,c,h2])
def BD (p:Nat->Bool) (n:Nat) (k:Nat):Int:=if _:k<n then if p k then k else BD p n (k+1)else -1
termination_by n-k
theorem EA (p:Nat->Bool) (n k:Nat):BD p n k = -1\/∃i,k<=i/\i<n/\BD p n k=i/\p i=true:=by
 rw[BD];by_cases h:k<n;by_cases hp:p k=true;exact .inr ⟨k,qa _,h,by simp[h,hp],hp⟩;have:=EA p n (k+1);simp only[h,dite_true,hp];rcases this with e|⟨i,h1,h2,h3,h4⟩
 exact .inl (by simpa using e);exact .inr ⟨i,by omega,h2,by simpa using h3,h4⟩;exact .inl (by simp[h])
termination_by n-k
theorem aA (l:List Int) (x:Int) (hl:l.length<=1048576):PC 178 [.imm 1 (l.map AA) false,AA x] (AA (BD (λi=>decide (l[i]? = some x)) l.length 0)):=by
 intro h n;refine gq Tryz.func178 rfl λd=>?_;simp[go_sem];refine An 1 (α:=Nat) (λk=>[(0,.imm 1 (l.map AA) false),(1,AA x),(7,AA l.length),(8,AA k)]) (λ_=>h) (λk m=>k<=l.length/\n<=m/\BD (λi=>decide (l[i]? = some x)) l.length 0=BD (λi=>decide (l[i]? = some x)) l.length k) (λk=>l.length-k) 0 ?_ ?_ AB ?_;simp;simp[Ai];rintro k m ⟨hk,c,b⟩;rw[BD.eq_def _ _ k]at b;by_cases a:k<l.length;have w1:=wS k (by omega);by_cases h0:x=l[k];simp[go_sem,a,h0];exact As d rfl (by rw[<-h0,b];simp[a,h0]);simp[go_sem,a,h0,w1,-Int.natCast_add];exact⟨k+1,by omega,⟨by omega,c,by rw[b];simp[a,Ne.symm h0]⟩,IO⟩;simp[go_sem,a];exact As d rfl (by rw[b];simp[a])
theorem QO (l:List Int) (x:Int):decide (0<=BD (λi=>decide (l[i]? = some x)) l.length 0)=decide (x∈l):=by
 have gen:∀k,k<=l.length->(0<=BD (λi=>decide (l[i]? = some x)) l.length k↔x∈l.drop k):=by
  intro k hk
  induction hd:l.length-k generalizing k with
  | zero=>
   have:k=l.length:=by omega
   subst this;rw[BD];simp
  | succ d ih=>
   have hlt:k<l.length:=by omega
   have hd:x∈l.drop k↔x=l[k]\/x∈l.drop (k+1):=by rw[qG hlt,qk]
   rw[BD,hd];by_cases e:l[k]=x;simp[hlt,e];have:=ih (k+1) (by omega) (by omega);simp[hlt,e,this,Ne.symm e]
 have:=gen 0 (qg _);simp only[kn]at this;simp[this]
theorem Vz (l:List Int) (x:Int) (hl:l.length<=1048576):PC 113 [.imm 1 (l.map AA) false,AA x] (.bool (decide (x∈l))):=by
 intro h n;refine gq Tryz.func113 rfl λa=>?_;simp[go_sem];refine(aA l x hl).use ?_;simp[go_sem];exact As a rfl (by rw[QO])
def Fd (c:Nat->Int) (i j:Nat):Nat:=if _:i<j then if c ((i+j) / 2)<0 then Fd c ((i+j) / 2+1) j else Fd c i ((i+j) / 2)else i
termination_by j-i
theorem iF (c:Nat->Int) (i j:Nat) (h:i<=j):i<=Fd c i j/\Fd c i j<=j:=by
 rw[Fd];split;split;have:=iF c ((i+j) / 2+1) j (by omega);omega;have:=iF c i ((i+j) / 2) (by omega);omega;omega
termination_by j-i
def BI (c:Nat->Int) (n:Nat):Nat×Bool:=(Fd c 0 n,decide (Fd c 0 n<n/\c (Fd c 0 n)=0))
theorem UL {x:Int} (h0:0<=x) (h1:x<=4611686018427387904):IntKind.u64.wrap x=x:=IntWalk.u64_in x (by omega)
structure Ir where
 number:Int
 group:Int
 low:Int
 high:Int
 standard:Int
 name:ByteArray
def Ir.enc (k:Ir):SV:=.agg [AA k.number,AA k.group,AA k.low,AA k.high,AA k.standard,.str k.name]
theorem aw (l:List Ir) (hl:l.length<=1048576) (t:SV) (g:FuncId) (a b:List SV) (c:Nat->Int) (hc:∀(i:Nat) (h:i<l.length),PC g (a++[Ir.enc l[i],t]++b) (AA (c i))):
 PC 306 [.imm 6 (l.map Ir.enc) false,t,.fn (.func g) a b] (.tup [AA (BI c l.length).1,.bool (BI c l.length).2]):=by
 intro h n;refine gq Tryz.func306 rfl λs=>?_;simp[go_sem];refine An 1 (α:=Nat×Nat) (λq=>[(0,.imm 6 (l.map Ir.enc) false),(1,t),(2,.fn (.func g) a b),(8,AA l.length),(9,AA q.1),(10,AA q.2)]) (λ_=>h) (λq m=>q.1<=q.2/\q.2<=l.length/\n<=m/\Fd c 0 l.length=Fd c q.1 q.2) (λq=>q.2-q.1) (0,l.length) ?_ ?_ AB ?_;simp;simp[Ai];rintro⟨i,j⟩ m ⟨o,p,k,f⟩;dsimp only at o p f;by_cases d:i<j;have r:(i+j) / 2<l.length:=by omega
 have w1:IntKind.i64.wrap ((i:Int)+j)=((i+j:Nat):Int):=by rw[Cl]<;>omega
 have w2:IntKind.u64.wrap ((i+j:Nat):Int)=((i+j:Nat):Int):=by rw[UL]<;>omega
 have w3:(((i+j:Nat):Int)).fdiv 2=(((i+j) / 2:Nat):Int):=by rw[Int.fdiv_eq_ediv_of_nonneg _ (by omega)];omega
 have u:IntKind.i64.wrap (((i+j) / 2:Nat):Int)=(((i+j) / 2:Nat):Int):=by rw[Cl]<;>omega
 have v:IntKind.i64.wrap ((((i+j) / 2:Nat):Int)+1)=(((i+j) / 2+1:Nat):Int):=by rw[Cl]<;>omega
 have H:=hc _ r;simp only[qn,qz,qE]at H;rw[Fd.eq_def c i j]at f;simp[go_sem,d,w1,w2,w3,u,r,Ir.enc,-Int.natCast_add,-Int.natCast_ediv];refine qw (by simpa[Ir.enc]using H) ?_;by_cases hb:c ((i+j) / 2)<0;simp[d,hb]at f;simp[go_sem,hb,v,-Int.natCast_add,-Int.natCast_ediv];exact⟨(i+j) / 2+1,j,by omega,⟨by omega,p,k,f⟩,IO,IO⟩;simp[d,hb]at f;simp[go_sem,hb,-Int.natCast_add,-Int.natCast_ediv];exact⟨i,(i+j) / 2,by omega,⟨by omega,by omega,k,f⟩,IO,IO⟩;have e:Fd c 0 l.length=i:=by rw[f,Fd.eq_def];simp[d]
 by_cases hi:i<l.length;have H:=hc i hi;simp only[qn,qz,qE]at H;simp[go_sem,d,hi,Ir.enc];refine qw (by simpa[Ir.enc]using H) ?_;simp[go_sem];exact As s rfl (by simp[BI,e,hi];by_cases h0:c i=0<;>simp[h0]);simp[go_sem,d,hi];exact As s rfl (by simp[BI,e,hi])
theorem Zv (l:List Ax) (hl:l.length<=1048576) (t:SV) (g:FuncId) (a b:List SV) (c:Nat->Int) (hc:∀(i:Nat) (h:i<l.length),PC g (a++[Ax.enc l[i],t]++b) (AA (c i))):
 PC 131 [.imm 3 (l.map Ax.enc) false,t,.fn (.func g) a b] (.tup [AA (BI c l.length).1,.bool (BI c l.length).2]):=by
 intro h n;refine gq Tryz.func131 rfl λs=>?_;simp[go_sem];refine An 1 (α:=Nat×Nat) (λq=>[(0,.imm 3 (l.map Ax.enc) false),(1,t),(2,.fn (.func g) a b),(8,AA l.length),(9,AA q.1),(10,AA q.2)]) (λ_=>h) (λq m=>q.1<=q.2/\q.2<=l.length/\n<=m/\Fd c 0 l.length=Fd c q.1 q.2) (λq=>q.2-q.1) (0,l.length) ?_ ?_ AB ?_;simp;simp[Ai];rintro⟨i,j⟩ m ⟨o,p,k,f⟩;dsimp only at o p f;by_cases d:i<j;have r:(i+j) / 2<l.length:=by omega
 have w1:IntKind.i64.wrap ((i:Int)+j)=((i+j:Nat):Int):=by rw[Cl]<;>omega
 have w2:IntKind.u64.wrap ((i+j:Nat):Int)=((i+j:Nat):Int):=by rw[UL]<;>omega
 have w3:(((i+j:Nat):Int)).fdiv 2=(((i+j) / 2:Nat):Int):=by rw[Int.fdiv_eq_ediv_of_nonneg _ (by omega)];omega
 have u:IntKind.i64.wrap (((i+j) / 2:Nat):Int)=(((i+j) / 2:Nat):Int):=by rw[Cl]<;>omega
 have v:IntKind.i64.wrap ((((i+j) / 2:Nat):Int)+1)=(((i+j) / 2+1:Nat):Int):=by rw[Cl]<;>omega
 have H:=hc _ r;simp only[qn,qz,qE]at H;rw[Fd.eq_def c i j]at f;simp[go_sem,d,w1,w2,w3,u,r,Ax.enc,-Int.natCast_add,-Int.natCast_ediv];refine qw (by simpa[Ax.enc]using H) ?_;by_cases hb:c ((i+j) / 2)<0;simp[d,hb]at f;simp[go_sem,hb,v,-Int.natCast_add,-Int.natCast_ediv];exact⟨(i+j) / 2+1,j,by omega,⟨by omega,p,k,f⟩,IO,IO⟩;simp[d,hb]at f;simp[go_sem,hb,-Int.natCast_add,-Int.natCast_ediv];exact⟨i,(i+j) / 2,by omega,⟨by omega,by omega,k,f⟩,IO,IO⟩;have e:Fd c 0 l.length=i:=by rw[f,Fd.eq_def];simp[d]
 by_cases hi:i<l.length;have H:=hc i hi;simp only[qn,qz,qE]at H;simp[go_sem,d,hi,Ax.enc];refine qw (by simpa[Ax.enc]using H) ?_;simp[go_sem];exact As s rfl (by simp[BI,e,hi];by_cases h0:c i=0<;>simp[h0]);simp[go_sem,d,hi];exact As s rfl (by simp[BI,e,hi])
set_option maxRecDepth 100000
def Br:List Ir:=[
 ⟨1,1,0,1073741824,0,⟨#[99,104,97,114,97,99,116,101,114,45,115,116,121,108,101]⟩⟩,
 ⟨2,1,0,1,0,⟨#[98,111,108,100]⟩⟩,
 ⟨3,1,0,1,0,⟨#[105,116,97,108,105,99]⟩⟩,
 ⟨4,1,0,3,0,⟨#[117,110,100,101,114,108,105,110,101]⟩⟩,
 ⟨5,1,2,1638,22,⟨#[115,105,122,101]⟩⟩,
 ⟨6,1,0,16777215,0,⟨#[99,111,108,111,114]⟩⟩,
 ⟨7,1,0,63,0,⟨#[102,111,110,116]⟩⟩,
 ⟨8,1,0,255,0,⟨#[108,97,110,103,117,97,103,101]⟩⟩,
 ⟨9,1,(-400),400,0,⟨#[114,97,105,115,101]⟩⟩,
 ⟨10,1,0,1,0,⟨#[104,105,100,100,101,110]⟩⟩,
 ⟨20,2,0,1073741824,0,⟨#[112,97,114,97,103,114,97,112,104,45,115,116,121,108,101]⟩⟩,
 ⟨21,2,0,3,0,⟨#[97,108,105,103,110]⟩⟩,
 ⟨22,2,(-31680),31680,0,⟨#[108,101,102,116]⟩⟩,
 ⟨23,2,(-31680),31680,0,⟨#[114,105,103,104,116]⟩⟩,
 ⟨24,2,(-31680),31680,0,⟨#[102,105,114,115,116]⟩⟩,
 ⟨25,2,0,31680,0,⟨#[98,101,102,111,114,101]⟩⟩,
 ⟨26,2,0,31680,0,⟨#[97,102,116,101,114]⟩⟩,
 ⟨27,2,0,31680,0,⟨#[108,101,97,100,105,110,103]⟩⟩,
 ⟨28,2,0,1,0,⟨#[107,101,101,112,45,110,101,120,116]⟩⟩,
 ⟨29,2,0,1,0,⟨#[107,101,101,112,45,108,105,110,101,115]⟩⟩,
 ⟨30,2,0,1,1,⟨#[119,105,100,111,119]⟩⟩,
 ⟨31,2,0,1,0,⟨#[112,97,103,101,45,98,101,102,111,114,101]⟩⟩,
 ⟨32,2,0,9,0,⟨#[111,117,116,108,105,110,101]⟩⟩,
 ⟨33,2,0,1073741824,0,⟨#[108,105,115,116]⟩⟩,
 ⟨34,2,1,9,1,⟨#[108,101,118,101,108]⟩⟩,
 ⟨35,2,0,32767,0,⟨#[114,101,115,116,97,114,116]⟩⟩,
 ⟨36,2,1,31680,720,⟨#[116,97,98,45,115,116,111,112]⟩⟩,
 ⟨37,2,0,1,0,⟨#[104,121,112,104,101,110,97,116,101]⟩⟩,
 ⟨40,3,720,31680,12240,⟨#[112,97,103,101,45,119,105,100,116,104]⟩⟩,
 ⟨41,3,720,31680,15840,⟨#[112,97,103,101,45,104,101,105,103,104,116]⟩⟩,
 ⟨42,3,0,31680,1440,⟨#[116,111,112]⟩⟩,
 ⟨43,3,0,31680,1440,⟨#[98,111,116,116,111,109]⟩⟩,
 ⟨44,3,0,31680,1440,⟨#[105,110,110,101,114]⟩⟩,
 ⟨45,3,0,31680,1440,⟨#[111,117,116,101,114]⟩⟩,
 ⟨46,3,0,32767,0,⟨#[102,105,114,115,116,45,112,97,103,101]⟩⟩,
 ⟨47,3,1,6,1,⟨#[112,97,103,101,45,102,111,114,109,97,116]⟩⟩,
 ⟨50,4,0,1,0,⟨#[104,101,97,100,101,114]⟩⟩,
 ⟨51,4,0,1,0,⟨#[99,97,110,116,45,115,112,108,105,116]⟩⟩,
 ⟨52,4,0,31680,0,⟨#[114,111,119,45,104,101,105,103,104,116]⟩⟩,
 ⟨60,5,1,32,1,⟨#[99,111,108,117,109,110,45,115,112,97,110]⟩⟩,
 ⟨61,5,0,2,0,⟨#[118,101,114,116,105,99,97,108,45,109,101,114,103,101]⟩⟩,
 ⟨62,5,0,31680,0,⟨#[99,101,108,108,45,119,105,100,116,104]⟩⟩,
 ⟨63,5,0,16777215,16777215,⟨#[115,104,97,100,101]⟩⟩,
 ⟨70,6,0,31680,0,⟨#[116,97,98,108,101,45,119,105,100,116,104]⟩⟩,
 ⟨71,6,0,2,0,⟨#[116,97,98,108,101,45,97,108,105,103,110]⟩⟩]
def H0:List SV:=Br.flatMap λk=>k.enc.cells
theorem Wn (Q:Exit->SV->Hp->Nat->Prop) (h:Hp) (n:Nat):swp Tryz.prog 47 (Tryz.f305.body.getD .ret) (λe sa h n=>Q e (Ai sa 0) h n) [] h n=Q .ret (.sl n 0 6 45 true) (hset h n (some (.cells H0))) (n+1):=by kernel_rfl
theorem av:PC 305 [] (.imm 6 (Br.map Ir.enc) false):=by
 intro h n;refine gq Tryz.func305 rfl λc=>?_;rw[Eg];have e:=Wn (λe v h' n'=>(e=.normal\/e=.ret)/\∃rs,some [v]=some rs/\B8 n h' n' (Jh rs) (Is (.imm 6 (Br.map Ir.enc) false) h n)) h n;refine cast e.symm ⟨.inr rfl,_,rfl,?_⟩;refine Dy 1 c (AQ c (qa _) AB) (.inr ⟨c.none (qa _),by simp,by kernel_rfl,rfl,H0,H0,AC _ _ _,by kernel_rfl,?_,?_⟩) ?_;intro x b;simp only[qy]at b;obtain⟨k,_,rfl⟩:=b;exact⟨rfl,rfl⟩;have all:∀l:List SV,AZ (Fz (hset h n (some (.cells H0))) h 0) l l:=by
  intro l;induction l with
  | nil=>trivial
  | cons a l ih=>exact⟨IO,ih⟩
 have e:(Br.map Ir.enc).flatMap SV.cells=H0:=by kernel_rfl
 rw[e];exact all _;rw[closed];refine BU.2 λx b=>?_;simp only[qy]at b;obtain⟨k,_,rfl⟩:=b;rfl
end Go.Proofs.YtgakninlhfkkmaaGreat.Sh
namespace Go.Proofs.YtgakninlhfkkmaaGreat.Sh
open Proofs
set_option maxRecDepth 100000
theorem ay (k:Ir) (t:Int):PC 307 [k.enc,AA t] (AA (Do k.number t)):=by
 intro h n;refine gq Tryz.func307 rfl λa=>?_;simp[go_sem,Ir.enc,AC];refine(Rg _ _).use ?_;simp[go_sem];exact Ay a (AQ a (qa _) AB) rfl rfl
def HX (t:Int) (i:Nat):Int:=match Br[i]? with|some k=>Do k.number t|none=>0
def EQ (t:Int):Option Ir:=if(BI (HX t) Br.length).2 then Br[(BI (HX t) Br.length).1]? else none
def Ir.zero:Ir:=⟨0,0,0,0,0,⟨#[]⟩⟩
theorem MQ:Br.length=45:=by kernel_rfl
theorem Xj (t:Int):PC 273 [AA t] (.tup [((EQ t).getD Ir.zero).enc,.bool (EQ t).isSome]):=by
 intro h n;refine gq Tryz.func273 rfl λb=>?_;simp[go_sem];refine av.use ?_;simp[go_sem];refine(aw Br (by rw[MQ];omega) (AA t) 307 [] [] (HX t) (λi hi=>by simpa[HX,hi]using ay Br[i] t)).use ?_;by_cases hb:(BI (HX t) Br.length).2=true;have hi:(BI (HX t) Br.length).1<Br.length:=by
  simp only[BI,decide_eq_true_eq]at hb;exact hb.1
 have a:EQ t=some Br[(BI (HX t) Br.length).1]:=by simp[EQ,hb,hi]
 generalize d:Br[(BI (HX t) Br.length).1]=k at a;have c:(Br.map Ir.enc)[(BI (HX t) Br.length).1]? = some k.enc:=by rw[<-d];simp[hi]
 simp only[qO]at c;simp[go_sem,hb,c,Ir.enc,AC];refine Ay b (λo y e=>?_) (by simp[a]) rfl;have:=(b o y e).1;have ne:o≠n:=by omega
 simp[hset,ne,e];have a:EQ t=none:=by simp[EQ,hb]
 simp[go_sem,hb,AC];refine Ay b (λo y e=>?_) (by simp[a,Ir.zero,Ir.enc];rfl) rfl;have:=(b o y e).1;have ne:o≠n:=by omega
 simp[hset,ne,e]
def CD (e:Int):List Int:=
 if e=1\/e=4\/e=5\/e=6 then[1]else if e=2 then[1,2]else if e=3 then[3]else if e=7 then[6]else if e=9 then[4]else if e=10 then[5]else[]
theorem ai (e:Int):PC 274 [AA e] (.imm 1 ((CD e).map AA) false):=by
 intro h n;refine gq Tryz.func274 rfl λd=>?_;have fin:∀(g:List Int) (m:Nat),n<=m->B8 n (hset h m (some (.cells (g.map AA)))) (m+1) (.sl m 0 1 g.length true) (Is (.imm 1 (g.map AA) false) h n):=λg m s=>by
  refine Dy 1 d (AQ d s AB) (.inr ⟨d.none s,by simp,by simp,rfl,_,_,AC _ _ _,by simp[Bg];rfl,?_,?_⟩) ?_;intro x c;simp at c;obtain⟨_,_,rfl⟩:=c;exact⟨rfl,rfl⟩;have e:(g.map AA).flatMap SV.cells=g.map AA:=by induction g with|nil=>rfl|cons a l ih=>simpa[SV.cells]using ih
  rw[e];have all:∀l:List SV,AZ (Fz (hset h m (some (.cells (g.map AA)))) h 0) l l:=by
   intro l;induction l with
   | nil=>trivial
   | cons a l ih=>exact⟨IO,ih⟩
  rw[qB (by simp)];exact all _;rw[closed];refine BU.2 λx c=>?_;simp only[qy]at c;obtain⟨k,_,rfl⟩:=c;rfl
 by_cases f:e=1;subst f;simp[go_sem,CD];exact fin [1] n (qa _);by_cases j:e=4;subst j;simp[go_sem,CD];exact fin [1] n (qa _);by_cases o:e=5;subst o;simp[go_sem,CD];exact fin [1] n (qa _);by_cases p:e=6;subst p;simp[go_sem,CD];exact fin [1] n (qa _);by_cases h2:e=2;subst h2;simp[go_sem,CD];exact fin [1,2] n (qa _);by_cases i:e=3;subst i;simp[go_sem,CD];exact fin [3] n (qa _);by_cases q:e=7;subst q;simp[go_sem,CD];exact fin [6] n (qa _);by_cases r:e=9;subst r;simp[go_sem,CD];exact fin [4] n (qa _);by_cases b:e=10;subst b;simp[go_sem,CD];exact fin [5] n (qa _);simp[go_sem,CD,f,h2,i,j,o,p,q,r,b];exact Dy 1 d AB (.inr ⟨by simp,.inl rfl,trivial,by simp⟩) rfl
def Ro (el key:Int):Bool:=match EQ key with|some k=>decide (k.group∈CD el)|none=>false
theorem Lv (e:Int):(CD e).length<=1048576:=by unfold CD;(repeat' split)<;>simp
theorem Xg (el key:Int):PC 220 [AA el,AA key] (.bool (Ro el key)):=by
 intro h n;refine gq Tryz.func220 rfl λa=>?_;simp[go_sem];refine(Xj key).use ?_;cases b:EQ key with
 | none=>
  simp[go_sem,Ir.zero,Ir.enc,AC]
  repeat first|refine nq ?_|refine sq ?_
  refine Ay a (λo y e=>?_) (by simp[Ro,b]) rfl;have:=(a o y e).1;have ne:o≠n:=by omega
  simp[hset,ne,e]
 | some k=>
  simp[go_sem,Ir.enc,AC]
  repeat first|refine nq ?_|refine sq ?_
  refine jw _ _ _ _ _ _ (ai el) ?_;simp[go_sem,AC]
  repeat first|refine nq ?_|refine sq ?_
  refine jw _ _ _ _ _ _ (Vz (CD el) k.group (Lv el)) ?_;simp[go_sem]
  repeat first|refine nq ?_|refine sq ?_
  refine Ay a (λo y e=>?_) (by simp[Ro,b]) rfl;have:=(a o y e).1;have ne:o≠n:=by omega
  simp[hset,ne,e]
def EW (key v:Int):Int:=match EQ key with|some k=>if v<k.low\/k.high<v then 5 else 0|none=>4
theorem V6 (key v:Int):PC 221 [AA key,AA v] (AA (EW key v)):=by
 intro h n;refine gq Tryz.func221 rfl λc=>?_;simp[go_sem];refine(Xj key).use ?_;have g:∀a b:Option BT,∀o x,h o=some x->hset (hset h n a) n b o=some x:=λa b o y e=>by
  have:=(c o y e).1;have ne:o≠n:=by omega
  simp[hset,ne,e]
 cases f:EQ key with
 | none=>
  simp[go_sem,Ir.zero,Ir.enc,AC];exact Ay c (g _ _) (by simp[EW,f]) rfl
 | some k=>
  by_cases d:v<k.low<;>by_cases h2:k.high<v<;>simp[go_sem,Ir.enc,AC,d,h2]
  all_goals exact Ay c (g _ _) (by simp[EW,f,d,h2]) rfl
def Dj (el:Int) (l:List Er) (i:Nat):Int:=match l[i]? with
 | some p=>if !Ro el p.key then 4 else if decide (0<i)&&((l[i-1]?).map Er.key==some p.key)then 7
  else if decide (0<i)&&(match l[i-1]? with|some q=>decide (p.key<q.key)|none=>false)then 6 else EW p.key p.value
 | none=>0
def GH (el:Int) (l:List Er):Int:=if el<1\/10<el then 3 else FK (Dj el l) l.length
theorem XZ (el:Int) (l:List Er) (hl:l.length<=1048576):PC 156 [AA el,Af l] (AA (GH el l)):=by
 intro h n;refine gq Tryz.func156 rfl λg=>?_;by_cases t:el<1;simp[go_sem,t];exact As g rfl (by simp[GH,t]);by_cases w:10<el;simp[go_sem,t,w];exact As g rfl (by simp[GH,w]);have D:GH el l=FK (Dj el l) l.length:=by simp[GH,t,w]
 rw[D];simp[go_sem,t,w];refine An 1 (α:=Nat) (λk=>[(0,AA el),(1,Af l),(14,Af l),(15,AA l.length),(16,AA k)]) (λ_=>h) (λk m=>k<=l.length/\n<=m/\FK (Dj el l) k=0) (λk=>l.length-k) 0 ?_ ?_ AB ?_;simp[FK];simp[Ai];rintro k m ⟨hk,hnm,A⟩;have r:∀a b:Option BT,∀o x,h o=some x->hset (hset h m a) m b o=some x:=λa b o y e=>by
  have:=(g o y e).1;have ne:o≠m:=by omega
  simp[hset,ne,e]
 by_cases f:k<l.length
 . have w1:=wS k (by omega);obtain⟨p,hp⟩:∃p,l[k]? = some p:=⟨l[k],by simp[f]⟩
   have hp':l[k]=p:=by simpa[f]using hp
   have v:∀e,Dj el l k=e->e≠0->FK (Dj el l) l.length=e:=λe C h2=>by rw[Ix _ f A (by rw[C];exact h2),C]
   simp[go_sem,f,hp',Er.enc,AC];refine(Xg _ _).use ?_;by_cases c:Ro el p.key=true
   . by_cases h0:0<k
     . obtain⟨q,s⟩:∃q,l[k-1]? = some q:=⟨l[k-1],by simp[show k-1<l.length by omega]⟩
       have w2:IntKind.i64.wrap ((k:Int)-1)=((k-1:Nat):Int):=by rw[Cl]<;>omega
       have B:(l.map Er.enc)[k-1]? = some q.enc:=by simp[s]
       simp only[qO]at B;by_cases j:p.key=q.key
       . have d:Ro el q.key=true:=by rw[<-j];exact c
         simp[go_sem,d,h0,w2,s,Er.enc,AC,j]
         repeat first|refine nq ?_|refine sq ?_
         exact Ay g (r _ _) (by rw[v 7 (by simp[Dj,hp,d,h0,s,j]) (by simp)]) rfl
       . by_cases z:p.key<q.key
         . simp[go_sem,c,h0,w2,s,Er.enc,AC,j,z]
           repeat first|refine nq ?_|refine sq ?_
           exact Ay g (r _ _) (by rw[v 6 (by simp[Dj,hp,c,h0,s,z,Ne.symm j]) (by simp)]) rfl
         . simp[go_sem,c,h0,w2,s,Er.enc,AC,j,z]
           repeat first|refine nq ?_|refine sq ?_
           refine(V6 _ _).use ?_;have u:Dj el l k=EW p.key p.value:=by simp[Dj,hp,c,h0,s,z,Ne.symm j]
           by_cases i:EW p.key p.value=0;simp[go_sem,i,w1,-Int.natCast_add];exact⟨k+1,by omega,⟨by omega,by omega,by simp[FK,A,u,i]⟩,IO,r _ _⟩;simp[go_sem,i];exact Ay g (r _ _) (by rw[v _ u i]) rfl
     . simp[go_sem,c,h0,AC]
       repeat first|refine nq ?_|refine sq ?_
       refine(V6 _ _).use ?_;have u:Dj el l k=EW p.key p.value:=by simp[Dj,hp,c,h0]
       by_cases i:EW p.key p.value=0;simp[go_sem,i,w1,-Int.natCast_add];exact⟨k+1,by omega,⟨by omega,by omega,by simp[FK,A,u,i]⟩,IO,r _ _⟩;simp[go_sem,i];exact Ay g (r _ _) (by rw[v _ u i]) rfl
   simp[go_sem,c];exact Ay g (r _ _) (by rw[v 4 (by simp[Dj,hp,c]) (by simp)]) rfl
 simp[go_sem,f];have:k=l.length:=by omega
 subst this;exact As g rfl (by rw[A])
end Go.Proofs.YtgakninlhfkkmaaGreat.Sh
namespace Go.Proofs.YtgakninlhfkkmaaGreat.Sh
open Proofs
set_option maxRecDepth 10000
def Rc (p:Nat->Bool) (n:Nat):Bool:=decide (0<=BD p n 0)
structure B7 where
 literal:ByteArray
 level:Int
 plain:Bool
def B7.enc (p:B7):SV:=.agg [.str p.literal,AA p.level,.bool p.plain]
abbrev Io:Int->SV:=.int .u8
theorem Xk (l:List A6) (hl:l.length<=1048576) (g:FuncId) (a b:List SV) (p:Nat->Bool) (hp:∀(i:Nat) (h:i<l.length),PC g (a++[A6.enc l[i]]++b) (.bool (p i))):
 PC 299 [.imm 6 (l.map A6.enc) false,.fn (.func g) a b] (AA (BD p l.length 0)):=by
 intro h n;refine gq Tryz.func299 rfl λf=>?_;simp[go_sem];refine An 1 (α:=Nat) (λk=>[(0,.imm 6 (l.map A6.enc) false),(1,.fn (.func g) a b),(7,AA l.length),(8,AA k)]) (λ_=>h) (λk m=>k<=l.length/\n<=m/\BD p l.length 0=BD p l.length k) (λk=>l.length-k) 0 ?_ ?_ AB ?_;simp;simp[Ai];rintro k m ⟨hk,e,d⟩;rw[BD.eq_def _ _ k]at d;by_cases c:k<l.length;have w1:=wS k (by omega);have H:=hp k c;simp only[qn,qz,qE]at H;simp[go_sem,c,A6.enc];refine qw (by simpa[A6.enc]using H) ?_;by_cases h0:p k=true;simp[go_sem,h0];exact As f rfl (by rw[d];simp[c,h0]);simp[go_sem,h0,w1,-Int.natCast_add];exact⟨k+1,by omega,⟨by omega,e,by rw[d];simp[c,h0]⟩,IO⟩;simp[go_sem,c];exact As f rfl (by rw[d];simp[c])
theorem ah (l:List Au) (hl:l.length<=1048576) (g:FuncId) (a b:List SV) (p:Nat->Bool) (hp:∀(i:Nat) (h:i<l.length),PC g (a++[Au.enc l[i]]++b) (.bool (p i))):
 PC 272 [.imm 6 (l.map Au.enc) false,.fn (.func g) a b] (AA (BD p l.length 0)):=by
 intro h n;refine gq Tryz.func272 rfl λf=>?_;simp[go_sem];refine An 1 (α:=Nat) (λk=>[(0,.imm 6 (l.map Au.enc) false),(1,.fn (.func g) a b),(7,AA l.length),(8,AA k)]) (λ_=>h) (λk m=>k<=l.length/\n<=m/\BD p l.length 0=BD p l.length k) (λk=>l.length-k) 0 ?_ ?_ AB ?_;simp;simp[Ai];rintro k m ⟨hk,e,d⟩;rw[BD.eq_def _ _ k]at d;by_cases c:k<l.length;have w1:=wS k (by omega);have H:=hp k c;simp only[qn,qz,qE]at H;simp[go_sem,c,Au.enc];refine qw (by simpa[Au.enc]using H) ?_;by_cases h0:p k=true;simp[go_sem,h0];exact As f rfl (by rw[d];simp[c,h0]);simp[go_sem,h0,w1,-Int.natCast_add];exact⟨k+1,by omega,⟨by omega,e,by rw[d];simp[c,h0]⟩,IO⟩;simp[go_sem,c];exact As f rfl (by rw[d];simp[c])
theorem XW (l:List Ax) (hl:l.length<=1048576) (g:FuncId) (a b:List SV) (p:Nat->Bool) (hp:∀(i:Nat) (h:i<l.length),PC g (a++[Ax.enc l[i]]++b) (.bool (p i))):
 PC 141 [.imm 3 (l.map Ax.enc) false,.fn (.func g) a b] (AA (BD p l.length 0)):=by
 intro h n;refine gq Tryz.func141 rfl λf=>?_;simp[go_sem];refine An 1 (α:=Nat) (λk=>[(0,.imm 3 (l.map Ax.enc) false),(1,.fn (.func g) a b),(7,AA l.length),(8,AA k)]) (λ_=>h) (λk m=>k<=l.length/\n<=m/\BD p l.length 0=BD p l.length k) (λk=>l.length-k) 0 ?_ ?_ AB ?_;simp;simp[Ai];rintro k m ⟨hk,e,d⟩;rw[BD.eq_def _ _ k]at d;by_cases c:k<l.length;have w1:=wS k (by omega);have H:=hp k c;simp only[qn,qz,qE]at H;simp[go_sem,c,Ax.enc];refine qw (by simpa[Ax.enc]using H) ?_;by_cases h0:p k=true;simp[go_sem,h0];exact As f rfl (by rw[d];simp[c,h0]);simp[go_sem,h0,w1,-Int.natCast_add];exact⟨k+1,by omega,⟨by omega,e,by rw[d];simp[c,h0]⟩,IO⟩;simp[go_sem,c];exact As f rfl (by rw[d];simp[c])
theorem Xe (l:List Aa) (hl:l.length<=1048576) (g:FuncId) (a b:List SV) (p:Nat->Bool) (hp:∀(i:Nat) (h:i<l.length),PC g (a++[Aa.enc l[i]]++b) (.bool (p i))):
 PC 193 [.imm 6 (l.map Aa.enc) false,.fn (.func g) a b] (AA (BD p l.length 0)):=by
 intro h n;refine gq Tryz.func193 rfl λf=>?_;simp[go_sem];refine An 1 (α:=Nat) (λk=>[(0,.imm 6 (l.map Aa.enc) false),(1,.fn (.func g) a b),(7,AA l.length),(8,AA k)]) (λ_=>h) (λk m=>k<=l.length/\n<=m/\BD p l.length 0=BD p l.length k) (λk=>l.length-k) 0 ?_ ?_ AB ?_;simp;simp[Ai];rintro k m ⟨hk,e,d⟩;rw[BD.eq_def _ _ k]at d;by_cases c:k<l.length;have w1:=wS k (by omega);have H:=hp k c;simp only[qn,qz,qE]at H;simp[go_sem,c,qQ];refine qw (by simpa[qQ]using H) ?_;by_cases h0:p k=true;simp[go_sem,h0];exact As f rfl (by rw[d];simp[c,h0]);simp[go_sem,h0,w1,-Int.natCast_add];exact⟨k+1,by omega,⟨by omega,e,by rw[d];simp[c,h0]⟩,IO⟩;simp[go_sem,c];exact As f rfl (by rw[d];simp[c])
theorem bD (l:List B7) (hl:l.length<=1048576) (g:FuncId) (a b:List SV) (p:Nat->Bool) (hp:∀(i:Nat) (h:i<l.length),PC g (a++[B7.enc l[i]]++b) (.bool (p i))):
 PC 321 [.imm 3 (l.map B7.enc) false,.fn (.func g) a b] (AA (BD p l.length 0)):=by
 intro h n;refine gq Tryz.func321 rfl λf=>?_;simp[go_sem];refine An 1 (α:=Nat) (λk=>[(0,.imm 3 (l.map B7.enc) false),(1,.fn (.func g) a b),(7,AA l.length),(8,AA k)]) (λ_=>h) (λk m=>k<=l.length/\n<=m/\BD p l.length 0=BD p l.length k) (λk=>l.length-k) 0 ?_ ?_ AB ?_;simp;simp[Ai];rintro k m ⟨hk,e,d⟩;rw[BD.eq_def _ _ k]at d;by_cases c:k<l.length;have w1:=wS k (by omega);have H:=hp k c;simp only[qn,qz,qE]at H;simp[go_sem,c,B7.enc];refine qw (by simpa[B7.enc]using H) ?_;by_cases h0:p k=true;simp[go_sem,h0];exact As f rfl (by rw[d];simp[c,h0]);simp[go_sem,h0,w1,-Int.natCast_add];exact⟨k+1,by omega,⟨by omega,e,by rw[d];simp[c,h0]⟩,IO⟩;simp[go_sem,c];exact As f rfl (by rw[d];simp[c])
theorem bE (l:List Int) (hl:l.length<=1048576) (g:FuncId) (a b:List SV) (p:Nat->Bool) (hp:∀(i:Nat) (h:i<l.length),PC g (a++[Io l[i]]++b) (.bool (p i))):
 PC 327 [.imm 1 (l.map Io) false,.fn (.func g) a b] (AA (BD p l.length 0)):=by
 intro h n;refine gq Tryz.func327 rfl λf=>?_;simp[go_sem];refine An 1 (α:=Nat) (λk=>[(0,.imm 1 (l.map Io) false),(1,.fn (.func g) a b),(7,AA l.length),(8,AA k)]) (λ_=>h) (λk m=>k<=l.length/\n<=m/\BD p l.length 0=BD p l.length k) (λk=>l.length-k) 0 ?_ ?_ AB ?_;simp;simp[Ai];rintro k m ⟨hk,e,d⟩;rw[BD.eq_def _ _ k]at d;by_cases c:k<l.length;have w1:=wS k (by omega);have H:=hp k c;simp only[qn,qz,qE]at H;simp[go_sem,c,Io];refine qw (by simpa[Io]using H) ?_;by_cases h0:p k=true;simp[go_sem,h0];exact As f rfl (by rw[d];simp[c,h0]);simp[go_sem,h0,w1,-Int.natCast_add];exact⟨k+1,by omega,⟨by omega,e,by rw[d];simp[c,h0]⟩,IO⟩;simp[go_sem,c];exact As f rfl (by rw[d];simp[c])
theorem aO (l:List Au) (hl:l.length<=1048576) (g:FuncId) (a b:List SV) (p:Nat->Bool) (hp:∀(i:Nat) (h:i<l.length),PC g (a++[Au.enc l[i]]++b) (.bool (p i))):
 PC 214 [.imm 6 (l.map Au.enc) false,.fn (.func g) a b] (.bool (Rc p l.length)):=by
 intro h n;refine gq Tryz.func214 rfl λc=>?_;simp[go_sem];refine(ah l hl g a b p hp).use ?_;simp[go_sem];exact As c rfl rfl
theorem ao (l:List B7) (hl:l.length<=1048576) (g:FuncId) (a b:List SV) (p:Nat->Bool) (hp:∀(i:Nat) (h:i<l.length),PC g (a++[B7.enc l[i]]++b) (.bool (p i))):
 PC 303 [.imm 3 (l.map B7.enc) false,.fn (.func g) a b] (.bool (Rc p l.length)):=by
 intro h n;refine gq Tryz.func303 rfl λc=>?_;simp[go_sem];refine(bD l hl g a b p hp).use ?_;simp[go_sem];exact As c rfl rfl
theorem bB (l:List Int) (hl:l.length<=1048576) (g:FuncId) (a b:List SV) (p:Nat->Bool) (hp:∀(i:Nat) (h:i<l.length),PC g (a++[Io l[i]]++b) (.bool (p i))):
 PC 318 [.imm 1 (l.map Io) false,.fn (.func g) a b] (.bool (Rc p l.length)):=by
 intro h n;refine gq Tryz.func318 rfl λc=>?_;simp[go_sem];refine(bE l hl g a b p hp).use ?_;simp[go_sem];exact As c rfl rfl
abbrev SP (E:B6) (N:Nat) (c:Code) (Q:dO) (sa:SA) (h:Hp) (n:Nat):Prop:=Fs E Tryz.prog N c Q sa h n
section
variable {E : B6} {N : Nat} {a b : Code} {Q : dO} {sa : SA} {h : Hp} {n : Nat}
theorem AH (H:Jr E Tryz.prog N a Q sa h n):SP E N a Q sa h n:=Eo follows _ _ _ _ _ (by rw[<-Eg];exact H)
theorem Js (d:SA) (e:Jr E Tryz.prog N a (DX (λc h' n'=>(∀p∈d,Ai c p.1=p.2)/\h'=h/\n'=n) Q) sa h n) (f:SP E N b Q d h n):SP E N (.seq a b) Q sa h n:=
 JJ (GJ (AH e) (FX λc h' n' ⟨g,h2,i⟩=>by subst h2;subst i;exact P1 f g))
theorem BM {α:Type} (k:Nat) (fr:α->SA) (hp:α->Hp) (I:α->Nat->Prop)
 (d:Jr E Tryz.prog N a (DX (λc h' n'=>∃x,I x n'/\(∀p∈fr x,Fz h' (hp x) k (Ai c p.1) p.2)/\(∀o y,hp x o=some y->h' o=some y)) Q) sa h n)
 (e:∀x m,I x m->SP E N b Q (fr x) (hp x) m):SP E N (.seq a b) Q sa h n:=
 JJ (GJ (AH d) (FX λ_c _h' n' ⟨x,hI,f,h2⟩=>Nc k h2 (qa _) f (e x n' hI)))
theorem AT {α:Type} (k:Nat) (fr:α->SA) (hp:α->Hp) (I:α->Nat->Prop)
 (d:SP E N a (DX (λc h' n'=>∃x,I x n'/\(∀p∈fr x,Fz h' (hp x) k (Ai c p.1) p.2)/\(∀o y,hp x o=some y->h' o=some y)) Q) sa h n)
 (e:∀x m,I x m->SP E N b Q (fr x) (hp x) m):SP E N (.seq a b) Q sa h n:=
 JJ (GJ d (FX λ_c _h' n' ⟨x,hI,f,h2⟩=>Nc k h2 (qa _) f (e x n' hI)))
theorem BP (k:Nat) (fr:SA) (hp:Hp) (I:Nat->Prop)
 (d:Jr E Tryz.prog N a (DX (λc h' n'=>∃_:Unit,I n'/\(∀p∈fr,Fz h' hp k (Ai c p.1) p.2)/\(∀o y,hp o=some y->h' o=some y)) Q) sa h n)
 (e:∀m,I m->SP E N b Q fr hp m):SP E N (.seq a b) Q sa h n:=
 BM k (α:=Unit) (λ_=>fr) (λ_=>hp) (λ_=>I) d λ_=>e
theorem Bo (k:Nat) (fr:SA) (hp:Hp) (I:Nat->Prop)
 (d:SP E N a (DX (λc h' n'=>∃_:Unit,I n'/\(∀p∈fr,Fz h' hp k (Ai c p.1) p.2)/\(∀o y,hp o=some y->h' o=some y)) Q) sa h n)
 (e:∀m,I m->SP E N b Q fr hp m):SP E N (.seq a b) Q sa h n:=
 AT k (α:=Unit) (λ_=>fr) (λ_=>hp) (λ_=>I) d λ_=>e
theorem AY (k:Nat) (fr:SA) (hp:Hp) (q:Nat)
 (d:Jr E Tryz.prog N a (DX (λc h' n'=>∃_:Unit,q<=n'/\(∀p∈fr,Fz h' hp k (Ai c p.1) p.2)/\(∀o y,hp o=some y->h' o=some y)) Q) sa h n)
 (e:∀m,q<=m->SP E N b Q fr hp m):SP E N (.seq a b) Q sa h n:=BP k fr hp (q ≤ ·) d e
theorem Bc (k:Nat) (fr:SA) (hp:Hp) (q:Nat)
 (d:SP E N a (DX (λc h' n'=>∃_:Unit,q<=n'/\(∀p∈fr,Fz h' hp k (Ai c p.1) p.2)/\(∀o y,hp o=some y->h' o=some y)) Q) sa h n)
 (e:∀m,q<=m->SP E N b Q fr hp m):SP E N (.seq a b) Q sa h n:=Bo k fr hp (q ≤ ·) d e
theorem Bp (k:Nat) (fr:SA) (hp:Hp) (q:Nat)
 (d:Jr E Tryz.prog N a (DX (λc h' n'=>∃_:Unit,q=n'/\(∀p∈fr,Fz h' hp k (Ai c p.1) p.2)/\(∀o y,hp o=some y->h' o=some y)) Q) sa h n)
 (e:∀m,q=m->SP E N b Q fr hp m):SP E N (.seq a b) Q sa h n:=BP k fr hp (q = ·) d e
theorem Ea (k:Nat) (fr:SA) (hp:Hp) (q:Nat)
 (d:SP E N a (DX (λc h' n'=>∃_:Unit,q=n'/\(∀p∈fr,Fz h' hp k (Ai c p.1) p.2)/\(∀o y,hp o=some y->h' o=some y)) Q) sa h n)
 (e:∀m,q=m->SP E N b Q fr hp m):SP E N (.seq a b) Q sa h n:=Bo k fr hp (q = ·) d e
theorem AR {id:Nat} (H:SP E N a (FP id Q) sa h n):SP E N (.block id a) Q sa h n:=Mb H
theorem GI (H:SP E N a (DX (SP E N b Q) Q) sa h n):SP E N (.seq a b) Q sa h n:=JJ H
theorem goS {f:FuncId} {fn:Func} {code:Code} {args:List SV} {K:SV->Hp->Nat->Prop} (b:Tryz.prog.funcs[f]? = some fn) (hb:fn.body=some code)
 (hn:(fn.name != "runtime.NumGoroutine")=true) (a:Code.dok fn.ntmps code=true) (hl:args.length<=fn.ntmps)
 (H:Es h n->SP (E.call false 0) fn.ntmps code (MT Tryz.prog fn n K) (Ec 0 args) h n):Ak E Tryz.prog f args h n K:=
 Ma b hb hn a hl λ_ c=>H c
theorem Db {f:FuncId} {fn:Func} {code:Code} {args:List SV} {K:SV->Hp->Nat->Prop} (b:Tryz.prog.funcs[f]? = some fn) (hb:fn.body=some code)
 (H:Es h n->SP (E.call false 0) fn.ntmps code (MT Tryz.prog fn n K) (Ec 0 args) h n)
 (hn:(fn.name != "runtime.NumGoroutine")=true:=by kernel_rfl) (a:Code.dok fn.ntmps code=true:=by kernel_rfl) (hl:args.length<=fn.ntmps:=by simp[go_sem]):Ak E Tryz.prog f args h n K:=
 goS b hb hn a hl H
theorem BG {x:Code} {α:Type} (k:Nat) (fr:α->SA) (hp:α->Hp) (I:α->Nat->Prop) (μ:α->Nat) (a0:α) (hI:I a0 n)
 (b:∀p∈fr a0,Fz h (hp a0) k (Ai sa p.1) p.2) (c:∀o y,hp a0 o=some y->h o=some y)
 (d:∀a n,I a n->SP E N x (DX (λe h' n'=>∃a',μ a'<μ a/\I a' n'/\(∀p∈fr a',Fz h' (hp a') k (Ai e p.1) p.2)/\(∀o y,hp a' o=some y->h' o=some y)) Q) (fr a) (hp a) n):
 SP E N (.loop x) Q sa h n:=by
 refine OQ (μ a0) (λm sa h n=>∃a,m=μ a/\I a n/\(∀p∈fr a,Fz h (hp a) k (Ai sa p.1) p.2)/\(∀o y,hp a o=some y->h o=some y)) ⟨a0,rfl,hI,b,c⟩ ?_;rintro m sa h n ⟨a,rfl,hI,b,c⟩;refine Nc k c (qa _) b (GJ (d a n hI) ?_);refine FX λe h' n' ⟨a',f,h2,g,i⟩=>⟨μ a',f,a',rfl,h2,g,i⟩
end
@[go_sem] theorem UM (id:Nat) (Q:dO):FP id Q .normal=Q .normal:=rfl
@[go_sem] theorem Vx (id:Nat) (Q:dO):FP id Q .ret=Q .ret:=rfl
@[go_sem] theorem VP (id i:Nat) (Q:dO) (sa:SA) (h:Hp) (n:Nat):FP id Q (.exit i) sa h n=if i=id then Q .normal sa h n else Q (.exit i) sa h n:=rfl
def Iv (p:Nat->Bool):Nat->Bool
 | 0=>true
 | n+1=>Iv p n&&p n
theorem Iw {p:Nat->Bool} {k n:Nat} (hk:k<n) (h:p k=false):Iv p n=false:=by
 induction n with
 | zero=>omega
 | succ n ih=>
  rw[Iv];by_cases e:k=n;subst e;simp[h];rw[ih (by omega)];rfl
def N2 (d:Int):Int:=IntKind.u8.wrap (BitVec.ofInt 8 d ||| BitVec.ofInt 8 32).toNat
def EP (first:Bool) (d:Int):Bool:=decide (97<=N2 d/\N2 d<=122)||(!first&&decide ((48<=d/\d<=57)\/d=45\/d=95))
def Hw (s:ByteArray):Bool:=decide ((1:Int)<=s.size/\(s.size:Int)<=40)&&Iv (λi=>EP (decide (i=0)) (BO s i)) s.size
theorem V5 (s:ByteArray):PC 219 [.str s] (.bool (Hw s)):=by
 intro h n;refine gq Tryz.func219 rfl λf=>?_;by_cases r:(s.size:Int)<1;simp[go_sem,r];exact As f rfl (by simp[Hw];omega);by_cases u:(40:Int)<s.size;simp[go_sem,r,u];exact As f rfl (by simp[Hw];omega);have y:Hw s=Iv (λi=>EP (decide (i=0)) (BO s i)) s.size:=by
  have:decide ((1:Int)<=s.size/\(s.size:Int)<=40)=true:=by simp;omega
  rw[Hw,this];rfl
 rw[y];simp[go_sem,r,u];refine BG 1 (α:=Nat) (λk=>[(0,.str s),(16,AA s.size),(17,AA k)]) (λ_=>h) (λk m=>k<=s.size/\n<=m/\Iv (λi=>EP (decide (i=0)) (BO s i)) k=true) (λk=>s.size-k) 0 ?_ ?_ AB ?_;simp[Iv];simp[Ai];rintro k m ⟨hk,hnm,w⟩;by_cases a:k<s.size
 . have w1:=wS k (by omega);obtain⟨j,e⟩:=Ei a;have no:EP (decide (k=0)) (BO s k)=false->Iv (λi=>EP (decide (i=0)) (BO s i)) s.size=false:=λhb=>Iw a hb;have g:EP (decide (k=0)) (BO s k)=true->Iv (λi=>EP (decide (i=0)) (BO s i)) (k+1)=true:=λhb=>by rw[Iv,w,hb];rfl
   refine Js [(0,.str s),(16,AA s.size),(17,AA k),(18,.bool true)] (by simp[go_sem,a]) ?_;refine Js [(0,.str s),(16,AA s.size),(17,AA k)] (by simp[go_sem]) ?_;refine AT 1 (α:=Unit) (λ_=>[(0,.str s),(16,AA s.size),(17,AA k)]) (λ_=>h) (λ_ m'=>m'=m/\EP (decide (k=0)) (BO s k)=true) (AR ?_) (λ_ m' hI=>AH ?_)
   rotate_left
   simp[go_sem,w1,-Int.natCast_add];exact⟨k+1,by omega,⟨by omega,by omega,g hI.2⟩,IO⟩;refine Js [(0,.str s),(16,AA s.size),(17,AA k),(3,AA k)] (by simp[go_sem]) ?_;refine Js [(0,.str s),(16,AA s.size),(17,AA k),(3,AA k),(4,.int .u8 (N2 (BO s k)))] (by simp[go_sem,j,<-e];rfl) ?_;generalize hc:N2 (BO s k)=c;generalize v:BO s k=d at e;refine Js [(0,.str s),(16,AA s.size),(17,AA k),(3,AA k),(5,.bool (decide (97<=c/\c<=122)))] (by by_cases A:97<=c<;>simp[go_sem,A]) ?_;refine Js [(0,.str s),(16,AA s.size),(17,AA k),(3,AA k),(5,.bool (decide (97<=c/\c<=122))),(6,.bool (decide ((48<=d/\d<=57)\/d=45\/d=95)))] ?_ ?_;by_cases o:48<=d;by_cases t:d<=57;simp[go_sem,j,<-e,o,t];have p:¬d=45:=by omega
   by_cases q:d=95<;>simp[go_sem,j,<-e,o,t,p,q];have q:¬d=95:=by omega
   by_cases p:d=45<;>simp[go_sem,j,<-e,o,p,q];generalize x:decide (97<=c/\c<=122)=L;generalize z:decide ((48<=d/\d<=57)\/d=45\/d=95)=O;have b:EP (decide (k=0)) (BO s k)=(L||(!decide (k=0)&&O)):=by rw[EP,hc,v,x,z]
   rw[b]at no;rw[v]at b;rw[b];refine AH ?_;by_cases l:k=0
   . cases L<;>cases O<;>simp[l]at no ⊢ <;> simp[go_sem]
     all_goals exact As f rfl (by rw[no])
   . cases L<;>cases O<;>simp[l]at no ⊢ <;> simp[go_sem,l]
     all_goals exact As f rfl (by rw[no])
 . refine AH ?_;simp[go_sem,a];have:k=s.size:=by omega
   subst this;exact As f rfl (by rw[w])
theorem ae (k:Int):PC 268 [AA k] (AA (if k=1 then 2 else 1)):=by
 intro h n;refine gq Tryz.func268 rfl λb=>?_;by_cases a:k=1<;>simp[go_sem,a]<;>exact As b rfl rfl
theorem an (s:A6) (id:Int):PC 301 [s.enc,.iptr [AA id]] (.bool (decide (s.id=id))):=by
 intro h n;refine gq Tryz.func301 rfl λa=>?_;simp[go_sem,A6.enc,AC];exact Ay a (AQ a (qa _) AB) (by by_cases e:s.id=id<;>simp[e]) rfl
def RV (a b:ByteArray):Bool:=a.toList==b.toList
theorem am (s:A6) (kind:Int) (name:ByteArray):PC 300 [s.enc,.iptr [AA kind],.iptr [.str name]] (.bool (decide (s.kind=kind)&&RV s.name name)):=by
 intro h n;refine gq Tryz.func300 rfl λa=>?_;by_cases e:s.kind=kind<;>simp[go_sem,A6.enc,AC,e]
 all_goals exact Ay a (AQ a (qa _) AB) (by simp[RV]) rfl
def EG (l:List A6) (id:Int):Int:=BD (λi=>match l[i]? with|some s=>decide (s.id=id)|none=>false) l.length 0
theorem af (l:List A6) (id:Int) (hl:l.length<=1048576):PC 269 [Ae l,AA id] (.tup [AA (if 0<=EG l id then EG l id else 0),.bool (decide (0<=EG l id))]):=by
 intro h n;refine gq Tryz.func269 rfl λb=>?_;simp[go_sem];have H:=Xk l hl 301 [] [.iptr [AA id]] (λi=>match l[i]? with|some s=>decide (s.id=id)|none=>false) (λi hi=>by simpa[hi]using an l[i] id);refine H.lend 3 rfl ?_ ?_;simp[AZ,Fz,hset];by_cases e:0<=EG l id;have a:¬EG l id<0:=by omega
 simp only[EG]at e a;simp[go_sem,e,a];exact Ay b (AQ b (qa _) AB) (by simp[EG,e]) rfl;have a:EG l id<0:=by omega
 simp only[EG]at e a;simp[go_sem,e,a];exact Ay b (AQ b (qa _) AB) (by simp[EG,e]) rfl
def C0 (l:List A6) (kind:Int) (name:ByteArray):Int:=BD (λi=>match l[i]? with|some s=>decide (s.kind=kind)&&RV s.name name|none=>false) l.length 0
theorem ac (l:List A6) (kind:Int) (name:ByteArray) (hl:l.length<=1048576):PC 267 [Ae l,AA kind,.str name] (.tup [AA (if 0<=C0 l kind name then C0 l kind name else 0),.bool (decide (0<=C0 l kind name))]):=by
 intro h n;refine gq Tryz.func267 rfl λd=>?_;simp[go_sem];have H:=Xk l hl 300 [] [.iptr [AA kind],.iptr [.str name]] (λi=>match l[i]? with|some s=>decide (s.kind=kind)&&RV s.name name|none=>false) (λi hi=>by simpa[hi]using am l[i] kind name);have f:∀a b:Option BT,∀o x,h o=some x->hset (hset h n a) (n+1) b o=some x:=λa b=>AQ d (je n) (AQ d (qa _) AB);refine H.lend 3 rfl ?_ ?_;simp[AZ,Fz,hset];by_cases e:0<=C0 l kind name;have c:¬C0 l kind name<0:=by omega
 simp only[C0]at e c;simp[go_sem,e,c];exact Ay d (f _ _) (by simp[C0,e]) rfl;have c:C0 l kind name<0:=by omega
 simp only[C0]at e c;simp[go_sem,e,c];exact Ay d (f _ _) (by simp[C0,e]) rfl
theorem ST (l:List A6) (id:Int) (h:0<=EG l id):∃i s,EG l id=(i:Nat)/\l[i]? = some s:=by
 rcases EA (λi=>match l[i]? with|some s=>decide (s.id=id)|none=>false) l.length 0 with e|⟨i,_,h2,a,_⟩
 have:EG l id = -1:=e;omega;exact⟨i,l[i],a,by simp[h2]⟩
def Wq (l:List A6) (kind id:Int):Bool:=decide (0<=EG l id)&&(match l[(EG l id).toNat]? with|some s=>decide (s.kind=kind)|none=>false)
theorem aM (l:List A6) (kind id:Int) (hl:l.length<=1048576):PC 208 [Ae l,AA kind,AA id] (.bool (Wq l kind id)):=by
 intro h n;refine gq Tryz.func208 rfl λb=>?_;simp[go_sem];refine(af l id hl).use ?_;by_cases e:0<=EG l id;obtain⟨i,s,a,h2⟩:=ST l id e;simp[go_sem,a,h2,A6.enc];exact As b rfl (by simp[Wq,a,h2];by_cases c:s.kind=kind<;>simp[c]);simp[go_sem,e];exact As b rfl (by simp[Wq,e])
def Il (b:Int):Bool:=decide (32<=b/\b<=126)
def GW (s:ByteArray):Bool:=!decide (s.size=0)&&decide ((s.size:Int)<=40) && !decide (BO s 0=32) && !decide (BO s (s.size-1)=32)&&Iv (λi=>Il (BO s i)) s.size
theorem aa (s:ByteArray):PC 266 [.str s] (.bool (GW s)):=by
 intro h n;refine gq Tryz.func266 rfl λd=>?_;by_cases b:s.size=0;simp[go_sem,b];exact As d rfl (by simp[GW,b]);by_cases e:(40:Int)<s.size;simp[go_sem,b,e];exact As d rfl (by simp[GW,b];omega);have j:(s.size:Int)<=40:=by omega
 obtain⟨a1,a2⟩:=Ei (s:=s) (i:=0) (by omega);obtain⟨b1,r⟩:=Ei (s:=s) (i:=s.size-1) (by omega);have w0:IntKind.i64.wrap ((s.size:Int)-1)=((s.size-1:Nat):Int):=by rw[Cl]<;>omega
 have c:0<s.size:=by omega
 by_cases f:BO s 0=32;simp[go_sem,b,c,e,<-a2,f];exact As d rfl (by simp[GW,b,f]);by_cases g:BO s (s.size-1)=32;simp[go_sem,b,c,e,<-a2,f,b1,<-r,g,w0];exact As d rfl (by simp[GW,b,g]);have v:GW s=Iv (λi=>Il (BO s i)) s.size:=by simp[GW,b,j,f,g]
 rw[v];simp[go_sem,b,c,e,<-a2,f,b1,<-r,g,w0];refine An 1 (α:=Nat) (λk=>[(0,.str s),(26,AA s.size),(27,AA k)]) (λ_=>h) (λk m=>k<=s.size/\n<=m/\Iv (λi=>Il (BO s i)) k=true) (λk=>s.size-k) 0 ?_ ?_ AB ?_;simp[Iv];simp[Ai];rintro k m ⟨hk,p,t⟩;by_cases a:k<s.size;have w1:=wS k (by omega);obtain⟨l,o⟩:=Ei a;by_cases q:BO s k<32;simp[go_sem,a,<-o,q];exact As d rfl (by rw[Iw a (by simp[Il];omega)]);by_cases u:126<BO s k;simp[go_sem,a,<-o,q,u];exact As d rfl (by rw[Iw a (by simp[Il];omega)]);simp[go_sem,a,<-o,q,u,w1,-Int.natCast_add];exact⟨k+1,by omega,⟨by omega,p,by rw[Iv,t];simp[Il];omega⟩,IO⟩;simp[go_sem,a];have:k=s.size:=by omega
 subst this;exact As d rfl (by rw[t])
theorem O1 (h:Hp) (j:Nat) (x:Option BT):hset h j x j=x:=by simp[hset]
theorem AS (h:Hp) (j:Nat) (x y:Option BT):hset (hset h j x) j y=hset h j y:=by funext k;simp only[hset];split<;>rfl
def B6.inRound (E:B6) (l:Nat):B6:={ ro:=some l,mks:=false,base:=0,inv:=E.inv,ext:=E.ext }
def Jp:List (Tmp×SV)->SA->SA
 | [],sa=>sa
 | p::r,sa=>Jp r (p::sa)
section
variable {P : Program} {E : B6} {N : Nat}
theorem FR.zip {c:Cx}:∀{ps:List Tmp} {args:List SV} {vs:List Value} {sa:SA} {b:Array Value},(∀p∈ps,p<N)->AZ (V c) args vs->ps.length=args.length->FR E N sa c { tmps:=b,defers:=[] }->
 FR E N (Jp (ps.zip args) sa) c { tmps:=(ps.zip vs).foldl (λt p=>t.setIfInBounds p.1 p.2) b,defers:=[] }
 | [],_,_,_,_,_,_,_,F=>F
 | p::ps,[],_,_,_,_,_,hl,_=>by simp at hl
 | p::ps,a::args,[],_,_,_,h,_,_=>h.elim
 | p::ps,a::args,v::vs,sa,b,hp,h,hl,F=>by
  have:=F.put (dst:=some p) (λd e=>by cases e;exact hp _ (by simp)) h.1;exact FR.zip (ps:=ps) (λq f=>hp q (by simp[f])) h.2 (by simpa using hl) this
theorem IA {h:Hp} {c:Cx} {o l:Nat} {r:Loop} (R:Bn h c) (d:h o=some (.loop r)) (e:c.ρ o=some (l,0)):c.w.heap[l]? = some (.loop r):=by
 obtain⟨b,a,h2⟩:=R.obj o _ d;rw[e]at a;cases a;exact h2
theorem I8 {h:Hp} {c:Cx} {o l:Nat} {r:Loop} (e:Loop) (R:Bn h c) (f:h o=some (.loop r)) (d:c.ρ o=some (l,0)):
 Bn (hset h o (some (.loop e))) { c with w:=c.w.putObj l (.loop e) }/\DZ c { c with w:=c.w.putObj l (.loop e) }:=by
 have hl:=IA R f d;have b:=(qp.1 hl).1;refine R.write f d (by simp) (λb' a=>World.putObj_heap_other a) ?_ rfl rfl λX=>⟨l,d,World.putObj_heap_same b⟩
 simp[rm,hl]
def HD (fn:FuncId) (tm:Array Value) (ps:Array Tmp) (assign body:Code) (D:Nat) (st:LoopState) (pe:Option Code):Loop:=
 { state:=st,pending:=pe,fn:=fn,tmps:=tm,params:=ps,assign:=assign,body:=body,defers:=D }
def ID (n:Nat) (R:LoopState->Option Code->Loop) (Q1:SV->Hp->Nat->Prop):dO:=λe _ h2 m2=>
 h2 n=some (.loop (R .busy none))/\match e with
  | .normal=>Q1 (.bool true) (hset h2 n (some (.loop (R .ready none)))) m2
  | .ret=>Q1 (.bool false) (hset h2 n (some (.loop (R .done (some .ret))))) m2
  | .exit id=>Q1 (.bool false) (hset h2 n (some (.loop (R .done (some (.exit id)))))) m2
  | _=>False
def QY (P:Program) (E:B6) (N n:Nat) (R:LoopState->Option Code->Loop) (assign body:Code) (Q1:SV->Hp->Nat->Prop) (sa:SA) (h:Hp) (m:Nat):Prop:=
 Fs E P N assign (λe sa1 h1 m1=>e=.normal/\h1 n=some (.loop (R .ready none))/\Fs E P N body (ID n R Q1) sa1 (hset h1 n (some (.loop (R .busy none)))) m1) sa h m
def YZ (n:Nat) (R:LoopState->Option Code->Loop) (Q:dO) (sa:SA):SV->Hp->Nat->Prop:=λ_ h' n'=>
 ∃st pe,h' n=some (.loop (R st pe))/\st≠.busy/\match pe with
  | none=>Q .normal sa (hset h' n none) n'
  | some .ret=>Q .ret sa (hset h' n none) n'
  | some (.exit id)=>Q (.exit id) sa (hset h' n none) n'
  | _=>False
theorem PX {E1:B6} {c1:Cx} {l n:Nat} {fn:FuncId} {d:Array Value} {ps:Array Tmp} {assign body:Code} {D:Nat} {sa:SA} (q:∀c',E1.inv c'->DZ c1 c') (hρ:c1.ρ n=some (l,0))
 (L:∀p∈ps.toList,p<N) (G:Code.dok N assign=true) (J:Code.dok N body=true) (M:d.size=N) (hv:∀t,V c1 (Ai sa t) (d.getD t undef))
 {args:List SV} {O:Hp} {m:Nat} {B:SV->Hp->Nat->Prop} (hn:O n=some (.loop (HD fn d ps assign body D .ready none))) (hl:args.length=ps.size)
 (H:QY P (E1.inRound l) N n (HD fn d ps assign body D) assign body B (Jp (ps.toList.zip args) sa) O m):FJ E1 P l args O m B:=by
 intro c vs I R F A;have T:=q c I;have z:c.ρ n=some (l,0):=T.ρ _ _ hρ;have hlen:=A.length;refine⟨_,_,_,_,run_yield (IA R hn z) (by simp[HD];omega),roundIn_of_wpIn (F:=Fence.wide) trivial ?_⟩;have F0:FR (E1.inRound l) N sa c { tmps:=d,defers:=[] }:=⟨M,⟨qg _,λ_=>rfl,by simp,by simp⟩,λt=>kR T (hv t)⟩
 have FZ:=F0.zip (ps:=ps.toList) L A (by simp;omega);have E:(ps.zip vs.toArray).foldl (λtmps x=>tmps.setIfInBounds x.1 x.2) d=(ps.toList.zip vs).foldl (λt p=>t.setIfInBounds p.1 p.2) d:=by
  rw[<-Array.foldl_toList,Array.toList_zip]
 have X:=H G c _ I R F FZ;rw[<-E]at X;refine wpIn_mono X ?_;rintro e a2 w2 ⟨sa2,h2,n2,o,⟨rfl,r,hB⟩,rfl,Q,F2,Z,i⟩;have f:o.ρ n=some (l,0):=i.ext.ρ _ _ z;obtain⟨R3,U⟩:=I8 (HD fn d ps assign body D .busy none) Q r f;refine⟨_,run_beginRound (IA Q r f) rfl,?_⟩;have k:DZ c { o with w:=o.w.putObj l (.loop (HD fn d ps assign body D .busy none)) }:=i.ext.trans U;refine wpIn_mono (hB J { o with w:=o.w.putObj l (.loop (HD fn d ps assign body D .busy none)) } a2 (E1.ext k I) R3 F2 (Z.ext U)) ?_;rintro e a4 w4 ⟨sa4,h4,n4,W,⟨s,g⟩,rfl,S,F4,A4,C⟩;have y:W.ρ n=some (l,0):=C.ext.ρ _ _ f;have K:=IA S s y;have fin:∀(a:Option Code) (b:Bool) (st:LoopState),b=a.isNone->st=(if a.isNone then .ready else .done)->B (.bool b) (hset h4 n (some (.loop (HD fn d ps assign body D st a)))) n4->
  ∃v w',(Instr.endRound l a).run P W.w=.ok v w'/\∃u v' h' n' c',Ending.returned v=.returned u/\B v' h' n'/\c'.w=w'/\V c' v' u/\Bn h' c'/\Fr n' c'/\Fq m c n' c':=by
  rintro a b st rfl rfl g;obtain⟨R5,X5⟩:=I8 (HD fn d ps assign body D (if a.isNone then .ready else .done) a) S s y;refine⟨_,_,run_endRound a K,.bool a.isNone,.bool a.isNone,_,n4,_,rfl,g,rfl,by simp[V],R5,F4,⟨k.trans (C.ext.trans X5),qr i.le C.le,λj Y=>?_⟩⟩;exact(C.same j (kq Y i.le)).trans (i.same j Y)
 cases e with
 | normal=>exact fin none true .ready rfl rfl g
 | ret=>exact fin (some .ret) false .done rfl rfl g
 | exit id=>exact fin (some (.exit id)) false .done rfl rfl g
 | _=>exact g.elim
def Cx.begin (c:Cx) (n:Nat) (r:Loop):Cx:=Cx.alloc { c with w:=c.w.alloc (.deferred (some [])) } n (.loop r)
theorem LD (c:Cx):DZ c { c with w:=c.w.alloc (.deferred (some [])) }:=by
 refine⟨λ_ _ e=>e,by simp,λb hb d=>⟨d,?_⟩,λb=>?_,rfl,rfl,⟨rfl,qa _⟩⟩;simp[Bk,jz,kv hb];unfold rm;rcases ji b c.w.heap.size with a|a;simp[Bk,jz,kv a];simp[jg a]
theorem P6 {h:Hp} {c:Cx} (R:Bn h c):Bn h { c with w:=c.w.alloc (.deferred (some [])) }:=by
 refine⟨λo x e=>(R.obj o x e).mono (LD c) λb hb=>?_,R.inj2,R.own2⟩;have h2:=(R.obj o x e).hold_lt hb;simp[Bk,jz,kv h2]
theorem Fa {g:Operand} {ps:Array Tmp} {assign body:Code} {Q:dO} {sa:SA} {h:Hp} {n:Nat} {f:FuncId} {ys:List SV} (hro:E.ro=none) (hmk:E.mks=true) (hg:Gp sa g=.fn (.func f) [] ys)
 (H:∀(E1:B6) (l:Nat) (R:LoopState->Option Code->Loop),
   (∀args Y m Z,Y n=some (.loop (R .ready none))->args.length=ps.size->QY P (E1.inRound l) N n R assign body Z (Jp (ps.toList.zip args) sa) Y m->FJ E1 P l args Y m Z)->
   Ak E1 P f (.fn (.yield l) [] []::ys) (hset h n (some (.loop (R .ready none)))) (n+1) (YZ n R Q sa)):
 Fs E P N (.rangeFunc g ps assign body) Q sa h n:=by
 intro y c a I R F A;simp only[Code.dok,qq,jj,decide_eq_true_eq]at y;obtain⟨hps,hda,hdb⟩:=y;have hfc:E.fc=Fence.wide:=by simp only[B6.fc,hro,Fence.wide]
 rw[hfc];refine wpIn_rangeFunc λfn _=>?_;have S:c.ρ n=none:=F n (qa _);obtain⟨r0,K⟩:∃r0,r0=HD fn a.tmps ps assign body c.w.heap.size .ready none:=⟨_,rfl⟩
 have R1:Bn (hset h n (some (.loop r0))) (c.begin n r0):=(P6 R).alloc S ⟨c.w.heap.size+1,by simp[Cx.alloc],by have:=World.alloc_heap_new (c.w.alloc (.deferred (some []))) (.loop r0);rwa [World.size_alloc]at this⟩;have U:DZ c (c.begin n r0):=(LD c).trans (Cx.alloc_ext _ n (.loop r0) S);have O:(c.begin n r0).ρ n=some (c.w.heap.size+1,0):=by simp[Cx.begin,Cx.alloc]
 have F1:Fr (n+1) (c.begin n r0):=λj hj=>by
  have:j≠n:=by omega
  simp[Cx.begin,Cx.alloc,this];exact F j (by omega)
 have L:(c.begin n r0).w=(c.w.alloc (.deferred (some []))).alloc (.loop r0):=rfl;have C:(c.begin n r0).w.heap[c.w.heap.size]? = some (.deferred (some [])):=by
  rw[L];simp[Bk,jz]
 have hDo:¬(c.begin n r0).own c.w.heap.size:=by
  rintro(s|s);obtain⟨o,x,e1,X⟩:=(R.own2 _).1 s;have h4:=(R.obj o x e1).hold_lt X;omega;simp at s
 let E1:B6:={ ro:=none,mks:=false,base:=0,inv:=λp=>E.inv p/\DZ (c.begin n r0) p,ext:=λx i=>⟨E.ext x i.1,i.2.trans x⟩ }
 have b:=H E1 (c.w.heap.size+1) (HD fn a.tmps ps assign body c.w.heap.size) λargs Y m Z hn hl hW=>
  PX (E1:=E1) (c1:=c.begin n r0) (λp i=>i.2) O hps hda hdb A.size (λt=>kR U (A.val t)) hn hl hW
 rw[<-K]at b;have hf:=A.ev g;rw[hg,V]at hf;obtain⟨xs,yv,hfv,s,h2⟩:=hf;simp only[VL]at s;subst s;have q:AZ (V (c.begin n r0)) (.fn (.yield (c.w.heap.size+1)) [] []::ys) (.func (.yield (c.w.heap.size+1)) #[] #[]::yv):=
  ⟨by simp[V,VL],BN.1 (VL.mono U h2)⟩
 have hcl:=b.2 (c.begin n r0) _ ⟨E.ext U I,kZ _⟩ R1 F1 q;have k:=b.1;unfold Kk at k;cases r:P.funcs[f]? with
 | none=>simp[r]at k
 | some fn'=>
 simp only[r,qq,bne_iff_ne,ne_eq]at k;have hb:fn'.body≠none:=by intro e;simp[e]at k
 refine⟨c.w.heap.size+1,[Ti c.w.heap.size],(c.begin n r0).w,{ target:=.fn (.func f) yv.toArray,args:=#[.func (.yield (c.w.heap.size+1)) #[] #[]] },(c.begin n r0).w,f,
  (.func (.yield (c.w.heap.size+1)) #[] #[]::yv).toArray,(c.begin n r0).w,?_,?_,λ_ _=>trivial,?_,λe=>by simp[Fence.wide]at e,?_⟩
 rw[L,K];exact run_enterLoop_outer _ _ _ _ _;simp[resolve,Deferred.ofValue,hfv];rfl;simp[invoke,callFunc,r,k.2,hb];refine callsIn_wide.2 (hcl.mono ?_);rintro e w3 ⟨u,v,h',n',p,rfl,⟨st,T,J,hst,z⟩,rfl,hv,R',F',B⟩;have M:p.ρ n=some (c.w.heap.size+1,0):=B.ext.ρ _ _ O;obtain⟨R3,X3⟩:=I8 (HD fn a.tmps ps assign body c.w.heap.size .exhausted T) R' J M;have R4:=R3.kill n (O1 _ _ _);have X4:=X3.trans (Cx.kill_ext { p with w:=p.w.putObj (c.w.heap.size+1) (.loop (HD fn a.tmps ps assign body c.w.heap.size .exhausted T)) } n);rw[AS]at R4;have W:=U.trans (B.ext.trans X4);have G:=(B.ext.trans X4).keep _ (qp.1 C).1 hDo;refine⟨T,_,run_endLoop (IA R' J M) hst,?_⟩;have mk:∀e,Q e sa (hset h' n none) n'->Sl E N n c Q e { a with defers:=[Ti c.w.heap.size]++a.defers } (p.w.putObj (c.w.heap.size+1) (.loop (HD fn a.tmps ps assign body c.w.heap.size .exhausted T))):=λe z=>by
  refine⟨sa,hset h' n none,n',_,z,rfl,R4,F',⟨A.size,⟨qr A.defers.base W.size,λe=>(by rw[hmk]at e;cases e),?_,λd y=>?_⟩,λt=>kR W (A.val t)⟩,⟨W,by have:=B.le;omega,λj hj=>?_⟩⟩;refine jA.2 ⟨λhm=>?_,A.defers.nodup⟩;obtain⟨D,_,X,e3,_⟩:=A.defers.ok _ hm;have:D=c.w.heap.size:=by simp[Ti]at X;exact X.symm
  have:=(qp.1 e3).1;omega;rcases qk.1 y with rfl|y;exact⟨c.w.heap.size,A.defers.base,rfl,G.2.trans C,G.1⟩;exact(A.defers.mono W).ok d y;have:j≠n:=by omega
  have e1:(c.begin n r0).ρ j=c.ρ j:=by simp[Cx.begin,Cx.alloc,this]
  exact(B.same j (by omega)).trans e1
 cases T with
 | none=>exact mk .normal z
 | some j=>
  cases j with
  | ret=>exact wpIn_ret (mk .ret z)
  | exit id=>exact wpIn_exit (mk (.exit id) z)
  | _=>exact z.elim
end
theorem cA {E:B6} {f:FuncId} {fn:Func} {code:Code} {args:List SV} {h:Hp} {n:Nat} {K:SV->Hp->Nat->Prop} (b:Tryz.prog.funcs[f]? = some fn) (hb:fn.body=some code)
 (hn:(fn.name != "runtime.NumGoroutine")=true) (a:Code.dok fn.ntmps code=true) (hl:args.length<=fn.ntmps)
 (H:Es h n->∀B,Jr (E.call true B) Tryz.prog fn.ntmps code (MT Tryz.prog fn n K) (Ec 0 args) h n):Ak E Tryz.prog f args h n K:=
 K7 b hb hn a hl λ_ c B=>AH (H c B)
theorem Ii {E:B6} {N n:Nat} {R:LoopState->Option Code->Loop} {assign body:Code} {f:SV->Hp->Nat->Prop} {sa:SA} {h:Hp} {m:Nat}
 (H:Jr E Tryz.prog N assign (λe d g m1=>e=.normal/\g n=some (.loop (R .ready none))/\Jr E Tryz.prog N body (ID n R f) d (hset g n (some (.loop (R .busy none)))) m1) sa h m):QY Tryz.prog E N n R assign body f sa h m:=
 GJ (AH H) λ_ _ _ _ ⟨a,b,c⟩=>⟨a,b,AH c⟩
section
variable {P : Program} {E : B6}
theorem JA (d:Nat) {t e:TypeId} (a:Option Addr) (l cap:Nat) (b:P.underlying t=some (.slice e)) (w:World):(Op.equalIn (d+1) t (.slice a l cap) (.slice none 0 0)).run P w=.ok a.isNone w:=by
 cases a<;>simp[Op.equalIn,AO b]
theorem OY {t e:TypeId} (a:Option Addr) (l cap:Nat) (b:P.underlying t=some (.slice e)) (w:World):
 (binOp .eql t (.slice a l cap) (.slice none 0 0)).run P w=.ok (.bool a.isNone) w:=by
 have:=JA 9999 a l cap b w;simp only[binOp,Op.equal];simp[Op.maxDepth,this]
theorem CU {evs:Operand->SV} {o:Oper} {h:Hp} {n:Nat} {K:SV->Hp->Nat->Prop} {t t2:TypeId} {x:Operand} {z:Nat} {es:List SV} {full:Bool} (d:o.op=.binOp .eql t x (.const (.slice none 0 0)) t2)
 (ht:(A9 P t).isSome=true) (k:evs x=.imm z es full) (f:es=[]->K (.bool true) h n) (h2:K (.bool false) h n):EI E P evs o h n K:=by
 refine⟨by rw[d];simp,λc ev hc _ R F j=>?_⟩;have b:=j x;obtain⟨e,ht⟩:=jn.1 ht;have ht:=A5 ht;rw[k,V]at b;have fin:∀(a:Option Addr) (l cap:Nat),ev x=.slice a l cap->K (.bool a.isNone) h n->∃u v h' n' c',(execOp ev o).run P c.w=.ok (.value u) c'.w/\V c' v u/\Bn h' c'/\Fr n' c'/\Fq n c n' c'/\K v h' n':=λa l cap e i=>
  ⟨.bool a.isNone,.bool a.isNone,h,n,c,by simp[execOp,d,e,hc,IH (P:=P) (a:=.slice a l cap),OY a l cap ht],by simp[V],R,F,ke n c,i⟩
 rcases b with⟨g,e⟩|⟨a,cap,vs,e,_⟩
 exact fin _ _ _ e (f g);exact fin _ _ _ e h2
def DP (P:Program) (t:TypeId):SV->SV->Option Bool
 | .int k a,.int k' b=>if k=k'/\(Jl P t).isSome=true/\Bh P t=1/\Fm P t=some false then some (a==b)else none
 | .str a,.str b=>if FC P t=true/\Bh P t=1/\Fm P t=some false then some (a.toList==b.toList)else none
 | .bool a,.bool b=>if MA P t=true/\Bh P t=1/\Fm P t=some false then some (a==b)else none
 | _,_=>none
def Bv (P:Program) (cs ds:List SV):List Field->Option Bool
 | []=>some true
 | f::fs=>if f.name = "_" then none else
  match cs[f.offset]?,ds[f.offset]? with
  | some x,some y=>match DP P f.type x y with|some true=>Bv P cs ds fs|r=>r
  | _,_=>none
def Ba (P:Program) (t:TypeId):List Field:=(P.fieldsOf t).toList
theorem QD {c:Cx} {t:TypeId} {x y:SV} {u v:Value} {b:Bool} (h:DP P t x y=some b) (f:V c x u) (g:V c y v) (d:Nat) (w:World):(Op.equalIn (d+1) t u v).run P w=.ok b w/\Bh P t=1/\Fm P t=some false:=by
 unfold DP at h;split at h
 . split at h<;>try cases h
   rename_i hc;obtain⟨rfl,a,h2,e⟩:=hc;rw[C7 f,C7 g];obtain⟨i,hi⟩:=jn.1 a;exact⟨run_equalIn_int w d t _ _ _ _ (FY hi),h2,e⟩
 . split at h<;>try cases h
   rename_i hc;obtain⟨a,h2,e⟩:=hc;rw[Kq f,Kq g];exact⟨run_equalIn_string w d t _ _ (by unfold FC at a;split at a<;>first|assumption|cases a),h2,e⟩
 . split at h<;>try cases h
   rename_i hc;obtain⟨a,h2,e⟩:=hc;rw[Gm f,Gm g];exact⟨Gk d _ _ (Hc a) w,h2,e⟩
 cases h
theorem HV {c:Cx} {cs j:List SV} {vs us:List Value} (hc:AZ (V c) cs vs) (l:AZ (V c) j us) (m:∀x∈vs,x.oneCell'=true) (h2:∀x∈us,x.oneCell'=true) (d:Nat) (w:World):
 ∀(e:List Field) (b:Bool),Bv P cs j e=some b->(Op.eqFields (d+1) vs.toArray us.toArray e).run P w=.ok b w
 | [],b,h=>by simp[Bv]at h;subst h;simp[Op.eqFields]
 | f :: e, b, h => by
  simp only[Bv]at h;split at h<;>try cases h
  rename_i hn;split at h<;>try cases h
  rename_i x y q r;obtain⟨u,o,g⟩:=hc.get q;obtain⟨v,p,i⟩:=l.get r;obtain⟨a,hb⟩:∃a,DP P f.type x y=some a:=by
   cases hb:DP P f.type x y with
   | none=>simp[hb]at h
   | some a=>exact⟨a,rfl⟩
  obtain⟨n,hs,k⟩:=QD hb g i d w;have s:(part f.type vs.toArray f.offset).run P w=.ok u w:=by simp[part,Dz k,o]
  have t:(part f.type us.toArray f.offset).run P w=.ok v w:=by simp[part,Dz k,p]
  simp only[Op.eqFields,ne_eq,hn,not_false_eq_true,if_true,Sem.run_bind,s,t,n,Result.andThen_ok];rw[hb]at h;cases a;simp at h;subst h;simp;simp only at h;simp only[Bool.not_true,qj,if_false];exact HV hc l m h2 d w e b h
theorem Cp {evs:Operand->SV} {o:Oper} {t t2:TypeId} {x y:Operand} {g:BinOp} {cs i:List SV} {b:Bool} (a:o.op=.binOp g t x y t2) (h:g=.eql\/g=.neq)
 (ht:P.underlying t=some (.struct (P.fieldsOf t))) (hp:P.stoodInHeld t=false) (l:P.eqGuardType P.depth t=false)
 (s:evs x=.agg cs) (u:evs y=.agg i) (hb:Bv P cs i (Ba P t)=some b):OU P evs o (.bool (if g=.eql then b else !b)):=by
 refine⟨by rw[a];simp,λc ev _ m=>?_⟩;have e:=m x (by simp[a,Op.operands]);have f:=m y (by simp[a,Op.operands]);rw[s]at e;rw[u]at f;obtain⟨vs,j,n,h2⟩:=Eh e;obtain⟨us,k,p,q⟩:=Eh f;have r:=HV n p h2 q 9998 c.w _ _ hb;have d:(Op.equalIn 10000 t (.agg vs.toArray) (.agg us.toArray)).run P c.w=.ok b c.w:=by rw[run_equalIn_struct c.w 9999 t _ _ ht hp];exact r
 rcases h with rfl|rfl;exact⟨.bool b,by simp only[execOp,a,j,k,Sem.run_bind,run_eqGuard_agg c.w _ _ _ _ _ _ l,Result.andThen_ok,run_eql_struct,d];simp,by simp[V]⟩;exact⟨.bool !b,by simp only[execOp,a,j,k,Sem.run_bind,run_eqGuard_agg c.w _ _ _ _ _ _ l,Result.andThen_ok,run_neq_struct,d];simp,by simp[V]⟩
theorem DF {evs:Operand->SV} {o:Oper} {h:Hp} {n:Nat} {K:SV->Hp->Nat->Prop} {t:TypeId} {z:Nat} {ps:Array (Nat×Operand)} (f:o.op=.buildSlice t 0 ps) (a:ps = #[]) (hi:((A9 P t).bind P.info?).isSome=true)
 (g:K (.imm z [] true) h n):EI E P evs o h n K:=by
 subst a;refine⟨by rw[f];simp,λc ev hc _ R F hv=>?_⟩;obtain⟨i,hi⟩:=jn.1 hi;obtain⟨e,ht,hi⟩:=Option.bind_eq_some_iff.1 hi;have j:=A5 ht;have hw:(execOp ev o).run P c.w=.ok (.value (.slice (some ⟨c.w.heap.size,0,none⟩) 0 0)) (c.w.alloc (.cells #[] e)):=by
  simp[execOp,f,Instr.buildSlice,AO j,sizeOf,typeInfo,hi,Instr.fill,newRow];congr 2;simp
 have X:DZ c { c with w:=c.w.alloc (.cells #[] e) }:=by
  refine⟨λ_ _ e=>e,by simp,λb hb hn=>⟨hn,?_⟩,λb=>?_,rfl,rfl,⟨rfl,qa _⟩⟩;simp[Bk,jz,kv hb];unfold rm;rcases ji b c.w.heap.size with d|d;simp[Bk,jz,kv d];simp[jg d]
 refine⟨_,.imm z [] true,h,n,{ c with w:=c.w.alloc (.cells #[] e) },hw,?_,⟨λo x e=>(R.obj o x e).mono X λb hb=>?_,R.inj2,R.own2⟩,F,⟨X,qa _,λ_ _=>rfl⟩,g⟩;rw[V];exact .inr ⟨⟨c.w.heap.size,0,none⟩,0,[],rfl,qa _,λ_=>rfl,⟨by simp,by simp,by simp,by simp⟩,by simp[VE]⟩;have h2:=(R.obj o x e).hold_lt hb;simp[Bk,jz,kv h2]
def DA (P:Program) (cs ds:List SV):List (Bool×TypeId×Nat)->Option Bool
 | []=>some true
 | f::fs=>if f.1=true then none else
  match cs[f.2.2]?,ds[f.2.2]? with
  | some x,some y=>match DP P f.2.1 x y with|some true=>DA P cs ds fs|r=>r
  | _,_=>none
theorem CT (cs a:List SV):∀fs:List Field,Bv P cs a fs=DA P cs a (fs.map λf=>(f.name == "_",f.type,f.offset))
 | []=>rfl
 | f::fs=>by
  simp only[Bv,DA,qu,beq_iff_eq,CT cs a fs]
end
structure MM {α:Type} (f:α->SV) (z:Nat):Prop where
 st:∀x,(f x).storable=true
 len:∀x,(f x).cells.length=z
 cl:∀n x,closed n (f x)=true
theorem MM.size {α:Type} {f:α->SV} {z:Nat} (H:MM f z) (l:List α):∀e∈l.map f,e.storable=true/\e.cells.length=z:=by
 intro e a;simp only[qy]at a;obtain⟨x,_,rfl⟩:=a;exact⟨H.st x,H.len x⟩
theorem MM.closedL {α:Type} {f:α->SV} {z:Nat} (H:MM f z) (n:Nat) (l:List α):closedL n (l.map f)=true:=BU.2 (by
 intro e a;simp only[qy]at a;obtain⟨x,_,rfl⟩:=a;exact H.cl n x)
theorem MM.imm {α:Type} {f:α->SV} {z:Nat} (H:MM f z) (n a:Nat) (l:List α) (full:Bool):closed n (.imm a (l.map f) full)=true:=by rw[closed];exact H.closedL n l
theorem Hz:MM AA 1:=⟨λ_=>rfl,λ_=>rfl,λ_ _=>rfl⟩
theorem Er.E:MM Er.enc 2:=⟨λ_=>rfl,λ_=>rfl,λ_ _=>rfl⟩
theorem Az.E:MM Az.enc 2:=⟨λ_=>rfl,λ_=>rfl,λ_ _=>rfl⟩
theorem Am.E:MM Am.enc 4:=⟨λ_=>rfl,λ_=>rfl,λ_ _=>rfl⟩
theorem Ax.E:MM Ax.enc 3:=⟨λ_=>rfl,λ_=>rfl,λ_ _=>rfl⟩
theorem CX.E:MM CX.enc 4:=⟨λ_=>rfl,λ_=>rfl,λ_ _=>rfl⟩
theorem Au.E:MM Au.enc 6:=⟨λ_=>rfl,λ_=>rfl,λ_ _=>rfl⟩
theorem Ft.E:MM Ft.enc 2:=⟨λ_=>rfl,λ_=>rfl,λ_ _=>rfl⟩
theorem A6.E:MM A6.enc 6:=⟨λ_=>rfl,λ_=>rfl,λn s=>by simp[A6.enc,closed,closedL,Er.E.closedL]⟩
theorem Fb.E:MM Fb.enc 2:=⟨λ_=>rfl,λ_=>rfl,λn s=>by simp[Fb.enc,closed,closedL,CX.E.closedL]⟩
theorem AF.flat_closed (n:Nat) (h:AF):Sh.closedL n h.flat=true:=by simp[AF.flat,closed,closedL,Er.E.closedL,Az.E.closedL,Am.E.closedL]
theorem AF.E:MM AF.enc 5:=⟨λ_=>rfl,λ_=>rfl,λn s=>by rw[AF.enc,closed];exact s.flat_closed n⟩
theorem DR (n:Nat):∀(a b:List SV),closedL n (a++b)=(closedL n a&&closedL n b)
 | [],b=>by simp[closedL]
 | x::a,b=>by simp[closedL,DR n a b,Bool.and_assoc]
mutual
theorem AE.cl (n:Nat):∀x:AE,closed n x.enc=true
 | .mk k c i t h f r=>by
  rw[AE.enc,closed,DR,DR];simp[closed,closedL,h.flat_closed,AE.clL n f,Aa.clL n r]
theorem AE.clL (n:Nat):∀l:List AE,closedL n (AE.encL l)=true
 | []=>by simp[AE.encL,closedL]
 | x::l=>by rw[AE.encL,closedL,AE.cl n x,AE.clL n l];rfl
theorem Aa.cl (n:Nat):∀x:Aa,closed n x.enc=true
 | .mk h c=>by
  rw[Aa.enc,closed,DR];simp[closed,closedL,h.flat_closed,Wl.clL n c]
theorem Aa.clL (n:Nat):∀l:List Aa,closedL n (Aa.encL l)=true
 | []=>by simp[Aa.encL,closedL]
 | x::l=>by rw[Aa.encL,closedL,Aa.cl n x,Aa.clL n l];rfl
theorem Wl.cl (n:Nat):∀x:Wl,closed n x.enc=true
 | .mk i h f=>by
  rw[Wl.enc,closed,DR,DR];simp[closed,closedL,h.flat_closed,AE.clL n f]
theorem Wl.clL (n:Nat):∀l:List Wl,closedL n (Wl.encL l)=true
 | []=>by simp[Wl.encL,closedL]
 | x::l=>by rw[Wl.encL,closedL,Wl.cl n x,Wl.clL n l];rfl
end
theorem AE.E:MM AE.enc 11:=⟨λx=>by rw[qx];rfl,λx=>by rw[qx];rfl,AE.cl⟩
theorem Aa.E:MM Aa.enc 6:=⟨λx=>by rw[qQ];rfl,λx=>by rw[qQ];rfl,Aa.cl⟩
theorem Wl.E:MM Wl.enc 7:=⟨λx=>by rw[QS];rfl,λx=>by rw[QS];rfl,Wl.cl⟩
def AI.enc (d:AI):SV:=.agg ([AG d.flow]++d.«end».flat++[Ao d.revs]++d.settings.flat)
theorem DV {h' h:Hp} {k z o:Nat} {es:List SV} {full full':Bool} (hn:h o=none) (c:full'=true->full=true) (d:h' o=some (.cells (es.flatMap SV.cells))) (b:∀e∈es,e.storable=true/\e.cells.length=z):
 Fz h' h (k+1) (.sl o 0 z es.length full) (.imm z es full'):=by
 refine .inr ⟨hn,c,rfl,rfl,_,_,d,by simp[Bg,A7 b];rfl,b,?_⟩;have:∀l:List SV,AZ (Fz h' h k) l l:=by
  intro l;induction l with
  | nil=>trivial
  | cons a l ih=>exact⟨IO,ih⟩
 simp only[<-A7 b,qi];exact this _
theorem BC {h' h:Hp} {k z b:Nat} {full full':Bool} (a:full'=true->full=true):Fz h' h (k+1) (.imm z [] full) (.imm b [] full'):=
 .inr ⟨a,.inl rfl,trivial,by simp⟩
theorem T2 {α:Type} {f:α->SV} {z:Nat} (H:MM f z) {h h':Hp} {n n' o:Nat} {v:SV} {l:List α} {full:Bool} (a:Es h n) (b:∀o x,h o=some x->h' o=some x) (hn:n<=o) (c:v=.sl o 0 z l.length full) (hc:h' o=some (.cells ((l.map f).flatMap SV.cells))):
 B8 n h' n' v (Is (.imm z (l.map f) false) h n):=by
 subst c;have:=DV (h':=h') (h:=h) (k:=0) (z:=z) (es:=l.map f) (full:=full) (full':=false) (a.none hn) (by simp) hc (H.size l);rw[qd]at this;exact Dy 1 a b this (H.imm _ _ _ _)
theorem Jj {h h':Hp} {n n' z e:Nat} {v:SV} {full full':Bool} (c:Es h n) (b:∀o x,h o=some x->h' o=some x) (a:full'=true->full=true) (d:v=.imm z [] full):B8 n h' n' v (Is (.imm e [] full') h n):=by
 subst d;exact Dy 1 c b (BC a) (by simp[closed,closedL])
theorem HM {P:Program} {h:Hp} {n z:Nat} {t t2 el:TypeId} {es:List SV} {full:Bool} (ht:A9 P t=some el) (e:(A9 P t2).isSome=true) (j:Bh P el=z) (f:z≠0) (d:(BH P el).storable=true) (g:(BH P el).cells.length=z)
 (hb:BY P el<=65536) (c:es≠[]) (a:es.length<=1073741824) (b:Gq el=none:=by rfl):
 AU P h n .append [t,t2] [.imm z [] true,.imm z es full]=some { val:=.sl n 0 z es.length false,new:=some (.cells (es.flatMap SV.cells)) }:=by
 have h0:es.length≠0:=by cases es<;>simp at c ⊢
 have i:dY (0+es.length) (BY P el)=true:=by simp[dY];exact⟨a,hb⟩
 simp only[AU,e,if_true,Cm,ht,Dw,flat,j,g,d];simp[Hd,f,h0,b];simpa using i
def OP (z:Nat) (es:List SV) (h:Hp) (n:Nat):SV->Hp->Nat->Prop:=λv h' n'=>
 n<=n'/\(∀o x,h o=some x->h' o=some x)/\((es=[]/\∃z' full,v=.imm z' [] full)\/∃o full,n<=o/\o<n'/\v=.sl o 0 z es.length full/\h' o=some (.cells (es.flatMap SV.cells)))
abbrev LC (f:FuncId) (args:List SV) (z:Nat) (es:List SV):Prop:=∀h n,BA Tryz.prog f args h n (OP z es h n)
theorem LC.pc {f:FuncId} {args:List SV} {z:Nat} {es:List SV} (H:LC f args z es) (t:∀e∈es,e.storable=true/\e.cells.length=z) (d:∀n,closedL n es=true):PC f args (.imm z es false):=by
 intro h n;refine⟨(H h n).1,λc vs I R F A=>((H h n).2 c vs I R F A).mono ?_⟩;rintro e w' ⟨u,v,h',n',l,rfl,⟨hle,i,w⟩,rfl,s,a,F',X⟩;have p:Es h n:=λo x e=>HP F (R.obj o x e);have g:Fz h' h 1 v (.imm z es false):=by
  rcases w with⟨rfl,z',full,rfl⟩|⟨o,full,q,h2,rfl,r⟩
  exact BC (by simp);exact DV (p.none q) (by simp) r t
 have b:=a.less i;have k:V ((l.less h).cut h n) (.imm z es false) u:=(g.sound a i 1 s).cut b (λ_ _ e=>e) (by rw[closed];exact d n);refine⟨u,_,h,n,(l.less h).cut h n,rfl,⟨rfl,rfl,rfl⟩,rfl,k,b.cut (λo x e=>⟨e,p o x e⟩),S9,⟨Qz b (λ_ _ e=>e) F (qa _) (X.ext.trans (DU a i)),qa _,λj m=>?_⟩⟩;simp only[Cx.cut,m,if_true];exact X.same j m
theorem LC.use {E:B6} {f:FuncId} {args:List SV} {z:Nat} {es:List SV} (H:LC f args z es) {h:Hp} {n:Nat} {K:SV->Hp->Nat->Prop} (a:∀v h' n',OP z es h n v h' n'->K v h' n'):Ak E Tryz.prog f args h n K:=
 Ak.lift ((H h n).mono a)
structure AF.sized (h:AF):Prop where
 props:h.props.length<=1048576
 dels:h.dels.length<=1048576
 layers:h.layers.length<=1048576
mutual
def AE.sized:AE->Prop
 | .mk _ _ _ t h f r=>t.size<=1048576/\h.sized/\f.length<=1048576/\r.length<=1048576/\AE.sizedL f/\Aa.sizedL r
def AE.sizedL:List AE->Prop
 | []=>True
 | x::l=>x.sized/\AE.sizedL l
def Aa.sized:Aa->Prop
 | .mk h c=>h.sized/\c.length<=1048576/\Wl.sizedL c
def Aa.sizedL:List Aa->Prop
 | []=>True
 | x::l=>x.sized/\Aa.sizedL l
def Wl.sized:Wl->Prop
 | .mk _ h f=>h.sized/\f.length<=1048576/\AE.sizedL f
def Wl.sizedL:List Wl->Prop
 | []=>True
 | x::l=>x.sized/\Wl.sizedL l
end
theorem AE.sizedL_mem:∀{l:List AE},AE.sizedL l->∀x∈l,x.sized
 | _::_,h,x,a=>by rw[AE.sizedL]at h;rcases qk.1 a with rfl|a;exact h.1;exact AE.sizedL_mem h.2 x a
theorem Aa.sizedL_mem:∀{l:List Aa},Aa.sizedL l->∀x∈l,x.sized
 | _::_,h,x,a=>by rw[Aa.sizedL]at h;rcases qk.1 a with rfl|a;exact h.1;exact Aa.sizedL_mem h.2 x a
theorem Wl.sizedL_mem:∀{l:List Wl},Wl.sizedL l->∀x∈l,x.sized
 | _::_,h,x,a=>by rw[Wl.sizedL]at h;rcases qk.1 a with rfl|a;exact h.1;exact Wl.sizedL_mem h.2 x a
theorem AE.sizedL_of:∀{l:List AE},(∀x∈l,x.sized)->AE.sizedL l
 | [],_=>by rw[AE.sizedL];trivial
 | x::l,h=>by rw[AE.sizedL];exact⟨h x (by simp),AE.sizedL_of λy a=>h y (by simp[a])⟩
theorem Aa.sizedL_of:∀{l:List Aa},(∀x∈l,x.sized)->Aa.sizedL l
 | [],_=>by rw[Aa.sizedL];trivial
 | x::l,h=>by rw[Aa.sizedL];exact⟨h x (by simp),Aa.sizedL_of λy a=>h y (by simp[a])⟩
theorem Wl.sizedL_of:∀{l:List Wl},(∀x∈l,x.sized)->Wl.sizedL l
 | [],_=>by rw[Wl.sizedL];trivial
 | x::l,h=>by rw[Wl.sizedL];exact⟨h x (by simp),Wl.sizedL_of λy a=>h y (by simp[a])⟩
section
variable {P : Program}
theorem Dp {H:Hp} {n m k z:Nat} {es:List SV} {e:SV} {o:Option Nat} {t t2 el:TypeId} (ht:A9 P t=some el) (h:(A9 P t2).isSome=true) (u:Bh P el=z) (b:z≠0) (g:(BH P el).storable=true) (i:(BH P el).cells.length=z)
 (hb:BY P el<=65536) (hroom:es.length+1<=1073741824) (c:Ar n m z o es) (r:e.cells.length=z) (q:H k=some (.cells e.cells)) (h2:∀j,o=some j->H j=some (.cells (es.flatMap SV.cells))) (p:Nat) (a:Gq el=none:=by rfl):
 AU P H p .append [t,t2] [AM z o es,.sl k 0 z 1 true] =
  some { val:=.sl p 0 z (es.length+1) false,upd:=o.map λj=>(j,none),new:=some (.cells (es.flatMap SV.cells++e.cells)) }:=by
 have d:flat H (.sl k 0 z 1 true)=some e.cells:=by
  simp[flat,q,Bg,r];exact qB (by omega)
 have l:dY (es.length+1) (BY P el)=true:=by simp[dY];exact⟨by omega,hb⟩
 simp only[AU,h,if_true,Cm,ht,Dw,d,u,i,g];cases o with
 | none=>
  have:=c.none rfl;subst this;simp[AM,Hd,b,a];have f:dY 1 (BY P el)=true:=by simpa using l
  exact f
 | some j =>
  have s:flat H (.sl j 0 z es.length false)=some (es.flatMap SV.cells):=by
   simp only[flat,h2 j rfl,Bg,jc,A7 c.size,qa,if_true,kn];rw[<-A7 c.size,qi]
  simp[AM,Hd,b,s,l,GX a]
end
theorem dc {h H:Hp} {n m p z:Nat} {es:List SV} {e:SV} {o:Option Nat} {v:SV} (g:Es h n) (hn:n<=p) (d:Ar n m z o es) (c:∀j y,h j=some y->H j=some y):
 ∀j y,AN (some p) (es++[e]) h j=some y->(dW.app H p { val:=v,upd:=o.map λj=>(j,none),new:=some (.cells (es.flatMap SV.cells++e.cells)) }) j=some y:=by
 intro j y a;simp only[AN]at a;by_cases b:j=p;subst b;rw[AC]at a;simp only[dW.app,AC];rw[<-a];simp;rw[AD _ _ b]at a;have hlt:=(g j y a).1;cases o with
 | none=>simp[dW.app,AD _ _ b,c j y a]
 | some k=>
  have f:j≠k:=by have:=(d.lt k rfl).1;omega
  simp[dW.app,AD _ _ b,AD _ _ f,c j y a]
theorem Cu {h:Hp} {o:Option Nat} {es:List SV}:∀j,o=some j->AN o es h j=some (.cells (es.flatMap SV.cells)):=by
 rintro j rfl;simp[AN,hset]
theorem Kv {h h':Hp} {n m m' z:Nat} {o:Option Nat} {es:List SV} (f:Es h n) (a:Ar n m z o es) (c:∀j y,AN o es h j=some y->h' j=some y) (d:n<=m') (b:m<=m'):OP z es h n (AM z o es) h' m':=by
 refine⟨d,λj x e=>c j x (AN.old f a j x e),?_⟩;cases o with
 | none=>exact .inl ⟨a.none rfl,0,true,rfl⟩
 | some j=>exact .inr ⟨j,false,(a.lt j rfl).1,kq (a.lt j rfl).2 b,rfl,c j _ (by simp[AN,hset])⟩
theorem I3 {z:Nat} {es:List SV} (hs:∀e∈es,e.storable=true/\e.cells.length=z) (i:Nat):(es.flatMap SV.cells).take (i*z)=(es.take i).flatMap SV.cells/\(es.flatMap SV.cells).drop (i*z)=(es.drop i).flatMap SV.cells:=by
 induction es generalizing i with
 | nil=>simp
 | cons e es ih =>
  cases i with
  | zero=>simp
  | succ i=>
   have he:=(hs e (by simp)).2;obtain⟨h1,h2⟩:=ih (λx hx=>hs x (by simp[hx])) i;have e1:(i+1)*z=e.cells.length+i*z:=by rw[he,jB,Nat.one_mul,Nat.add_comm]
   simp only[qK,jl,List.drop_succ_cons,e1];rw[List.take_length_add_append,kl,h1,h2];exact⟨rfl,rfl⟩
theorem JU {z:Nat} {es:List SV} (b:∀e∈es,e.storable=true/\e.cells.length=z) {i:Nat} {e:SV} (h:es[i]? = some e):i*z+z<=(es.flatMap SV.cells).length/\((es.flatMap SV.cells).drop (i*z)).take z=e.cells:=by
 obtain⟨a,c⟩:=qo.1 h;have d:=(b e (by rw[<-c];exact ql a)).2;refine⟨?_,?_⟩;rw[A7 b];have:(i+1)*z<=es.length*z:=jt z a;rw[jB,Nat.one_mul]at this;exact this;rw[(I3 b i).2,qG a,c,qK,<-d,List.take_left]
theorem LT {z:Nat} {es:List SV} (a:∀e∈es,e.storable=true/\e.cells.length=z) {j:Nat} {e:SV} (c:j<es.length):(es.flatMap SV.cells).take (j*z)++(e.cells++(es.flatMap SV.cells).drop (j*z+z))=(es.set j e).flatMap SV.cells:=by
 have b:=(I3 a j).1;have h2:=(I3 a (j+1)).2;rw[jB,Nat.one_mul]at h2;rw[b,h2,ku,if_pos c];simp
section
variable {P : Program}
theorem GL {H:Hp} {n m k z j len:Nat} {es:List SV} {e:SV} {t t2 el:TypeId} (ht:A9 P t=some el) (f:(A9 P t2).isSome=true) (s:Bh P el=z) (g:z≠0) (d:(BH P el).storable=true) (h:(BH P el).cells.length=z)
 (hb:BY P el<=65536) (a:es.length+1<=1073741824) (q:Ar n m z (some j) es) (r:e.cells.length=z) (l:H k=some (.cells e.cells)) (h2:H j=some (.cells (es.flatMap SV.cells))) (p:Nat) (b:len=es.length) (c:Gq el=none:=by rfl):
 AU P H p .append [t,t2] [.sl j 0 z len false,.sl k 0 z 1 true] =
  some { val:=.sl p 0 z (es.length+1) false,upd:=some (j,none),new:=some (.cells (es.flatMap SV.cells++e.cells)) }:=by
 subst b;exact Dp (o:=some j) ht f s g d h hb a q r l (λi e=>by cases e;exact h2) p c
theorem Ky {H:Hp} {k z:Nat} {e:SV} {t t2 el:TypeId} (ht:A9 P t=some el) (c:(A9 P t2).isSome=true) (i:Bh P el=z) (d:z≠0) (b:(BH P el).storable=true) (f:(BH P el).cells.length=z)
 (hb:BY P el<=65536) (h:e.cells.length=z) (g:H k=some (.cells e.cells)) (p:Nat) (a:Gq el=none:=by rfl):
 AU P H p .append [t,t2] [.imm 0 [] true,.sl k 0 z 1 true]=some { val:=.sl p 0 z 1 false,new:=some (.cells e.cells) }:=
 Dp (n:=0) (m:=0) (o:=none) (es:=[]) ht c i d b f hb (by simp) (jK 0 0 z) h g (by simp) p a
end
theorem cI (l:List Er) (hl:l.length<=1048576):LC 185 [.imm 2 (l.map Er.enc) false] 2 (l.map Er.enc):=by
 intro h n;refine gq Tryz.func185 rfl λc=>?_;simp[go_sem];refine CU rfl (by kernel_rfl) rfl (λe=>?_) ?_;simp[go_sem];have:l=[]:=by simpa using e
 subst this;exact .inl ⟨qa _,AB,.inl ⟨rfl,_,_,rfl⟩⟩;simp[go_sem];refine DF (z:=2) rfl rfl (by kernel_rfl) ?_;cases l with
 | nil=>
  simp[go_sem];exact .inl ⟨qa _,AB,.inl ⟨rfl,_,_,rfl⟩⟩
 | cons a l=>
  have b:=HM (P:=Tryz.prog) (h:=h) (n:=n) (t:=23) (t2:=23) (el:=193) (z:=2) (es:=(a::l).map Er.enc) (full:=false) (by simp[go_sem]) (by simp[go_sem]) (by simp[go_sem]) (by simp) (by simp[go_sem]) (by simp[go_sem]) (by simp[go_sem]) (by simp) (by simp at hl ⊢;omega);simp only[qu]at b;simp[go_sem,b];refine .inl ⟨je n,AQ c (qa _) AB,.inr ⟨n,false,qa _,qP n,?_,?_⟩⟩;simp;simp[AC];rfl
theorem V3 (l:List Er) (hl:l.length<=1048576):PC 185 [.imm 2 (l.map Er.enc) false] (.imm 2 (l.map Er.enc) false):=(cI l hl).pc (Er.E.size l) λn=>Er.E.closedL n l
theorem YT (l:List Az) (hl:l.length<=1048576):LC 186 [.imm 2 (l.map Az.enc) false] 2 (l.map Az.enc):=by
 intro h n;refine gq Tryz.func186 rfl λc=>?_;simp[go_sem];refine CU rfl (by kernel_rfl) rfl (λe=>?_) ?_;simp[go_sem];have:l=[]:=by simpa using e
 subst this;exact .inl ⟨qa _,AB,.inl ⟨rfl,_,_,rfl⟩⟩;simp[go_sem];refine DF (z:=2) rfl rfl (by kernel_rfl) ?_;cases l with
 | nil=>
  simp[go_sem];exact .inl ⟨qa _,AB,.inl ⟨rfl,_,_,rfl⟩⟩
 | cons a l=>
  have b:=HM (P:=Tryz.prog) (h:=h) (n:=n) (t:=24) (t2:=24) (el:=166) (z:=2) (es:=(a::l).map Az.enc) (full:=false) (by simp[go_sem]) (by simp[go_sem]) (by simp[go_sem]) (by simp) (by simp[go_sem]) (by simp[go_sem]) (by simp[go_sem]) (by simp) (by simp at hl ⊢;omega);simp only[qu]at b;simp[go_sem,b];refine .inl ⟨je n,AQ c (qa _) AB,.inr ⟨n,false,qa _,qP n,?_,?_⟩⟩;simp;simp[AC];rfl
theorem aC (l:List Az) (hl:l.length<=1048576):PC 186 [.imm 2 (l.map Az.enc) false] (.imm 2 (l.map Az.enc) false):=(YT l hl).pc (Az.E.size l) λn=>Az.E.closedL n l
theorem YU (l:List Am) (hl:l.length<=1048576):LC 187 [.imm 4 (l.map Am.enc) false] 4 (l.map Am.enc):=by
 intro h n;refine gq Tryz.func187 rfl λc=>?_;simp[go_sem];refine CU rfl (by kernel_rfl) rfl (λe=>?_) ?_;simp[go_sem];have:l=[]:=by simpa using e
 subst this;exact .inl ⟨qa _,AB,.inl ⟨rfl,_,_,rfl⟩⟩;simp[go_sem];refine DF (z:=4) rfl rfl (by kernel_rfl) ?_;cases l with
 | nil=>
  simp[go_sem];exact .inl ⟨qa _,AB,.inl ⟨rfl,_,_,rfl⟩⟩
 | cons a l=>
  have b:=HM (P:=Tryz.prog) (h:=h) (n:=n) (t:=25) (t2:=25) (el:=164) (z:=4) (es:=(a::l).map Am.enc) (full:=false) (by simp[go_sem]) (by simp[go_sem]) (by simp[go_sem]) (by simp) (by simp[go_sem]) (by simp[go_sem]) (by simp[go_sem]) (by simp) (by simp at hl ⊢;omega);simp only[qu]at b;simp[go_sem,b];refine .inl ⟨je n,AQ c (qa _) AB,.inr ⟨n,false,qa _,qP n,?_,?_⟩⟩;simp;simp[AC];rfl
theorem aD (l:List Am) (hl:l.length<=1048576):PC 187 [.imm 4 (l.map Am.enc) false] (.imm 4 (l.map Am.enc) false):=(YU l hl).pc (Am.E.size l) λn=>Am.E.closedL n l
theorem YW (l:List Ax) (hl:l.length<=1048576):LC 76 [.imm 3 (l.map Ax.enc) false] 3 (l.map Ax.enc):=by
 intro h n;refine gq Tryz.func76 rfl λc=>?_;simp[go_sem];refine CU rfl (by kernel_rfl) rfl (λe=>?_) ?_;simp[go_sem];have:l=[]:=by simpa using e
 subst this;exact .inl ⟨qa _,AB,.inl ⟨rfl,_,_,rfl⟩⟩;simp[go_sem];refine DF (z:=3) rfl rfl (by kernel_rfl) ?_;cases l with
 | nil=>
  simp[go_sem];exact .inl ⟨qa _,AB,.inl ⟨rfl,_,_,rfl⟩⟩
 | cons a l=>
  have b:=HM (P:=Tryz.prog) (h:=h) (n:=n) (t:=30) (t2:=30) (el:=42) (z:=3) (es:=(a::l).map Ax.enc) (full:=false) (by simp[go_sem]) (by simp[go_sem]) (by simp[go_sem]) (by simp) (by simp[go_sem]) (by simp[go_sem]) (by simp[go_sem]) (by simp) (by simp at hl ⊢;omega);simp only[qu]at b;simp[go_sem,b];refine .inl ⟨je n,AQ c (qa _) AB,.inr ⟨n,false,qa _,qP n,?_,?_⟩⟩;simp;simp[AC];rfl
theorem c76 (l:List Ax) (hl:l.length<=1048576):PC 76 [.imm 3 (l.map Ax.enc) false] (.imm 3 (l.map Ax.enc) false):=(YW l hl).pc (Ax.E.size l) λn=>Ax.E.closedL n l
theorem cJ (l:List A6) (hl:l.length<=1048576):LC 199 [.imm 6 (l.map A6.enc) false] 6 (l.map A6.enc):=by
 intro h n;refine gq Tryz.func199 rfl λc=>?_;simp[go_sem];refine CU rfl (by kernel_rfl) rfl (λe=>?_) ?_;simp[go_sem];have:l=[]:=by simpa using e
 subst this;exact .inl ⟨qa _,AB,.inl ⟨rfl,_,_,rfl⟩⟩;simp[go_sem];refine DF (z:=6) rfl rfl (by kernel_rfl) ?_;cases l with
 | nil=>
  simp[go_sem];exact .inl ⟨qa _,AB,.inl ⟨rfl,_,_,rfl⟩⟩
 | cons a l=>
  have b:=HM (P:=Tryz.prog) (h:=h) (n:=n) (t:=31) (t2:=31) (el:=198) (z:=6) (es:=(a::l).map A6.enc) (full:=false) (by simp[go_sem]) (by simp[go_sem]) (by simp[go_sem]) (by simp) (by simp[go_sem]) (by simp[go_sem]) (by simp[go_sem]) (by simp) (by simp at hl ⊢;omega);simp only[qu]at b;simp[go_sem,b];refine .inl ⟨je n,AQ c (qa _) AB,.inr ⟨n,false,qa _,qP n,?_,?_⟩⟩;simp;simp[AC];rfl
theorem cK (l:List Fb) (hl:l.length<=1048576):LC 200 [.imm 2 (l.map Fb.enc) false] 2 (l.map Fb.enc):=by
 intro h n;refine gq Tryz.func200 rfl λc=>?_;simp[go_sem];refine CU rfl (by kernel_rfl) rfl (λe=>?_) ?_;simp[go_sem];have:l=[]:=by simpa using e
 subst this;exact .inl ⟨qa _,AB,.inl ⟨rfl,_,_,rfl⟩⟩;simp[go_sem];refine DF (z:=2) rfl rfl (by kernel_rfl) ?_;cases l with
 | nil=>
  simp[go_sem];exact .inl ⟨qa _,AB,.inl ⟨rfl,_,_,rfl⟩⟩
 | cons a l=>
  have b:=HM (P:=Tryz.prog) (h:=h) (n:=n) (t:=32) (t2:=32) (el:=103) (z:=2) (es:=(a::l).map Fb.enc) (full:=false) (by simp[go_sem]) (by simp[go_sem]) (by simp[go_sem]) (by simp) (by simp[go_sem]) (by simp[go_sem]) (by simp[go_sem]) (by simp) (by simp at hl ⊢;omega);simp only[qu]at b;simp[go_sem,b];refine .inl ⟨je n,AQ c (qa _) AB,.inr ⟨n,false,qa _,qP n,?_,?_⟩⟩;simp;simp[AC];rfl
theorem cL (l:List Au) (hl:l.length<=1048576):LC 201 [.imm 6 (l.map Au.enc) false] 6 (l.map Au.enc):=by
 intro h n;refine gq Tryz.func201 rfl λc=>?_;simp[go_sem];refine CU rfl (by kernel_rfl) rfl (λe=>?_) ?_;simp[go_sem];have:l=[]:=by simpa using e
 subst this;exact .inl ⟨qa _,AB,.inl ⟨rfl,_,_,rfl⟩⟩;simp[go_sem];refine DF (z:=6) rfl rfl (by kernel_rfl) ?_;cases l with
 | nil=>
  simp[go_sem];exact .inl ⟨qa _,AB,.inl ⟨rfl,_,_,rfl⟩⟩
 | cons a l=>
  have b:=HM (P:=Tryz.prog) (h:=h) (n:=n) (t:=33) (t2:=33) (el:=115) (z:=6) (es:=(a::l).map Au.enc) (full:=false) (by simp[go_sem]) (by simp[go_sem]) (by simp[go_sem]) (by simp) (by simp[go_sem]) (by simp[go_sem]) (by simp[go_sem]) (by simp) (by simp at hl ⊢;omega);simp only[qu]at b;simp[go_sem,b];refine .inl ⟨je n,AQ c (qa _) AB,.inr ⟨n,false,qa _,qP n,?_,?_⟩⟩;simp;simp[AC];rfl
theorem aI (l:List Au) (hl:l.length<=1048576):PC 201 [.imm 6 (l.map Au.enc) false] (.imm 6 (l.map Au.enc) false):=(cL l hl).pc (Au.E.size l) λn=>Au.E.closedL n l
theorem cM (l:List Ft) (hl:l.length<=1048576):LC 202 [.imm 2 (l.map Ft.enc) false] 2 (l.map Ft.enc):=by
 intro h n;refine gq Tryz.func202 rfl λc=>?_;simp[go_sem];refine CU rfl (by kernel_rfl) rfl (λe=>?_) ?_;simp[go_sem];have:l=[]:=by simpa using e
 subst this;exact .inl ⟨qa _,AB,.inl ⟨rfl,_,_,rfl⟩⟩;simp[go_sem];refine DF (z:=2) rfl rfl (by kernel_rfl) ?_;cases l with
 | nil=>
  simp[go_sem];exact .inl ⟨qa _,AB,.inl ⟨rfl,_,_,rfl⟩⟩
 | cons a l=>
  have b:=HM (P:=Tryz.prog) (h:=h) (n:=n) (t:=34) (t2:=34) (el:=118) (z:=2) (es:=(a::l).map Ft.enc) (full:=false) (by simp[go_sem]) (by simp[go_sem]) (by simp[go_sem]) (by simp) (by simp[go_sem]) (by simp[go_sem]) (by simp[go_sem]) (by simp) (by simp at hl ⊢;omega);simp only[qu]at b;simp[go_sem,b];refine .inl ⟨je n,AQ c (qa _) AB,.inr ⟨n,false,qa _,qP n,?_,?_⟩⟩;simp;simp[AC];rfl
theorem aJ (l:List Ft) (hl:l.length<=1048576):PC 202 [.imm 2 (l.map Ft.enc) false] (.imm 2 (l.map Ft.enc) false):=(cM l hl).pc (Ft.E.size l) λn=>Ft.E.closedL n l
theorem cN (l:List CX) (hl:l.length<=1048576):LC 203 [.imm 4 (l.map CX.enc) false] 4 (l.map CX.enc):=by
 intro h n;refine gq Tryz.func203 rfl λc=>?_;simp[go_sem];refine CU rfl (by kernel_rfl) rfl (λe=>?_) ?_;simp[go_sem];have:l=[]:=by simpa using e
 subst this;exact .inl ⟨qa _,AB,.inl ⟨rfl,_,_,rfl⟩⟩;simp[go_sem];refine DF (z:=4) rfl rfl (by kernel_rfl) ?_;cases l with
 | nil=>
  simp[go_sem];exact .inl ⟨qa _,AB,.inl ⟨rfl,_,_,rfl⟩⟩
 | cons a l=>
  have b:=HM (P:=Tryz.prog) (h:=h) (n:=n) (t:=101) (t2:=101) (el:=106) (z:=4) (es:=(a::l).map CX.enc) (full:=false) (by simp[go_sem]) (by simp[go_sem]) (by simp[go_sem]) (by simp) (by simp[go_sem]) (by simp[go_sem]) (by simp[go_sem]) (by simp) (by simp at hl ⊢;omega);simp only[qu]at b;simp[go_sem,b];refine .inl ⟨je n,AQ c (qa _) AB,.inr ⟨n,false,qa _,qP n,?_,?_⟩⟩;simp;simp[AC];rfl
theorem aK (l:List CX) (hl:l.length<=1048576):PC 203 [.imm 4 (l.map CX.enc) false] (.imm 4 (l.map CX.enc) false):=(cN l hl).pc (CX.E.size l) λn=>CX.E.closedL n l
theorem Ob (h0:AF) (a:h0.sized):PC 118 [h0.enc] h0.enc:=by
 intro h n;refine gq Tryz.func118 rfl λb=>?_;simp[go_sem,AF.enc,AF.flat,AC,AD];refine(V3 _ a.props).use ?_;simp[go_sem,AC,AD]
 repeat first|refine nq ?_|refine sq ?_|refine aq ?_
 refine jw _ _ _ _ _ _ (aC _ a.dels) ?_;simp[go_sem,AC]
 repeat first|refine nq ?_|refine sq ?_|refine aq ?_
 refine jw _ _ _ _ _ _ (aD _ a.layers) ?_;simp[go_sem,AC,AD]
 repeat first|refine nq ?_|refine sq ?_|refine aq ?_
 exact Ay b (by repeat(first|exact AB|refine AQ b (by omega) ?_)) rfl (AF.E.cl n h0)
theorem cH (l:List AE) (hl:l.length<=1048576) (g:FuncId) (a b:List SV) (f:AE->AE) (hf:∀(i:Nat) (h:i<l.length),PC g (a++[AE.enc l[i]]++b) (AE.enc (f l[i]))):LC 174 [.imm 11 (l.map AE.enc) false,.fn (.func g) a b] 11 ((l.map f).map AE.enc):=by
 intro h n;generalize hR:(l.map f).map AE.enc=R;refine gq Tryz.func174 rfl λho=>?_;simp[go_sem];refine An 1 (α:=Nat×Option Nat) (λq=>[(1,.fn (.func g) a b),(5,AM 11 q.2 (((l.take q.1).map f).map AE.enc)),(8,.imm 11 (l.map AE.enc) false),(9,AA l.length),(10,AA q.1)]) (λq=>AN q.2 (((l.take q.1).map f).map AE.enc) h)
  (λq m=>q.1<=l.length/\n<=m/\Ar n m 11 q.2 (((l.take q.1).map f).map AE.enc)) (λq=>l.length-q.1) (0,none) ?_ ?_ AB ?_
 simp;exact jK _ _ _;simp[Ai,AM];rintro⟨k,o⟩ m ⟨hk,hnm,hA⟩;dsimp only at hk hA ⊢;have hlen:(((l.take k).map f).map AE.enc).length=k:=by simp;omega
 by_cases hlt:k<l.length
 . have w1:=wS k (by omega);obtain⟨x,hx⟩:∃x,l[k]=x:=⟨_,rfl⟩
   have H:=hf k hlt;rw[hx]at H;simp only[qn,qz,qE]at H;have hgx:(l.map AE.enc)[k]? = some x.enc:=by simp[hlt,hx]
   have htk:((l.take (k+1)).map f).map AE.enc=((l.take k).map f).map AE.enc++[(f x).enc]:=by rw[qb hlt,hx];simp
   have hpush:=hA.push (j:=m+1+1) (m':=m+1+1+1) (e:=(f x).enc) (AE.E.st _) (AE.E.len _) (by omega) (by omega);rw[<-htk]at hpush;generalize hes:((l.take k).map f).map AE.enc=es at hA htk hlen ⊢;simp only[qO]at hgx;simp[go_sem,hlt,hx,qx,AC,-List.map_map,-List.map_take];refine qw (by simpa[qx]using H) ?_;simp[go_sem,-List.map_map,-List.map_take];rw[Dp (es:=es) (e:=(f x).enc) (o:=o) (t:=22) (t2:=22) (el:=70) (z:=11) (by simp[go_sem]) (by simp[go_sem]) (by simp[go_sem]) (by simp) (by simp[go_sem]) (by simp[go_sem]) (by simp[go_sem]) (by omega) hA (AE.E.len _) ?a1 ?a2]
   case a1=>simp[AC,qx,SV.cells]
   case a2=>
    intro j e;have:=(hA.lt j e).2;rw[AD _ _ (by omega),AD _ _ (by omega),AD _ _ (by omega)];exact Cu j e
   simp[go_sem,w1,-Int.natCast_add,-List.map_map,-List.map_take];refine⟨k+1,by omega,some (m+1+1),⟨by omega,by omega,hpush⟩,⟨?_,IO⟩,?_⟩;rw[htk];simp[AM,IO];rw[htk];have:=dc (p:=m+1+1) (v:=.sl (m+1+1) 0 11 (es.length+1) false) (e:=(f x).enc) ho (by omega) hA (H:=hset (hset (hset (AN o es h) m (some (.cells [.int .i64 0,.int .i64 0,.int .i64 0,.str .empty,.imm 0 [] true,.int .i64 0,.int .i64 0,.imm 0 [] true,.imm 0 [] true,.imm 0 [] true,.imm 0 [] true]))) m (some (.cells x.enc.cells))) (m+1) (some (.cells (f x).enc.cells)))
    (AQ ho (by omega) (AQ ho (by omega) (AQ ho (by omega) (AN.old ho hA))))
   simpa[qx,SV.cells,dW.app]using this
 have:k=l.length:=by omega
 subst this;simp only[qi,hR]at hA ⊢;simp[go_sem,-List.map_map,-List.map_take];exact .inl (Kv ho hA AB hnm (qa _))
theorem YR (l:List Aa) (hl:l.length<=1048576) (g:FuncId) (a b:List SV) (f:Aa->Aa) (hf:∀(i:Nat) (h:i<l.length),PC g (a++[Aa.enc l[i]]++b) (Aa.enc (f l[i]))):LC 134 [.imm 6 (l.map Aa.enc) false,.fn (.func g) a b] 6 ((l.map f).map Aa.enc):=by
 intro h n;generalize hR:(l.map f).map Aa.enc=R;refine gq Tryz.func134 rfl λho=>?_;simp[go_sem];refine An 1 (α:=Nat×Option Nat) (λq=>[(1,.fn (.func g) a b),(5,AM 6 q.2 (((l.take q.1).map f).map Aa.enc)),(8,.imm 6 (l.map Aa.enc) false),(9,AA l.length),(10,AA q.1)]) (λq=>AN q.2 (((l.take q.1).map f).map Aa.enc) h)
  (λq m=>q.1<=l.length/\n<=m/\Ar n m 6 q.2 (((l.take q.1).map f).map Aa.enc)) (λq=>l.length-q.1) (0,none) ?_ ?_ AB ?_
 simp;exact jK _ _ _;simp[Ai,AM];rintro⟨k,o⟩ m ⟨hk,hnm,hA⟩;dsimp only at hk hA ⊢;have hlen:(((l.take k).map f).map Aa.enc).length=k:=by simp;omega
 by_cases hlt:k<l.length
 . have w1:=wS k (by omega);obtain⟨x,hx⟩:∃x,l[k]=x:=⟨_,rfl⟩
   have H:=hf k hlt;rw[hx]at H;simp only[qn,qz,qE]at H;have hgx:(l.map Aa.enc)[k]? = some x.enc:=by simp[hlt,hx]
   have htk:((l.take (k+1)).map f).map Aa.enc=((l.take k).map f).map Aa.enc++[(f x).enc]:=by rw[qb hlt,hx];simp
   have hpush:=hA.push (j:=m+1+1) (m':=m+1+1+1) (e:=(f x).enc) (Aa.E.st _) (Aa.E.len _) (by omega) (by omega);rw[<-htk]at hpush;generalize hes:((l.take k).map f).map Aa.enc=es at hA htk hlen ⊢;simp only[qO]at hgx;simp[go_sem,hlt,hx,qQ,AC,-List.map_map,-List.map_take];refine qw (by simpa[qQ]using H) ?_;simp[go_sem,-List.map_map,-List.map_take];rw[Dp (es:=es) (e:=(f x).enc) (o:=o) (t:=68) (t2:=68) (el:=169) (z:=6) (by simp[go_sem]) (by simp[go_sem]) (by simp[go_sem]) (by simp) (by simp[go_sem]) (by simp[go_sem]) (by simp[go_sem]) (by omega) hA (Aa.E.len _) ?a1 ?a2]
   case a1=>simp[AC,qQ,SV.cells]
   case a2=>
    intro j e;have:=(hA.lt j e).2;rw[AD _ _ (by omega),AD _ _ (by omega),AD _ _ (by omega)];exact Cu j e
   simp[go_sem,w1,-Int.natCast_add,-List.map_map,-List.map_take];refine⟨k+1,by omega,some (m+1+1),⟨by omega,by omega,hpush⟩,⟨?_,IO⟩,?_⟩;rw[htk];simp[AM,IO];rw[htk];have:=dc (p:=m+1+1) (v:=.sl (m+1+1) 0 6 (es.length+1) false) (e:=(f x).enc) ho (by omega) hA (H:=hset (hset (hset (AN o es h) m (some (.cells [.imm 0 [] true,.int .i64 0,.int .i64 0,.imm 0 [] true,.imm 0 [] true,.imm 0 [] true]))) m (some (.cells x.enc.cells))) (m+1) (some (.cells (f x).enc.cells)))
    (AQ ho (by omega) (AQ ho (by omega) (AQ ho (by omega) (AN.old ho hA))))
   simpa[qQ,SV.cells,dW.app]using this
 have:k=l.length:=by omega
 subst this;simp only[qi,hR]at hA ⊢;simp[go_sem,-List.map_map,-List.map_take];exact .inl (Kv ho hA AB hnm (qa _))
theorem YV (l:List Wl) (hl:l.length<=1048576) (g:FuncId) (a b:List SV) (f:Wl->Wl) (hf:∀(i:Nat) (h:i<l.length),PC g (a++[Wl.enc l[i]]++b) (Wl.enc (f l[i]))):LC 194 [.imm 7 (l.map Wl.enc) false,.fn (.func g) a b] 7 ((l.map f).map Wl.enc):=by
 intro h n;generalize hR:(l.map f).map Wl.enc=R;refine gq Tryz.func194 rfl λho=>?_;simp[go_sem];refine An 1 (α:=Nat×Option Nat) (λq=>[(1,.fn (.func g) a b),(5,AM 7 q.2 (((l.take q.1).map f).map Wl.enc)),(8,.imm 7 (l.map Wl.enc) false),(9,AA l.length),(10,AA q.1)]) (λq=>AN q.2 (((l.take q.1).map f).map Wl.enc) h)
  (λq m=>q.1<=l.length/\n<=m/\Ar n m 7 q.2 (((l.take q.1).map f).map Wl.enc)) (λq=>l.length-q.1) (0,none) ?_ ?_ AB ?_
 simp;exact jK _ _ _;simp[Ai,AM];rintro⟨k,o⟩ m ⟨hk,hnm,hA⟩;dsimp only at hk hA ⊢;have hlen:(((l.take k).map f).map Wl.enc).length=k:=by simp;omega
 by_cases hlt:k<l.length
 . have w1:=wS k (by omega);obtain⟨x,hx⟩:∃x,l[k]=x:=⟨_,rfl⟩
   have H:=hf k hlt;rw[hx]at H;simp only[qn,qz,qE]at H;have hgx:(l.map Wl.enc)[k]? = some x.enc:=by simp[hlt,hx]
   have htk:((l.take (k+1)).map f).map Wl.enc=((l.take k).map f).map Wl.enc++[(f x).enc]:=by rw[qb hlt,hx];simp
   have hpush:=hA.push (j:=m+1+1) (m':=m+1+1+1) (e:=(f x).enc) (Wl.E.st _) (Wl.E.len _) (by omega) (by omega);rw[<-htk]at hpush;generalize hes:((l.take k).map f).map Wl.enc=es at hA htk hlen ⊢;simp only[qO]at hgx;simp[go_sem,hlt,hx,QS,AC,-List.map_map,-List.map_take];refine qw (by simpa[QS]using H) ?_;simp[go_sem,-List.map_map,-List.map_take];rw[Dp (es:=es) (e:=(f x).enc) (o:=o) (t:=167) (t2:=167) (el:=171) (z:=7) (by simp[go_sem]) (by simp[go_sem]) (by simp[go_sem]) (by simp) (by simp[go_sem]) (by simp[go_sem]) (by simp[go_sem]) (by omega) hA (Wl.E.len _) ?a1 ?a2]
   case a1=>simp[AC,QS,SV.cells]
   case a2=>
    intro j e;have:=(hA.lt j e).2;rw[AD _ _ (by omega),AD _ _ (by omega),AD _ _ (by omega)];exact Cu j e
   simp[go_sem,w1,-Int.natCast_add,-List.map_map,-List.map_take];refine⟨k+1,by omega,some (m+1+1),⟨by omega,by omega,hpush⟩,⟨?_,IO⟩,?_⟩;rw[htk];simp[AM,IO];rw[htk];have:=dc (p:=m+1+1) (v:=.sl (m+1+1) 0 7 (es.length+1) false) (e:=(f x).enc) ho (by omega) hA (H:=hset (hset (hset (AN o es h) m (some (.cells [.int .i64 0,.imm 0 [] true,.int .i64 0,.int .i64 0,.imm 0 [] true,.imm 0 [] true,.imm 0 [] true]))) m (some (.cells x.enc.cells))) (m+1) (some (.cells (f x).enc.cells)))
    (AQ ho (by omega) (AQ ho (by omega) (AQ ho (by omega) (AN.old ho hA))))
   simpa[QS,SV.cells,dW.app]using this
 have:k=l.length:=by omega
 subst this;simp only[qi,hR]at hA ⊢;simp[go_sem,-List.map_map,-List.map_take];exact .inl (Kv ho hA AB hnm (qa _))
theorem Ng (l:List AE) (hl:l.length<=1048576) (H:∀(i:Nat) (h:i<l.length),PC 175 [(l[i]).enc] (l[i]).enc):PC 110 [AG l] (AG l):=by
 intro h n;refine gq Tryz.func110 rfl λb=>?_;simp[go_sem];have a:=(cH l hl 175 [] [] id (λi hi=>H i hi)).pc (by rw[kN];exact AE.E.size l) (λn=>by rw[kN];exact AE.E.closedL n l);rw[kN]at a;refine a.use ?_;simp[go_sem];exact As b (AE.E.imm _ _ _ _) rfl
theorem Ue (x:Wl) (b:x.head.sized) (H:PC 110 [AG x.flow] (AG x.flow)):PC 249 [x.enc] x.enc:=by
 intro h n;refine gq Tryz.func249 rfl λa=>?_;simp[go_sem,QS,AC,AD]
 repeat first|refine nq ?_|refine sq ?_|refine aq ?_
 refine jw _ _ _ _ _ _ (by simpa[AF.enc,AF.flat]using Ob x.head b) ?_;simp[go_sem,AC,AD]
 repeat first|refine nq ?_|refine sq ?_|refine aq ?_
 refine jw _ _ _ _ _ _ H ?_;simp[go_sem,AC]
 repeat first|refine nq ?_|refine sq ?_|refine aq ?_
 exact Ay a (by repeat(first|exact AB|refine AQ a (by omega) ?_)) rfl (by rw[<-QS];exact Wl.cl n x)
theorem Uc (x:Aa) (c:x.head.sized) (hc:x.cells.length<=1048576) (H:∀(i:Nat) (h:i<x.cells.length),PC 249 [(x.cells[i]).enc] (x.cells[i]).enc):PC 176 [x.enc] x.enc:=by
 intro h n;refine gq Tryz.func176 rfl λb=>?_;have a:=(YV x.cells hc 249 [] [] id (λi hi=>H i hi)).pc (by rw[kN];exact Wl.E.size _) (λn=>by rw[kN];exact Wl.E.closedL n _);rw[kN]at a;simp[go_sem,qQ,AC,AD]
 repeat first|refine nq ?_|refine sq ?_|refine aq ?_
 refine jw _ _ _ _ _ _ (by simpa[AF.enc,AF.flat]using Ob x.head c) ?_;simp[go_sem,AC,AD]
 repeat first|refine nq ?_|refine sq ?_|refine aq ?_
 refine jw _ _ _ _ _ _ a ?_;simp[go_sem,AC]
 repeat first|refine nq ?_|refine sq ?_|refine aq ?_
 exact Ay b (by repeat(first|exact AB|refine AQ b (by omega) ?_)) rfl (by rw[<-qQ];exact Aa.cl n x)
theorem Ub (x:AE) (e:x.head.sized) (d:x.rows.length<=1048576) (H:PC 110 [AG x.flow] (AG x.flow)) (c:∀(i:Nat) (h:i<x.rows.length),PC 176 [(x.rows[i]).enc] (x.rows[i]).enc):PC 175 [x.enc] x.enc:=by
 intro h n;refine gq Tryz.func175 rfl λb=>?_;have a:=(YR x.rows d 176 [] [] id (λi hi=>c i hi)).pc (by rw[kN];exact Aa.E.size _) (λn=>by rw[kN];exact Aa.E.closedL n _);rw[kN]at a;simp[go_sem,qx,AC,AD]
 repeat first|refine nq ?_|refine sq ?_|refine aq ?_
 refine jw _ _ _ _ _ _ (by simpa[AF.enc,AF.flat]using Ob x.head e) ?_;simp[go_sem,AC,AD]
 repeat first|refine nq ?_|refine sq ?_|refine aq ?_
 refine jw _ _ _ _ _ _ H ?_;simp[go_sem,AC,AD]
 repeat first|refine nq ?_|refine sq ?_|refine aq ?_
 refine jw _ _ _ _ _ _ a ?_;simp[go_sem,AC,AD]
 repeat first|refine nq ?_|refine sq ?_|refine aq ?_
 exact Ay b (by repeat(first|exact AB|refine AQ b (by omega) ?_)) rfl (by rw[<-qx];exact AE.cl n x)
mutual
theorem Z8:∀x:AE,x.sized->PC 175 [x.enc] x.enc
 | .mk k c i t hd f r,hs=>by
  rw[AE.sized]at hs;exact Ub (.mk k c i t hd f r) hs.2.1 hs.2.2.2.1 (Ng f hs.2.2.1 (Qt f hs.2.2.2.2.1)) (VR r hs.2.2.2.2.2)
theorem Qt:∀l:List AE,AE.sizedL l->∀(i:Nat) (h:i<l.length),PC 175 [(l[i]).enc] (l[i]).enc
 | [],_,i,h=>by simp at h
 | x::l,hs,0,_=>by rw[AE.sizedL]at hs;exact Z8 x hs.1
 | x::l,hs,i+1,h=>by rw[AE.sizedL]at hs;exact Qt l hs.2 i (by simpa using h)
theorem Z9:∀x:Aa,x.sized->PC 176 [x.enc] x.enc
 | .mk hd c,hs=>by
  rw[Aa.sized]at hs;exact Uc (.mk hd c) hs.1 hs.2.1 (VU c hs.2.2)
theorem VR:∀l:List Aa,Aa.sizedL l->∀(i:Nat) (h:i<l.length),PC 176 [(l[i]).enc] (l[i]).enc
 | [],_,i,h=>by simp at h
 | x::l,hs,0,_=>by rw[Aa.sizedL]at hs;exact Z9 x hs.1
 | x::l,hs,i+1,h=>by rw[Aa.sizedL]at hs;exact VR l hs.2 i (by simpa using h)
theorem aW:∀x:Wl,x.sized->PC 249 [x.enc] x.enc
 | .mk i hd f,hs=>by
  rw[Wl.sized]at hs;exact Ue (.mk i hd f) hs.1 (Ng f hs.2.1 (Qt f hs.2.2))
theorem VU:∀l:List Wl,Wl.sizedL l->∀(i:Nat) (h:i<l.length),PC 249 [(l[i]).enc] (l[i]).enc
 | [],_,i,h=>by simp at h
 | x::l,hs,0,_=>by rw[Wl.sizedL]at hs;exact aW x hs.1
 | x::l,hs,i+1,h=>by rw[Wl.sizedL]at hs;exact VU l hs.2 i (by simpa using h)
end
theorem XS (l:List AE) (hl:l.length<=1048576) (a:AE.sizedL l):PC 110 [AG l] (AG l):=Ng l hl (Qt l a)
def AE.units (x:AE):Int:=if x.kind=1 then(if CZ x.text then DK x.text x.text.size else 0)else 1
def AE.uerr (x:AE):Int:=if x.kind=1 then(if CZ x.text then 0 else 12)else 0
theorem AE.units_le (x:AE) (h:x.text.size<=1048576):0<=x.units/\x.units<=1048576:=by
 unfold AE.units;have:=HS x.text x.text.size;split<;>(try split)<;>omega
theorem Vy (x:AE) (hs:x.text.size<=1048576):PC 111 [x.enc] (.tup [AA x.units,AA x.uerr]):=by
 intro h n;refine gq Tryz.func111 rfl λb=>?_;by_cases a:x.kind=1;simp[go_sem,qx,AC,a];refine(Xb x.text (by omega)).use ?_;simp[go_sem];exact Ay b (AQ b (qa _) AB) (by simp[AE.units,AE.uerr,a]) rfl;simp[go_sem,qx,AC,a];exact Ay b (AQ b (qa _) AB) (by simp[AE.units,AE.uerr,a]) rfl
def CI:List AE->Int
 | []=>0
 | x::l=>x.units+CI l
def NY (l:List AE):Bool:=l.any λx=>decide (x.uerr≠0)
theorem Gt:∀(a b:List AE),CI (a++b)=CI a+CI b
 | [],b=>by simp[CI]
 | x::a,b=>by simp[CI,Gt a b];omega
theorem Ik:∀(l:List AE),(∀x∈l,x.text.size<=1048576)->0<=CI l/\CI l<=l.length*1048576
 | [],_=>by simp[CI]
 | x::l,h=>by
  have h1:=Ik l λy a=>h y (by simp[a]);have h2:=x.units_le (h x (by simp));simp only[CI,qF];omega
def A8 (l:List AE):Int×Int:=if NY l then(0,12)else(CI l,0)
theorem VV (l:List AE) (hl:l.length<=1048576) (j:∀x∈l,x.text.size<=1048576):PC 35 [AG l] (.tup [AA (A8 l).1,AA (A8 l).2]):=by
 intro h n;refine gq Tryz.func35 rfl λg=>?_;simp[go_sem];refine An 1 (α:=Nat) (λk=>[(4,AA (CI (l.take k))),(9,AG l),(10,AA l.length),(11,AA k)]) (λ_=>h) (λk m=>k<=l.length/\n<=m/\NY (l.take k)=false) (λk=>l.length-k) 0 ?_ ?_ AB ?_;simp[NY];simp[Ai,CI];rintro k m ⟨hk,hnm,f⟩;by_cases a:k<l.length
 . have w1:=wS k (by omega);obtain⟨x,i⟩:∃x,l[k]=x:=⟨_,rfl⟩
   have c:x∈l:=by rw[<-i];exact ql a
   have d:=j x c;have b:l.take (k+1)=l.take k++[x]:=by rw[qb a,i]
   have WI:=Ik (l.take k) λy o=>j y (qH o);have Hn:=x.units_le d;have hlk:((l.take k).length:Int)<=1048576:=by simp;omega
   have w2:IntKind.i64.wrap (CI (l.take k)+x.units)=CI (l.take (k+1)):=by
    rw[Cl,b,Gt];simp[CI];omega;have:((l.take k).length:Int)*1048576<=1048576*1048576:=by omega
    omega
   simp[go_sem,a,i,qx,AC];refine qw (by simpa[qx]using Vy x d) ?_;by_cases e:x.uerr=0
   . simp[go_sem,e,w1,w2,-Int.natCast_add];refine⟨k+1,by omega,⟨by omega,by omega,?_⟩,⟨IO,IO⟩,by repeat(first|exact AB|refine AQ g (by omega) ?_)⟩;rw[b];simp only[NY,List.any_append]at f ⊢;rw[f];simp[e]
   . simp[go_sem,e];have:NY l=true:=by simp only[NY,List.any_eq_true];exact⟨x,c,by simpa using e⟩
     exact Ay g (by repeat(first|exact AB|refine AQ g (by omega) ?_)) (by simp[A8,this]) rfl
 simp[go_sem,a];have:k=l.length:=by omega
 subst this;rw[qi]at f ⊢;exact As g rfl (by simp[A8,f])
def ET (l:List AE) (a b:Int):Int:=if(A8 l).2=0 then if a<0\/b<a\/(A8 l).1<b then 2 else 0 else(A8 l).2
theorem aX (l:List AE) (a b:Int) (hl:l.length<=1048576) (f:∀x∈l,x.text.size<=1048576):PC 250 [AG l,AA a,AA b] (AA (ET l a b)):=by
 intro h n;refine gq Tryz.func250 rfl λd=>?_;simp[go_sem];refine(VV l hl f).use ?_;by_cases h0:(A8 l).2=0;by_cases c:a<0;simp[go_sem,h0,c];exact As d rfl (by simp[ET,h0,c]);by_cases h2:b<a;simp[go_sem,h0,c,h2];exact As d rfl (by simp[ET,h0,h2]);by_cases e:(A8 l).1<b<;>simp[go_sem,h0,c,h2,e]<;>exact As d rfl (by simp[ET,h0,c,h2,e]);simp[go_sem,h0];exact As d rfl (by simp[ET,h0])
theorem YL:(Ba Tryz.prog 193).map (λf=>(f.name == "_",f.type,f.offset))=[(false,3,0),(false,3,1)]:=by kernel_rfl
theorem YI:(Ba Tryz.prog 166).map (λf=>(f.name == "_",f.type,f.offset))=[(false,3,0),(false,3,1)]:=by kernel_rfl
theorem YH:(Ba Tryz.prog 164).map (λf=>(f.name == "_",f.type,f.offset))=[(false,3,0),(false,3,1),(false,3,2),(false,4,3)]:=by kernel_rfl
theorem YA (a b:Er):Bv Tryz.prog [AA a.key,AA a.value] [AA b.key,AA b.value] (Ba Tryz.prog 193)=some (decide (a=b)):=by
 rw[CT,YL];cases a;cases b;rename_i a1 a2 b1 c;by_cases d:a1=b1<;>by_cases h2:a2=c<;>simp[DA,DP,go_sem,d,h2]
theorem X9 (a b:Az):Bv Tryz.prog [AA a.rev,AA a.move] [AA b.rev,AA b.move] (Ba Tryz.prog 166)=some (decide (a=b)):=by
 rw[CT,YI];cases a;cases b;rename_i a1 a2 b1 c;by_cases d:a1=b1<;>by_cases h2:a2=c<;>simp[DA,DP,go_sem,d,h2]
theorem X8 (a b:Am):Bv Tryz.prog [AA a.rev,AA a.key,AA a.before,.bool a.had] [AA b.rev,AA b.key,AA b.before,.bool b.had] (Ba Tryz.prog 164)=some (decide (a=b)):=by
 rw[CT,YH];cases a;cases b;rename_i a1 a2 a3 a4 b1 c d e;by_cases f:a1=b1<;>by_cases h2:a2=c<;>by_cases g:a3=d<;>by_cases h:a4=e<;>simp[DA,DP,go_sem,f,h2,g,h]
theorem XU (a b:List Er) (ha:a.length<=1048576) (hb:b.length<=1048576):PC 125 [.imm 2 (a.map Er.enc) false,.imm 2 (b.map Er.enc) false] (.bool (decide (a=b))):=by
 intro h n;refine gq Tryz.func125 rfl λj=>?_;by_cases c:(a.length:Int)=b.length
 . have hlen':a.length=b.length:=by omega
   simp[go_sem,c];refine An 1 (α:=Nat) (λk=>[(0,.imm 2 (a.map Er.enc) false),(1,.imm 2 (b.map Er.enc) false),(12,AA a.length),(13,AA k)]) (λ_=>h) (λk m=>k<=a.length/\n<=m/\a.take k=b.take k) (λk=>a.length-k) 0 ?_ ?_ AB ?_;simp;simp[Ai,c];rintro k m ⟨hk,i,g⟩;by_cases e:k<a.length
   . have w1:=wS k (by omega);have d:k<b.length:=by omega
     obtain⟨x,l⟩:∃x,a[k]=x:=⟨_,rfl⟩
     obtain⟨y,o⟩:∃y,b[k]=y:=⟨_,rfl⟩
     simp[go_sem,e,d,l,o,Er.enc]
     repeat first|refine nq ?_|refine sq ?_|refine aq ?_
     refine⟨_,Cp rfl (.inr rfl) (by kernel_rfl) (by kernel_rfl) (by kernel_rfl) rfl rfl (YA x y),?_⟩;simp[go_sem]
     repeat first|refine nq ?_|refine sq ?_|refine aq ?_
     by_cases f:x=y;simp[go_sem,f,w1,-Int.natCast_add];exact⟨k+1,by omega,⟨by omega,i,by rw[qb e,qb d,l,o,g,f]⟩,IO⟩;simp[go_sem,f];have:a≠b:=by rintro rfl;exact f (by rw[<-l,<-o])
     exact As j rfl (by simp[this])
   simp[go_sem,e];have:a=b:=by rw[qB (by omega),qB (by omega)]at g;exact g
   exact As j rfl (by simp[this])
 simp[go_sem,c];have:a≠b:=by rintro rfl;exact c rfl
 exact As j rfl (by simp[this])
theorem Zt (a b:List Az) (ha:a.length<=1048576) (hb:b.length<=1048576):PC 126 [.imm 2 (a.map Az.enc) false,.imm 2 (b.map Az.enc) false] (.bool (decide (a=b))):=by
 intro h n;refine gq Tryz.func126 rfl λj=>?_;by_cases c:(a.length:Int)=b.length
 . have hlen':a.length=b.length:=by omega
   simp[go_sem,c];refine An 1 (α:=Nat) (λk=>[(0,.imm 2 (a.map Az.enc) false),(1,.imm 2 (b.map Az.enc) false),(12,AA a.length),(13,AA k)]) (λ_=>h) (λk m=>k<=a.length/\n<=m/\a.take k=b.take k) (λk=>a.length-k) 0 ?_ ?_ AB ?_;simp;simp[Ai,c];rintro k m ⟨hk,i,g⟩;by_cases e:k<a.length
   . have w1:=wS k (by omega);have d:k<b.length:=by omega
     obtain⟨x,l⟩:∃x,a[k]=x:=⟨_,rfl⟩
     obtain⟨y,o⟩:∃y,b[k]=y:=⟨_,rfl⟩
     simp[go_sem,e,d,l,o,Az.enc]
     repeat first|refine nq ?_|refine sq ?_|refine aq ?_
     refine⟨_,Cp rfl (.inr rfl) (by kernel_rfl) (by kernel_rfl) (by kernel_rfl) rfl rfl (X9 x y),?_⟩;simp[go_sem]
     repeat first|refine nq ?_|refine sq ?_|refine aq ?_
     by_cases f:x=y;simp[go_sem,f,w1,-Int.natCast_add];exact⟨k+1,by omega,⟨by omega,i,by rw[qb e,qb d,l,o,g,f]⟩,IO⟩;simp[go_sem,f];have:a≠b:=by rintro rfl;exact f (by rw[<-l,<-o])
     exact As j rfl (by simp[this])
   simp[go_sem,e];have:a=b:=by rw[qB (by omega),qB (by omega)]at g;exact g
   exact As j rfl (by simp[this])
 simp[go_sem,c];have:a≠b:=by rintro rfl;exact c rfl
 exact As j rfl (by simp[this])
theorem Zu (a b:List Am) (ha:a.length<=1048576) (hb:b.length<=1048576):PC 127 [.imm 4 (a.map Am.enc) false,.imm 4 (b.map Am.enc) false] (.bool (decide (a=b))):=by
 intro h n;refine gq Tryz.func127 rfl λj=>?_;by_cases c:(a.length:Int)=b.length
 . have hlen':a.length=b.length:=by omega
   simp[go_sem,c];refine An 1 (α:=Nat) (λk=>[(0,.imm 4 (a.map Am.enc) false),(1,.imm 4 (b.map Am.enc) false),(12,AA a.length),(13,AA k)]) (λ_=>h) (λk m=>k<=a.length/\n<=m/\a.take k=b.take k) (λk=>a.length-k) 0 ?_ ?_ AB ?_;simp;simp[Ai,c];rintro k m ⟨hk,i,g⟩;by_cases e:k<a.length
   . have w1:=wS k (by omega);have d:k<b.length:=by omega
     obtain⟨x,l⟩:∃x,a[k]=x:=⟨_,rfl⟩
     obtain⟨y,o⟩:∃y,b[k]=y:=⟨_,rfl⟩
     simp[go_sem,e,d,l,o,Am.enc]
     repeat first|refine nq ?_|refine sq ?_|refine aq ?_
     refine⟨_,Cp rfl (.inr rfl) (by kernel_rfl) (by kernel_rfl) (by kernel_rfl) rfl rfl (X8 x y),?_⟩;simp[go_sem]
     repeat first|refine nq ?_|refine sq ?_|refine aq ?_
     by_cases f:x=y;simp[go_sem,f,w1,-Int.natCast_add];exact⟨k+1,by omega,⟨by omega,i,by rw[qb e,qb d,l,o,g,f]⟩,IO⟩;simp[go_sem,f];have:a≠b:=by rintro rfl;exact f (by rw[<-l,<-o])
     exact As j rfl (by simp[this])
   simp[go_sem,e];have:a=b:=by rw[qB (by omega),qB (by omega)]at g;exact g
   exact As j rfl (by simp[this])
 simp[go_sem,c];have:a≠b:=by rintro rfl;exact c rfl
 exact As j rfl (by simp[this])
theorem c58 (a b:AF) (i:a.sized) (hb:b.sized):PC 58 [a.enc,b.enc] (.bool (decide (a=b))):=by
 intro h n;refine gq Tryz.func58 rfl λd=>?_;have g:∀y z,∀o x,h o=some x->hset (hset h n y) (n+1) z o=some x:=λy z=>by repeat(first|exact AB|refine AQ d (by omega) ?_)
 simp[go_sem,AF.enc,AF.flat,AC,AD];refine(XU _ _ i.props hb.props).use ?_;by_cases c:a.props=b.props;by_cases h2:a.ins=b.ins;by_cases e:a.move=b.move;simp[go_sem,c,h2,e,AC,AD];refine(Zt _ _ i.dels hb.dels).use ?_;by_cases f:a.dels=b.dels;simp[go_sem,f,AC,AD];refine(Zu _ _ i.layers hb.layers).use ?_;simp[go_sem];refine Ay d (g _ _) ?_ rfl;cases a;cases b;simp at c h2 e f;simp[c,h2,e,f];simp[go_sem,f];refine Ay d (g _ _) ?_ rfl;have:a≠b:=by rintro rfl;exact f rfl
 simp[this];simp[go_sem,c,h2,e,AC,AD];refine Ay d (g _ _) ?_ rfl;have:a≠b:=by rintro rfl;exact e rfl
 simp[this];simp[go_sem,c,h2,AC,AD];refine Ay d (g _ _) ?_ rfl;have:a≠b:=by rintro rfl;exact h2 rfl
 simp[this];simp[go_sem,c];refine Ay d (g _ _) ?_ rfl;have:a≠b:=by rintro rfl;exact c rfl
 simp[this]
end Go.Proofs.YtgakninlhfkkmaaGreat.Sh
