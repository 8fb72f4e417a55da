/- A part of the proof (part 4 of 17). -/
import Derived.Test.YtgakninlhfkkmaaGreatM3
import Derived.RangeFuncIn
import Derived.Laws.StructEq
namespace Go.Proofs.YtgakninlhfkkmaaGreat.Sh
abbrev jK:=@Ar.nil
abbrev jh:=@Cell.enc_eq
abbrev jw:=@Bs.pure
abbrev kU:=@Ak.fz
abbrev qQ:=@Aa.enc_eq
abbrev qw:=@PC.use
abbrev qx:=@AE.enc_eq
open Proofs
set_option maxRecDepth 10000
def Bm (s:ByteArray):Nat->List Int
 | 0=>[]
 | k+1=>if Gn (BO s k)then Bm s k++[(k:Int)]else Bm s k
theorem Ev (s:ByteArray):∀k,(Bm s k).length=DK s k
 | 0=>rfl
 | k+1=>by simp only[Bm,DK];split<;>simp[Ev s k]
theorem bA (s:ByteArray) (hs:s.size<=1048576):PC 313 [.str s] (.imm 1 ((Bm s s.size++[(s.size:Int)]).map AA) false):=by
 intro h n;refine gq Tryz.func313 rfl λho=>?_;simp[go_sem];refine An 1 (α:=Nat×Option Nat) (λq=>[(0,.str s),(3,AM 1 q.2 ((Bm s q.1).map AA)),(6,.int .i64 s.size),(7,.int .i64 q.1)]) (λq=>AN q.2 ((Bm s q.1).map AA) h)
  (λq m=>n<=m/\q.1<=s.size/\Ar n m 1 q.2 ((Bm s q.1).map AA)) (λq=>s.size-q.1) (0,none) ?_ ?_ AB ?_
 exact⟨qa _,by omega,jK _ _ _⟩;simp[Ai,Bm,AM];rintro⟨k,o⟩ m ⟨hm,hk,hA⟩;dsimp only at hk hA;have hlen:=Ev s k;have hle:=HS s k;have w1:=wS k (by omega);by_cases hlt:k<s.size;obtain⟨g1,g2⟩:=Ei hlt;have hap:=XO (P:=Tryz.prog) (h0:=h) (e:=AA k) (t:=61) (t2:=61) (el:=3) (by simp[go_sem]) (by simp[go_sem]) (by simp[go_sem]) (by simp) (by simp[go_sem]) (by simp[go_sem]) (by simp;omega) (by simp[go_sem]) hA rfl;simp only[SV.cells]at hap;simp[go_sem,hlt,<-g2,w1,hap,-Int.natCast_add];split;rename_i hh;have hc:Gn (BO s k)=false:=by simp only[Gn,Bool.not_eq_false',beq_iff_eq];exact hh
 have hb:Bm s (k+1)=Bm s k:=by simp[Bm,hc]
 exact⟨k+1,by omega,o,⟨⟨hm,by omega,by rw[hb];exact hA⟩,by rw[hb];exact⟨IO,IO⟩,by rw[hb];exact AB⟩⟩;rename_i hh;have hc:Gn (BO s k)=true:=by simp only[Gn,js,beq_eq_false_iff_ne];exact hh
 have hb:Bm s (k+1)=Bm s k++[(k:Int)]:=by simp[Bm,hc]
 refine⟨k+1,by omega,some (m+1),⟨⟨by omega,by omega,?_⟩,⟨?_,IO⟩,?_⟩⟩;rw[hb,qc];exact hA.push rfl rfl (by omega) (by omega);rw[hb];simp[AM];rw[hb,qc];exact Mc ho hm hA;have:k=s.size:=by omega
 subst this;have hap:=XO (P:=Tryz.prog) (h0:=h) (e:=AA s.size) (t:=61) (t2:=61) (el:=3) (by simp[go_sem]) (by simp[go_sem]) (by simp[go_sem]) (by simp) (by simp[go_sem]) (by simp[go_sem]) (by simp;omega) (by simp[go_sem]) hA rfl;simp only[SV.cells]at hap;simp[go_sem,hap];refine U7 ho (hA.push (e:=AA s.size) rfl rfl (Nat.le_succ_of_le hm) (qP (m+1))) (Mc ho hm hA) (by simp[AM]) ?_;intro e he;simp at he;rcases he with⟨_,_,rfl⟩|rfl<;>rfl
def Cv (s:ByteArray) (u:Int):Int×Int:=
 if CZ s=false then(0,12)else if u<0\/DK s s.size+1<=u then(0,2)else((Bm s s.size++[(s.size:Int)]).getD u.toNat 0,0)
theorem ak (s:ByteArray) (u:Int) (hs:s.size<=1048576):PC 286 [.str s,.int .i64 u] (.tup [.int .i64 (Cv s u).1,.int .i64 (Cv s u).2]):=by
 intro h n;refine gq Tryz.func286 rfl λho=>?_;simp[go_sem];refine(P7 s (by omega)).use ?_;by_cases hv:CZ s=true;simp[go_sem,hv];refine(bA s hs).use ?_;by_cases h1:u<0;simp[go_sem,h1];exact As ho rfl (by simp[Cv,hv,h1]);by_cases h2:DK s s.size+1<=u;simp[go_sem,h1,h2,Ev];exact As ho rfl (by simp[Cv,hv,h1,h2]);have hl:u.toNat<(Bm s s.size++[(s.size:Int)]).length:=by simp[Ev];omega
 have hg:(List.map AA (Bm s s.size)++[AA s.size])[u.toNat]? = some (AA ((Bm s s.size++[(s.size:Int)]).getD u.toNat 0)):=by
  have:List.map AA (Bm s s.size)++[AA s.size]=(Bm s s.size++[(s.size:Int)]).map AA:=by simp
  rw[this,qO,qf hl,List.getD_eq_getElem?_getD,qf hl];rfl
 simp[go_sem,h1,h2,Ev,hg,Int.not_lt.1 h1];exact As ho rfl (by simp[Cv,hv,h1,h2]);simp[go_sem,hv];exact As ho rfl (by simp[Cv,hv])
theorem Jw (a b c:Int):PC 155 [AA a,AA b,AA c] (.bool (decide (b<=a/\a<=c))):=by
 intro h n;refine gq Tryz.func155 rfl λho=>?_;by_cases h1:b<=a<;>simp[go_sem,h1];exact As ho rfl (by simp[]);exact As ho rfl (by simp[])
theorem JK (b:Bool) (e:Int):PC 87 [.bool b,AA e] (AA (if b then e else 0)):=by
 intro h n;refine gq Tryz.func87 rfl λho=>?_;cases b<;>simp[go_sem];exact As ho rfl rfl;exact As ho rfl rfl
def CJ:List Int->Int
 | []=>0
 | e::l=>if e=0 then CJ l else e
theorem Ov (l:List Int) (k:Nat) (hk:k<l.length):CJ (l.drop k)=if l[k]=0 then CJ (l.drop (k+1))else l[k]:=by
 rw[qG hk,CJ]
theorem Pw (l:List Int) (hl:l.length<=1048576):PC 82 [.imm 1 (l.map AA) false] (AA (CJ l)):=by
 intro h n;refine gq Tryz.func82 rfl λho=>?_;simp[go_sem];refine An 1 (α:=Nat) (λk=>[(5,.imm 1 (l.map AA) false),(6,AA l.length),(7,AA k)]) (λ_=>h) (λk m=>k<=l.length/\n<=m/\CJ l=CJ (l.drop k)) (λk=>l.length-k) 0 ?_ ?_ AB ?_;simp;simp[Ai];rintro k m ⟨hk,hnm,hf⟩;by_cases hlt:k<l.length;have w1:=wS k (by omega);rw[Ov l k hlt]at hf;by_cases h0:l[k]=0;simp[go_sem,hlt,h0,w1,-Int.natCast_add];exact⟨k+1,by omega,⟨by omega,hnm,by simpa[h0]using hf⟩,IO⟩;simp[go_sem,hlt,h0];exact As ho rfl (by simp[hf,h0]);simp[go_sem,hlt];have:k=l.length:=by omega
 subst this;simp[CJ]at hf;exact As ho rfl (by rw[hf])
def EN (s:ByteArray):Bool:=decide (1<=s.size/\s.size<=40)&&CZ s
theorem XY (s:ByteArray) (hs:s.size<=1099511627776):PC 154 [.str s] (.bool (EN s)):=by
 intro h n;refine gq Tryz.func154 rfl λho=>?_;by_cases h1:(1:Int)<=s.size;have h1':1<=s.size:=by omega
 by_cases h2:(s.size:Int)<=40;have h2':s.size<=40:=by omega
 simp[go_sem,h1,h2];refine(P7 s hs).use ?_;simp[go_sem];exact As ho rfl (by simp[EN,h1',h2']);have h2':¬s.size<=40:=by omega
 simp[go_sem,h1,h2];exact As ho rfl (by simp[EN,h2']);have h1':¬1<=s.size:=by omega
 simp[go_sem,h1];exact As ho rfl (by simp[EN,h1'])
def OD (s:ByteArray):Int:=CJ [if !CZ s then 12 else 0,if decide ((1024:Int)<s.size)then 10 else 0]
theorem Xf (s:ByteArray) (hs:s.size<=1099511627776):PC 217 [.str s] (AA (OD s)):=by
 intro h n;refine gq Tryz.func217 rfl λho=>?_;simp[go_sem];refine(P7 s hs).use ?_;simp[go_sem];refine(JK _ _).use ?_;simp[go_sem];refine(JK _ _).use ?_;simp[go_sem];refine(Pw [if !CZ s then 12 else 0,if decide ((1024:Int)<s.size)then 10 else 0] (by simp)).lend 2 rfl ?_ ?_;simp[AZ,Fz,hset,Bg,SV.storable,SV.cells];simp[go_sem];exact Ay ho (AQ ho (qa _) AB) (by simp[OD]) rfl
def G1 (F:Nat->Int) (i:Nat):Int:=if ¬(1<=F i/\F i<=1073741824)then 18 else if 0<i/\F i=F (i-1)then 7 else if 0<i/\F i<F (i-1)then 6 else 0
theorem V0 (i:Nat) (hi:i<=1099511627776) (g:FuncId) (a b:List SV) (F:Nat->Int) (hF:∀j,j<=i->PC g (a++[AA j]++b) (AA (F j))):PC 152 [AA i,.fn (.func g) a b] (AA (G1 F i)):=by
 intro h n;refine gq Tryz.func152 rfl λho=>?_;have F0:=hF i (qa _);have F1:=hF (i-1) (by omega);simp only[qn,List.singleton_append]at F0 F1;simp[go_sem];refine F0.use ?_;simp[go_sem];refine(Jw _ _ _).use ?_;by_cases h1:1<=F i/\F i<=1073741824;by_cases h0:0<i;have e1:IntKind.i64.wrap ((i:Int)-1)=((i-1:Nat):Int):=by rw[Cl]<;>omega
 simp[go_sem,h1,h0];refine F0.use ?_;simp[go_sem,e1];refine F1.use ?_;by_cases h2:F i=F (i-1);simp[go_sem,h2];have e:G1 F i=7:=by unfold G1;rw[if_neg (by simpa using h1),if_pos ⟨h0,h2⟩]
 exact As ho rfl (by rw[e]);simp[go_sem,h2,h0];refine F0.use ?_;simp[go_sem,e1];refine F1.use ?_;by_cases h3:F i<F (i-1);simp[go_sem,h3];exact As ho rfl (by simp[G1,h1,h0,h2,h3]);simp[go_sem,h3];exact As ho rfl (by simp[G1,h1,h0,h2,h3]);simp[go_sem,h1,h0];exact As ho rfl (by simp[G1,h1,h0]);simp[go_sem,h1];exact As ho rfl (by simp[G1,h1])
def FK (F:Nat->Int):Nat->Int
 | 0=>0
 | n+1=>if FK F n=0 then F n else FK F n
theorem Ix (F:Nat->Int) {k n:Nat} (hk:k<n) (h0:FK F k=0) (h1:F k≠0):FK F n=F k:=by
 induction n with
 | zero=>omega
 | succ n ih=>
  rw[FK];by_cases e:k=n;subst e;simp[h0];have:=ih (by omega);rw[this,if_neg h1]
theorem Z2 (N:Nat) (hN:N<=1099511627776) (g:FuncId) (a b:List SV) (F:Nat->Int) (hF:∀j,j<N->PC g (a++[AA j]++b) (AA (F j))):PC 150 [AA N,.fn (.func g) a b] (AA (FK F N)):=by
 intro h n;refine gq Tryz.func150 rfl λho=>?_;simp[go_sem];refine An 1 (α:=Nat) (λk=>[(1,.fn (.func g) a b),(7,AA N),(8,AA k)]) (λ_=>h) (λk m=>k<=N/\n<=m/\FK F k=0) (λk=>N-k) 0 ?_ ?_ AB ?_;simp[FK];simp[Ai];rintro k m ⟨hk,hnm,hf⟩;by_cases hlt:k<N;have w1:=wS k (by omega);have F0:=hF k hlt;simp only[qn,List.singleton_append]at F0;simp[go_sem,hlt];refine F0.use ?_;by_cases h0:F k=0;simp[go_sem,h0,w1,-Int.natCast_add];exact⟨k+1,by omega,⟨by omega,hnm,by simp[FK,hf,h0]⟩,IO⟩;simp[go_sem,h0];exact As ho rfl (by rw[Ix F hlt hf h0]);simp[go_sem,hlt];have:k=N:=by omega
 subst this;exact As ho rfl (by rw[hf])
theorem Z4 (l:List Ax) (i:Nat) (hi:i<l.length):PC 153 [AA i,.iptr [Ao l]] (AA (l[i]).id):=by
 intro h n;refine gq Tryz.func153 rfl λho=>?_;simp[go_sem,hi,Ax.enc];exact As ho rfl rfl
def I9 (l:List Ax) (i:Nat):Int:=match l[i]? with
 | some r=>CJ [G1 (λj=>match l[j]? with|some r=>r.id|none=>0) i,if !EN r.author then 39 else 0,if !decide (0<=r.time/\r.time<=1099511627776)then 40 else 0]
 | none=>0
theorem Z3 (l:List Ax) (i:Nat) (hi:i<l.length) (hl:l.length<=1048576) (hs:∀r∈l,r.author.size<=1048576):PC 151 [AA i,.iptr [Ao l]] (AA (I9 l i)):=by
 intro h n;refine gq Tryz.func151 rfl λho=>?_;simp[go_sem]
 repeat first|refine nq ?_|refine sq ?_
 have h152:=V0 i (by omega) 153 [] [.iptr [Ao l]] (λj=>match l[j]? with|some r=>r.id|none=>0) (λj hj=>by
  have hjl:j<l.length:=by omega
  simpa[hjl]using Z4 l j hjl)
 refine jw _ _ _ _ _ _ h152 ?_;simp[go_sem,hi,Ax.enc]
 repeat first|refine nq ?_|refine sq ?_
 refine jw _ _ _ _ _ _ (XY _ (by have:=hs _ (ql hi);omega)) ?_;simp[go_sem]
 repeat first|refine nq ?_|refine sq ?_
 refine jw _ _ _ _ _ _ (JK _ _) ?_;simp[go_sem,hi,Ax.enc]
 repeat first|refine nq ?_|refine sq ?_
 refine jw _ _ _ _ _ _ (Jw _ _ _) ?_;simp[go_sem]
 repeat first|refine nq ?_|refine sq ?_
 refine jw _ _ _ _ _ _ (JK _ _) ?_;simp[go_sem]
 repeat first|refine nq ?_|refine sq ?_
 refine Bs.lend _ _ _ _ _ _ 2 [n] (Pw [G1 (λj=>match l[j]? with|some r=>r.id|none=>0) i,if !EN (l[i]).author then 39 else 0,if !decide (0<=(l[i]).time/\(l[i]).time<=1099511627776)then 40 else 0] (by simp)) rfl (by simp) (λh' hh=>?_) ?_;have:=hh n (by simp);simp[hset]at this;simp[AZ,Fz,this,Bg,SV.storable,SV.cells];simp[go_sem]
 repeat first|refine nq ?_|refine sq ?_
 exact Ay ho (AQ ho (qa _) AB) (by simp[I9,hi]) rfl
def EY (l:List Ax):Int:=CJ [if decide (256<(l.length:Int))then 9 else 0,FK (I9 l) (min l.length 256)]
theorem c84 (l:List Ax) (hl:l.length<=1048576) (hs:∀r∈l,r.author.size<=1048576):PC 84 [Ao l] (AA (EY l)):=by
 intro h n;refine gq Tryz.func84 rfl λho=>?_;simp[go_sem,AC]
 repeat first|refine nq ?_|refine sq ?_
 refine jw _ _ _ _ _ _ (JK _ _) ?_;have emin:(if(256:Int)<(l.length:Int)then(256:Int)else(l.length:Int))=((min l.length 256:Nat):Int):=by split<;>omega
 simp[go_sem,AC,emin]
 repeat first|refine nq ?_|refine sq ?_
 have h150:=Z2 (min l.length 256) (by omega) 151 [] [.iptr [Ao l]] (I9 l) (λj hj=>Z3 l j (by omega) hl hs);refine Bs.lend _ _ _ _ _ _ 3 [n] h150 rfl (by simp) (λh' hh=>?_) ?_;have:=hh n (by simp);simp[hset]at this;simp[AZ,Fz,this];simp[go_sem]
 repeat first|refine nq ?_|refine sq ?_
 refine Bs.lend _ _ _ _ _ _ 2 [n+1] (Pw [if decide (256<(l.length:Int))then 9 else 0,FK (I9 l) (min l.length 256)] (by simp)) rfl (by simp) (λh' hh=>?_) ?_;have:=hh (n+1) (by simp);simp[hset]at this;simp[AZ,Fz,this,Bg,SV.storable,SV.cells];simp[go_sem]
 repeat first|refine nq ?_|refine sq ?_
 exact Ay ho (AQ ho (je n) (AQ ho (qa _) AB)) (by simp[EY]) rfl
theorem V1 (a:Int):PC 170 [AA a] (.bool false):=by
 intro h n;refine gq Tryz.func170 rfl λho=>?_;simp[go_sem];exact As ho rfl rfl
def Do (a b:Int):Int:=if a<b then -1 else if b<a then 1 else 0
theorem Rg (a b:Int):PC 100 [AA a,AA b] (AA (Do a b)):=by
 intro h n;refine gq Tryz.func100 rfl λho=>?_;simp[go_sem];refine(V1 _).use ?_;simp[go_sem];refine(V1 _).use ?_;by_cases h1:a<b<;>by_cases h2:b<a<;>simp[go_sem,h1,h2]
 all_goals exact As ho rfl (by simp[Do,h1,h2])
def BD (p:Nat->Bool) (n:Nat) (k:Nat):Int:=if _:k<n then if p k then k else BD p n (k+1)else -1
termination_by n-k
theorem EA (p:Nat->Bool) (n k:Nat):BD p n k = -1\/∃i,k<=i/\i<n/\BD p n k=i/\p i=true:=by
 rw[BD];by_cases h:k<n;by_cases hp:p k=true;exact .inr ⟨k,qa _,h,by simp[h,hp],hp⟩;have:=EA p n (k+1);simp only[h,dite_true,hp];rcases this with e|⟨i,h1,h2,h3,h4⟩
 exact .inl (by simpa using e);exact .inr ⟨i,by omega,h2,by simpa using h3,h4⟩;exact .inl (by simp[h])
termination_by n-k
theorem aA (l:List Int) (x:Int) (hl:l.length<=1048576):PC 178 [.imm 1 (l.map AA) false,AA x] (AA (BD (λi=>decide (l[i]? = some x)) l.length 0)):=by
 intro h n;refine gq Tryz.func178 rfl λho=>?_;simp[go_sem];refine An 1 (α:=Nat) (λk=>[(0,.imm 1 (l.map AA) false),(1,AA x),(7,AA l.length),(8,AA k)]) (λ_=>h) (λk m=>k<=l.length/\n<=m/\BD (λi=>decide (l[i]? = some x)) l.length 0=BD (λi=>decide (l[i]? = some x)) l.length k) (λk=>l.length-k) 0 ?_ ?_ AB ?_;simp;simp[Ai];rintro k m ⟨hk,hnm,hf⟩;rw[BD.eq_def _ _ k]at hf;by_cases hlt:k<l.length;have w1:=wS k (by omega);by_cases h0:x=l[k];simp[go_sem,hlt,h0];exact As ho rfl (by rw[<-h0,hf];simp[hlt,h0]);simp[go_sem,hlt,h0,w1,-Int.natCast_add];exact⟨k+1,by omega,⟨by omega,hnm,by rw[hf];simp[hlt,Ne.symm h0]⟩,IO⟩;simp[go_sem,hlt];exact As ho rfl (by rw[hf];simp[hlt])
theorem QO (l:List Int) (x:Int):decide (0<=BD (λi=>decide (l[i]? = some x)) l.length 0)=decide (x∈l):=by
 have gen:∀k,k<=l.length->(0<=BD (λi=>decide (l[i]? = some x)) l.length k↔x∈l.drop k):=by
  intro k hk
  induction hd:l.length-k generalizing k with
  | zero=>
   have:k=l.length:=by omega
   subst this;rw[BD];simp
  | succ d ih=>
   have hlt:k<l.length:=by omega
   have hd:x∈l.drop k↔x=l[k]\/x∈l.drop (k+1):=by rw[qG hlt,qk]
   rw[BD,hd];by_cases e:l[k]=x;simp[hlt,e];have:=ih (k+1) (by omega) (by omega);simp[hlt,e,this,Ne.symm e]
 have:=gen 0 (qg _);simp only[kn]at this;simp[this]
theorem Vz (l:List Int) (x:Int) (hl:l.length<=1048576):PC 113 [.imm 1 (l.map AA) false,AA x] (.bool (decide (x∈l))):=by
 intro h n;refine gq Tryz.func113 rfl λho=>?_;simp[go_sem];refine(aA l x hl).use ?_;simp[go_sem];exact As ho rfl (by rw[QO])
def Fd (c:Nat->Int) (i j:Nat):Nat:=if _:i<j then if c ((i+j) / 2)<0 then Fd c ((i+j) / 2+1) j else Fd c i ((i+j) / 2)else i
termination_by j-i
def BI (c:Nat->Int) (n:Nat):Nat×Bool:=(Fd c 0 n,decide (Fd c 0 n<n/\c (Fd c 0 n)=0))
theorem UL {x:Int} (h0:0<=x) (h1:x<=4611686018427387904):IntKind.u64.wrap x=x:=IntWalk.u64_in x (by omega)
structure Ir where
 number:Int
 group:Int
 low:Int
 high:Int
 standard:Int
 name:ByteArray
def Ir.enc (k:Ir):SV:=.agg [AA k.number,AA k.group,AA k.low,AA k.high,AA k.standard,.str k.name]
theorem aw (l:List Ir) (hl:l.length<=1048576) (t:SV) (g:FuncId) (a b:List SV) (c:Nat->Int) (hc:∀(i:Nat) (h:i<l.length),PC g (a++[Ir.enc l[i],t]++b) (AA (c i))):
 PC 306 [.imm 6 (l.map Ir.enc) false,t,.fn (.func g) a b] (.tup [AA (BI c l.length).1,.bool (BI c l.length).2]):=by
 intro h n;refine gq Tryz.func306 rfl λho=>?_;simp[go_sem];refine An 1 (α:=Nat×Nat) (λq=>[(0,.imm 6 (l.map Ir.enc) false),(1,t),(2,.fn (.func g) a b),(8,AA l.length),(9,AA q.1),(10,AA q.2)]) (λ_=>h) (λq m=>q.1<=q.2/\q.2<=l.length/\n<=m/\Fd c 0 l.length=Fd c q.1 q.2) (λq=>q.2-q.1) (0,l.length) ?_ ?_ AB ?_;simp;simp[Ai];rintro⟨i,j⟩ m ⟨hij,hj,hnm,hf⟩;dsimp only at hij hj hf;by_cases hlt:i<j;have hm:(i+j) / 2<l.length:=by omega
 have w1:IntKind.i64.wrap ((i:Int)+j)=((i+j:Nat):Int):=by rw[Cl]<;>omega
 have w2:IntKind.u64.wrap ((i+j:Nat):Int)=((i+j:Nat):Int):=by rw[UL]<;>omega
 have w3:(((i+j:Nat):Int)).fdiv 2=(((i+j) / 2:Nat):Int):=by rw[Int.fdiv_eq_ediv_of_nonneg _ (by omega)];omega
 have w4:IntKind.i64.wrap (((i+j) / 2:Nat):Int)=(((i+j) / 2:Nat):Int):=by rw[Cl]<;>omega
 have w5:IntKind.i64.wrap ((((i+j) / 2:Nat):Int)+1)=(((i+j) / 2+1:Nat):Int):=by rw[Cl]<;>omega
 have H:=hc _ hm;simp only[qn,qz,qE]at H;rw[Fd.eq_def c i j]at hf;simp[go_sem,hlt,w1,w2,w3,w4,hm,Ir.enc,-Int.natCast_add,-Int.natCast_ediv];refine qw (by simpa[Ir.enc]using H) ?_;by_cases hb:c ((i+j) / 2)<0;simp[hlt,hb]at hf;simp[go_sem,hb,w5,-Int.natCast_add,-Int.natCast_ediv];exact⟨(i+j) / 2+1,j,by omega,⟨by omega,hj,hnm,hf⟩,IO,IO⟩;simp[hlt,hb]at hf;simp[go_sem,hb,-Int.natCast_add,-Int.natCast_ediv];exact⟨i,(i+j) / 2,by omega,⟨by omega,by omega,hnm,hf⟩,IO,IO⟩;have e:Fd c 0 l.length=i:=by rw[hf,Fd.eq_def];simp[hlt]
 by_cases hi:i<l.length;have H:=hc i hi;simp only[qn,qz,qE]at H;simp[go_sem,hlt,hi,Ir.enc];refine qw (by simpa[Ir.enc]using H) ?_;simp[go_sem];exact As ho rfl (by simp[BI,e,hi];by_cases h0:c i=0<;>simp[h0]);simp[go_sem,hlt,hi];exact As ho rfl (by simp[BI,e,hi])
theorem Zv (l:List Ax) (hl:l.length<=1048576) (t:SV) (g:FuncId) (a b:List SV) (c:Nat->Int) (hc:∀(i:Nat) (h:i<l.length),PC g (a++[Ax.enc l[i],t]++b) (AA (c i))):
 PC 131 [.imm 3 (l.map Ax.enc) false,t,.fn (.func g) a b] (.tup [AA (BI c l.length).1,.bool (BI c l.length).2]):=by
 intro h n;refine gq Tryz.func131 rfl λho=>?_;simp[go_sem];refine An 1 (α:=Nat×Nat) (λq=>[(0,.imm 3 (l.map Ax.enc) false),(1,t),(2,.fn (.func g) a b),(8,AA l.length),(9,AA q.1),(10,AA q.2)]) (λ_=>h) (λq m=>q.1<=q.2/\q.2<=l.length/\n<=m/\Fd c 0 l.length=Fd c q.1 q.2) (λq=>q.2-q.1) (0,l.length) ?_ ?_ AB ?_;simp;simp[Ai];rintro⟨i,j⟩ m ⟨hij,hj,hnm,hf⟩;dsimp only at hij hj hf;by_cases hlt:i<j;have hm:(i+j) / 2<l.length:=by omega
 have w1:IntKind.i64.wrap ((i:Int)+j)=((i+j:Nat):Int):=by rw[Cl]<;>omega
 have w2:IntKind.u64.wrap ((i+j:Nat):Int)=((i+j:Nat):Int):=by rw[UL]<;>omega
 have w3:(((i+j:Nat):Int)).fdiv 2=(((i+j) / 2:Nat):Int):=by rw[Int.fdiv_eq_ediv_of_nonneg _ (by omega)];omega
 have w4:IntKind.i64.wrap (((i+j) / 2:Nat):Int)=(((i+j) / 2:Nat):Int):=by rw[Cl]<;>omega
 have w5:IntKind.i64.wrap ((((i+j) / 2:Nat):Int)+1)=(((i+j) / 2+1:Nat):Int):=by rw[Cl]<;>omega
 have H:=hc _ hm;simp only[qn,qz,qE]at H;rw[Fd.eq_def c i j]at hf;simp[go_sem,hlt,w1,w2,w3,w4,hm,Ax.enc,-Int.natCast_add,-Int.natCast_ediv];refine qw (by simpa[Ax.enc]using H) ?_;by_cases hb:c ((i+j) / 2)<0;simp[hlt,hb]at hf;simp[go_sem,hb,w5,-Int.natCast_add,-Int.natCast_ediv];exact⟨(i+j) / 2+1,j,by omega,⟨by omega,hj,hnm,hf⟩,IO,IO⟩;simp[hlt,hb]at hf;simp[go_sem,hb,-Int.natCast_add,-Int.natCast_ediv];exact⟨i,(i+j) / 2,by omega,⟨by omega,by omega,hnm,hf⟩,IO,IO⟩;have e:Fd c 0 l.length=i:=by rw[hf,Fd.eq_def];simp[hlt]
 by_cases hi:i<l.length;have H:=hc i hi;simp only[qn,qz,qE]at H;simp[go_sem,hlt,hi,Ax.enc];refine qw (by simpa[Ax.enc]using H) ?_;simp[go_sem];exact As ho rfl (by simp[BI,e,hi];by_cases h0:c i=0<;>simp[h0]);simp[go_sem,hlt,hi];exact As ho rfl (by simp[BI,e,hi])
set_option maxRecDepth 100000
def Br:List Ir:=[
 ⟨1,1,0,1073741824,0,⟨#[99,104,97,114,97,99,116,101,114,45,115,116,121,108,101]⟩⟩,
 ⟨2,1,0,1,0,⟨#[98,111,108,100]⟩⟩,
 ⟨3,1,0,1,0,⟨#[105,116,97,108,105,99]⟩⟩,
 ⟨4,1,0,3,0,⟨#[117,110,100,101,114,108,105,110,101]⟩⟩,
 ⟨5,1,2,1638,22,⟨#[115,105,122,101]⟩⟩,
 ⟨6,1,0,16777215,0,⟨#[99,111,108,111,114]⟩⟩,
 ⟨7,1,0,63,0,⟨#[102,111,110,116]⟩⟩,
 ⟨8,1,0,255,0,⟨#[108,97,110,103,117,97,103,101]⟩⟩,
 ⟨9,1,(-400),400,0,⟨#[114,97,105,115,101]⟩⟩,
 ⟨10,1,0,1,0,⟨#[104,105,100,100,101,110]⟩⟩,
 ⟨20,2,0,1073741824,0,⟨#[112,97,114,97,103,114,97,112,104,45,115,116,121,108,101]⟩⟩,
 ⟨21,2,0,3,0,⟨#[97,108,105,103,110]⟩⟩,
 ⟨22,2,(-31680),31680,0,⟨#[108,101,102,116]⟩⟩,
 ⟨23,2,(-31680),31680,0,⟨#[114,105,103,104,116]⟩⟩,
 ⟨24,2,(-31680),31680,0,⟨#[102,105,114,115,116]⟩⟩,
 ⟨25,2,0,31680,0,⟨#[98,101,102,111,114,101]⟩⟩,
 ⟨26,2,0,31680,0,⟨#[97,102,116,101,114]⟩⟩,
 ⟨27,2,0,31680,0,⟨#[108,101,97,100,105,110,103]⟩⟩,
 ⟨28,2,0,1,0,⟨#[107,101,101,112,45,110,101,120,116]⟩⟩,
 ⟨29,2,0,1,0,⟨#[107,101,101,112,45,108,105,110,101,115]⟩⟩,
 ⟨30,2,0,1,1,⟨#[119,105,100,111,119]⟩⟩,
 ⟨31,2,0,1,0,⟨#[112,97,103,101,45,98,101,102,111,114,101]⟩⟩,
 ⟨32,2,0,9,0,⟨#[111,117,116,108,105,110,101]⟩⟩,
 ⟨33,2,0,1073741824,0,⟨#[108,105,115,116]⟩⟩,
 ⟨34,2,1,9,1,⟨#[108,101,118,101,108]⟩⟩,
 ⟨35,2,0,32767,0,⟨#[114,101,115,116,97,114,116]⟩⟩,
 ⟨36,2,1,31680,720,⟨#[116,97,98,45,115,116,111,112]⟩⟩,
 ⟨37,2,0,1,0,⟨#[104,121,112,104,101,110,97,116,101]⟩⟩,
 ⟨40,3,720,31680,12240,⟨#[112,97,103,101,45,119,105,100,116,104]⟩⟩,
 ⟨41,3,720,31680,15840,⟨#[112,97,103,101,45,104,101,105,103,104,116]⟩⟩,
 ⟨42,3,0,31680,1440,⟨#[116,111,112]⟩⟩,
 ⟨43,3,0,31680,1440,⟨#[98,111,116,116,111,109]⟩⟩,
 ⟨44,3,0,31680,1440,⟨#[105,110,110,101,114]⟩⟩,
 ⟨45,3,0,31680,1440,⟨#[111,117,116,101,114]⟩⟩,
 ⟨46,3,0,32767,0,⟨#[102,105,114,115,116,45,112,97,103,101]⟩⟩,
 ⟨47,3,1,6,1,⟨#[112,97,103,101,45,102,111,114,109,97,116]⟩⟩,
 ⟨50,4,0,1,0,⟨#[104,101,97,100,101,114]⟩⟩,
 ⟨51,4,0,1,0,⟨#[99,97,110,116,45,115,112,108,105,116]⟩⟩,
 ⟨52,4,0,31680,0,⟨#[114,111,119,45,104,101,105,103,104,116]⟩⟩,
 ⟨60,5,1,32,1,⟨#[99,111,108,117,109,110,45,115,112,97,110]⟩⟩,
 ⟨61,5,0,2,0,⟨#[118,101,114,116,105,99,97,108,45,109,101,114,103,101]⟩⟩,
 ⟨62,5,0,31680,0,⟨#[99,101,108,108,45,119,105,100,116,104]⟩⟩,
 ⟨63,5,0,16777215,16777215,⟨#[115,104,97,100,101]⟩⟩,
 ⟨70,6,0,31680,0,⟨#[116,97,98,108,101,45,119,105,100,116,104]⟩⟩,
 ⟨71,6,0,2,0,⟨#[116,97,98,108,101,45,97,108,105,103,110]⟩⟩]
def H0:List SV:=Br.flatMap λk=>k.enc.cells
theorem Wn (Q:Exit->SV->Hp->Nat->Prop) (h:Hp) (n:Nat):swp Tryz.prog 47 (Tryz.f305.body.getD .ret) (λe sa h n=>Q e (Ai sa 0) h n) [] h n=Q .ret (.sl n 0 6 45 true) (hset h n (some (.cells H0))) (n+1):=by kernel_rfl
theorem av:PC 305 [] (.imm 6 (Br.map Ir.enc) false):=by
 intro h n;refine gq Tryz.func305 rfl λho=>?_;rw[Eg];have e:=Wn (λe v h' n'=>(e=.normal\/e=.ret)/\∃rs,some [v]=some rs/\B8 n h' n' (Jh rs) (Is (.imm 6 (Br.map Ir.enc) false) h n)) h n;refine cast e.symm ⟨.inr rfl,_,rfl,?_⟩;refine Dy 1 ho (AQ ho (qa _) AB) (.inr ⟨ho.none (qa _),by simp,by kernel_rfl,rfl,H0,H0,AC _ _ _,by kernel_rfl,?_,?_⟩) ?_;intro x hx;simp only[qy]at hx;obtain⟨k,_,rfl⟩:=hx;exact⟨rfl,rfl⟩;have all:∀l:List SV,AZ (Fz (hset h n (some (.cells H0))) h 0) l l:=by
  intro l;induction l with
  | nil=>trivial
  | cons a l ih=>exact⟨IO,ih⟩
 have e:(Br.map Ir.enc).flatMap SV.cells=H0:=by kernel_rfl
 rw[e];exact all _;rw[closed];refine BU.2 λx hx=>?_;simp only[qy]at hx;obtain⟨k,_,rfl⟩:=hx;rfl
end Go.Proofs.YtgakninlhfkkmaaGreat.Sh
namespace Go.Proofs.YtgakninlhfkkmaaGreat.Sh
open Proofs
set_option maxRecDepth 100000
theorem ay (k:Ir) (t:Int):PC 307 [k.enc,AA t] (AA (Do k.number t)):=by
 intro h n;refine gq Tryz.func307 rfl λho=>?_;simp[go_sem,Ir.enc,AC];refine(Rg _ _).use ?_;simp[go_sem];exact Ay ho (AQ ho (qa _) AB) rfl rfl
def HX (t:Int) (i:Nat):Int:=match Br[i]? with|some k=>Do k.number t|none=>0
def EQ (t:Int):Option Ir:=if(BI (HX t) Br.length).2 then Br[(BI (HX t) Br.length).1]? else none
def Ir.zero:Ir:=⟨0,0,0,0,0,⟨#[]⟩⟩
theorem MQ:Br.length=45:=by kernel_rfl
theorem Xj (t:Int):PC 273 [AA t] (.tup [((EQ t).getD Ir.zero).enc,.bool (EQ t).isSome]):=by
 intro h n;refine gq Tryz.func273 rfl λho=>?_;simp[go_sem];refine av.use ?_;simp[go_sem];refine(aw Br (by rw[MQ];omega) (AA t) 307 [] [] (HX t) (λi hi=>by simpa[HX,hi]using ay Br[i] t)).use ?_;by_cases hb:(BI (HX t) Br.length).2=true;have hi:(BI (HX t) Br.length).1<Br.length:=by
  simp only[BI,decide_eq_true_eq]at hb;exact hb.1
 have hf:EQ t=some Br[(BI (HX t) Br.length).1]:=by simp[EQ,hb,hi]
 generalize hk:Br[(BI (HX t) Br.length).1]=k at hf;have hg:(Br.map Ir.enc)[(BI (HX t) Br.length).1]? = some k.enc:=by rw[<-hk];simp[hi]
 simp only[qO]at hg;simp[go_sem,hb,hg,Ir.enc,AC];refine Ay ho (λo y e=>?_) (by simp[hf]) rfl;have:=(ho o y e).1;have ne:o≠n:=by omega
 simp[hset,ne,e];have hf:EQ t=none:=by simp[EQ,hb]
 simp[go_sem,hb,AC];refine Ay ho (λo y e=>?_) (by simp[hf,Ir.zero,Ir.enc];rfl) rfl;have:=(ho o y e).1;have ne:o≠n:=by omega
 simp[hset,ne,e]
def CD (e:Int):List Int:=
 if e=1\/e=4\/e=5\/e=6 then[1]else if e=2 then[1,2]else if e=3 then[3]else if e=7 then[6]else if e=9 then[4]else if e=10 then[5]else[]
theorem ai (e:Int):PC 274 [AA e] (.imm 1 ((CD e).map AA) false):=by
 intro h n;refine gq Tryz.func274 rfl λho=>?_;have fin:∀(g:List Int) (m:Nat),n<=m->B8 n (hset h m (some (.cells (g.map AA)))) (m+1) (.sl m 0 1 g.length true) (Is (.imm 1 (g.map AA) false) h n):=λg m hm=>by
  refine Dy 1 ho (AQ ho hm AB) (.inr ⟨ho.none hm,by simp,by simp,rfl,_,_,AC _ _ _,by simp[Bg];rfl,?_,?_⟩) ?_;intro x hx;simp at hx;obtain⟨_,_,rfl⟩:=hx;exact⟨rfl,rfl⟩;have e:(g.map AA).flatMap SV.cells=g.map AA:=by induction g with|nil=>rfl|cons a l ih=>simpa[SV.cells]using ih
  rw[e];have all:∀l:List SV,AZ (Fz (hset h m (some (.cells (g.map AA)))) h 0) l l:=by
   intro l;induction l with
   | nil=>trivial
   | cons a l ih=>exact⟨IO,ih⟩
  rw[qB (by simp)];exact all _;rw[closed];refine BU.2 λx hx=>?_;simp only[qy]at hx;obtain⟨k,_,rfl⟩:=hx;rfl
 by_cases h1:e=1;subst h1;simp[go_sem,CD];exact fin [1] n (qa _);by_cases h4:e=4;subst h4;simp[go_sem,CD];exact fin [1] n (qa _);by_cases h5:e=5;subst h5;simp[go_sem,CD];exact fin [1] n (qa _);by_cases h6:e=6;subst h6;simp[go_sem,CD];exact fin [1] n (qa _);by_cases h2:e=2;subst h2;simp[go_sem,CD];exact fin [1,2] n (qa _);by_cases h3:e=3;subst h3;simp[go_sem,CD];exact fin [3] n (qa _);by_cases h7:e=7;subst h7;simp[go_sem,CD];exact fin [6] n (qa _);by_cases h9:e=9;subst h9;simp[go_sem,CD];exact fin [4] n (qa _);by_cases h10:e=10;subst h10;simp[go_sem,CD];exact fin [5] n (qa _);simp[go_sem,CD,h1,h2,h3,h4,h5,h6,h7,h9,h10];exact Dy 1 ho AB (.inr ⟨by simp,.inl rfl,trivial,by simp⟩) rfl
def Ro (el key:Int):Bool:=match EQ key with|some k=>decide (k.group∈CD el)|none=>false
theorem Lv (e:Int):(CD e).length<=1048576:=by unfold CD;(repeat' split)<;>simp
theorem Xg (el key:Int):PC 220 [AA el,AA key] (.bool (Ro el key)):=by
 intro h n;refine gq Tryz.func220 rfl λho=>?_;simp[go_sem];refine(Xj key).use ?_;cases hf:EQ key with
 | none=>
  simp[go_sem,Ir.zero,Ir.enc,AC]
  repeat first|refine nq ?_|refine sq ?_
  refine Ay ho (λo y e=>?_) (by simp[Ro,hf]) rfl;have:=(ho o y e).1;have ne:o≠n:=by omega
  simp[hset,ne,e]
 | some k=>
  simp[go_sem,Ir.enc,AC]
  repeat first|refine nq ?_|refine sq ?_
  refine jw _ _ _ _ _ _ (ai el) ?_;simp[go_sem,AC]
  repeat first|refine nq ?_|refine sq ?_
  refine jw _ _ _ _ _ _ (Vz (CD el) k.group (Lv el)) ?_;simp[go_sem]
  repeat first|refine nq ?_|refine sq ?_
  refine Ay ho (λo y e=>?_) (by simp[Ro,hf]) rfl;have:=(ho o y e).1;have ne:o≠n:=by omega
  simp[hset,ne,e]
def EW (key v:Int):Int:=match EQ key with|some k=>if v<k.low\/k.high<v then 5 else 0|none=>4
theorem V6 (key v:Int):PC 221 [AA key,AA v] (AA (EW key v)):=by
 intro h n;refine gq Tryz.func221 rfl λho=>?_;simp[go_sem];refine(Xj key).use ?_;have hh:∀a b:Option BT,∀o x,h o=some x->hset (hset h n a) n b o=some x:=λa b o y e=>by
  have:=(ho o y e).1;have ne:o≠n:=by omega
  simp[hset,ne,e]
 cases hf:EQ key with
 | none=>
  simp[go_sem,Ir.zero,Ir.enc,AC];exact Ay ho (hh _ _) (by simp[EW,hf]) rfl
 | some k=>
  by_cases h1:v<k.low<;>by_cases h2:k.high<v<;>simp[go_sem,Ir.enc,AC,h1,h2]
  all_goals exact Ay ho (hh _ _) (by simp[EW,hf,h1,h2]) rfl
def Dj (el:Int) (l:List Er) (i:Nat):Int:=match l[i]? with
 | some p=>if !Ro el p.key then 4 else if decide (0<i)&&((l[i-1]?).map Er.key==some p.key)then 7
  else if decide (0<i)&&(match l[i-1]? with|some q=>decide (p.key<q.key)|none=>false)then 6 else EW p.key p.value
 | none=>0
def GH (el:Int) (l:List Er):Int:=if el<1\/10<el then 3 else FK (Dj el l) l.length
theorem XZ (el:Int) (l:List Er) (hl:l.length<=1048576):PC 156 [AA el,Af l] (AA (GH el l)):=by
 intro h n;refine gq Tryz.func156 rfl λho=>?_;by_cases e1:el<1;simp[go_sem,e1];exact As ho rfl (by simp[GH,e1]);by_cases e2:10<el;simp[go_sem,e1,e2];exact As ho rfl (by simp[GH,e2]);have hP:GH el l=FK (Dj el l) l.length:=by simp[GH,e1,e2]
 rw[hP];simp[go_sem,e1,e2];refine An 1 (α:=Nat) (λk=>[(0,AA el),(1,Af l),(14,Af l),(15,AA l.length),(16,AA k)]) (λ_=>h) (λk m=>k<=l.length/\n<=m/\FK (Dj el l) k=0) (λk=>l.length-k) 0 ?_ ?_ AB ?_;simp[FK];simp[Ai];rintro k m ⟨hk,hnm,hf⟩;have hh:∀a b:Option BT,∀o x,h o=some x->hset (hset h m a) m b o=some x:=λa b o y e=>by
  have:=(ho o y e).1;have ne:o≠m:=by omega
  simp[hset,ne,e]
 by_cases hlt:k<l.length
 . have w1:=wS k (by omega);obtain⟨p,hp⟩:∃p,l[k]? = some p:=⟨l[k],by simp[hlt]⟩
   have hp':l[k]=p:=by simpa[hlt]using hp
   have nz:∀e,Dj el l k=e->e≠0->FK (Dj el l) l.length=e:=λe h1 h2=>by rw[Ix _ hlt hf (by rw[h1];exact h2),h1]
   simp[go_sem,hlt,hp',Er.enc,AC];refine(Xg _ _).use ?_;by_cases hfit:Ro el p.key=true
   . by_cases h0:0<k
     . obtain⟨q,hq⟩:∃q,l[k-1]? = some q:=⟨l[k-1],by simp[show k-1<l.length by omega]⟩
       have w2:IntKind.i64.wrap ((k:Int)-1)=((k-1:Nat):Int):=by rw[Cl]<;>omega
       have hq':(l.map Er.enc)[k-1]? = some q.enc:=by simp[hq]
       simp only[qO]at hq';by_cases h7:p.key=q.key
       . have hfit':Ro el q.key=true:=by rw[<-h7];exact hfit
         simp[go_sem,hfit',h0,w2,hq,Er.enc,AC,h7]
         repeat first|refine nq ?_|refine sq ?_
         exact Ay ho (hh _ _) (by rw[nz 7 (by simp[Dj,hp,hfit',h0,hq,h7]) (by simp)]) rfl
       . by_cases h6:p.key<q.key
         . simp[go_sem,hfit,h0,w2,hq,Er.enc,AC,h7,h6]
           repeat first|refine nq ?_|refine sq ?_
           exact Ay ho (hh _ _) (by rw[nz 6 (by simp[Dj,hp,hfit,h0,hq,h6,Ne.symm h7]) (by simp)]) rfl
         . simp[go_sem,hfit,h0,w2,hq,Er.enc,AC,h7,h6]
           repeat first|refine nq ?_|refine sq ?_
           refine(V6 _ _).use ?_;have hs:Dj el l k=EW p.key p.value:=by simp[Dj,hp,hfit,h0,hq,h6,Ne.symm h7]
           by_cases hv:EW p.key p.value=0;simp[go_sem,hv,w1,-Int.natCast_add];exact⟨k+1,by omega,⟨by omega,by omega,by simp[FK,hf,hs,hv]⟩,IO,hh _ _⟩;simp[go_sem,hv];exact Ay ho (hh _ _) (by rw[nz _ hs hv]) rfl
     . simp[go_sem,hfit,h0,AC]
       repeat first|refine nq ?_|refine sq ?_
       refine(V6 _ _).use ?_;have hs:Dj el l k=EW p.key p.value:=by simp[Dj,hp,hfit,h0]
       by_cases hv:EW p.key p.value=0;simp[go_sem,hv,w1,-Int.natCast_add];exact⟨k+1,by omega,⟨by omega,by omega,by simp[FK,hf,hs,hv]⟩,IO,hh _ _⟩;simp[go_sem,hv];exact Ay ho (hh _ _) (by rw[nz _ hs hv]) rfl
   simp[go_sem,hfit];exact Ay ho (hh _ _) (by rw[nz 4 (by simp[Dj,hp,hfit]) (by simp)]) rfl
 simp[go_sem,hlt];have:k=l.length:=by omega
 subst this;exact As ho rfl (by rw[hf])
end Go.Proofs.YtgakninlhfkkmaaGreat.Sh
namespace Go.Proofs.YtgakninlhfkkmaaGreat.Sh
open Proofs
set_option maxRecDepth 10000
def Rc (p:Nat->Bool) (n:Nat):Bool:=decide (0<=BD p n 0)
structure B7 where
 literal:ByteArray
 level:Int
 plain:Bool
def B7.enc (p:B7):SV:=.agg [.str p.literal,AA p.level,.bool p.plain]
abbrev Io:Int->SV:=.int .u8
theorem Xk (l:List A6) (hl:l.length<=1048576) (g:FuncId) (a b:List SV) (p:Nat->Bool) (hp:∀(i:Nat) (h:i<l.length),PC g (a++[A6.enc l[i]]++b) (.bool (p i))):
 PC 299 [.imm 6 (l.map A6.enc) false,.fn (.func g) a b] (AA (BD p l.length 0)):=by
 intro h n;refine gq Tryz.func299 rfl λho=>?_;simp[go_sem];refine An 1 (α:=Nat) (λk=>[(0,.imm 6 (l.map A6.enc) false),(1,.fn (.func g) a b),(7,AA l.length),(8,AA k)]) (λ_=>h) (λk m=>k<=l.length/\n<=m/\BD p l.length 0=BD p l.length k) (λk=>l.length-k) 0 ?_ ?_ AB ?_;simp;simp[Ai];rintro k m ⟨hk,hnm,hf⟩;rw[BD.eq_def _ _ k]at hf;by_cases hlt:k<l.length;have w1:=wS k (by omega);have H:=hp k hlt;simp only[qn,qz,qE]at H;simp[go_sem,hlt,A6.enc];refine qw (by simpa[A6.enc]using H) ?_;by_cases h0:p k=true;simp[go_sem,h0];exact As ho rfl (by rw[hf];simp[hlt,h0]);simp[go_sem,h0,w1,-Int.natCast_add];exact⟨k+1,by omega,⟨by omega,hnm,by rw[hf];simp[hlt,h0]⟩,IO⟩;simp[go_sem,hlt];exact As ho rfl (by rw[hf];simp[hlt])
theorem ah (l:List Au) (hl:l.length<=1048576) (g:FuncId) (a b:List SV) (p:Nat->Bool) (hp:∀(i:Nat) (h:i<l.length),PC g (a++[Au.enc l[i]]++b) (.bool (p i))):
 PC 272 [.imm 6 (l.map Au.enc) false,.fn (.func g) a b] (AA (BD p l.length 0)):=by
 intro h n;refine gq Tryz.func272 rfl λho=>?_;simp[go_sem];refine An 1 (α:=Nat) (λk=>[(0,.imm 6 (l.map Au.enc) false),(1,.fn (.func g) a b),(7,AA l.length),(8,AA k)]) (λ_=>h) (λk m=>k<=l.length/\n<=m/\BD p l.length 0=BD p l.length k) (λk=>l.length-k) 0 ?_ ?_ AB ?_;simp;simp[Ai];rintro k m ⟨hk,hnm,hf⟩;rw[BD.eq_def _ _ k]at hf;by_cases hlt:k<l.length;have w1:=wS k (by omega);have H:=hp k hlt;simp only[qn,qz,qE]at H;simp[go_sem,hlt,Au.enc];refine qw (by simpa[Au.enc]using H) ?_;by_cases h0:p k=true;simp[go_sem,h0];exact As ho rfl (by rw[hf];simp[hlt,h0]);simp[go_sem,h0,w1,-Int.natCast_add];exact⟨k+1,by omega,⟨by omega,hnm,by rw[hf];simp[hlt,h0]⟩,IO⟩;simp[go_sem,hlt];exact As ho rfl (by rw[hf];simp[hlt])
theorem XW (l:List Ax) (hl:l.length<=1048576) (g:FuncId) (a b:List SV) (p:Nat->Bool) (hp:∀(i:Nat) (h:i<l.length),PC g (a++[Ax.enc l[i]]++b) (.bool (p i))):
 PC 141 [.imm 3 (l.map Ax.enc) false,.fn (.func g) a b] (AA (BD p l.length 0)):=by
 intro h n;refine gq Tryz.func141 rfl λho=>?_;simp[go_sem];refine An 1 (α:=Nat) (λk=>[(0,.imm 3 (l.map Ax.enc) false),(1,.fn (.func g) a b),(7,AA l.length),(8,AA k)]) (λ_=>h) (λk m=>k<=l.length/\n<=m/\BD p l.length 0=BD p l.length k) (λk=>l.length-k) 0 ?_ ?_ AB ?_;simp;simp[Ai];rintro k m ⟨hk,hnm,hf⟩;rw[BD.eq_def _ _ k]at hf;by_cases hlt:k<l.length;have w1:=wS k (by omega);have H:=hp k hlt;simp only[qn,qz,qE]at H;simp[go_sem,hlt,Ax.enc];refine qw (by simpa[Ax.enc]using H) ?_;by_cases h0:p k=true;simp[go_sem,h0];exact As ho rfl (by rw[hf];simp[hlt,h0]);simp[go_sem,h0,w1,-Int.natCast_add];exact⟨k+1,by omega,⟨by omega,hnm,by rw[hf];simp[hlt,h0]⟩,IO⟩;simp[go_sem,hlt];exact As ho rfl (by rw[hf];simp[hlt])
theorem Xe (l:List Aa) (hl:l.length<=1048576) (g:FuncId) (a b:List SV) (p:Nat->Bool) (hp:∀(i:Nat) (h:i<l.length),PC g (a++[Aa.enc l[i]]++b) (.bool (p i))):
 PC 193 [.imm 6 (l.map Aa.enc) false,.fn (.func g) a b] (AA (BD p l.length 0)):=by
 intro h n;refine gq Tryz.func193 rfl λho=>?_;simp[go_sem];refine An 1 (α:=Nat) (λk=>[(0,.imm 6 (l.map Aa.enc) false),(1,.fn (.func g) a b),(7,AA l.length),(8,AA k)]) (λ_=>h) (λk m=>k<=l.length/\n<=m/\BD p l.length 0=BD p l.length k) (λk=>l.length-k) 0 ?_ ?_ AB ?_;simp;simp[Ai];rintro k m ⟨hk,hnm,hf⟩;rw[BD.eq_def _ _ k]at hf;by_cases hlt:k<l.length;have w1:=wS k (by omega);have H:=hp k hlt;simp only[qn,qz,qE]at H;simp[go_sem,hlt,qQ];refine qw (by simpa[qQ]using H) ?_;by_cases h0:p k=true;simp[go_sem,h0];exact As ho rfl (by rw[hf];simp[hlt,h0]);simp[go_sem,h0,w1,-Int.natCast_add];exact⟨k+1,by omega,⟨by omega,hnm,by rw[hf];simp[hlt,h0]⟩,IO⟩;simp[go_sem,hlt];exact As ho rfl (by rw[hf];simp[hlt])
theorem bD (l:List B7) (hl:l.length<=1048576) (g:FuncId) (a b:List SV) (p:Nat->Bool) (hp:∀(i:Nat) (h:i<l.length),PC g (a++[B7.enc l[i]]++b) (.bool (p i))):
 PC 321 [.imm 3 (l.map B7.enc) false,.fn (.func g) a b] (AA (BD p l.length 0)):=by
 intro h n;refine gq Tryz.func321 rfl λho=>?_;simp[go_sem];refine An 1 (α:=Nat) (λk=>[(0,.imm 3 (l.map B7.enc) false),(1,.fn (.func g) a b),(7,AA l.length),(8,AA k)]) (λ_=>h) (λk m=>k<=l.length/\n<=m/\BD p l.length 0=BD p l.length k) (λk=>l.length-k) 0 ?_ ?_ AB ?_;simp;simp[Ai];rintro k m ⟨hk,hnm,hf⟩;rw[BD.eq_def _ _ k]at hf;by_cases hlt:k<l.length;have w1:=wS k (by omega);have H:=hp k hlt;simp only[qn,qz,qE]at H;simp[go_sem,hlt,B7.enc];refine qw (by simpa[B7.enc]using H) ?_;by_cases h0:p k=true;simp[go_sem,h0];exact As ho rfl (by rw[hf];simp[hlt,h0]);simp[go_sem,h0,w1,-Int.natCast_add];exact⟨k+1,by omega,⟨by omega,hnm,by rw[hf];simp[hlt,h0]⟩,IO⟩;simp[go_sem,hlt];exact As ho rfl (by rw[hf];simp[hlt])
theorem bE (l:List Int) (hl:l.length<=1048576) (g:FuncId) (a b:List SV) (p:Nat->Bool) (hp:∀(i:Nat) (h:i<l.length),PC g (a++[Io l[i]]++b) (.bool (p i))):
 PC 327 [.imm 1 (l.map Io) false,.fn (.func g) a b] (AA (BD p l.length 0)):=by
 intro h n;refine gq Tryz.func327 rfl λho=>?_;simp[go_sem];refine An 1 (α:=Nat) (λk=>[(0,.imm 1 (l.map Io) false),(1,.fn (.func g) a b),(7,AA l.length),(8,AA k)]) (λ_=>h) (λk m=>k<=l.length/\n<=m/\BD p l.length 0=BD p l.length k) (λk=>l.length-k) 0 ?_ ?_ AB ?_;simp;simp[Ai];rintro k m ⟨hk,hnm,hf⟩;rw[BD.eq_def _ _ k]at hf;by_cases hlt:k<l.length;have w1:=wS k (by omega);have H:=hp k hlt;simp only[qn,qz,qE]at H;simp[go_sem,hlt,Io];refine qw (by simpa[Io]using H) ?_;by_cases h0:p k=true;simp[go_sem,h0];exact As ho rfl (by rw[hf];simp[hlt,h0]);simp[go_sem,h0,w1,-Int.natCast_add];exact⟨k+1,by omega,⟨by omega,hnm,by rw[hf];simp[hlt,h0]⟩,IO⟩;simp[go_sem,hlt];exact As ho rfl (by rw[hf];simp[hlt])
theorem aO (l:List Au) (hl:l.length<=1048576) (g:FuncId) (a b:List SV) (p:Nat->Bool) (hp:∀(i:Nat) (h:i<l.length),PC g (a++[Au.enc l[i]]++b) (.bool (p i))):
 PC 214 [.imm 6 (l.map Au.enc) false,.fn (.func g) a b] (.bool (Rc p l.length)):=by
 intro h n;refine gq Tryz.func214 rfl λho=>?_;simp[go_sem];refine(ah l hl g a b p hp).use ?_;simp[go_sem];exact As ho rfl rfl
theorem ao (l:List B7) (hl:l.length<=1048576) (g:FuncId) (a b:List SV) (p:Nat->Bool) (hp:∀(i:Nat) (h:i<l.length),PC g (a++[B7.enc l[i]]++b) (.bool (p i))):
 PC 303 [.imm 3 (l.map B7.enc) false,.fn (.func g) a b] (.bool (Rc p l.length)):=by
 intro h n;refine gq Tryz.func303 rfl λho=>?_;simp[go_sem];refine(bD l hl g a b p hp).use ?_;simp[go_sem];exact As ho rfl rfl
theorem bB (l:List Int) (hl:l.length<=1048576) (g:FuncId) (a b:List SV) (p:Nat->Bool) (hp:∀(i:Nat) (h:i<l.length),PC g (a++[Io l[i]]++b) (.bool (p i))):
 PC 318 [.imm 1 (l.map Io) false,.fn (.func g) a b] (.bool (Rc p l.length)):=by
 intro h n;refine gq Tryz.func318 rfl λho=>?_;simp[go_sem];refine(bE l hl g a b p hp).use ?_;simp[go_sem];exact As ho rfl rfl
abbrev SP (E:B6) (N:Nat) (c:Code) (Q:Ce) (sa:SA) (h:Hp) (n:Nat):Prop:=Fs E Tryz.prog N c Q sa h n
section
variable {E : B6} {N : Nat} {a b : Code} {Q : Ce} {sa : SA} {h : Hp} {n : Nat}
theorem AH (H:Jr E Tryz.prog N a Q sa h n):SP E N a Q sa h n:=Eo follows _ _ _ _ _ (by rw[<-Eg];exact H)
theorem Js (sb:SA) (H1:Jr E Tryz.prog N a (DX (λsa' h' n'=>(∀p∈sb,Ai sa' p.1=p.2)/\h'=h/\n'=n) Q) sa h n) (H2:SP E N b Q sb h n):SP E N (.seq a b) Q sa h n:=
 JJ (GJ (AH H1) (FX λsa' h' n' ⟨h1,h2,h3⟩=>by subst h2;subst h3;exact P1 H2 h1))
theorem BM {α:Type} (k:Nat) (fr:α->SA) (hp:α->Hp) (I:α->Nat->Prop)
 (H1:Jr E Tryz.prog N a (DX (λsa' h' n'=>∃x,I x n'/\(∀p∈fr x,Fz h' (hp x) k (Ai sa' p.1) p.2)/\(∀o y,hp x o=some y->h' o=some y)) Q) sa h n)
 (H2:∀x m,I x m->SP E N b Q (fr x) (hp x) m):SP E N (.seq a b) Q sa h n:=
 JJ (GJ (AH H1) (FX λ_sa' _h' n' ⟨x,hI,h1,h2⟩=>Nc k h2 (qa _) h1 (H2 x n' hI)))
theorem AT {α:Type} (k:Nat) (fr:α->SA) (hp:α->Hp) (I:α->Nat->Prop)
 (H1:SP E N a (DX (λsa' h' n'=>∃x,I x n'/\(∀p∈fr x,Fz h' (hp x) k (Ai sa' p.1) p.2)/\(∀o y,hp x o=some y->h' o=some y)) Q) sa h n)
 (H2:∀x m,I x m->SP E N b Q (fr x) (hp x) m):SP E N (.seq a b) Q sa h n:=
 JJ (GJ H1 (FX λ_sa' _h' n' ⟨x,hI,h1,h2⟩=>Nc k h2 (qa _) h1 (H2 x n' hI)))
theorem BP (k:Nat) (fr:SA) (hp:Hp) (I:Nat->Prop)
 (H1:Jr E Tryz.prog N a (DX (λsa' h' n'=>∃_:Unit,I n'/\(∀p∈fr,Fz h' hp k (Ai sa' p.1) p.2)/\(∀o y,hp o=some y->h' o=some y)) Q) sa h n)
 (H2:∀m,I m->SP E N b Q fr hp m):SP E N (.seq a b) Q sa h n:=
 BM k (α:=Unit) (λ_=>fr) (λ_=>hp) (λ_=>I) H1 λ_=>H2
theorem Bo (k:Nat) (fr:SA) (hp:Hp) (I:Nat->Prop)
 (H1:SP E N a (DX (λsa' h' n'=>∃_:Unit,I n'/\(∀p∈fr,Fz h' hp k (Ai sa' p.1) p.2)/\(∀o y,hp o=some y->h' o=some y)) Q) sa h n)
 (H2:∀m,I m->SP E N b Q fr hp m):SP E N (.seq a b) Q sa h n:=
 AT k (α:=Unit) (λ_=>fr) (λ_=>hp) (λ_=>I) H1 λ_=>H2
theorem AY (k:Nat) (fr:SA) (hp:Hp) (q:Nat)
 (H1:Jr E Tryz.prog N a (DX (λsa' h' n'=>∃_:Unit,q<=n'/\(∀p∈fr,Fz h' hp k (Ai sa' p.1) p.2)/\(∀o y,hp o=some y->h' o=some y)) Q) sa h n)
 (H2:∀m,q<=m->SP E N b Q fr hp m):SP E N (.seq a b) Q sa h n:=BP k fr hp (q ≤ ·) H1 H2
theorem Bc (k:Nat) (fr:SA) (hp:Hp) (q:Nat)
 (H1:SP E N a (DX (λsa' h' n'=>∃_:Unit,q<=n'/\(∀p∈fr,Fz h' hp k (Ai sa' p.1) p.2)/\(∀o y,hp o=some y->h' o=some y)) Q) sa h n)
 (H2:∀m,q<=m->SP E N b Q fr hp m):SP E N (.seq a b) Q sa h n:=Bo k fr hp (q ≤ ·) H1 H2
theorem Bp (k:Nat) (fr:SA) (hp:Hp) (q:Nat)
 (H1:Jr E Tryz.prog N a (DX (λsa' h' n'=>∃_:Unit,q=n'/\(∀p∈fr,Fz h' hp k (Ai sa' p.1) p.2)/\(∀o y,hp o=some y->h' o=some y)) Q) sa h n)
 (H2:∀m,q=m->SP E N b Q fr hp m):SP E N (.seq a b) Q sa h n:=BP k fr hp (q = ·) H1 H2
theorem Ea (k:Nat) (fr:SA) (hp:Hp) (q:Nat)
 (H1:SP E N a (DX (λsa' h' n'=>∃_:Unit,q=n'/\(∀p∈fr,Fz h' hp k (Ai sa' p.1) p.2)/\(∀o y,hp o=some y->h' o=some y)) Q) sa h n)
 (H2:∀m,q=m->SP E N b Q fr hp m):SP E N (.seq a b) Q sa h n:=Bo k fr hp (q = ·) H1 H2
theorem AR {id:Nat} (H:SP E N a (FP id Q) sa h n):SP E N (.block id a) Q sa h n:=Mb H
theorem GI (H:SP E N a (DX (SP E N b Q) Q) sa h n):SP E N (.seq a b) Q sa h n:=JJ H
theorem goS {f:FuncId} {fn:Func} {code:Code} {args:List SV} {K:SV->Hp->Nat->Prop} (hf:Tryz.prog.funcs[f]? = some fn) (hb:fn.body=some code)
 (hn:(fn.name != "runtime.NumGoroutine")=true) (hd:Code.dok fn.ntmps code=true) (hl:args.length<=fn.ntmps)
 (H:Es h n->SP (E.call false 0) fn.ntmps code (MT Tryz.prog fn n K) (Ec 0 args) h n):Ak E Tryz.prog f args h n K:=
 Ma hf hb hn hd hl λ_ ho=>H ho
theorem Db {f:FuncId} {fn:Func} {code:Code} {args:List SV} {K:SV->Hp->Nat->Prop} (hf:Tryz.prog.funcs[f]? = some fn) (hb:fn.body=some code)
 (H:Es h n->SP (E.call false 0) fn.ntmps code (MT Tryz.prog fn n K) (Ec 0 args) h n)
 (hn:(fn.name != "runtime.NumGoroutine")=true:=by kernel_rfl) (hd:Code.dok fn.ntmps code=true:=by kernel_rfl) (hl:args.length<=fn.ntmps:=by simp[go_sem]):Ak E Tryz.prog f args h n K:=
 goS hf hb hn hd hl H
theorem BG {x:Code} {α:Type} (k:Nat) (fr:α->SA) (hp:α->Hp) (I:α->Nat->Prop) (μ:α->Nat) (a0:α) (hI:I a0 n)
 (hfr:∀p∈fr a0,Fz h (hp a0) k (Ai sa p.1) p.2) (hhp:∀o y,hp a0 o=some y->h o=some y)
 (round:∀a n,I a n->SP E N x (DX (λsa' h' n'=>∃a',μ a'<μ a/\I a' n'/\(∀p∈fr a',Fz h' (hp a') k (Ai sa' p.1) p.2)/\(∀o y,hp a' o=some y->h' o=some y)) Q) (fr a) (hp a) n):
 SP E N (.loop x) Q sa h n:=by
 refine OQ (μ a0) (λm sa h n=>∃a,m=μ a/\I a n/\(∀p∈fr a,Fz h (hp a) k (Ai sa p.1) p.2)/\(∀o y,hp a o=some y->h o=some y)) ⟨a0,rfl,hI,hfr,hhp⟩ ?_;rintro m sa h n ⟨a,rfl,hI,hfr,hhp⟩;refine Nc k hhp (qa _) hfr (GJ (round a n hI) ?_);refine FX λsa' h' n' ⟨a',h1,h2,h3,h4⟩=>⟨μ a',h1,a',rfl,h2,h3,h4⟩
end
@[go_sem] theorem UM (id:Nat) (Q:Ce):FP id Q .normal=Q .normal:=rfl
@[go_sem] theorem Vx (id:Nat) (Q:Ce):FP id Q .ret=Q .ret:=rfl
@[go_sem] theorem VP (id i:Nat) (Q:Ce) (sa:SA) (h:Hp) (n:Nat):FP id Q (.exit i) sa h n=if i=id then Q .normal sa h n else Q (.exit i) sa h n:=rfl
def Iv (p:Nat->Bool):Nat->Bool
 | 0=>true
 | n+1=>Iv p n&&p n
theorem Iw {p:Nat->Bool} {k n:Nat} (hk:k<n) (h:p k=false):Iv p n=false:=by
 induction n with
 | zero=>omega
 | succ n ih=>
  rw[Iv];by_cases e:k=n;subst e;simp[h];rw[ih (by omega)];rfl
def N2 (d:Int):Int:=IntKind.u8.wrap (BitVec.ofInt 8 d ||| BitVec.ofInt 8 32).toNat
def EP (first:Bool) (d:Int):Bool:=decide (97<=N2 d/\N2 d<=122)||(!first&&decide ((48<=d/\d<=57)\/d=45\/d=95))
def Hw (s:ByteArray):Bool:=decide ((1:Int)<=s.size/\(s.size:Int)<=40)&&Iv (λi=>EP (decide (i=0)) (BO s i)) s.size
theorem V5 (s:ByteArray):PC 219 [.str s] (.bool (Hw s)):=by
 intro h n;refine gq Tryz.func219 rfl λho=>?_;by_cases e1:(s.size:Int)<1;simp[go_sem,e1];exact As ho rfl (by simp[Hw];omega);by_cases e2:(40:Int)<s.size;simp[go_sem,e1,e2];exact As ho rfl (by simp[Hw];omega);have hN:Hw s=Iv (λi=>EP (decide (i=0)) (BO s i)) s.size:=by
  have:decide ((1:Int)<=s.size/\(s.size:Int)<=40)=true:=by simp;omega
  rw[Hw,this];rfl
 rw[hN];simp[go_sem,e1,e2];refine BG 1 (α:=Nat) (λk=>[(0,.str s),(16,AA s.size),(17,AA k)]) (λ_=>h) (λk m=>k<=s.size/\n<=m/\Iv (λi=>EP (decide (i=0)) (BO s i)) k=true) (λk=>s.size-k) 0 ?_ ?_ AB ?_;simp[Iv];simp[Ai];rintro k m ⟨hk,hnm,hf⟩;by_cases hlt:k<s.size
 . have w1:=wS k (by omega);obtain⟨g1,g2⟩:=Ei hlt;have no:EP (decide (k=0)) (BO s k)=false->Iv (λi=>EP (decide (i=0)) (BO s i)) s.size=false:=λhb=>Iw hlt hb;have yes':EP (decide (k=0)) (BO s k)=true->Iv (λi=>EP (decide (i=0)) (BO s i)) (k+1)=true:=λhb=>by rw[Iv,hf,hb];rfl
   refine Js [(0,.str s),(16,AA s.size),(17,AA k),(18,.bool true)] (by simp[go_sem,hlt]) ?_;refine Js [(0,.str s),(16,AA s.size),(17,AA k)] (by simp[go_sem]) ?_;refine AT 1 (α:=Unit) (λ_=>[(0,.str s),(16,AA s.size),(17,AA k)]) (λ_=>h) (λ_ m'=>m'=m/\EP (decide (k=0)) (BO s k)=true) (AR ?_) (λ_ m' hI=>AH ?_)
   rotate_left
   simp[go_sem,w1,-Int.natCast_add];exact⟨k+1,by omega,⟨by omega,by omega,yes' hI.2⟩,IO⟩;refine Js [(0,.str s),(16,AA s.size),(17,AA k),(3,AA k)] (by simp[go_sem]) ?_;refine Js [(0,.str s),(16,AA s.size),(17,AA k),(3,AA k),(4,.int .u8 (N2 (BO s k)))] (by simp[go_sem,g1,<-g2];rfl) ?_;generalize hc:N2 (BO s k)=c;generalize hd:BO s k=d at g2;refine Js [(0,.str s),(16,AA s.size),(17,AA k),(3,AA k),(5,.bool (decide (97<=c/\c<=122)))] (by by_cases l1:97<=c<;>simp[go_sem,l1]) ?_;refine Js [(0,.str s),(16,AA s.size),(17,AA k),(3,AA k),(5,.bool (decide (97<=c/\c<=122))),(6,.bool (decide ((48<=d/\d<=57)\/d=45\/d=95)))] ?_ ?_;by_cases d1:48<=d;by_cases d2:d<=57;simp[go_sem,g1,<-g2,d1,d2];have d3:¬d=45:=by omega
   by_cases d4:d=95<;>simp[go_sem,g1,<-g2,d1,d2,d3,d4];have d4:¬d=95:=by omega
   by_cases d3:d=45<;>simp[go_sem,g1,<-g2,d1,d3,d4];generalize hL:decide (97<=c/\c<=122)=L;generalize hO:decide ((48<=d/\d<=57)\/d=45\/d=95)=O;have hnb:EP (decide (k=0)) (BO s k)=(L||(!decide (k=0)&&O)):=by rw[EP,hc,hd,hL,hO]
   rw[hnb]at no;rw[hd]at hnb;rw[hnb];refine AH ?_;by_cases hz:k=0
   . cases L<;>cases O<;>simp[hz]at no ⊢ <;> simp[go_sem]
     all_goals exact As ho rfl (by rw[no])
   . cases L<;>cases O<;>simp[hz]at no ⊢ <;> simp[go_sem,hz]
     all_goals exact As ho rfl (by rw[no])
 . refine AH ?_;simp[go_sem,hlt];have:k=s.size:=by omega
   subst this;exact As ho rfl (by rw[hf])
theorem ae (k:Int):PC 268 [AA k] (AA (if k=1 then 2 else 1)):=by
 intro h n;refine gq Tryz.func268 rfl λho=>?_;by_cases h1:k=1<;>simp[go_sem,h1]<;>exact As ho rfl rfl
theorem an (s:A6) (id:Int):PC 301 [s.enc,.iptr [AA id]] (.bool (decide (s.id=id))):=by
 intro h n;refine gq Tryz.func301 rfl λho=>?_;simp[go_sem,A6.enc,AC];exact Ay ho (AQ ho (qa _) AB) (by by_cases e:s.id=id<;>simp[e]) rfl
def RV (a b:ByteArray):Bool:=a.toList==b.toList
theorem am (s:A6) (kind:Int) (name:ByteArray):PC 300 [s.enc,.iptr [AA kind],.iptr [.str name]] (.bool (decide (s.kind=kind)&&RV s.name name)):=by
 intro h n;refine gq Tryz.func300 rfl λho=>?_;by_cases e:s.kind=kind<;>simp[go_sem,A6.enc,AC,e]
 all_goals exact Ay ho (AQ ho (qa _) AB) (by simp[RV]) rfl
def EG (l:List A6) (id:Int):Int:=BD (λi=>match l[i]? with|some s=>decide (s.id=id)|none=>false) l.length 0
theorem af (l:List A6) (id:Int) (hl:l.length<=1048576):PC 269 [Ae l,AA id] (.tup [AA (if 0<=EG l id then EG l id else 0),.bool (decide (0<=EG l id))]):=by
 intro h n;refine gq Tryz.func269 rfl λho=>?_;simp[go_sem];have H:=Xk l hl 301 [] [.iptr [AA id]] (λi=>match l[i]? with|some s=>decide (s.id=id)|none=>false) (λi hi=>by simpa[hi]using an l[i] id);refine H.lend 3 rfl ?_ ?_;simp[AZ,Fz,hset];by_cases e:0<=EG l id;have e2:¬EG l id<0:=by omega
 simp only[EG]at e e2;simp[go_sem,e,e2];exact Ay ho (AQ ho (qa _) AB) (by simp[EG,e]) rfl;have e2:EG l id<0:=by omega
 simp only[EG]at e e2;simp[go_sem,e,e2];exact Ay ho (AQ ho (qa _) AB) (by simp[EG,e]) rfl
def C0 (l:List A6) (kind:Int) (name:ByteArray):Int:=BD (λi=>match l[i]? with|some s=>decide (s.kind=kind)&&RV s.name name|none=>false) l.length 0
theorem ac (l:List A6) (kind:Int) (name:ByteArray) (hl:l.length<=1048576):PC 267 [Ae l,AA kind,.str name] (.tup [AA (if 0<=C0 l kind name then C0 l kind name else 0),.bool (decide (0<=C0 l kind name))]):=by
 intro h n;refine gq Tryz.func267 rfl λho=>?_;simp[go_sem];have H:=Xk l hl 300 [] [.iptr [AA kind],.iptr [.str name]] (λi=>match l[i]? with|some s=>decide (s.kind=kind)&&RV s.name name|none=>false) (λi hi=>by simpa[hi]using am l[i] kind name);have hh:∀a b:Option BT,∀o x,h o=some x->hset (hset h n a) (n+1) b o=some x:=λa b=>AQ ho (je n) (AQ ho (qa _) AB);refine H.lend 3 rfl ?_ ?_;simp[AZ,Fz,hset];by_cases e:0<=C0 l kind name;have e2:¬C0 l kind name<0:=by omega
 simp only[C0]at e e2;simp[go_sem,e,e2];exact Ay ho (hh _ _) (by simp[C0,e]) rfl;have e2:C0 l kind name<0:=by omega
 simp only[C0]at e e2;simp[go_sem,e,e2];exact Ay ho (hh _ _) (by simp[C0,e]) rfl
theorem ST (l:List A6) (id:Int) (h:0<=EG l id):∃i s,EG l id=(i:Nat)/\l[i]? = some s:=by
 rcases EA (λi=>match l[i]? with|some s=>decide (s.id=id)|none=>false) l.length 0 with e|⟨i,_,h2,h3,_⟩
 have:EG l id = -1:=e;omega;exact⟨i,l[i],h3,by simp[h2]⟩
def Wq (l:List A6) (kind id:Int):Bool:=decide (0<=EG l id)&&(match l[(EG l id).toNat]? with|some s=>decide (s.kind=kind)|none=>false)
theorem aM (l:List A6) (kind id:Int) (hl:l.length<=1048576):PC 208 [Ae l,AA kind,AA id] (.bool (Wq l kind id)):=by
 intro h n;refine gq Tryz.func208 rfl λho=>?_;simp[go_sem];refine(af l id hl).use ?_;by_cases e:0<=EG l id;obtain⟨i,s,h1,h2⟩:=ST l id e;simp[go_sem,h1,h2,A6.enc];exact As ho rfl (by simp[Wq,h1,h2];by_cases hk:s.kind=kind<;>simp[hk]);simp[go_sem,e];exact As ho rfl (by simp[Wq,e])
def Il (b:Int):Bool:=decide (32<=b/\b<=126)
def GW (s:ByteArray):Bool:=!decide (s.size=0)&&decide ((s.size:Int)<=40) && !decide (BO s 0=32) && !decide (BO s (s.size-1)=32)&&Iv (λi=>Il (BO s i)) s.size
theorem aa (s:ByteArray):PC 266 [.str s] (.bool (GW s)):=by
 intro h n;refine gq Tryz.func266 rfl λho=>?_;by_cases e1:s.size=0;simp[go_sem,e1];exact As ho rfl (by simp[GW,e1]);by_cases e2:(40:Int)<s.size;simp[go_sem,e1,e2];exact As ho rfl (by simp[GW,e1];omega);have e2':(s.size:Int)<=40:=by omega
 obtain⟨a1,a2⟩:=Ei (s:=s) (i:=0) (by omega);obtain⟨b1,b2⟩:=Ei (s:=s) (i:=s.size-1) (by omega);have w0:IntKind.i64.wrap ((s.size:Int)-1)=((s.size-1:Nat):Int):=by rw[Cl]<;>omega
 have e1':0<s.size:=by omega
 by_cases e3:BO s 0=32;simp[go_sem,e1,e1',e2,<-a2,e3];exact As ho rfl (by simp[GW,e1,e3]);by_cases e4:BO s (s.size-1)=32;simp[go_sem,e1,e1',e2,<-a2,e3,b1,<-b2,e4,w0];exact As ho rfl (by simp[GW,e1,e4]);have hN:GW s=Iv (λi=>Il (BO s i)) s.size:=by simp[GW,e1,e2',e3,e4]
 rw[hN];simp[go_sem,e1,e1',e2,<-a2,e3,b1,<-b2,e4,w0];refine An 1 (α:=Nat) (λk=>[(0,.str s),(26,AA s.size),(27,AA k)]) (λ_=>h) (λk m=>k<=s.size/\n<=m/\Iv (λi=>Il (BO s i)) k=true) (λk=>s.size-k) 0 ?_ ?_ AB ?_;simp[Iv];simp[Ai];rintro k m ⟨hk,hnm,hf⟩;by_cases hlt:k<s.size;have w1:=wS k (by omega);obtain⟨g1,g2⟩:=Ei hlt;by_cases l1:BO s k<32;simp[go_sem,hlt,<-g2,l1];exact As ho rfl (by rw[Iw hlt (by simp[Il];omega)]);by_cases l2:126<BO s k;simp[go_sem,hlt,<-g2,l1,l2];exact As ho rfl (by rw[Iw hlt (by simp[Il];omega)]);simp[go_sem,hlt,<-g2,l1,l2,w1,-Int.natCast_add];exact⟨k+1,by omega,⟨by omega,hnm,by rw[Iv,hf];simp[Il];omega⟩,IO⟩;simp[go_sem,hlt];have:k=s.size:=by omega
 subst this;exact As ho rfl (by rw[hf])
theorem O1 (h:Hp) (j:Nat) (x:Option BT):hset h j x j=x:=by simp[hset]
theorem AS (h:Hp) (j:Nat) (x y:Option BT):hset (hset h j x) j y=hset h j y:=by funext k;simp only[hset];split<;>rfl
def B6.inRound (E:B6) (l:Nat):B6:={ ro:=some l,mks:=false,base:=0,inv:=E.inv,ext:=E.ext }
def Jp:List (Tmp×SV)->SA->SA
 | [],sa=>sa
 | p::r,sa=>Jp r (p::sa)
section
variable {P : Program} {E : B6} {N : Nat}
theorem FR.zip {c:Cx}:∀{ps:List Tmp} {args:List SV} {vs:List Value} {sa:SA} {tm:Array Value},(∀p∈ps,p<N)->AZ (V c) args vs->ps.length=args.length->FR E N sa c { tmps:=tm,defers:=[] }->
 FR E N (Jp (ps.zip args) sa) c { tmps:=(ps.zip vs).foldl (λt p=>t.setIfInBounds p.1 p.2) tm,defers:=[] }
 | [],_,_,_,_,_,_,_,F=>F
 | p::ps,[],_,_,_,_,_,hl,_=>by simp at hl
 | p::ps,a::args,[],_,_,_,h,_,_=>h.elim
 | p::ps,a::args,v::vs,sa,tm,hp,h,hl,F=>by
  have:=F.put (dst:=some p) (λd e=>by cases e;exact hp _ (by simp)) h.1;exact FR.zip (ps:=ps) (λq hq=>hp q (by simp[hq])) h.2 (by simpa using hl) this
theorem IA {h:Hp} {c:Cx} {o l:Nat} {r:Loop} (R:Bn h c) (ho:h o=some (.loop r)) (hρ:c.ρ o=some (l,0)):c.w.heap[l]? = some (.loop r):=by
 obtain⟨b,h1,h2⟩:=R.obj o _ ho;rw[hρ]at h1;cases h1;exact h2
theorem I8 {h:Hp} {c:Cx} {o l:Nat} {r:Loop} (r':Loop) (R:Bn h c) (ho:h o=some (.loop r)) (hρ:c.ρ o=some (l,0)):
 Bn (hset h o (some (.loop r'))) { c with w:=c.w.putObj l (.loop r') }/\DZ c { c with w:=c.w.putObj l (.loop r') }:=by
 have hl:=IA R ho hρ;have hlt:=(qp.1 hl).1;refine R.write ho hρ (by simp) (λb' hb'=>World.putObj_heap_other hb') ?_ rfl rfl λX=>⟨l,hρ,World.putObj_heap_same hlt⟩
 simp[rm,hl]
def HD (fn:FuncId) (tm:Array Value) (ps:Array Tmp) (assign body:Code) (D:Nat) (st:LoopState) (pe:Option Code):Loop:=
 { state:=st,pending:=pe,fn:=fn,tmps:=tm,params:=ps,assign:=assign,body:=body,defers:=D }
def ID (n:Nat) (R:LoopState->Option Code->Loop) (Q1:SV->Hp->Nat->Prop):Ce:=λe _ h2 m2=>
 h2 n=some (.loop (R .busy none))/\match e with
  | .normal=>Q1 (.bool true) (hset h2 n (some (.loop (R .ready none)))) m2
  | .ret=>Q1 (.bool false) (hset h2 n (some (.loop (R .done (some .ret))))) m2
  | .exit id=>Q1 (.bool false) (hset h2 n (some (.loop (R .done (some (.exit id)))))) m2
  | _=>False
def QY (P:Program) (E:B6) (N n:Nat) (R:LoopState->Option Code->Loop) (assign body:Code) (Q1:SV->Hp->Nat->Prop) (sa:SA) (h:Hp) (m:Nat):Prop:=
 Fs E P N assign (λe sa1 h1 m1=>e=.normal/\h1 n=some (.loop (R .ready none))/\Fs E P N body (ID n R Q1) sa1 (hset h1 n (some (.loop (R .busy none)))) m1) sa h m
def YZ (n:Nat) (R:LoopState->Option Code->Loop) (Q:Ce) (sa:SA):SV->Hp->Nat->Prop:=λ_ h' n'=>
 ∃st pe,h' n=some (.loop (R st pe))/\st≠.busy/\match pe with
  | none=>Q .normal sa (hset h' n none) n'
  | some .ret=>Q .ret sa (hset h' n none) n'
  | some (.exit id)=>Q (.exit id) sa (hset h' n none) n'
  | _=>False
theorem PX {E1:B6} {c1:Cx} {l n:Nat} {fn:FuncId} {tm:Array Value} {ps:Array Tmp} {assign body:Code} {D:Nat} {sa:SA} (hinv:∀c',E1.inv c'->DZ c1 c') (hρ:c1.ρ n=some (l,0))
 (hps:∀p∈ps.toList,p<N) (hda:Code.dok N assign=true) (hdb:Code.dok N body=true) (hsz:tm.size=N) (hv:∀t,V c1 (Ai sa t) (tm.getD t undef))
 {args:List SV} {hy:Hp} {m:Nat} {Q1:SV->Hp->Nat->Prop} (hn:hy n=some (.loop (HD fn tm ps assign body D .ready none))) (hl:args.length=ps.size)
 (H:QY P (E1.inRound l) N n (HD fn tm ps assign body D) assign body Q1 (Jp (ps.toList.zip args) sa) hy m):FJ E1 P l args hy m Q1:=by
 intro c vs I R F A;have X1:=hinv c I;have hρc:c.ρ n=some (l,0):=X1.ρ _ _ hρ;have hlen:=A.length;refine⟨_,_,_,_,run_yield (IA R hn hρc) (by simp[HD];omega),roundIn_of_wpIn (F:=Fence.wide) trivial ?_⟩;have F0:FR (E1.inRound l) N sa c { tmps:=tm,defers:=[] }:=⟨hsz,⟨qg _,λ_=>rfl,by simp,by simp⟩,λt=>kR X1 (hv t)⟩
 have FZ:=F0.zip (ps:=ps.toList) hps A (by simp;omega);have etm:(ps.zip vs.toArray).foldl (λtmps x=>tmps.setIfInBounds x.1 x.2) tm=(ps.toList.zip vs).foldl (λt p=>t.setIfInBounds p.1 p.2) tm:=by
  rw[<-Array.foldl_toList,Array.toList_zip]
 have hA:=H hda c _ I R F FZ;rw[<-etm]at hA;refine wpIn_mono hA ?_;rintro e a2 w2 ⟨sa2,h2,n2,c2,⟨rfl,hn2,hB⟩,rfl,R2,F2,A2,X2⟩;have hρ2:c2.ρ n=some (l,0):=X2.ext.ρ _ _ hρc;obtain⟨R3,X3⟩:=I8 (HD fn tm ps assign body D .busy none) R2 hn2 hρ2;refine⟨_,run_beginRound (IA R2 hn2 hρ2) rfl,?_⟩;have X23:DZ c { c2 with w:=c2.w.putObj l (.loop (HD fn tm ps assign body D .busy none)) }:=X2.ext.trans X3;refine wpIn_mono (hB hdb { c2 with w:=c2.w.putObj l (.loop (HD fn tm ps assign body D .busy none)) } a2 (E1.ext X23 I) R3 F2 (A2.ext X3)) ?_;rintro e a4 w4 ⟨sa4,h4,n4,c4,⟨hn4,hq⟩,rfl,R4,F4,A4,X4⟩;have hρ4:c4.ρ n=some (l,0):=X4.ext.ρ _ _ hρ2;have hl4:=IA R4 hn4 hρ4;have fin:∀(jump:Option Code) (b:Bool) (st:LoopState),b=jump.isNone->st=(if jump.isNone then .ready else .done)->Q1 (.bool b) (hset h4 n (some (.loop (HD fn tm ps assign body D st jump)))) n4->
  ∃v w',(Instr.endRound l jump).run P c4.w=.ok v w'/\∃u v' h' n' c',Ending.returned v=.returned u/\Q1 v' h' n'/\c'.w=w'/\V c' v' u/\Bn h' c'/\Fr n' c'/\Fq m c n' c':=by
  rintro jump b st rfl rfl hq;obtain⟨R5,X5⟩:=I8 (HD fn tm ps assign body D (if jump.isNone then .ready else .done) jump) R4 hn4 hρ4;refine⟨_,_,run_endRound jump hl4,.bool jump.isNone,.bool jump.isNone,_,n4,_,rfl,hq,rfl,by simp[V],R5,F4,⟨X23.trans (X4.ext.trans X5),qr X2.le X4.le,λj hj=>?_⟩⟩;exact(X4.same j (kq hj X2.le)).trans (X2.same j hj)
 cases e with
 | normal=>exact fin none true .ready rfl rfl hq
 | ret=>exact fin (some .ret) false .done rfl rfl hq
 | exit id=>exact fin (some (.exit id)) false .done rfl rfl hq
 | _=>exact hq.elim
def Cx.begin (c:Cx) (n:Nat) (r:Loop):Cx:=Cx.alloc { c with w:=c.w.alloc (.deferred (some [])) } n (.loop r)
theorem LD (c:Cx):DZ c { c with w:=c.w.alloc (.deferred (some [])) }:=by
 refine⟨λ_ _ e=>e,by simp,λb hb ho=>⟨ho,?_⟩,λb=>?_,rfl,rfl,⟨rfl,qa _⟩⟩;simp[Bk,jz,kv hb];unfold rm;rcases ji b c.w.heap.size with hx|hx;simp[Bk,jz,kv hx];simp[jg hx]
theorem P6 {h:Hp} {c:Cx} (R:Bn h c):Bn h { c with w:=c.w.alloc (.deferred (some [])) }:=by
 refine⟨λo x e=>(R.obj o x e).mono (LD c) λb hb=>?_,R.inj2,R.own2⟩;have h2:=(R.obj o x e).hold_lt hb;simp[Bk,jz,kv h2]
theorem Fa {g:Operand} {ps:Array Tmp} {assign body:Code} {Q:Ce} {sa:SA} {h:Hp} {n:Nat} {f:FuncId} {ys:List SV} (hro:E.ro=none) (hmk:E.mks=true) (hg:Gp sa g=.fn (.func f) [] ys)
 (H:∀(E1:B6) (l:Nat) (R:LoopState->Option Code->Loop),
   (∀args hy m Q1,hy n=some (.loop (R .ready none))->args.length=ps.size->QY P (E1.inRound l) N n R assign body Q1 (Jp (ps.toList.zip args) sa) hy m->FJ E1 P l args hy m Q1)->
   Ak E1 P f (.fn (.yield l) [] []::ys) (hset h n (some (.loop (R .ready none)))) (n+1) (YZ n R Q sa)):
 Fs E P N (.rangeFunc g ps assign body) Q sa h n:=by
 intro hd c a I R F A;simp only[Code.dok,qq,jj,decide_eq_true_eq]at hd;obtain⟨hps,hda,hdb⟩:=hd;have hfc:E.fc=Fence.wide:=by simp only[B6.fc,hro,Fence.wide]
 rw[hfc];refine wpIn_rangeFunc λfn _=>?_;have hρn:c.ρ n=none:=F n (qa _);obtain⟨r0,hr0⟩:∃r0,r0=HD fn a.tmps ps assign body c.w.heap.size .ready none:=⟨_,rfl⟩
 have R1:Bn (hset h n (some (.loop r0))) (c.begin n r0):=(P6 R).alloc hρn ⟨c.w.heap.size+1,by simp[Cx.alloc],by have:=World.alloc_heap_new (c.w.alloc (.deferred (some []))) (.loop r0);rwa [World.size_alloc]at this⟩;have X1:DZ c (c.begin n r0):=(LD c).trans (Cx.alloc_ext _ n (.loop r0) hρn);have hρ1:(c.begin n r0).ρ n=some (c.w.heap.size+1,0):=by simp[Cx.begin,Cx.alloc]
 have F1:Fr (n+1) (c.begin n r0):=λj hj=>by
  have:j≠n:=by omega
  simp[Cx.begin,Cx.alloc,this];exact F j (by omega)
 have hw1:(c.begin n r0).w=(c.w.alloc (.deferred (some []))).alloc (.loop r0):=rfl;have hD1:(c.begin n r0).w.heap[c.w.heap.size]? = some (.deferred (some [])):=by
  rw[hw1];simp[Bk,jz]
 have hDo:¬(c.begin n r0).own c.w.heap.size:=by
  rintro(h1|h1);obtain⟨o,x,e1,e2⟩:=(R.own2 _).1 h1;have h4:=(R.obj o x e1).hold_lt e2;omega;simp at h1
 let E1:B6:={ ro:=none,mks:=false,base:=0,inv:=λc'=>E.inv c'/\DZ (c.begin n r0) c',ext:=λx i=>⟨E.ext x i.1,i.2.trans x⟩ }
 have hcall:=H E1 (c.w.heap.size+1) (HD fn a.tmps ps assign body c.w.heap.size) λargs hy m Q1 hn hl hW=>
  PX (E1:=E1) (c1:=c.begin n r0) (λc' i=>i.2) hρ1 hps hda hdb A.size (λt=>kR X1 (A.val t)) hn hl hW
 rw[<-hr0]at hcall;have hf:=A.ev g;rw[hg,V]at hf;obtain⟨xs,yv,hfv,h1,h2⟩:=hf;simp only[VL]at h1;subst h1;have hargs:AZ (V (c.begin n r0)) (.fn (.yield (c.w.heap.size+1)) [] []::ys) (.func (.yield (c.w.heap.size+1)) #[] #[]::yv):=
  ⟨by simp[V,VL],BN.1 (VL.mono X1 h2)⟩
 have hcl:=hcall.2 (c.begin n r0) _ ⟨E.ext X1 I,kZ _⟩ R1 F1 hargs;have hok:=hcall.1;unfold Kk at hok;cases hfn:P.funcs[f]? with
 | none=>simp[hfn]at hok
 | some fn'=>
 simp only[hfn,qq,bne_iff_ne,ne_eq]at hok;have hb:fn'.body≠none:=by intro e;simp[e]at hok
 refine⟨c.w.heap.size+1,[Ti c.w.heap.size],(c.begin n r0).w,{ target:=.fn (.func f) yv.toArray,args:=#[.func (.yield (c.w.heap.size+1)) #[] #[]] },(c.begin n r0).w,f,
  (.func (.yield (c.w.heap.size+1)) #[] #[]::yv).toArray,(c.begin n r0).w,?_,?_,λ_ _=>trivial,?_,λe=>by simp[Fence.wide]at e,?_⟩
 rw[hw1,hr0];exact run_enterLoop_outer _ _ _ _ _;simp[resolve,Deferred.ofValue,hfv];rfl;simp[invoke,callFunc,hfn,hok.2,hb];refine callsIn_wide.2 (hcl.mono ?_);rintro e w3 ⟨u,v,h',n',c',rfl,⟨st,pe,hn',hst,hq⟩,rfl,hv,R',F',X'⟩;have hρ':c'.ρ n=some (c.w.heap.size+1,0):=X'.ext.ρ _ _ hρ1;obtain⟨R3,X3⟩:=I8 (HD fn a.tmps ps assign body c.w.heap.size .exhausted pe) R' hn' hρ';have R4:=R3.kill n (O1 _ _ _);have X4:=X3.trans (Cx.kill_ext { c' with w:=c'.w.putObj (c.w.heap.size+1) (.loop (HD fn a.tmps ps assign body c.w.heap.size .exhausted pe)) } n);rw[AS]at R4;have XX:=X1.trans (X'.ext.trans X4);have hD4:=(X'.ext.trans X4).keep _ (qp.1 hD1).1 hDo;refine⟨pe,_,run_endLoop (IA R' hn' hρ') hst,?_⟩;have mk:∀e,Q e sa (hset h' n none) n'->Sl E N n c Q e { a with defers:=[Ti c.w.heap.size]++a.defers } (c'.w.putObj (c.w.heap.size+1) (.loop (HD fn a.tmps ps assign body c.w.heap.size .exhausted pe))):=λe hq=>by
  refine⟨sa,hset h' n none,n',_,hq,rfl,R4,F',⟨A.size,⟨qr A.defers.base XX.size,λe=>(by rw[hmk]at e;cases e),?_,λd hd=>?_⟩,λt=>kR XX (A.val t)⟩,⟨XX,by have:=X'.le;omega,λj hj=>?_⟩⟩;refine jA.2 ⟨λhm=>?_,A.defers.nodup⟩;obtain⟨D,_,e2,e3,_⟩:=A.defers.ok _ hm;have:D=c.w.heap.size:=by simp[Ti]at e2;exact e2.symm
  have:=(qp.1 e3).1;omega;rcases qk.1 hd with rfl|hd;exact⟨c.w.heap.size,A.defers.base,rfl,hD4.2.trans hD1,hD4.1⟩;exact(A.defers.mono XX).ok d hd;have:j≠n:=by omega
  have e1:(c.begin n r0).ρ j=c.ρ j:=by simp[Cx.begin,Cx.alloc,this]
  exact(X'.same j (by omega)).trans e1
 cases pe with
 | none=>exact mk .normal hq
 | some j=>
  cases j with
  | ret=>exact wpIn_ret (mk .ret hq)
  | exit id=>exact wpIn_exit (mk (.exit id) hq)
  | _=>exact hq.elim
end
theorem cA {E:B6} {f:FuncId} {fn:Func} {code:Code} {args:List SV} {h:Hp} {n:Nat} {K:SV->Hp->Nat->Prop} (hf:Tryz.prog.funcs[f]? = some fn) (hb:fn.body=some code)
 (hn:(fn.name != "runtime.NumGoroutine")=true) (hd:Code.dok fn.ntmps code=true) (hl:args.length<=fn.ntmps)
 (H:Es h n->∀B,Jr (E.call true B) Tryz.prog fn.ntmps code (MT Tryz.prog fn n K) (Ec 0 args) h n):Ak E Tryz.prog f args h n K:=
 K7 hf hb hn hd hl λ_ ho B=>AH (H ho B)
theorem Ii {E:B6} {N n:Nat} {R:LoopState->Option Code->Loop} {assign body:Code} {Q1:SV->Hp->Nat->Prop} {sa:SA} {h:Hp} {m:Nat}
 (H:Jr E Tryz.prog N assign (λe sa1 h1 m1=>e=.normal/\h1 n=some (.loop (R .ready none))/\Jr E Tryz.prog N body (ID n R Q1) sa1 (hset h1 n (some (.loop (R .busy none)))) m1) sa h m):QY Tryz.prog E N n R assign body Q1 sa h m:=
 GJ (AH H) λ_ _ _ _ ⟨a,b,c⟩=>⟨a,b,AH c⟩
section
variable {P : Program} {E : B6}
theorem JA (d:Nat) {t e:TypeId} (a:Option Addr) (l cap:Nat) (hu:P.underlying t=some (.slice e)) (w:World):(Op.equalIn (d+1) t (.slice a l cap) (.slice none 0 0)).run P w=.ok a.isNone w:=by
 cases a<;>simp[Op.equalIn,AO hu]
theorem OY {t e:TypeId} (a:Option Addr) (l cap:Nat) (hu:P.underlying t=some (.slice e)) (w:World):
 (binOp .eql t (.slice a l cap) (.slice none 0 0)).run P w=.ok (.bool a.isNone) w:=by
 have:=JA 9999 a l cap hu w;simp only[binOp,Op.equal];simp[Op.maxDepth,this]
theorem CU {evs:Operand->SV} {o:Oper} {h:Hp} {n:Nat} {K:SV->Hp->Nat->Prop} {t t2:TypeId} {x:Operand} {z:Nat} {es:List SV} {full:Bool} (ho:o.op=.binOp .eql t x (.const (.slice none 0 0)) t2)
 (ht:(A9 P t).isSome=true) (hx:evs x=.imm z es full) (h1:es=[]->K (.bool true) h n) (h2:K (.bool false) h n):EI E P evs o h n K:=by
 refine⟨by rw[ho];simp,λc ev hc _ R F hv=>?_⟩;have hvx:=hv x;obtain⟨e,ht⟩:=jn.1 ht;have ht:=A5 ht;rw[hx,V]at hvx;have fin:∀(a:Option Addr) (l cap:Nat),ev x=.slice a l cap->K (.bool a.isNone) h n->∃u v h' n' c',(execOp ev o).run P c.w=.ok (.value u) c'.w/\V c' v u/\Bn h' c'/\Fr n' c'/\Fq n c n' c'/\K v h' n':=λa l cap e hk=>
  ⟨.bool a.isNone,.bool a.isNone,h,n,c,by simp[execOp,ho,e,hc,IH (P:=P) (a:=.slice a l cap),OY a l cap ht],by simp[V],R,F,ke n c,hk⟩
 rcases hvx with⟨he,e⟩|⟨a,cap,vs,e,_⟩
 exact fin _ _ _ e (h1 he);exact fin _ _ _ e h2
def DP (P:Program) (t:TypeId):SV->SV->Option Bool
 | .int k a,.int k' b=>if k=k'/\(Jl P t).isSome=true/\Bh P t=1/\Fm P t=some false then some (a==b)else none
 | .str a,.str b=>if FC P t=true/\Bh P t=1/\Fm P t=some false then some (a.toList==b.toList)else none
 | .bool a,.bool b=>if MA P t=true/\Bh P t=1/\Fm P t=some false then some (a==b)else none
 | _,_=>none
def Bv (P:Program) (cs ds:List SV):List Field->Option Bool
 | []=>some true
 | f::fs=>if f.name = "_" then none else
  match cs[f.offset]?,ds[f.offset]? with
  | some x,some y=>match DP P f.type x y with|some true=>Bv P cs ds fs|r=>r
  | _,_=>none
def Ba (P:Program) (t:TypeId):List Field:=(P.fieldsOf t).toList
theorem QD {c:Cx} {t:TypeId} {x y:SV} {u v:Value} {b:Bool} (h:DP P t x y=some b) (hx:V c x u) (hy:V c y v) (d:Nat) (w:World):(Op.equalIn (d+1) t u v).run P w=.ok b w/\Bh P t=1/\Fm P t=some false:=by
 unfold DP at h;split at h
 . split at h<;>try cases h
   rename_i hc;obtain⟨rfl,h1,h2,h3⟩:=hc;rw[C7 hx,C7 hy];obtain⟨i,hi⟩:=jn.1 h1;exact⟨run_equalIn_int w d t _ _ _ _ (FY hi),h2,h3⟩
 . split at h<;>try cases h
   rename_i hc;obtain⟨h1,h2,h3⟩:=hc;rw[Kq hx,Kq hy];exact⟨run_equalIn_string w d t _ _ (by unfold FC at h1;split at h1<;>first|assumption|cases h1),h2,h3⟩
 . split at h<;>try cases h
   rename_i hc;obtain⟨h1,h2,h3⟩:=hc;rw[Gm hx,Gm hy];exact⟨Gk d _ _ (Hc h1) w,h2,h3⟩
 cases h
theorem HV {c:Cx} {cs ds:List SV} {vs us:List Value} (hc:AZ (V c) cs vs) (hd:AZ (V c) ds us) (h1:∀x∈vs,x.oneCell'=true) (h2:∀x∈us,x.oneCell'=true) (d:Nat) (w:World):
 ∀(fs:List Field) (b:Bool),Bv P cs ds fs=some b->(Op.eqFields (d+1) vs.toArray us.toArray fs).run P w=.ok b w
 | [],b,h=>by simp[Bv]at h;subst h;simp[Op.eqFields]
 | f :: fs, b, h => by
  simp only[Bv]at h;split at h<;>try cases h
  rename_i hn;split at h<;>try cases h
  rename_i x y hx hy;obtain⟨u,hu,hvx⟩:=hc.get hx;obtain⟨v,hv,hvy⟩:=hd.get hy;obtain⟨b',hb⟩:∃b',DP P f.type x y=some b':=by
   cases hb:DP P f.type x y with
   | none=>simp[hb]at h
   | some b'=>exact⟨b',rfl⟩
  obtain⟨hr,hs,ha⟩:=QD hb hvx hvy d w;have p1:(part f.type vs.toArray f.offset).run P w=.ok u w:=by simp[part,Dz ha,hu]
  have p2:(part f.type us.toArray f.offset).run P w=.ok v w:=by simp[part,Dz ha,hv]
  simp only[Op.eqFields,ne_eq,hn,not_false_eq_true,if_true,Sem.run_bind,p1,p2,hr,Result.andThen_ok];rw[hb]at h;cases b';simp at h;subst h;simp;simp only at h;simp only[Bool.not_true,qj,if_false];exact HV hc hd h1 h2 d w fs b h
theorem Cp {evs:Operand->SV} {o:Oper} {t t2:TypeId} {x y:Operand} {op:BinOp} {cs ds:List SV} {b:Bool} (ho:o.op=.binOp op t x y t2) (hop:op=.eql\/op=.neq)
 (ht:P.underlying t=some (.struct (P.fieldsOf t))) (hp:P.stoodInHeld t=false) (hm:P.eqGuardType P.depth t=false)
 (hx:evs x=.agg cs) (hy:evs y=.agg ds) (hb:Bv P cs ds (Ba P t)=some b):OU P evs o (.bool (if op=.eql then b else !b)):=by
 refine⟨by rw[ho];simp,λc ev _ hv=>?_⟩;have hvx:=hv x (by simp[ho,Op.operands]);have hvy:=hv y (by simp[ho,Op.operands]);rw[hx]at hvx;rw[hy]at hvy;obtain⟨vs,e1,h1,h2⟩:=Eh hvx;obtain⟨us,e2,h3,h4⟩:=Eh hvy;have hr:=HV h1 h3 h2 h4 9998 c.w _ _ hb;have hrr:(Op.equalIn 10000 t (.agg vs.toArray) (.agg us.toArray)).run P c.w=.ok b c.w:=by rw[run_equalIn_struct c.w 9999 t _ _ ht hp];exact hr
 rcases hop with rfl|rfl;exact⟨.bool b,by simp only[execOp,ho,e1,e2,Sem.run_bind,run_eqGuard_agg c.w _ _ _ _ _ _ hm,Result.andThen_ok,run_eql_struct,hrr];simp,by simp[V]⟩;exact⟨.bool !b,by simp only[execOp,ho,e1,e2,Sem.run_bind,run_eqGuard_agg c.w _ _ _ _ _ _ hm,Result.andThen_ok,run_neq_struct,hrr];simp,by simp[V]⟩
theorem DF {evs:Operand->SV} {o:Oper} {h:Hp} {n:Nat} {K:SV->Hp->Nat->Prop} {t:TypeId} {z:Nat} {ps:Array (Nat×Operand)} (ho:o.op=.buildSlice t 0 ps) (hps:ps = #[]) (hi:((A9 P t).bind P.info?).isSome=true)
 (hk:K (.imm z [] true) h n):EI E P evs o h n K:=by
 subst hps;refine⟨by rw[ho];simp,λc ev hc _ R F hv=>?_⟩;obtain⟨i,hi⟩:=jn.1 hi;obtain⟨e,ht,hi⟩:=Option.bind_eq_some_iff.1 hi;have hu:=A5 ht;have hw:(execOp ev o).run P c.w=.ok (.value (.slice (some ⟨c.w.heap.size,0,none⟩) 0 0)) (c.w.alloc (.cells #[] e)):=by
  simp[execOp,ho,Instr.buildSlice,AO hu,sizeOf,typeInfo,hi,Instr.fill,newRow];congr 2;simp
 have X:DZ c { c with w:=c.w.alloc (.cells #[] e) }:=by
  refine⟨λ_ _ e=>e,by simp,λb hb hn=>⟨hn,?_⟩,λb=>?_,rfl,rfl,⟨rfl,qa _⟩⟩;simp[Bk,jz,kv hb];unfold rm;rcases ji b c.w.heap.size with hx|hx;simp[Bk,jz,kv hx];simp[jg hx]
 refine⟨_,.imm z [] true,h,n,{ c with w:=c.w.alloc (.cells #[] e) },hw,?_,⟨λo x e=>(R.obj o x e).mono X λb hb=>?_,R.inj2,R.own2⟩,F,⟨X,qa _,λ_ _=>rfl⟩,hk⟩;rw[V];exact .inr ⟨⟨c.w.heap.size,0,none⟩,0,[],rfl,qa _,λ_=>rfl,⟨by simp,by simp,by simp,by simp⟩,by simp[VE]⟩;have h2:=(R.obj o x e).hold_lt hb;simp[Bk,jz,kv h2]
def DA (P:Program) (cs ds:List SV):List (Bool×TypeId×Nat)->Option Bool
 | []=>some true
 | f::fs=>if f.1=true then none else
  match cs[f.2.2]?,ds[f.2.2]? with
  | some x,some y=>match DP P f.2.1 x y with|some true=>DA P cs ds fs|r=>r
  | _,_=>none
theorem CT (cs ds:List SV):∀fs:List Field,Bv P cs ds fs=DA P cs ds (fs.map λf=>(f.name == "_",f.type,f.offset))
 | []=>rfl
 | f::fs=>by
  simp only[Bv,DA,qu,beq_iff_eq,CT cs ds fs]
end
structure MM {α:Type} (f:α->SV) (z:Nat):Prop where
 st:∀x,(f x).storable=true
 len:∀x,(f x).cells.length=z
 cl:∀n x,closed n (f x)=true
theorem MM.size {α:Type} {f:α->SV} {z:Nat} (H:MM f z) (l:List α):∀e∈l.map f,e.storable=true/\e.cells.length=z:=by
 intro e he;simp only[qy]at he;obtain⟨x,_,rfl⟩:=he;exact⟨H.st x,H.len x⟩
theorem MM.closedL {α:Type} {f:α->SV} {z:Nat} (H:MM f z) (n:Nat) (l:List α):closedL n (l.map f)=true:=BU.2 (by
 intro e he;simp only[qy]at he;obtain⟨x,_,rfl⟩:=he;exact H.cl n x)
theorem MM.imm {α:Type} {f:α->SV} {z:Nat} (H:MM f z) (n z':Nat) (l:List α) (full:Bool):closed n (.imm z' (l.map f) full)=true:=by rw[closed];exact H.closedL n l
theorem Hz:MM AA 1:=⟨λ_=>rfl,λ_=>rfl,λ_ _=>rfl⟩
theorem Er.E:MM Er.enc 2:=⟨λ_=>rfl,λ_=>rfl,λ_ _=>rfl⟩
theorem Az.E:MM Az.enc 2:=⟨λ_=>rfl,λ_=>rfl,λ_ _=>rfl⟩
theorem Am.E:MM Am.enc 4:=⟨λ_=>rfl,λ_=>rfl,λ_ _=>rfl⟩
theorem Ax.E:MM Ax.enc 3:=⟨λ_=>rfl,λ_=>rfl,λ_ _=>rfl⟩
theorem CX.E:MM CX.enc 4:=⟨λ_=>rfl,λ_=>rfl,λ_ _=>rfl⟩
theorem Au.E:MM Au.enc 6:=⟨λ_=>rfl,λ_=>rfl,λ_ _=>rfl⟩
theorem Ft.E:MM Ft.enc 2:=⟨λ_=>rfl,λ_=>rfl,λ_ _=>rfl⟩
theorem A6.E:MM A6.enc 6:=⟨λ_=>rfl,λ_=>rfl,λn s=>by simp[A6.enc,closed,closedL,Er.E.closedL]⟩
theorem Fb.E:MM Fb.enc 2:=⟨λ_=>rfl,λ_=>rfl,λn s=>by simp[Fb.enc,closed,closedL,CX.E.closedL]⟩
theorem AF.flat_closed (n:Nat) (h:AF):Sh.closedL n h.flat=true:=by simp[AF.flat,closed,closedL,Er.E.closedL,Az.E.closedL,Am.E.closedL]
theorem AF.E:MM AF.enc 5:=⟨λ_=>rfl,λ_=>rfl,λn s=>by rw[AF.enc,closed];exact s.flat_closed n⟩
theorem DR (n:Nat):∀(a b:List SV),closedL n (a++b)=(closedL n a&&closedL n b)
 | [],b=>by simp[closedL]
 | x::a,b=>by simp[closedL,DR n a b,Bool.and_assoc]
mutual
theorem AE.cl (n:Nat):∀x:AE,closed n x.enc=true
 | .mk k c i t h f r=>by
  rw[AE.enc,closed,DR,DR];simp[closed,closedL,h.flat_closed,AE.clL n f,Aa.clL n r]
theorem AE.clL (n:Nat):∀l:List AE,closedL n (AE.encL l)=true
 | []=>by simp[AE.encL,closedL]
 | x::l=>by rw[AE.encL,closedL,AE.cl n x,AE.clL n l];rfl
theorem Aa.cl (n:Nat):∀x:Aa,closed n x.enc=true
 | .mk h c=>by
  rw[Aa.enc,closed,DR];simp[closed,closedL,h.flat_closed,Cell.clL n c]
theorem Aa.clL (n:Nat):∀l:List Aa,closedL n (Aa.encL l)=true
 | []=>by simp[Aa.encL,closedL]
 | x::l=>by rw[Aa.encL,closedL,Aa.cl n x,Aa.clL n l];rfl
theorem Cell.cl (n:Nat):∀x:Cell,closed n x.enc=true
 | .mk i h f=>by
  rw[Cell.enc,closed,DR,DR];simp[closed,closedL,h.flat_closed,AE.clL n f]
theorem Cell.clL (n:Nat):∀l:List Cell,closedL n (Cell.encL l)=true
 | []=>by simp[Cell.encL,closedL]
 | x::l=>by rw[Cell.encL,closedL,Cell.cl n x,Cell.clL n l];rfl
end
theorem AE.E:MM AE.enc 11:=⟨λx=>by rw[qx];rfl,λx=>by rw[qx];rfl,AE.cl⟩
theorem Aa.E:MM Aa.enc 6:=⟨λx=>by rw[qQ];rfl,λx=>by rw[qQ];rfl,Aa.cl⟩
theorem Cell.E:MM Cell.enc 7:=⟨λx=>by rw[jh];rfl,λx=>by rw[jh];rfl,Cell.cl⟩
def AI.enc (d:AI):SV:=.agg ([AG d.flow]++d.«end».flat++[Ao d.revs]++d.settings.flat)
theorem DV {h' h:Hp} {k z o:Nat} {es:List SV} {full full':Bool} (hn:h o=none) (hf:full'=true->full=true) (hh:h' o=some (.cells (es.flatMap SV.cells))) (hs:∀e∈es,e.storable=true/\e.cells.length=z):
 Fz h' h (k+1) (.sl o 0 z es.length full) (.imm z es full'):=by
 refine .inr ⟨hn,hf,rfl,rfl,_,_,hh,by simp[Bg,A7 hs];rfl,hs,?_⟩;have:∀l:List SV,AZ (Fz h' h k) l l:=by
  intro l;induction l with
  | nil=>trivial
  | cons a l ih=>exact⟨IO,ih⟩
 simp only[<-A7 hs,qi];exact this _
theorem BC {h' h:Hp} {k z z':Nat} {full full':Bool} (hf:full'=true->full=true):Fz h' h (k+1) (.imm z [] full) (.imm z' [] full'):=
 .inr ⟨hf,.inl rfl,trivial,by simp⟩
theorem T2 {α:Type} {f:α->SV} {z:Nat} (H:MM f z) {h h':Hp} {n n' o:Nat} {v:SV} {l:List α} {full:Bool} (ho:Es h n) (hh:∀o x,h o=some x->h' o=some x) (hn:n<=o) (hv:v=.sl o 0 z l.length full) (hc:h' o=some (.cells ((l.map f).flatMap SV.cells))):
 B8 n h' n' v (Is (.imm z (l.map f) false) h n):=by
 subst hv;have:=DV (h':=h') (h:=h) (k:=0) (z:=z) (es:=l.map f) (full:=full) (full':=false) (ho.none hn) (by simp) hc (H.size l);rw[qd]at this;exact Dy 1 ho hh this (H.imm _ _ _ _)
theorem Jj {h h':Hp} {n n' z z':Nat} {v:SV} {full full':Bool} (ho:Es h n) (hh:∀o x,h o=some x->h' o=some x) (hf:full'=true->full=true) (hv:v=.imm z [] full):B8 n h' n' v (Is (.imm z' [] full') h n):=by
 subst hv;exact Dy 1 ho hh (BC hf) (by simp[closed,closedL])
theorem HM {P:Program} {h:Hp} {n z:Nat} {t t2 el:TypeId} {es:List SV} {full:Bool} (ht:A9 P t=some el) (ht2:(A9 P t2).isSome=true) (hz:Bh P el=z) (hz0:z≠0) (hst:(BH P el).storable=true) (hzl:(BH P el).cells.length=z)
 (hb:BY P el<=65536) (hne:es≠[]) (hroom:es.length<=1073741824) (hrow:Gq el=none:=by rfl):
 AU P h n .append [t,t2] [.imm z [] true,.imm z es full]=some { val:=.sl n 0 z es.length false,new:=some (.cells (es.flatMap SV.cells)) }:=by
 have h0:es.length≠0:=by cases es<;>simp at hne ⊢
 have hr:C4 (0+es.length) (BY P el)=true:=by simp[C4];exact⟨hroom,hb⟩
 simp only[AU,ht2,if_true,Cm,ht,Dw,flat,hz,hzl,hst];simp[Hd,hz0,h0,hrow];simpa using hr
def OP (z:Nat) (es:List SV) (h:Hp) (n:Nat):SV->Hp->Nat->Prop:=λv h' n'=>
 n<=n'/\(∀o x,h o=some x->h' o=some x)/\((es=[]/\∃z' full,v=.imm z' [] full)\/∃o full,n<=o/\o<n'/\v=.sl o 0 z es.length full/\h' o=some (.cells (es.flatMap SV.cells)))
abbrev LC (f:FuncId) (args:List SV) (z:Nat) (es:List SV):Prop:=∀h n,BA Tryz.prog f args h n (OP z es h n)
theorem LC.pc {f:FuncId} {args:List SV} {z:Nat} {es:List SV} (H:LC f args z es) (hs:∀e∈es,e.storable=true/\e.cells.length=z) (hcl:∀n,closedL n es=true):PC f args (.imm z es false):=by
 intro h n;refine⟨(H h n).1,λc vs I R F A=>((H h n).2 c vs I R F A).mono ?_⟩;rintro e w' ⟨u,v,h',n',c',rfl,⟨hle,hh,hv⟩,rfl,hV,R',F',X⟩;have ho:Es h n:=λo x e=>HP F (R.obj o x e);have hfz:Fz h' h 1 v (.imm z es false):=by
  rcases hv with⟨rfl,z',full,rfl⟩|⟨o,full,h1,h2,rfl,h3⟩
  exact BC (by simp);exact DV (ho.none h1) (by simp) h3 hs
 have RL:=R'.less hh;have hv2:V ((c'.less h).cut h n) (.imm z es false) u:=(hfz.sound R' hh 1 hV).cut RL (λ_ _ e=>e) (by rw[closed];exact hcl n);refine⟨u,_,h,n,(c'.less h).cut h n,rfl,⟨rfl,rfl,rfl⟩,rfl,hv2,RL.cut (λo x e=>⟨e,ho o x e⟩),S9,⟨Qz RL (λ_ _ e=>e) F (qa _) (X.ext.trans (DU R' hh)),qa _,λj hj=>?_⟩⟩;simp only[Cx.cut,hj,if_true];exact X.same j hj
theorem LC.use {E:B6} {f:FuncId} {args:List SV} {z:Nat} {es:List SV} (H:LC f args z es) {h:Hp} {n:Nat} {K:SV->Hp->Nat->Prop} (hk:∀v h' n',OP z es h n v h' n'->K v h' n'):Ak E Tryz.prog f args h n K:=
 Ak.lift ((H h n).mono hk)
structure AF.sized (h:AF):Prop where
 props:h.props.length<=1048576
 dels:h.dels.length<=1048576
 layers:h.layers.length<=1048576
mutual
def AE.sized:AE->Prop
 | .mk _ _ _ t h f r=>t.size<=1048576/\h.sized/\f.length<=1048576/\r.length<=1048576/\AE.sizedL f/\Aa.sizedL r
def AE.sizedL:List AE->Prop
 | []=>True
 | x::l=>x.sized/\AE.sizedL l
def Aa.sized:Aa->Prop
 | .mk h c=>h.sized/\c.length<=1048576/\Cell.sizedL c
def Aa.sizedL:List Aa->Prop
 | []=>True
 | x::l=>x.sized/\Aa.sizedL l
def Cell.sized:Cell->Prop
 | .mk _ h f=>h.sized/\f.length<=1048576/\AE.sizedL f
def Cell.sizedL:List Cell->Prop
 | []=>True
 | x::l=>x.sized/\Cell.sizedL l
end
theorem AE.sizedL_mem:∀{l:List AE},AE.sizedL l->∀x∈l,x.sized
 | _::_,h,x,hx=>by rw[AE.sizedL]at h;rcases qk.1 hx with rfl|hx;exact h.1;exact AE.sizedL_mem h.2 x hx
theorem Aa.sizedL_mem:∀{l:List Aa},Aa.sizedL l->∀x∈l,x.sized
 | _::_,h,x,hx=>by rw[Aa.sizedL]at h;rcases qk.1 hx with rfl|hx;exact h.1;exact Aa.sizedL_mem h.2 x hx
theorem Cell.sizedL_mem:∀{l:List Cell},Cell.sizedL l->∀x∈l,x.sized
 | _::_,h,x,hx=>by rw[Cell.sizedL]at h;rcases qk.1 hx with rfl|hx;exact h.1;exact Cell.sizedL_mem h.2 x hx
theorem AE.sizedL_of:∀{l:List AE},(∀x∈l,x.sized)->AE.sizedL l
 | [],_=>by rw[AE.sizedL];trivial
 | x::l,h=>by rw[AE.sizedL];exact⟨h x (by simp),AE.sizedL_of λy hy=>h y (by simp[hy])⟩
theorem Aa.sizedL_of:∀{l:List Aa},(∀x∈l,x.sized)->Aa.sizedL l
 | [],_=>by rw[Aa.sizedL];trivial
 | x::l,h=>by rw[Aa.sizedL];exact⟨h x (by simp),Aa.sizedL_of λy hy=>h y (by simp[hy])⟩
theorem Cell.sizedL_of:∀{l:List Cell},(∀x∈l,x.sized)->Cell.sizedL l
 | [],_=>by rw[Cell.sizedL];trivial
 | x::l,h=>by rw[Cell.sizedL];exact⟨h x (by simp),Cell.sizedL_of λy hy=>h y (by simp[hy])⟩
section
variable {P : Program}
theorem Dp {H:Hp} {n m k z:Nat} {es:List SV} {e:SV} {o:Option Nat} {t t2 el:TypeId} (ht:A9 P t=some el) (ht2:(A9 P t2).isSome=true) (hz:Bh P el=z) (hz0:z≠0) (hst:(BH P el).storable=true) (hzl:(BH P el).cells.length=z)
 (hb:BY P el<=65536) (hroom:es.length+1<=1073741824) (hA:Ar n m z o es) (he:e.cells.length=z) (h1:H k=some (.cells e.cells)) (h2:∀j,o=some j->H j=some (.cells (es.flatMap SV.cells))) (p:Nat) (hrow:Gq el=none:=by rfl):
 AU P H p .append [t,t2] [AM z o es,.sl k 0 z 1 true] =
  some { val:=.sl p 0 z (es.length+1) false,upd:=o.map λj=>(j,none),new:=some (.cells (es.flatMap SV.cells++e.cells)) }:=by
 have hfl:flat H (.sl k 0 z 1 true)=some e.cells:=by
  simp[flat,h1,Bg,he];exact qB (by omega)
 have hr:C4 (es.length+1) (BY P el)=true:=by simp[C4];exact⟨by omega,hb⟩
 simp only[AU,ht2,if_true,Cm,ht,Dw,hfl,hz,hzl,hst];cases o with
 | none=>
  have:=hA.none rfl;subst this;simp[AM,Hd,hz0,hrow];have hr':C4 1 (BY P el)=true:=by simpa using hr
  exact hr'
 | some j =>
  have hf:flat H (.sl j 0 z es.length false)=some (es.flatMap SV.cells):=by
   simp only[flat,h2 j rfl,Bg,jc,A7 hA.size,qa,if_true,kn];rw[<-A7 hA.size,qi]
  simp[AM,Hd,hz0,hf,hr,GX hrow]
end
theorem Dr {h H:Hp} {n m p z:Nat} {es:List SV} {e:SV} {o:Option Nat} {v:SV} (ho:Es h n) (hn:n<=p) (hA:Ar n m z o es) (hH:∀j y,h j=some y->H j=some y):
 ∀j y,AN (some p) (es++[e]) h j=some y->(Cs.app H p { val:=v,upd:=o.map λj=>(j,none),new:=some (.cells (es.flatMap SV.cells++e.cells)) }) j=some y:=by
 intro j y hj;simp only[AN]at hj;by_cases e1:j=p;subst e1;rw[AC]at hj;simp only[Cs.app,AC];rw[<-hj];simp;rw[AD _ _ e1]at hj;have hlt:=(ho j y hj).1;cases o with
 | none=>simp[Cs.app,AD _ _ e1,hH j y hj]
 | some k=>
  have hk:j≠k:=by have:=(hA.lt k rfl).1;omega
  simp[Cs.app,AD _ _ e1,AD _ _ hk,hH j y hj]
theorem Cu {h:Hp} {o:Option Nat} {es:List SV}:∀j,o=some j->AN o es h j=some (.cells (es.flatMap SV.cells)):=by
 rintro j rfl;simp[AN,hset]
theorem Kv {h h':Hp} {n m m' z:Nat} {o:Option Nat} {es:List SV} (ho:Es h n) (hA:Ar n m z o es) (hh:∀j y,AN o es h j=some y->h' j=some y) (hm:n<=m') (hm':m<=m'):OP z es h n (AM z o es) h' m':=by
 refine⟨hm,λj x e=>hh j x (AN.old ho hA j x e),?_⟩;cases o with
 | none=>exact .inl ⟨hA.none rfl,0,true,rfl⟩
 | some j=>exact .inr ⟨j,false,(hA.lt j rfl).1,kq (hA.lt j rfl).2 hm',rfl,hh j _ (by simp[AN,hset])⟩
theorem I3 {z:Nat} {es:List SV} (hs:∀e∈es,e.storable=true/\e.cells.length=z) (i:Nat):(es.flatMap SV.cells).take (i*z)=(es.take i).flatMap SV.cells/\(es.flatMap SV.cells).drop (i*z)=(es.drop i).flatMap SV.cells:=by
 induction es generalizing i with
 | nil=>simp
 | cons e es ih =>
  cases i with
  | zero=>simp
  | succ i=>
   have he:=(hs e (by simp)).2;obtain⟨h1,h2⟩:=ih (λx hx=>hs x (by simp[hx])) i;have e1:(i+1)*z=e.cells.length+i*z:=by rw[he,jB,Nat.one_mul,Nat.add_comm]
   simp only[qK,jl,List.drop_succ_cons,e1];rw[List.take_length_add_append,kl,h1,h2];exact⟨rfl,rfl⟩
theorem JU {z:Nat} {es:List SV} (hs:∀e∈es,e.storable=true/\e.cells.length=z) {i:Nat} {e:SV} (h:es[i]? = some e):i*z+z<=(es.flatMap SV.cells).length/\((es.flatMap SV.cells).drop (i*z)).take z=e.cells:=by
 obtain⟨hlt,he⟩:=qo.1 h;have hz:=(hs e (by rw[<-he];exact ql hlt)).2;refine⟨?_,?_⟩;rw[A7 hs];have:(i+1)*z<=es.length*z:=jt z hlt;rw[jB,Nat.one_mul]at this;exact this;rw[(I3 hs i).2,qG hlt,he,qK,<-hz,kO]
theorem LT {z:Nat} {es:List SV} (hs:∀e∈es,e.storable=true/\e.cells.length=z) {j:Nat} {e:SV} (hj:j<es.length):(es.flatMap SV.cells).take (j*z)++(e.cells++(es.flatMap SV.cells).drop (j*z+z))=(es.set j e).flatMap SV.cells:=by
 have h1:=(I3 hs j).1;have h2:=(I3 hs (j+1)).2;rw[jB,Nat.one_mul]at h2;rw[h1,h2,ku,if_pos hj];simp
section
variable {P : Program}
theorem GL {H:Hp} {n m k z j len:Nat} {es:List SV} {e:SV} {t t2 el:TypeId} (ht:A9 P t=some el) (ht2:(A9 P t2).isSome=true) (hz:Bh P el=z) (hz0:z≠0) (hst:(BH P el).storable=true) (hzl:(BH P el).cells.length=z)
 (hb:BY P el<=65536) (hroom:es.length+1<=1073741824) (hA:Ar n m z (some j) es) (he:e.cells.length=z) (h1:H k=some (.cells e.cells)) (h2:H j=some (.cells (es.flatMap SV.cells))) (p:Nat) (hlen:len=es.length) (hrow:Gq el=none:=by rfl):
 AU P H p .append [t,t2] [.sl j 0 z len false,.sl k 0 z 1 true] =
  some { val:=.sl p 0 z (es.length+1) false,upd:=some (j,none),new:=some (.cells (es.flatMap SV.cells++e.cells)) }:=by
 subst hlen;exact Dp (o:=some j) ht ht2 hz hz0 hst hzl hb hroom hA he h1 (λi e=>by cases e;exact h2) p hrow
theorem Ky {H:Hp} {k z:Nat} {e:SV} {t t2 el:TypeId} (ht:A9 P t=some el) (ht2:(A9 P t2).isSome=true) (hz:Bh P el=z) (hz0:z≠0) (hst:(BH P el).storable=true) (hzl:(BH P el).cells.length=z)
 (hb:BY P el<=65536) (he:e.cells.length=z) (h1:H k=some (.cells e.cells)) (p:Nat) (hrow:Gq el=none:=by rfl):
 AU P H p .append [t,t2] [.imm 0 [] true,.sl k 0 z 1 true]=some { val:=.sl p 0 z 1 false,new:=some (.cells e.cells) }:=
 Dp (n:=0) (m:=0) (o:=none) (es:=[]) ht ht2 hz hz0 hst hzl hb (by simp) (jK 0 0 z) he h1 (by simp) p hrow
end
theorem cI (l:List Er) (hl:l.length<=1048576):LC 185 [.imm 2 (l.map Er.enc) false] 2 (l.map Er.enc):=by
 intro h n;refine gq Tryz.func185 rfl λho=>?_;simp[go_sem];refine CU rfl (by kernel_rfl) rfl (λe=>?_) ?_;simp[go_sem];have:l=[]:=by simpa using e
 subst this;exact .inl ⟨qa _,AB,.inl ⟨rfl,_,_,rfl⟩⟩;simp[go_sem];refine DF (z:=2) rfl rfl (by kernel_rfl) ?_;cases l with
 | nil=>
  simp[go_sem];exact .inl ⟨qa _,AB,.inl ⟨rfl,_,_,rfl⟩⟩
 | cons a l=>
  have hap:=HM (P:=Tryz.prog) (h:=h) (n:=n) (t:=23) (t2:=23) (el:=193) (z:=2) (es:=(a::l).map Er.enc) (full:=false) (by simp[go_sem]) (by simp[go_sem]) (by simp[go_sem]) (by simp) (by simp[go_sem]) (by simp[go_sem]) (by simp[go_sem]) (by simp) (by simp at hl ⊢;omega);simp only[qu]at hap;simp[go_sem,hap];refine .inl ⟨je n,AQ ho (qa _) AB,.inr ⟨n,false,qa _,qP n,?_,?_⟩⟩;simp;simp[AC];rfl
theorem V3 (l:List Er) (hl:l.length<=1048576):PC 185 [.imm 2 (l.map Er.enc) false] (.imm 2 (l.map Er.enc) false):=(cI l hl).pc (Er.E.size l) λn=>Er.E.closedL n l
theorem YT (l:List Az) (hl:l.length<=1048576):LC 186 [.imm 2 (l.map Az.enc) false] 2 (l.map Az.enc):=by
 intro h n;refine gq Tryz.func186 rfl λho=>?_;simp[go_sem];refine CU rfl (by kernel_rfl) rfl (λe=>?_) ?_;simp[go_sem];have:l=[]:=by simpa using e
 subst this;exact .inl ⟨qa _,AB,.inl ⟨rfl,_,_,rfl⟩⟩;simp[go_sem];refine DF (z:=2) rfl rfl (by kernel_rfl) ?_;cases l with
 | nil=>
  simp[go_sem];exact .inl ⟨qa _,AB,.inl ⟨rfl,_,_,rfl⟩⟩
 | cons a l=>
  have hap:=HM (P:=Tryz.prog) (h:=h) (n:=n) (t:=24) (t2:=24) (el:=166) (z:=2) (es:=(a::l).map Az.enc) (full:=false) (by simp[go_sem]) (by simp[go_sem]) (by simp[go_sem]) (by simp) (by simp[go_sem]) (by simp[go_sem]) (by simp[go_sem]) (by simp) (by simp at hl ⊢;omega);simp only[qu]at hap;simp[go_sem,hap];refine .inl ⟨je n,AQ ho (qa _) AB,.inr ⟨n,false,qa _,qP n,?_,?_⟩⟩;simp;simp[AC];rfl
theorem aC (l:List Az) (hl:l.length<=1048576):PC 186 [.imm 2 (l.map Az.enc) false] (.imm 2 (l.map Az.enc) false):=(YT l hl).pc (Az.E.size l) λn=>Az.E.closedL n l
theorem YU (l:List Am) (hl:l.length<=1048576):LC 187 [.imm 4 (l.map Am.enc) false] 4 (l.map Am.enc):=by
 intro h n;refine gq Tryz.func187 rfl λho=>?_;simp[go_sem];refine CU rfl (by kernel_rfl) rfl (λe=>?_) ?_;simp[go_sem];have:l=[]:=by simpa using e
 subst this;exact .inl ⟨qa _,AB,.inl ⟨rfl,_,_,rfl⟩⟩;simp[go_sem];refine DF (z:=4) rfl rfl (by kernel_rfl) ?_;cases l with
 | nil=>
  simp[go_sem];exact .inl ⟨qa _,AB,.inl ⟨rfl,_,_,rfl⟩⟩
 | cons a l=>
  have hap:=HM (P:=Tryz.prog) (h:=h) (n:=n) (t:=25) (t2:=25) (el:=164) (z:=4) (es:=(a::l).map Am.enc) (full:=false) (by simp[go_sem]) (by simp[go_sem]) (by simp[go_sem]) (by simp) (by simp[go_sem]) (by simp[go_sem]) (by simp[go_sem]) (by simp) (by simp at hl ⊢;omega);simp only[qu]at hap;simp[go_sem,hap];refine .inl ⟨je n,AQ ho (qa _) AB,.inr ⟨n,false,qa _,qP n,?_,?_⟩⟩;simp;simp[AC];rfl
theorem aD (l:List Am) (hl:l.length<=1048576):PC 187 [.imm 4 (l.map Am.enc) false] (.imm 4 (l.map Am.enc) false):=(YU l hl).pc (Am.E.size l) λn=>Am.E.closedL n l
theorem YW (l:List Ax) (hl:l.length<=1048576):LC 76 [.imm 3 (l.map Ax.enc) false] 3 (l.map Ax.enc):=by
 intro h n;refine gq Tryz.func76 rfl λho=>?_;simp[go_sem];refine CU rfl (by kernel_rfl) rfl (λe=>?_) ?_;simp[go_sem];have:l=[]:=by simpa using e
 subst this;exact .inl ⟨qa _,AB,.inl ⟨rfl,_,_,rfl⟩⟩;simp[go_sem];refine DF (z:=3) rfl rfl (by kernel_rfl) ?_;cases l with
 | nil=>
  simp[go_sem];exact .inl ⟨qa _,AB,.inl ⟨rfl,_,_,rfl⟩⟩
 | cons a l=>
  have hap:=HM (P:=Tryz.prog) (h:=h) (n:=n) (t:=30) (t2:=30) (el:=42) (z:=3) (es:=(a::l).map Ax.enc) (full:=false) (by simp[go_sem]) (by simp[go_sem]) (by simp[go_sem]) (by simp) (by simp[go_sem]) (by simp[go_sem]) (by simp[go_sem]) (by simp) (by simp at hl ⊢;omega);simp only[qu]at hap;simp[go_sem,hap];refine .inl ⟨je n,AQ ho (qa _) AB,.inr ⟨n,false,qa _,qP n,?_,?_⟩⟩;simp;simp[AC];rfl
theorem c76 (l:List Ax) (hl:l.length<=1048576):PC 76 [.imm 3 (l.map Ax.enc) false] (.imm 3 (l.map Ax.enc) false):=(YW l hl).pc (Ax.E.size l) λn=>Ax.E.closedL n l
theorem cJ (l:List A6) (hl:l.length<=1048576):LC 199 [.imm 6 (l.map A6.enc) false] 6 (l.map A6.enc):=by
 intro h n;refine gq Tryz.func199 rfl λho=>?_;simp[go_sem];refine CU rfl (by kernel_rfl) rfl (λe=>?_) ?_;simp[go_sem];have:l=[]:=by simpa using e
 subst this;exact .inl ⟨qa _,AB,.inl ⟨rfl,_,_,rfl⟩⟩;simp[go_sem];refine DF (z:=6) rfl rfl (by kernel_rfl) ?_;cases l with
 | nil=>
  simp[go_sem];exact .inl ⟨qa _,AB,.inl ⟨rfl,_,_,rfl⟩⟩
 | cons a l=>
  have hap:=HM (P:=Tryz.prog) (h:=h) (n:=n) (t:=31) (t2:=31) (el:=198) (z:=6) (es:=(a::l).map A6.enc) (full:=false) (by simp[go_sem]) (by simp[go_sem]) (by simp[go_sem]) (by simp) (by simp[go_sem]) (by simp[go_sem]) (by simp[go_sem]) (by simp) (by simp at hl ⊢;omega);simp only[qu]at hap;simp[go_sem,hap];refine .inl ⟨je n,AQ ho (qa _) AB,.inr ⟨n,false,qa _,qP n,?_,?_⟩⟩;simp;simp[AC];rfl
theorem cK (l:List Fb) (hl:l.length<=1048576):LC 200 [.imm 2 (l.map Fb.enc) false] 2 (l.map Fb.enc):=by
 intro h n;refine gq Tryz.func200 rfl λho=>?_;simp[go_sem];refine CU rfl (by kernel_rfl) rfl (λe=>?_) ?_;simp[go_sem];have:l=[]:=by simpa using e
 subst this;exact .inl ⟨qa _,AB,.inl ⟨rfl,_,_,rfl⟩⟩;simp[go_sem];refine DF (z:=2) rfl rfl (by kernel_rfl) ?_;cases l with
 | nil=>
  simp[go_sem];exact .inl ⟨qa _,AB,.inl ⟨rfl,_,_,rfl⟩⟩
 | cons a l=>
  have hap:=HM (P:=Tryz.prog) (h:=h) (n:=n) (t:=32) (t2:=32) (el:=103) (z:=2) (es:=(a::l).map Fb.enc) (full:=false) (by simp[go_sem]) (by simp[go_sem]) (by simp[go_sem]) (by simp) (by simp[go_sem]) (by simp[go_sem]) (by simp[go_sem]) (by simp) (by simp at hl ⊢;omega);simp only[qu]at hap;simp[go_sem,hap];refine .inl ⟨je n,AQ ho (qa _) AB,.inr ⟨n,false,qa _,qP n,?_,?_⟩⟩;simp;simp[AC];rfl
theorem cL (l:List Au) (hl:l.length<=1048576):LC 201 [.imm 6 (l.map Au.enc) false] 6 (l.map Au.enc):=by
 intro h n;refine gq Tryz.func201 rfl λho=>?_;simp[go_sem];refine CU rfl (by kernel_rfl) rfl (λe=>?_) ?_;simp[go_sem];have:l=[]:=by simpa using e
 subst this;exact .inl ⟨qa _,AB,.inl ⟨rfl,_,_,rfl⟩⟩;simp[go_sem];refine DF (z:=6) rfl rfl (by kernel_rfl) ?_;cases l with
 | nil=>
  simp[go_sem];exact .inl ⟨qa _,AB,.inl ⟨rfl,_,_,rfl⟩⟩
 | cons a l=>
  have hap:=HM (P:=Tryz.prog) (h:=h) (n:=n) (t:=33) (t2:=33) (el:=115) (z:=6) (es:=(a::l).map Au.enc) (full:=false) (by simp[go_sem]) (by simp[go_sem]) (by simp[go_sem]) (by simp) (by simp[go_sem]) (by simp[go_sem]) (by simp[go_sem]) (by simp) (by simp at hl ⊢;omega);simp only[qu]at hap;simp[go_sem,hap];refine .inl ⟨je n,AQ ho (qa _) AB,.inr ⟨n,false,qa _,qP n,?_,?_⟩⟩;simp;simp[AC];rfl
theorem aI (l:List Au) (hl:l.length<=1048576):PC 201 [.imm 6 (l.map Au.enc) false] (.imm 6 (l.map Au.enc) false):=(cL l hl).pc (Au.E.size l) λn=>Au.E.closedL n l
theorem cM (l:List Ft) (hl:l.length<=1048576):LC 202 [.imm 2 (l.map Ft.enc) false] 2 (l.map Ft.enc):=by
 intro h n;refine gq Tryz.func202 rfl λho=>?_;simp[go_sem];refine CU rfl (by kernel_rfl) rfl (λe=>?_) ?_;simp[go_sem];have:l=[]:=by simpa using e
 subst this;exact .inl ⟨qa _,AB,.inl ⟨rfl,_,_,rfl⟩⟩;simp[go_sem];refine DF (z:=2) rfl rfl (by kernel_rfl) ?_;cases l with
 | nil=>
  simp[go_sem];exact .inl ⟨qa _,AB,.inl ⟨rfl,_,_,rfl⟩⟩
 | cons a l=>
  have hap:=HM (P:=Tryz.prog) (h:=h) (n:=n) (t:=34) (t2:=34) (el:=118) (z:=2) (es:=(a::l).map Ft.enc) (full:=false) (by simp[go_sem]) (by simp[go_sem]) (by simp[go_sem]) (by simp) (by simp[go_sem]) (by simp[go_sem]) (by simp[go_sem]) (by simp) (by simp at hl ⊢;omega);simp only[qu]at hap;simp[go_sem,hap];refine .inl ⟨je n,AQ ho (qa _) AB,.inr ⟨n,false,qa _,qP n,?_,?_⟩⟩;simp;simp[AC];rfl
theorem aJ (l:List Ft) (hl:l.length<=1048576):PC 202 [.imm 2 (l.map Ft.enc) false] (.imm 2 (l.map Ft.enc) false):=(cM l hl).pc (Ft.E.size l) λn=>Ft.E.closedL n l
theorem cN (l:List CX) (hl:l.length<=1048576):LC 203 [.imm 4 (l.map CX.enc) false] 4 (l.map CX.enc):=by
 intro h n;refine gq Tryz.func203 rfl λho=>?_;simp[go_sem];refine CU rfl (by kernel_rfl) rfl (λe=>?_) ?_;simp[go_sem];have:l=[]:=by simpa using e
 subst this;exact .inl ⟨qa _,AB,.inl ⟨rfl,_,_,rfl⟩⟩;simp[go_sem];refine DF (z:=4) rfl rfl (by kernel_rfl) ?_;cases l with
 | nil=>
  simp[go_sem];exact .inl ⟨qa _,AB,.inl ⟨rfl,_,_,rfl⟩⟩
 | cons a l=>
  have hap:=HM (P:=Tryz.prog) (h:=h) (n:=n) (t:=101) (t2:=101) (el:=106) (z:=4) (es:=(a::l).map CX.enc) (full:=false) (by simp[go_sem]) (by simp[go_sem]) (by simp[go_sem]) (by simp) (by simp[go_sem]) (by simp[go_sem]) (by simp[go_sem]) (by simp) (by simp at hl ⊢;omega);simp only[qu]at hap;simp[go_sem,hap];refine .inl ⟨je n,AQ ho (qa _) AB,.inr ⟨n,false,qa _,qP n,?_,?_⟩⟩;simp;simp[AC];rfl
theorem aK (l:List CX) (hl:l.length<=1048576):PC 203 [.imm 4 (l.map CX.enc) false] (.imm 4 (l.map CX.enc) false):=(cN l hl).pc (CX.E.size l) λn=>CX.E.closedL n l
theorem Ob (h0:AF) (hs:h0.sized):PC 118 [h0.enc] h0.enc:=by
 intro h n;refine gq Tryz.func118 rfl λho=>?_;simp[go_sem,AF.enc,AF.flat,AC,AD];refine(V3 _ hs.props).use ?_;simp[go_sem,AC,AD]
 repeat first|refine nq ?_|refine sq ?_|refine aq ?_
 refine jw _ _ _ _ _ _ (aC _ hs.dels) ?_;simp[go_sem,AC]
 repeat first|refine nq ?_|refine sq ?_|refine aq ?_
 refine jw _ _ _ _ _ _ (aD _ hs.layers) ?_;simp[go_sem,AC,AD]
 repeat first|refine nq ?_|refine sq ?_|refine aq ?_
 exact Ay ho (by repeat(first|exact AB|refine AQ ho (by omega) ?_)) rfl (AF.E.cl n h0)
theorem cH (l:List AE) (hl:l.length<=1048576) (g:FuncId) (a b:List SV) (f:AE->AE) (hf:∀(i:Nat) (h:i<l.length),PC g (a++[AE.enc l[i]]++b) (AE.enc (f l[i]))):LC 174 [.imm 11 (l.map AE.enc) false,.fn (.func g) a b] 11 ((l.map f).map AE.enc):=by
 intro h n;generalize hR:(l.map f).map AE.enc=R;refine gq Tryz.func174 rfl λho=>?_;simp[go_sem];refine An 1 (α:=Nat×Option Nat) (λq=>[(1,.fn (.func g) a b),(5,AM 11 q.2 (((l.take q.1).map f).map AE.enc)),(8,.imm 11 (l.map AE.enc) false),(9,AA l.length),(10,AA q.1)]) (λq=>AN q.2 (((l.take q.1).map f).map AE.enc) h)
  (λq m=>q.1<=l.length/\n<=m/\Ar n m 11 q.2 (((l.take q.1).map f).map AE.enc)) (λq=>l.length-q.1) (0,none) ?_ ?_ AB ?_
 simp;exact jK _ _ _;simp[Ai,AM];rintro⟨k,o⟩ m ⟨hk,hnm,hA⟩;dsimp only at hk hA ⊢;have hlen:(((l.take k).map f).map AE.enc).length=k:=by simp;omega
 by_cases hlt:k<l.length
 . have w1:=wS k (by omega);obtain⟨x,hx⟩:∃x,l[k]=x:=⟨_,rfl⟩
   have H:=hf k hlt;rw[hx]at H;simp only[qn,qz,qE]at H;have hgx:(l.map AE.enc)[k]? = some x.enc:=by simp[hlt,hx]
   have htk:((l.take (k+1)).map f).map AE.enc=((l.take k).map f).map AE.enc++[(f x).enc]:=by rw[qb hlt,hx];simp
   have hpush:=hA.push (j:=m+1+1) (m':=m+1+1+1) (e:=(f x).enc) (AE.E.st _) (AE.E.len _) (by omega) (by omega);rw[<-htk]at hpush;generalize hes:((l.take k).map f).map AE.enc=es at hA htk hlen ⊢;simp only[qO]at hgx;simp[go_sem,hlt,hx,qx,AC,-List.map_map,-List.map_take];refine qw (by simpa[qx]using H) ?_;simp[go_sem,-List.map_map,-List.map_take];rw[Dp (es:=es) (e:=(f x).enc) (o:=o) (t:=22) (t2:=22) (el:=70) (z:=11) (by simp[go_sem]) (by simp[go_sem]) (by simp[go_sem]) (by simp) (by simp[go_sem]) (by simp[go_sem]) (by simp[go_sem]) (by omega) hA (AE.E.len _) ?a1 ?a2]
   case a1=>simp[AC,qx,SV.cells]
   case a2=>
    intro j e;have:=(hA.lt j e).2;rw[AD _ _ (by omega),AD _ _ (by omega),AD _ _ (by omega)];exact Cu j e
   simp[go_sem,w1,-Int.natCast_add,-List.map_map,-List.map_take];refine⟨k+1,by omega,some (m+1+1),⟨by omega,by omega,hpush⟩,⟨?_,IO⟩,?_⟩;rw[htk];simp[AM,IO];rw[htk];have:=Dr (p:=m+1+1) (v:=.sl (m+1+1) 0 11 (es.length+1) false) (e:=(f x).enc) ho (by omega) hA (H:=hset (hset (hset (AN o es h) m (some (.cells [.int .i64 0,.int .i64 0,.int .i64 0,.str .empty,.imm 0 [] true,.int .i64 0,.int .i64 0,.imm 0 [] true,.imm 0 [] true,.imm 0 [] true,.imm 0 [] true]))) m (some (.cells x.enc.cells))) (m+1) (some (.cells (f x).enc.cells)))
    (AQ ho (by omega) (AQ ho (by omega) (AQ ho (by omega) (AN.old ho hA))))
   simpa[qx,SV.cells,Cs.app]using this
 have:k=l.length:=by omega
 subst this;simp only[qi,hR]at hA ⊢;simp[go_sem,-List.map_map,-List.map_take];exact .inl (Kv ho hA AB hnm (qa _))
theorem YR (l:List Aa) (hl:l.length<=1048576) (g:FuncId) (a b:List SV) (f:Aa->Aa) (hf:∀(i:Nat) (h:i<l.length),PC g (a++[Aa.enc l[i]]++b) (Aa.enc (f l[i]))):LC 134 [.imm 6 (l.map Aa.enc) false,.fn (.func g) a b] 6 ((l.map f).map Aa.enc):=by
 intro h n;generalize hR:(l.map f).map Aa.enc=R;refine gq Tryz.func134 rfl λho=>?_;simp[go_sem];refine An 1 (α:=Nat×Option Nat) (λq=>[(1,.fn (.func g) a b),(5,AM 6 q.2 (((l.take q.1).map f).map Aa.enc)),(8,.imm 6 (l.map Aa.enc) false),(9,AA l.length),(10,AA q.1)]) (λq=>AN q.2 (((l.take q.1).map f).map Aa.enc) h)
  (λq m=>q.1<=l.length/\n<=m/\Ar n m 6 q.2 (((l.take q.1).map f).map Aa.enc)) (λq=>l.length-q.1) (0,none) ?_ ?_ AB ?_
 simp;exact jK _ _ _;simp[Ai,AM];rintro⟨k,o⟩ m ⟨hk,hnm,hA⟩;dsimp only at hk hA ⊢;have hlen:(((l.take k).map f).map Aa.enc).length=k:=by simp;omega
 by_cases hlt:k<l.length
 . have w1:=wS k (by omega);obtain⟨x,hx⟩:∃x,l[k]=x:=⟨_,rfl⟩
   have H:=hf k hlt;rw[hx]at H;simp only[qn,qz,qE]at H;have hgx:(l.map Aa.enc)[k]? = some x.enc:=by simp[hlt,hx]
   have htk:((l.take (k+1)).map f).map Aa.enc=((l.take k).map f).map Aa.enc++[(f x).enc]:=by rw[qb hlt,hx];simp
   have hpush:=hA.push (j:=m+1+1) (m':=m+1+1+1) (e:=(f x).enc) (Aa.E.st _) (Aa.E.len _) (by omega) (by omega);rw[<-htk]at hpush;generalize hes:((l.take k).map f).map Aa.enc=es at hA htk hlen ⊢;simp only[qO]at hgx;simp[go_sem,hlt,hx,qQ,AC,-List.map_map,-List.map_take];refine qw (by simpa[qQ]using H) ?_;simp[go_sem,-List.map_map,-List.map_take];rw[Dp (es:=es) (e:=(f x).enc) (o:=o) (t:=68) (t2:=68) (el:=169) (z:=6) (by simp[go_sem]) (by simp[go_sem]) (by simp[go_sem]) (by simp) (by simp[go_sem]) (by simp[go_sem]) (by simp[go_sem]) (by omega) hA (Aa.E.len _) ?a1 ?a2]
   case a1=>simp[AC,qQ,SV.cells]
   case a2=>
    intro j e;have:=(hA.lt j e).2;rw[AD _ _ (by omega),AD _ _ (by omega),AD _ _ (by omega)];exact Cu j e
   simp[go_sem,w1,-Int.natCast_add,-List.map_map,-List.map_take];refine⟨k+1,by omega,some (m+1+1),⟨by omega,by omega,hpush⟩,⟨?_,IO⟩,?_⟩;rw[htk];simp[AM,IO];rw[htk];have:=Dr (p:=m+1+1) (v:=.sl (m+1+1) 0 6 (es.length+1) false) (e:=(f x).enc) ho (by omega) hA (H:=hset (hset (hset (AN o es h) m (some (.cells [.imm 0 [] true,.int .i64 0,.int .i64 0,.imm 0 [] true,.imm 0 [] true,.imm 0 [] true]))) m (some (.cells x.enc.cells))) (m+1) (some (.cells (f x).enc.cells)))
    (AQ ho (by omega) (AQ ho (by omega) (AQ ho (by omega) (AN.old ho hA))))
   simpa[qQ,SV.cells,Cs.app]using this
 have:k=l.length:=by omega
 subst this;simp only[qi,hR]at hA ⊢;simp[go_sem,-List.map_map,-List.map_take];exact .inl (Kv ho hA AB hnm (qa _))
theorem YV (l:List Cell) (hl:l.length<=1048576) (g:FuncId) (a b:List SV) (f:Cell->Cell) (hf:∀(i:Nat) (h:i<l.length),PC g (a++[Cell.enc l[i]]++b) (Cell.enc (f l[i]))):LC 194 [.imm 7 (l.map Cell.enc) false,.fn (.func g) a b] 7 ((l.map f).map Cell.enc):=by
 intro h n;generalize hR:(l.map f).map Cell.enc=R;refine gq Tryz.func194 rfl λho=>?_;simp[go_sem];refine An 1 (α:=Nat×Option Nat) (λq=>[(1,.fn (.func g) a b),(5,AM 7 q.2 (((l.take q.1).map f).map Cell.enc)),(8,.imm 7 (l.map Cell.enc) false),(9,AA l.length),(10,AA q.1)]) (λq=>AN q.2 (((l.take q.1).map f).map Cell.enc) h)
  (λq m=>q.1<=l.length/\n<=m/\Ar n m 7 q.2 (((l.take q.1).map f).map Cell.enc)) (λq=>l.length-q.1) (0,none) ?_ ?_ AB ?_
 simp;exact jK _ _ _;simp[Ai,AM];rintro⟨k,o⟩ m ⟨hk,hnm,hA⟩;dsimp only at hk hA ⊢;have hlen:(((l.take k).map f).map Cell.enc).length=k:=by simp;omega
 by_cases hlt:k<l.length
 . have w1:=wS k (by omega);obtain⟨x,hx⟩:∃x,l[k]=x:=⟨_,rfl⟩
   have H:=hf k hlt;rw[hx]at H;simp only[qn,qz,qE]at H;have hgx:(l.map Cell.enc)[k]? = some x.enc:=by simp[hlt,hx]
   have htk:((l.take (k+1)).map f).map Cell.enc=((l.take k).map f).map Cell.enc++[(f x).enc]:=by rw[qb hlt,hx];simp
   have hpush:=hA.push (j:=m+1+1) (m':=m+1+1+1) (e:=(f x).enc) (Cell.E.st _) (Cell.E.len _) (by omega) (by omega);rw[<-htk]at hpush;generalize hes:((l.take k).map f).map Cell.enc=es at hA htk hlen ⊢;simp only[qO]at hgx;simp[go_sem,hlt,hx,jh,AC,-List.map_map,-List.map_take];refine qw (by simpa[jh]using H) ?_;simp[go_sem,-List.map_map,-List.map_take];rw[Dp (es:=es) (e:=(f x).enc) (o:=o) (t:=167) (t2:=167) (el:=171) (z:=7) (by simp[go_sem]) (by simp[go_sem]) (by simp[go_sem]) (by simp) (by simp[go_sem]) (by simp[go_sem]) (by simp[go_sem]) (by omega) hA (Cell.E.len _) ?a1 ?a2]
   case a1=>simp[AC,jh,SV.cells]
   case a2=>
    intro j e;have:=(hA.lt j e).2;rw[AD _ _ (by omega),AD _ _ (by omega),AD _ _ (by omega)];exact Cu j e
   simp[go_sem,w1,-Int.natCast_add,-List.map_map,-List.map_take];refine⟨k+1,by omega,some (m+1+1),⟨by omega,by omega,hpush⟩,⟨?_,IO⟩,?_⟩;rw[htk];simp[AM,IO];rw[htk];have:=Dr (p:=m+1+1) (v:=.sl (m+1+1) 0 7 (es.length+1) false) (e:=(f x).enc) ho (by omega) hA (H:=hset (hset (hset (AN o es h) m (some (.cells [.int .i64 0,.imm 0 [] true,.int .i64 0,.int .i64 0,.imm 0 [] true,.imm 0 [] true,.imm 0 [] true]))) m (some (.cells x.enc.cells))) (m+1) (some (.cells (f x).enc.cells)))
    (AQ ho (by omega) (AQ ho (by omega) (AQ ho (by omega) (AN.old ho hA))))
   simpa[jh,SV.cells,Cs.app]using this
 have:k=l.length:=by omega
 subst this;simp only[qi,hR]at hA ⊢;simp[go_sem,-List.map_map,-List.map_take];exact .inl (Kv ho hA AB hnm (qa _))
end Go.Proofs.YtgakninlhfkkmaaGreat.Sh
