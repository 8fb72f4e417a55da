/- A part of the proof (part 4 of 15). -/
import Derived.Test.YtgakninlhfkkmaaGreatM3
import Derived.RangeFuncIn
import Derived.Laws.StructEq
namespace Go.Proofs.YtgakninlhfkkmaaGreat.Sh
abbrev Xg:=@Ak.fz
abbrev YB:=@AW.enc_eq
abbrev Yh:=@AE.enc_eq
abbrev Yj:=@PC.use
abbrev Z6:=@Bo.pure
abbrev Z9:=@AL.enc_eq
abbrev Zs:=@A7.nil
open Proofs
set_option maxRecDepth 10000
theorem Ja (a b c:Int):PC 155 [AA a,AA b,AA c] (.bool (decide (b<=a/\a<=c))):=by
 intro h n
 refine gq Tryz.func155 rfl λho=>?_
 by_cases h1:b<=a<;>simp[go_sem,h1]
 . exact A3 ho rfl (by simp[])
 . exact A3 ho rfl (by simp[])
theorem I0 (b:Bool) (e:Int):PC 87 [.bool b,AA e] (AA (if b then e else 0)):=by
 intro h n
 refine gq Tryz.func87 rfl λho=>?_
 cases b<;>simp[go_sem]
 . exact A3 ho rfl rfl
 . exact A3 ho rfl rfl
def Bu:List Int->Int
 | []=>0
 | e::l=>if e=0 then Bu l else e
theorem OM (l:List Int) (k:Nat) (hk:k<l.length):Bu (l.drop k)=if l[k]=0 then Bu (l.drop (k+1))else l[k]:=by
 rw[YA hk,Bu]
theorem PF (l:List Int) (hl:l.length<=1048576):PC 82 [.imm 1 (l.map AA) false] (AA (Bu l)):=by
 intro h n
 refine gq Tryz.func82 rfl λho=>?_
 simp[go_sem]
 refine Am 1 (α:=Nat) (λk=>[(5,.imm 1 (l.map AA) false),(6,AA l.length),(7,AA k)]) (λ_=>h) (λk m=>k<=l.length/\n<=m/\Bu l=Bu (l.drop k)) (λk=>l.length-k) 0 ?_ ?_ AB ?_
 . simp
 . simp[Aj]
 rintro k m ⟨hk,hnm,hf⟩
 by_cases hlt:k<l.length
 . have w1:=wS k (by omega)
   rw[OM l k hlt]at hf
   by_cases h0:l[k]=0
   . simp[go_sem,hlt,h0,w1,-Int.natCast_add]
     exact⟨k+1,by omega,⟨by omega,hnm,by simpa[h0]using hf⟩,Y0⟩
   . simp[go_sem,hlt,h0]
     exact A3 ho rfl (by simp[hf,h0])
 . simp[go_sem,hlt]
   have:k=l.length:=by omega
   subst this
   simp[Bu]at hf
   exact A3 ho rfl (by rw[hf])
def EE (s:ByteArray):Bool:=decide (1<=s.size/\s.size<=40)&&CW s
theorem c154 (s:ByteArray) (hs:s.size<=1099511627776):PC 154 [.str s] (.bool (EE s)):=by
 intro h n
 refine gq Tryz.func154 rfl λho=>?_
 by_cases h1:(1:Int)<=s.size
 . have h1':1<=s.size:=by omega
   by_cases h2:(s.size:Int)<=40
   . have h2':s.size<=40:=by omega
     simp[go_sem,h1,h2]
     refine(PO s hs).use ?_
     simp[go_sem]
     exact A3 ho rfl (by simp[EE,h1',h2'])
   . have h2':¬s.size<=40:=by omega
     simp[go_sem,h1,h2]
     exact A3 ho rfl (by simp[EE,h2'])
 . have h1':¬1<=s.size:=by omega
   simp[go_sem,h1]
   exact A3 ho rfl (by simp[EE,h1'])
def No (s:ByteArray):Int:=Bu [if !CW s then 12 else 0,if decide ((1024:Int)<s.size)then 10 else 0]
theorem c217 (s:ByteArray) (hs:s.size<=1099511627776):PC 217 [.str s] (AA (No s)):=by
 intro h n
 refine gq Tryz.func217 rfl λho=>?_
 simp[go_sem]
 refine(PO s hs).use ?_
 simp[go_sem]
 refine(I0 _ _).use ?_
 simp[go_sem]
 refine(I0 _ _).use ?_
 simp[go_sem]
 refine(PF [if !CW s then 12 else 0,if decide ((1024:Int)<s.size)then 10 else 0] (by simp)).lend 2 rfl ?_ ?_
 . simp[AZ,Fz,hset,Bk,SV.storable,SV.cells]
 . simp[go_sem]
   exact Au ho (AP ho (Y1 _) AB) (by simp[No]) rfl
def GV (F:Nat->Int) (i:Nat):Int:=if ¬(1<=F i/\F i<=1073741824)then 18 else if 0<i/\F i=F (i-1)then 7 else if 0<i/\F i<F (i-1)then 6 else 0
theorem UO (i:Nat) (hi:i<=1099511627776) (g:FuncId) (a b:List SV) (F:Nat->Int) (hF:∀j,j<=i->PC g (a++[AA j]++b) (AA (F j))):PC 152 [AA i,.fn (.func g) a b] (AA (GV F i)):=by
 intro h n
 refine gq Tryz.func152 rfl λho=>?_
 have F0:=hF i (Y1 _)
 have F1:=hF (i-1) (by omega)
 simp only[Ye,List.singleton_append]at F0 F1
 simp[go_sem]
 refine F0.use ?_
 simp[go_sem]
 refine(Ja _ _ _).use ?_
 by_cases h1:1<=F i/\F i<=1073741824
 . by_cases h0:0<i
   . have e1:IntKind.i64.wrap ((i:Int)-1)=((i-1:Nat):Int):=by rw[DR]<;>omega
     simp[go_sem,h1,h0]
     refine F0.use ?_
     simp[go_sem,e1]
     refine F1.use ?_
     by_cases h2:F i=F (i-1)
     . simp[go_sem,h2]
       have e:GV F i=7:=by unfold GV;rw[if_neg (by simpa using h1),if_pos ⟨h0,h2⟩]
       exact A3 ho rfl (by rw[e])
     . simp[go_sem,h2,h0]
       refine F0.use ?_
       simp[go_sem,e1]
       refine F1.use ?_
       by_cases h3:F i<F (i-1)
       . simp[go_sem,h3]
         exact A3 ho rfl (by simp[GV,h1,h0,h2,h3])
       . simp[go_sem,h3]
         exact A3 ho rfl (by simp[GV,h1,h0,h2,h3])
   . simp[go_sem,h1,h0]
     exact A3 ho rfl (by simp[GV,h1,h0])
 . simp[go_sem,h1]
   exact A3 ho rfl (by simp[GV,h1])
def E5 (F:Nat->Int):Nat->Int
 | 0=>0
 | n+1=>if E5 F n=0 then F n else E5 F n
theorem IZ (F:Nat->Int) {k n:Nat} (hk:k<n) (h0:E5 F k=0) (h1:F k≠0):E5 F n=F k:=by
 induction n with
 | zero=>omega
 | succ n ih=>
  rw[E5]
  by_cases e:k=n
  . subst e;simp[h0]
  . have:=ih (by omega)
    rw[this,if_neg h1]
theorem c150 (N:Nat) (hN:N<=1099511627776) (g:FuncId) (a b:List SV) (F:Nat->Int) (hF:∀j,j<N->PC g (a++[AA j]++b) (AA (F j))):PC 150 [AA N,.fn (.func g) a b] (AA (E5 F N)):=by
 intro h n
 refine gq Tryz.func150 rfl λho=>?_
 simp[go_sem]
 refine Am 1 (α:=Nat) (λk=>[(1,.fn (.func g) a b),(7,AA N),(8,AA k)]) (λ_=>h) (λk m=>k<=N/\n<=m/\E5 F k=0) (λk=>N-k) 0 ?_ ?_ AB ?_
 . simp[E5]
 . simp[Aj]
 rintro k m ⟨hk,hnm,hf⟩
 by_cases hlt:k<N
 . have w1:=wS k (by omega)
   have F0:=hF k hlt
   simp only[Ye,List.singleton_append]at F0
   simp[go_sem,hlt]
   refine F0.use ?_
   by_cases h0:F k=0
   . simp[go_sem,h0,w1,-Int.natCast_add]
     exact⟨k+1,by omega,⟨by omega,hnm,by simp[E5,hf,h0]⟩,Y0⟩
   . simp[go_sem,h0]
     exact A3 ho rfl (by rw[IZ F hlt hf h0])
 . simp[go_sem,hlt]
   have:k=N:=by omega
   subst this
   exact A3 ho rfl (by rw[hf])
theorem c153 (l:List BD) (i:Nat) (hi:i<l.length):PC 153 [AA i,.iptr [Aw l]] (AA (l[i]).id):=by
 intro h n
 refine gq Tryz.func153 rfl λho=>?_
 simp[go_sem,hi,BD.enc]
 exact A3 ho rfl rfl
def HL (l:List BD) (i:Nat):Int:=match l[i]? with
 | some r=>Bu [GV (λj=>match l[j]? with|some r=>r.id|none=>0) i,if !EE r.author then 39 else 0,if !decide (0<=r.time/\r.time<=1099511627776)then 40 else 0]
 | none=>0
theorem c151 (l:List BD) (i:Nat) (hi:i<l.length) (hl:l.length<=1048576) (hs:∀r∈l,r.author.size<=1048576):PC 151 [AA i,.iptr [Aw l]] (AA (HL l i)):=by
 intro h n
 refine gq Tryz.func151 rfl λho=>?_
 simp[go_sem]
 repeat first|refine nq ?_|refine sq ?_
 have h152:=UO i (by omega) 153 [] [.iptr [Aw l]] (λj=>match l[j]? with|some r=>r.id|none=>0) (λj hj=>by
  have hjl:j<l.length:=by omega
  simpa[hjl]using c153 l j hjl)
 refine Z6 _ _ _ _ _ _ h152 ?_
 simp[go_sem,hi,BD.enc]
 repeat first|refine nq ?_|refine sq ?_
 refine Z6 _ _ _ _ _ _ (c154 _ (by have:=hs _ (Yc hi);omega)) ?_
 simp[go_sem]
 repeat first|refine nq ?_|refine sq ?_
 refine Z6 _ _ _ _ _ _ (I0 _ _) ?_
 simp[go_sem,hi,BD.enc]
 repeat first|refine nq ?_|refine sq ?_
 refine Z6 _ _ _ _ _ _ (Ja _ _ _) ?_
 simp[go_sem]
 repeat first|refine nq ?_|refine sq ?_
 refine Z6 _ _ _ _ _ _ (I0 _ _) ?_
 simp[go_sem]
 repeat first|refine nq ?_|refine sq ?_
 refine Bo.lend _ _ _ _ _ _ 2 [n] (PF [GV (λj=>match l[j]? with|some r=>r.id|none=>0) i,if !EE (l[i]).author then 39 else 0,if !decide (0<=(l[i]).time/\(l[i]).time<=1099511627776)then 40 else 0] (by simp)) rfl (by simp) (λh' hh=>?_) ?_
 . have:=hh n (by simp)
   simp[hset]at this
   simp[AZ,Fz,this,Bk,SV.storable,SV.cells]
 simp[go_sem]
 repeat first|refine nq ?_|refine sq ?_
 exact Au ho (AP ho (Y1 _) AB) (by simp[HL,hi]) rfl
def Di (l:List BD):Int:=Bu [if decide (256<(l.length:Int))then 9 else 0,E5 (HL l) (min l.length 256)]
theorem c84 (l:List BD) (hl:l.length<=1048576) (hs:∀r∈l,r.author.size<=1048576):PC 84 [Aw l] (AA (Di l)):=by
 intro h n
 refine gq Tryz.func84 rfl λho=>?_
 simp[go_sem,AC]
 repeat first|refine nq ?_|refine sq ?_
 refine Z6 _ _ _ _ _ _ (I0 _ _) ?_
 have emin:(if(256:Int)<(l.length:Int)then(256:Int)else(l.length:Int))=((min l.length 256:Nat):Int):=by split<;>omega
 simp[go_sem,AC,emin]
 repeat first|refine nq ?_|refine sq ?_
 have h150:=c150 (min l.length 256) (by omega) 151 [] [.iptr [Aw l]] (HL l) (λj hj=>c151 l j (by omega) hl hs)
 refine Bo.lend _ _ _ _ _ _ 3 [n] h150 rfl (by simp) (λh' hh=>?_) ?_
 . have:=hh n (by simp)
   simp[hset]at this
   simp[AZ,Fz,this]
 simp[go_sem]
 repeat first|refine nq ?_|refine sq ?_
 refine Bo.lend _ _ _ _ _ _ 2 [n+1] (PF [if decide (256<(l.length:Int))then 9 else 0,E5 (HL l) (min l.length 256)] (by simp)) rfl (by simp) (λh' hh=>?_) ?_
 . have:=hh (n+1) (by simp)
   simp[hset]at this
   simp[AZ,Fz,this,Bk,SV.storable,SV.cells]
 simp[go_sem]
 repeat first|refine nq ?_|refine sq ?_
 exact Au ho (AP ho (YO n) (AP ho (Y1 _) AB)) (by simp[Di]) rfl
theorem UP (a:Int):PC 170 [AA a] (.bool false):=by
 intro h n
 refine gq Tryz.func170 rfl λho=>?_
 simp[go_sem]
 exact A3 ho rfl rfl
def Hd (a b:Int):Int:=if a<b then -1 else if b<a then 1 else 0
theorem S6 (a b:Int):PC 100 [AA a,AA b] (AA (Hd a b)):=by
 intro h n
 refine gq Tryz.func100 rfl λho=>?_
 simp[go_sem]
 refine(UP _).use ?_
 simp[go_sem]
 refine(UP _).use ?_
 by_cases h1:a<b<;>by_cases h2:b<a<;>simp[go_sem,h1,h2]
 all_goals exact A3 ho rfl (by simp[Hd,h1,h2])
def BR (p:Nat->Bool) (n:Nat) (k:Nat):Int:=if _:k<n then if p k then k else BR p n (k+1)else -1
termination_by n-k
theorem Fm (p:Nat->Bool) (n k:Nat):BR p n k = -1\/∃i,k<=i/\i<n/\BR p n k=i/\p i=true:=by
 rw[BR]
 by_cases h:k<n
 . by_cases hp:p k=true
   . exact .inr ⟨k,Y1 _,h,by simp[h,hp],hp⟩
   . have:=Fm p n (k+1)
     simp only[h,dite_true,hp]
     rcases this with e|⟨i,h1,h2,h3,h4⟩
     . exact .inl (by simpa using e)
     . exact .inr ⟨i,by omega,h2,by simpa using h3,h4⟩
 . exact .inl (by simp[h])
termination_by n-k
theorem c178 (l:List Int) (x:Int) (hl:l.length<=1048576):PC 178 [.imm 1 (l.map AA) false,AA x] (AA (BR (λi=>decide (l[i]? = some x)) l.length 0)):=by
 intro h n
 refine gq Tryz.func178 rfl λho=>?_
 simp[go_sem]
 refine Am 1 (α:=Nat) (λk=>[(0,.imm 1 (l.map AA) false),(1,AA x),(7,AA l.length),(8,AA k)]) (λ_=>h) (λk m=>k<=l.length/\n<=m/\BR (λi=>decide (l[i]? = some x)) l.length 0=BR (λi=>decide (l[i]? = some x)) l.length k) (λk=>l.length-k) 0 ?_ ?_ AB ?_
 . simp
 . simp[Aj]
 rintro k m ⟨hk,hnm,hf⟩
 rw[BR.eq_def _ _ k]at hf
 by_cases hlt:k<l.length
 . have w1:=wS k (by omega)
   by_cases h0:x=l[k]
   . simp[go_sem,hlt,h0]
     exact A3 ho rfl (by rw[<-h0,hf];simp[hlt,h0])
   . simp[go_sem,hlt,h0,w1,-Int.natCast_add]
     exact⟨k+1,by omega,⟨by omega,hnm,by rw[hf];simp[hlt,Ne.symm h0]⟩,Y0⟩
 . simp[go_sem,hlt]
   exact A3 ho rfl (by rw[hf];simp[hlt])
theorem Pa (l:List Int) (x:Int):decide (0<=BR (λi=>decide (l[i]? = some x)) l.length 0)=decide (x∈l):=by
 have gen:∀k,k<=l.length->(0<=BR (λi=>decide (l[i]? = some x)) l.length k↔x∈l.drop k):=by
  intro k hk
  induction hd:l.length-k generalizing k with
  | zero=>
   have:k=l.length:=by omega
   subst this
   rw[BR];simp
  | succ d ih=>
   have hlt:k<l.length:=by omega
   have hd:x∈l.drop k↔x=l[k]\/x∈l.drop (k+1):=by rw[YA hlt,Yg]
   rw[BR,hd]
   by_cases e:l[k]=x
   . simp[hlt,e]
   . have:=ih (k+1) (by omega) (by omega)
     simp[hlt,e,this,Ne.symm e]
 have:=gen 0 (Y4 _)
 simp only[ZV]at this
 simp[this]
theorem c113 (l:List Int) (x:Int) (hl:l.length<=1048576):PC 113 [.imm 1 (l.map AA) false,AA x] (.bool (decide (x∈l))):=by
 intro h n
 refine gq Tryz.func113 rfl λho=>?_
 simp[go_sem]
 refine(c178 l x hl).use ?_
 simp[go_sem]
 exact A3 ho rfl (by rw[Pa])
def FG (c:Nat->Int) (i j:Nat):Nat:=if _:i<j then if c ((i+j) / 2)<0 then FG c ((i+j) / 2+1) j else FG c i ((i+j) / 2)else i
termination_by j-i
theorem Kg (c:Nat->Int) (i j:Nat) (h:i<=j):i<=FG c i j/\FG c i j<=j:=by
 rw[FG]
 split
 . split
   . have:=Kg c ((i+j) / 2+1) j (by omega);omega
   . have:=Kg c i ((i+j) / 2) (by omega);omega
 . omega
termination_by j-i
def BF (c:Nat->Int) (n:Nat):Nat×Bool:=(FG c 0 n,decide (FG c 0 n<n/\c (FG c 0 n)=0))
theorem Sq {x:Int} (h0:0<=x) (h1:x<=4611686018427387904):IntKind.u64.wrap x=x:=IntWalk.u64_in x (by omega)
structure IT where
 number:Int
 group:Int
 low:Int
 high:Int
 standard:Int
 name:ByteArray
def IT.enc (k:IT):SV:=.agg [AA k.number,AA k.group,AA k.low,AA k.high,AA k.standard,.str k.name]
theorem c306 (l:List IT) (hl:l.length<=1048576) (t:SV) (g:FuncId) (a b:List SV) (c:Nat->Int) (hc:∀(i:Nat) (h:i<l.length),PC g (a++[IT.enc l[i],t]++b) (AA (c i))):
 PC 306 [.imm 6 (l.map IT.enc) false,t,.fn (.func g) a b] (.tup [AA (BF c l.length).1,.bool (BF c l.length).2]):=by
 intro h n
 refine gq Tryz.func306 rfl λho=>?_
 simp[go_sem]
 refine Am 1 (α:=Nat×Nat) (λq=>[(0,.imm 6 (l.map IT.enc) false),(1,t),(2,.fn (.func g) a b),(8,AA l.length),(9,AA q.1),(10,AA q.2)]) (λ_=>h) (λq m=>q.1<=q.2/\q.2<=l.length/\n<=m/\FG c 0 l.length=FG c q.1 q.2) (λq=>q.2-q.1) (0,l.length) ?_ ?_ AB ?_
 . simp
 . simp[Aj]
 rintro⟨i,j⟩ m ⟨hij,hj,hnm,hf⟩
 dsimp only at hij hj hf
 by_cases hlt:i<j
 . have hm:(i+j) / 2<l.length:=by omega
   have w1:IntKind.i64.wrap ((i:Int)+j)=((i+j:Nat):Int):=by rw[DR]<;>omega
   have w2:IntKind.u64.wrap ((i+j:Nat):Int)=((i+j:Nat):Int):=by rw[Sq]<;>omega
   have w3:(((i+j:Nat):Int)).fdiv 2=(((i+j) / 2:Nat):Int):=by rw[Int.fdiv_eq_ediv_of_nonneg _ (by omega)];omega
   have w4:IntKind.i64.wrap (((i+j) / 2:Nat):Int)=(((i+j) / 2:Nat):Int):=by rw[DR]<;>omega
   have w5:IntKind.i64.wrap ((((i+j) / 2:Nat):Int)+1)=(((i+j) / 2+1:Nat):Int):=by rw[DR]<;>omega
   have H:=hc _ hm
   simp only[Ye,Yq,Yt]at H
   rw[FG.eq_def c i j]at hf
   simp[go_sem,hlt,w1,w2,w3,w4,hm,IT.enc,-Int.natCast_add,-Int.natCast_ediv]
   refine Yj (by simpa[IT.enc]using H) ?_
   by_cases hb:c ((i+j) / 2)<0
   . simp[hlt,hb]at hf
     simp[go_sem,hb,w5,-Int.natCast_add,-Int.natCast_ediv]
     exact⟨(i+j) / 2+1,j,by omega,⟨by omega,hj,hnm,hf⟩,Y0,Y0⟩
   . simp[hlt,hb]at hf
     simp[go_sem,hb,-Int.natCast_add,-Int.natCast_ediv]
     exact⟨i,(i+j) / 2,by omega,⟨by omega,by omega,hnm,hf⟩,Y0,Y0⟩
 . have e:FG c 0 l.length=i:=by rw[hf,FG.eq_def];simp[hlt]
   by_cases hi:i<l.length
   . have H:=hc i hi
     simp only[Ye,Yq,Yt]at H
     simp[go_sem,hlt,hi,IT.enc]
     refine Yj (by simpa[IT.enc]using H) ?_
     simp[go_sem]
     exact A3 ho rfl (by simp[BF,e,hi];by_cases h0:c i=0<;>simp[h0])
   . simp[go_sem,hlt,hi]
     exact A3 ho rfl (by simp[BF,e,hi])
theorem c131 (l:List BD) (hl:l.length<=1048576) (t:SV) (g:FuncId) (a b:List SV) (c:Nat->Int) (hc:∀(i:Nat) (h:i<l.length),PC g (a++[BD.enc l[i],t]++b) (AA (c i))):
 PC 131 [.imm 3 (l.map BD.enc) false,t,.fn (.func g) a b] (.tup [AA (BF c l.length).1,.bool (BF c l.length).2]):=by
 intro h n
 refine gq Tryz.func131 rfl λho=>?_
 simp[go_sem]
 refine Am 1 (α:=Nat×Nat) (λq=>[(0,.imm 3 (l.map BD.enc) false),(1,t),(2,.fn (.func g) a b),(8,AA l.length),(9,AA q.1),(10,AA q.2)]) (λ_=>h) (λq m=>q.1<=q.2/\q.2<=l.length/\n<=m/\FG c 0 l.length=FG c q.1 q.2) (λq=>q.2-q.1) (0,l.length) ?_ ?_ AB ?_
 . simp
 . simp[Aj]
 rintro⟨i,j⟩ m ⟨hij,hj,hnm,hf⟩
 dsimp only at hij hj hf
 by_cases hlt:i<j
 . have hm:(i+j) / 2<l.length:=by omega
   have w1:IntKind.i64.wrap ((i:Int)+j)=((i+j:Nat):Int):=by rw[DR]<;>omega
   have w2:IntKind.u64.wrap ((i+j:Nat):Int)=((i+j:Nat):Int):=by rw[Sq]<;>omega
   have w3:(((i+j:Nat):Int)).fdiv 2=(((i+j) / 2:Nat):Int):=by rw[Int.fdiv_eq_ediv_of_nonneg _ (by omega)];omega
   have w4:IntKind.i64.wrap (((i+j) / 2:Nat):Int)=(((i+j) / 2:Nat):Int):=by rw[DR]<;>omega
   have w5:IntKind.i64.wrap ((((i+j) / 2:Nat):Int)+1)=(((i+j) / 2+1:Nat):Int):=by rw[DR]<;>omega
   have H:=hc _ hm
   simp only[Ye,Yq,Yt]at H
   rw[FG.eq_def c i j]at hf
   simp[go_sem,hlt,w1,w2,w3,w4,hm,BD.enc,-Int.natCast_add,-Int.natCast_ediv]
   refine Yj (by simpa[BD.enc]using H) ?_
   by_cases hb:c ((i+j) / 2)<0
   . simp[hlt,hb]at hf
     simp[go_sem,hb,w5,-Int.natCast_add,-Int.natCast_ediv]
     exact⟨(i+j) / 2+1,j,by omega,⟨by omega,hj,hnm,hf⟩,Y0,Y0⟩
   . simp[hlt,hb]at hf
     simp[go_sem,hb,-Int.natCast_add,-Int.natCast_ediv]
     exact⟨i,(i+j) / 2,by omega,⟨by omega,by omega,hnm,hf⟩,Y0,Y0⟩
 . have e:FG c 0 l.length=i:=by rw[hf,FG.eq_def];simp[hlt]
   by_cases hi:i<l.length
   . have H:=hc i hi
     simp only[Ye,Yq,Yt]at H
     simp[go_sem,hlt,hi,BD.enc]
     refine Yj (by simpa[BD.enc]using H) ?_
     simp[go_sem]
     exact A3 ho rfl (by simp[BF,e,hi];by_cases h0:c i=0<;>simp[h0])
   . simp[go_sem,hlt,hi]
     exact A3 ho rfl (by simp[BF,e,hi])
set_option maxRecDepth 100000
def Bn:List IT:=[
 ⟨1,1,0,1073741824,0,⟨#[99,104,97,114,97,99,116,101,114,45,115,116,121,108,101]⟩⟩,
 ⟨2,1,0,1,0,⟨#[98,111,108,100]⟩⟩,
 ⟨3,1,0,1,0,⟨#[105,116,97,108,105,99]⟩⟩,
 ⟨4,1,0,3,0,⟨#[117,110,100,101,114,108,105,110,101]⟩⟩,
 ⟨5,1,2,1638,22,⟨#[115,105,122,101]⟩⟩,
 ⟨6,1,0,16777215,0,⟨#[99,111,108,111,114]⟩⟩,
 ⟨7,1,0,63,0,⟨#[102,111,110,116]⟩⟩,
 ⟨8,1,0,255,0,⟨#[108,97,110,103,117,97,103,101]⟩⟩,
 ⟨9,1,(-400),400,0,⟨#[114,97,105,115,101]⟩⟩,
 ⟨10,1,0,1,0,⟨#[104,105,100,100,101,110]⟩⟩,
 ⟨20,2,0,1073741824,0,⟨#[112,97,114,97,103,114,97,112,104,45,115,116,121,108,101]⟩⟩,
 ⟨21,2,0,3,0,⟨#[97,108,105,103,110]⟩⟩,
 ⟨22,2,(-31680),31680,0,⟨#[108,101,102,116]⟩⟩,
 ⟨23,2,(-31680),31680,0,⟨#[114,105,103,104,116]⟩⟩,
 ⟨24,2,(-31680),31680,0,⟨#[102,105,114,115,116]⟩⟩,
 ⟨25,2,0,31680,0,⟨#[98,101,102,111,114,101]⟩⟩,
 ⟨26,2,0,31680,0,⟨#[97,102,116,101,114]⟩⟩,
 ⟨27,2,0,31680,0,⟨#[108,101,97,100,105,110,103]⟩⟩,
 ⟨28,2,0,1,0,⟨#[107,101,101,112,45,110,101,120,116]⟩⟩,
 ⟨29,2,0,1,0,⟨#[107,101,101,112,45,108,105,110,101,115]⟩⟩,
 ⟨30,2,0,1,1,⟨#[119,105,100,111,119]⟩⟩,
 ⟨31,2,0,1,0,⟨#[112,97,103,101,45,98,101,102,111,114,101]⟩⟩,
 ⟨32,2,0,9,0,⟨#[111,117,116,108,105,110,101]⟩⟩,
 ⟨33,2,0,1073741824,0,⟨#[108,105,115,116]⟩⟩,
 ⟨34,2,1,9,1,⟨#[108,101,118,101,108]⟩⟩,
 ⟨35,2,0,32767,0,⟨#[114,101,115,116,97,114,116]⟩⟩,
 ⟨36,2,1,31680,720,⟨#[116,97,98,45,115,116,111,112]⟩⟩,
 ⟨37,2,0,1,0,⟨#[104,121,112,104,101,110,97,116,101]⟩⟩,
 ⟨40,3,720,31680,12240,⟨#[112,97,103,101,45,119,105,100,116,104]⟩⟩,
 ⟨41,3,720,31680,15840,⟨#[112,97,103,101,45,104,101,105,103,104,116]⟩⟩,
 ⟨42,3,0,31680,1440,⟨#[116,111,112]⟩⟩,
 ⟨43,3,0,31680,1440,⟨#[98,111,116,116,111,109]⟩⟩,
 ⟨44,3,0,31680,1440,⟨#[105,110,110,101,114]⟩⟩,
 ⟨45,3,0,31680,1440,⟨#[111,117,116,101,114]⟩⟩,
 ⟨46,3,0,32767,0,⟨#[102,105,114,115,116,45,112,97,103,101]⟩⟩,
 ⟨47,3,1,6,1,⟨#[112,97,103,101,45,102,111,114,109,97,116]⟩⟩,
 ⟨50,4,0,1,0,⟨#[104,101,97,100,101,114]⟩⟩,
 ⟨51,4,0,1,0,⟨#[99,97,110,116,45,115,112,108,105,116]⟩⟩,
 ⟨52,4,0,31680,0,⟨#[114,111,119,45,104,101,105,103,104,116]⟩⟩,
 ⟨60,5,1,32,1,⟨#[99,111,108,117,109,110,45,115,112,97,110]⟩⟩,
 ⟨61,5,0,2,0,⟨#[118,101,114,116,105,99,97,108,45,109,101,114,103,101]⟩⟩,
 ⟨62,5,0,31680,0,⟨#[99,101,108,108,45,119,105,100,116,104]⟩⟩,
 ⟨63,5,0,16777215,16777215,⟨#[115,104,97,100,101]⟩⟩,
 ⟨70,6,0,31680,0,⟨#[116,97,98,108,101,45,119,105,100,116,104]⟩⟩,
 ⟨71,6,0,2,0,⟨#[116,97,98,108,101,45,97,108,105,103,110]⟩⟩]
def Hm:List SV:=Bn.flatMap λk=>k.enc.cells
theorem U4 (Q:Exit->SV->Hp->Nat->Prop) (h:Hp) (n:Nat):swp Tryz.prog 47 (Tryz.f305.body.getD .ret) (λe sa h n=>Q e (Aj sa 0) h n) [] h n=Q .ret (.sl n 0 6 45 true) (hset h n (some (.cells Hm))) (n+1):=by kernel_rfl
theorem c305:PC 305 [] (.imm 6 (Bn.map IT.enc) false):=by
 intro h n
 refine gq Tryz.func305 rfl λho=>?_
 rw[EZ]
 have e:=U4 (λe v h' n'=>(e=.normal\/e=.ret)/\∃rs,some [v]=some rs/\Bz n h' n' (JJ rs) (Is (.imm 6 (Bn.map IT.enc) false) h n)) h n
 refine cast e.symm ⟨.inr rfl,_,rfl,?_⟩
 refine Dh 1 ho (AP ho (Y1 _) AB) (.inr ⟨ho.none (Y1 _),by simp,by kernel_rfl,rfl,Hm,Hm,AC _ _ _,by kernel_rfl,?_,?_⟩) ?_
 . intro x hx
   simp only[Yp]at hx
   obtain⟨k,_,rfl⟩:=hx
   exact⟨rfl,rfl⟩
 . have all:∀l:List SV,AZ (Fz (hset h n (some (.cells Hm))) h 0) l l:=by
    intro l;induction l with
    | nil=>trivial
    | cons a l ih=>exact⟨Y0,ih⟩
   have e:(Bn.map IT.enc).flatMap SV.cells=Hm:=by kernel_rfl
   rw[e];exact all _
 . rw[closed]
   refine DS.2 λx hx=>?_
   simp only[Yp]at hx
   obtain⟨k,_,rfl⟩:=hx
   rfl
end Go.Proofs.YtgakninlhfkkmaaGreat.Sh
namespace Go.Proofs.YtgakninlhfkkmaaGreat.Sh
open Proofs
set_option maxRecDepth 100000
theorem c307 (k:IT) (t:Int):PC 307 [k.enc,AA t] (AA (Hd k.number t)):=by
 intro h n
 refine gq Tryz.func307 rfl λho=>?_
 simp[go_sem,IT.enc,AC]
 refine(S6 _ _).use ?_
 simp[go_sem]
 exact Au ho (AP ho (Y1 _) AB) rfl rfl
def HI (t:Int) (i:Nat):Int:=match Bn[i]? with|some k=>Hd k.number t|none=>0
def EH (t:Int):Option IT:=if(BF (HI t) Bn.length).2 then Bn[(BF (HI t) Bn.length).1]? else none
def IT.zero:IT:=⟨0,0,0,0,0,⟨#[]⟩⟩
theorem L0:Bn.length=45:=by kernel_rfl
theorem c273 (t:Int):PC 273 [AA t] (.tup [((EH t).getD IT.zero).enc,.bool (EH t).isSome]):=by
 intro h n
 refine gq Tryz.func273 rfl λho=>?_
 simp[go_sem]
 refine c305.use ?_
 simp[go_sem]
 refine(c306 Bn (by rw[L0];omega) (AA t) 307 [] [] (HI t) (λi hi=>by simpa[HI,hi]using c307 Bn[i] t)).use ?_
 by_cases hb:(BF (HI t) Bn.length).2=true
 . have hi:(BF (HI t) Bn.length).1<Bn.length:=by
    simp only[BF,decide_eq_true_eq]at hb
    exact hb.1
   have hf:EH t=some Bn[(BF (HI t) Bn.length).1]:=by simp[EH,hb,hi]
   generalize hk:Bn[(BF (HI t) Bn.length).1]=k at hf
   have hg:(Bn.map IT.enc)[(BF (HI t) Bn.length).1]? = some k.enc:=by rw[<-hk];simp[hi]
   simp only[Yz]at hg
   simp[go_sem,hb,hg,IT.enc,AC]
   refine Au ho (λo y e=>?_) (by simp[hf]) rfl
   have:=(ho o y e).1
   have ne:o≠n:=by omega
   simp[hset,ne,e]
 . have hf:EH t=none:=by simp[EH,hb]
   simp[go_sem,hb,AC]
   refine Au ho (λo y e=>?_) (by simp[hf,IT.zero,IT.enc];rfl) rfl
   have:=(ho o y e).1
   have ne:o≠n:=by omega
   simp[hset,ne,e]
def B6 (e:Int):List Int:=
 if e=1\/e=4\/e=5\/e=6 then[1]else if e=2 then[1,2]else if e=3 then[3]else if e=7 then[6]else if e=9 then[4]else if e=10 then[5]else[]
theorem c274 (e:Int):PC 274 [AA e] (.imm 1 ((B6 e).map AA) false):=by
 intro h n
 refine gq Tryz.func274 rfl λho=>?_
 have fin:∀(g:List Int) (m:Nat),n<=m->Bz n (hset h m (some (.cells (g.map AA)))) (m+1) (.sl m 0 1 g.length true) (Is (.imm 1 (g.map AA) false) h n):=λg m hm=>by
  refine Dh 1 ho (AP ho hm AB) (.inr ⟨ho.none hm,by simp,by simp,rfl,_,_,AC _ _ _,by simp[Bk];rfl,?_,?_⟩) ?_
  . intro x hx;simp at hx;obtain⟨_,_,rfl⟩:=hx;exact⟨rfl,rfl⟩
  . have e:(g.map AA).flatMap SV.cells=g.map AA:=by induction g with|nil=>rfl|cons a l ih=>simpa[SV.cells]using ih
    rw[e]
    have all:∀l:List SV,AZ (Fz (hset h m (some (.cells (g.map AA)))) h 0) l l:=by
     intro l;induction l with
     | nil=>trivial
     | cons a l ih=>exact⟨Y0,ih⟩
    rw[Yl (by simp)]
    exact all _
  . rw[closed];refine DS.2 λx hx=>?_
    simp only[Yp]at hx
    obtain⟨k,_,rfl⟩:=hx
    rfl
 by_cases h1:e=1
 . subst h1;simp[go_sem,B6];exact fin [1] n (Y1 _)
 by_cases h4:e=4
 . subst h4;simp[go_sem,B6];exact fin [1] n (Y1 _)
 by_cases h5:e=5
 . subst h5;simp[go_sem,B6];exact fin [1] n (Y1 _)
 by_cases h6:e=6
 . subst h6;simp[go_sem,B6];exact fin [1] n (Y1 _)
 by_cases h2:e=2
 . subst h2;simp[go_sem,B6];exact fin [1,2] n (Y1 _)
 by_cases h3:e=3
 . subst h3;simp[go_sem,B6];exact fin [3] n (Y1 _)
 by_cases h7:e=7
 . subst h7;simp[go_sem,B6];exact fin [6] n (Y1 _)
 by_cases h9:e=9
 . subst h9;simp[go_sem,B6];exact fin [4] n (Y1 _)
 by_cases h10:e=10
 . subst h10;simp[go_sem,B6];exact fin [5] n (Y1 _)
 simp[go_sem,B6,h1,h2,h3,h4,h5,h6,h7,h9,h10]
 exact Dh 1 ho AB (.inr ⟨by simp,.inl rfl,trivial,by simp⟩) rfl
def Qg (el key:Int):Bool:=match EH key with|some k=>decide (k.group∈B6 el)|none=>false
theorem LS (e:Int):(B6 e).length<=1048576:=by unfold B6;(repeat' split)<;>simp
theorem c220 (el key:Int):PC 220 [AA el,AA key] (.bool (Qg el key)):=by
 intro h n
 refine gq Tryz.func220 rfl λho=>?_
 simp[go_sem]
 refine(c273 key).use ?_
 cases hf:EH key with
 | none=>
  simp[go_sem,IT.zero,IT.enc,AC]
  repeat first|refine nq ?_|refine sq ?_
  refine Au ho (λo y e=>?_) (by simp[Qg,hf]) rfl
  have:=(ho o y e).1
  have ne:o≠n:=by omega
  simp[hset,ne,e]
 | some k=>
  simp[go_sem,IT.enc,AC]
  repeat first|refine nq ?_|refine sq ?_
  refine Z6 _ _ _ _ _ _ (c274 el) ?_
  simp[go_sem,AC]
  repeat first|refine nq ?_|refine sq ?_
  refine Z6 _ _ _ _ _ _ (c113 (B6 el) k.group (LS el)) ?_
  simp[go_sem]
  repeat first|refine nq ?_|refine sq ?_
  refine Au ho (λo y e=>?_) (by simp[Qg,hf]) rfl
  have:=(ho o y e).1
  have ne:o≠n:=by omega
  simp[hset,ne,e]
def EM (key v:Int):Int:=match EH key with|some k=>if v<k.low\/k.high<v then 5 else 0|none=>4
theorem US (key v:Int):PC 221 [AA key,AA v] (AA (EM key v)):=by
 intro h n
 refine gq Tryz.func221 rfl λho=>?_
 simp[go_sem]
 refine(c273 key).use ?_
 have hh:∀a b:Option BT,∀o x,h o=some x->hset (hset h n a) n b o=some x:=λa b o y e=>by
  have:=(ho o y e).1
  have ne:o≠n:=by omega
  simp[hset,ne,e]
 cases hf:EH key with
 | none=>
  simp[go_sem,IT.zero,IT.enc,AC]
  exact Au ho (hh _ _) (by simp[EM,hf]) rfl
 | some k=>
  by_cases h1:v<k.low<;>by_cases h2:k.high<v<;>simp[go_sem,IT.enc,AC,h1,h2]
  all_goals exact Au ho (hh _ _) (by simp[EM,hf,h1,h2]) rfl
def Dc (el:Int) (l:List E8) (i:Nat):Int:=match l[i]? with
 | some p=>if !Qg el p.key then 4 else if decide (0<i)&&((l[i-1]?).map E8.key==some p.key)then 7
  else if decide (0<i)&&(match l[i-1]? with|some q=>decide (p.key<q.key)|none=>false)then 6 else EM p.key p.value
 | none=>0
def F9 (el:Int) (l:List E8):Int:=if el<1\/10<el then 3 else E5 (Dc el l) l.length
theorem c156 (el:Int) (l:List E8) (hl:l.length<=1048576):PC 156 [AA el,Af l] (AA (F9 el l)):=by
 intro h n
 refine gq Tryz.func156 rfl λho=>?_
 by_cases e1:el<1
 . simp[go_sem,e1];exact A3 ho rfl (by simp[F9,e1])
 by_cases e2:10<el
 . simp[go_sem,e1,e2];exact A3 ho rfl (by simp[F9,e2])
 have hP:F9 el l=E5 (Dc el l) l.length:=by simp[F9,e1,e2]
 rw[hP]
 simp[go_sem,e1,e2]
 refine Am 1 (α:=Nat) (λk=>[(0,AA el),(1,Af l),(14,Af l),(15,AA l.length),(16,AA k)]) (λ_=>h) (λk m=>k<=l.length/\n<=m/\E5 (Dc el l) k=0) (λk=>l.length-k) 0 ?_ ?_ AB ?_
 . simp[E5]
 . simp[Aj]
 rintro k m ⟨hk,hnm,hf⟩
 have hh:∀a b:Option BT,∀o x,h o=some x->hset (hset h m a) m b o=some x:=λa b o y e=>by
  have:=(ho o y e).1
  have ne:o≠m:=by omega
  simp[hset,ne,e]
 by_cases hlt:k<l.length
 . have w1:=wS k (by omega)
   obtain⟨p,hp⟩:∃p,l[k]? = some p:=⟨l[k],by simp[hlt]⟩
   have hp':l[k]=p:=by simpa[hlt]using hp
   have nz:∀e,Dc el l k=e->e≠0->E5 (Dc el l) l.length=e:=λe h1 h2=>by rw[IZ _ hlt hf (by rw[h1];exact h2),h1]
   simp[go_sem,hlt,hp',E8.enc,AC]
   refine(c220 _ _).use ?_
   by_cases hfit:Qg el p.key=true
   . by_cases h0:0<k
     . obtain⟨q,hq⟩:∃q,l[k-1]? = some q:=⟨l[k-1],by simp[show k-1<l.length by omega]⟩
       have w2:IntKind.i64.wrap ((k:Int)-1)=((k-1:Nat):Int):=by rw[DR]<;>omega
       have hq':(l.map E8.enc)[k-1]? = some q.enc:=by simp[hq]
       simp only[Yz]at hq'
       by_cases h7:p.key=q.key
       . have hfit':Qg el q.key=true:=by rw[<-h7];exact hfit
         simp[go_sem,hfit',h0,w2,hq,E8.enc,AC,h7]
         repeat first|refine nq ?_|refine sq ?_
         exact Au ho (hh _ _) (by rw[nz 7 (by simp[Dc,hp,hfit',h0,hq,h7]) (by simp)]) rfl
       . by_cases h6:p.key<q.key
         . simp[go_sem,hfit,h0,w2,hq,E8.enc,AC,h7,h6]
           repeat first|refine nq ?_|refine sq ?_
           exact Au ho (hh _ _) (by rw[nz 6 (by simp[Dc,hp,hfit,h0,hq,h6,Ne.symm h7]) (by simp)]) rfl
         . simp[go_sem,hfit,h0,w2,hq,E8.enc,AC,h7,h6]
           repeat first|refine nq ?_|refine sq ?_
           refine(US _ _).use ?_
           have hs:Dc el l k=EM p.key p.value:=by simp[Dc,hp,hfit,h0,hq,h6,Ne.symm h7]
           by_cases hv:EM p.key p.value=0
           . simp[go_sem,hv,w1,-Int.natCast_add]
             exact⟨k+1,by omega,⟨by omega,by omega,by simp[E5,hf,hs,hv]⟩,Y0,hh _ _⟩
           . simp[go_sem,hv]
             exact Au ho (hh _ _) (by rw[nz _ hs hv]) rfl
     . simp[go_sem,hfit,h0,AC]
       repeat first|refine nq ?_|refine sq ?_
       refine(US _ _).use ?_
       have hs:Dc el l k=EM p.key p.value:=by simp[Dc,hp,hfit,h0]
       by_cases hv:EM p.key p.value=0
       . simp[go_sem,hv,w1,-Int.natCast_add]
         exact⟨k+1,by omega,⟨by omega,by omega,by simp[E5,hf,hs,hv]⟩,Y0,hh _ _⟩
       . simp[go_sem,hv]
         exact Au ho (hh _ _) (by rw[nz _ hs hv]) rfl
   . simp[go_sem,hfit]
     exact Au ho (hh _ _) (by rw[nz 4 (by simp[Dc,hp,hfit]) (by simp)]) rfl
 . simp[go_sem,hlt]
   have:k=l.length:=by omega
   subst this
   exact A3 ho rfl (by rw[hf])
end Go.Proofs.YtgakninlhfkkmaaGreat.Sh
namespace Go.Proofs.YtgakninlhfkkmaaGreat.Sh
open Proofs
set_option maxRecDepth 10000
def QW (p:Nat->Bool) (n:Nat):Bool:=decide (0<=BR p n 0)
structure Bs where
 literal:ByteArray
 level:Int
 plain:Bool
def Bs.enc (p:Bs):SV:=.agg [.str p.literal,AA p.level,.bool p.plain]
abbrev IR:Int->SV:=.int .u8
theorem c299 (l:List Az) (hl:l.length<=1048576) (g:FuncId) (a b:List SV) (p:Nat->Bool) (hp:∀(i:Nat) (h:i<l.length),PC g (a++[Az.enc l[i]]++b) (.bool (p i))):
 PC 299 [.imm 6 (l.map Az.enc) false,.fn (.func g) a b] (AA (BR p l.length 0)):=by
 intro h n
 refine gq Tryz.func299 rfl λho=>?_
 simp[go_sem]
 refine Am 1 (α:=Nat) (λk=>[(0,.imm 6 (l.map Az.enc) false),(1,.fn (.func g) a b),(7,AA l.length),(8,AA k)]) (λ_=>h) (λk m=>k<=l.length/\n<=m/\BR p l.length 0=BR p l.length k) (λk=>l.length-k) 0 ?_ ?_ AB ?_
 . simp
 . simp[Aj]
 rintro k m ⟨hk,hnm,hf⟩
 rw[BR.eq_def _ _ k]at hf
 by_cases hlt:k<l.length
 . have w1:=wS k (by omega)
   have H:=hp k hlt
   simp only[Ye,Yq,Yt]at H
   simp[go_sem,hlt,Az.enc]
   refine Yj (by simpa[Az.enc]using H) ?_
   by_cases h0:p k=true
   . simp[go_sem,h0]
     exact A3 ho rfl (by rw[hf];simp[hlt,h0])
   . simp[go_sem,h0,w1,-Int.natCast_add]
     exact⟨k+1,by omega,⟨by omega,hnm,by rw[hf];simp[hlt,h0]⟩,Y0⟩
 . simp[go_sem,hlt]
   exact A3 ho rfl (by rw[hf];simp[hlt])
theorem c272 (l:List As) (hl:l.length<=1048576) (g:FuncId) (a b:List SV) (p:Nat->Bool) (hp:∀(i:Nat) (h:i<l.length),PC g (a++[As.enc l[i]]++b) (.bool (p i))):
 PC 272 [.imm 6 (l.map As.enc) false,.fn (.func g) a b] (AA (BR p l.length 0)):=by
 intro h n
 refine gq Tryz.func272 rfl λho=>?_
 simp[go_sem]
 refine Am 1 (α:=Nat) (λk=>[(0,.imm 6 (l.map As.enc) false),(1,.fn (.func g) a b),(7,AA l.length),(8,AA k)]) (λ_=>h) (λk m=>k<=l.length/\n<=m/\BR p l.length 0=BR p l.length k) (λk=>l.length-k) 0 ?_ ?_ AB ?_
 . simp
 . simp[Aj]
 rintro k m ⟨hk,hnm,hf⟩
 rw[BR.eq_def _ _ k]at hf
 by_cases hlt:k<l.length
 . have w1:=wS k (by omega)
   have H:=hp k hlt
   simp only[Ye,Yq,Yt]at H
   simp[go_sem,hlt,As.enc]
   refine Yj (by simpa[As.enc]using H) ?_
   by_cases h0:p k=true
   . simp[go_sem,h0]
     exact A3 ho rfl (by rw[hf];simp[hlt,h0])
   . simp[go_sem,h0,w1,-Int.natCast_add]
     exact⟨k+1,by omega,⟨by omega,hnm,by rw[hf];simp[hlt,h0]⟩,Y0⟩
 . simp[go_sem,hlt]
   exact A3 ho rfl (by rw[hf];simp[hlt])
theorem c141 (l:List BD) (hl:l.length<=1048576) (g:FuncId) (a b:List SV) (p:Nat->Bool) (hp:∀(i:Nat) (h:i<l.length),PC g (a++[BD.enc l[i]]++b) (.bool (p i))):
 PC 141 [.imm 3 (l.map BD.enc) false,.fn (.func g) a b] (AA (BR p l.length 0)):=by
 intro h n
 refine gq Tryz.func141 rfl λho=>?_
 simp[go_sem]
 refine Am 1 (α:=Nat) (λk=>[(0,.imm 3 (l.map BD.enc) false),(1,.fn (.func g) a b),(7,AA l.length),(8,AA k)]) (λ_=>h) (λk m=>k<=l.length/\n<=m/\BR p l.length 0=BR p l.length k) (λk=>l.length-k) 0 ?_ ?_ AB ?_
 . simp
 . simp[Aj]
 rintro k m ⟨hk,hnm,hf⟩
 rw[BR.eq_def _ _ k]at hf
 by_cases hlt:k<l.length
 . have w1:=wS k (by omega)
   have H:=hp k hlt
   simp only[Ye,Yq,Yt]at H
   simp[go_sem,hlt,BD.enc]
   refine Yj (by simpa[BD.enc]using H) ?_
   by_cases h0:p k=true
   . simp[go_sem,h0]
     exact A3 ho rfl (by rw[hf];simp[hlt,h0])
   . simp[go_sem,h0,w1,-Int.natCast_add]
     exact⟨k+1,by omega,⟨by omega,hnm,by rw[hf];simp[hlt,h0]⟩,Y0⟩
 . simp[go_sem,hlt]
   exact A3 ho rfl (by rw[hf];simp[hlt])
theorem c193 (l:List AW) (hl:l.length<=1048576) (g:FuncId) (a b:List SV) (p:Nat->Bool) (hp:∀(i:Nat) (h:i<l.length),PC g (a++[AW.enc l[i]]++b) (.bool (p i))):
 PC 193 [.imm 6 (l.map AW.enc) false,.fn (.func g) a b] (AA (BR p l.length 0)):=by
 intro h n
 refine gq Tryz.func193 rfl λho=>?_
 simp[go_sem]
 refine Am 1 (α:=Nat) (λk=>[(0,.imm 6 (l.map AW.enc) false),(1,.fn (.func g) a b),(7,AA l.length),(8,AA k)]) (λ_=>h) (λk m=>k<=l.length/\n<=m/\BR p l.length 0=BR p l.length k) (λk=>l.length-k) 0 ?_ ?_ AB ?_
 . simp
 . simp[Aj]
 rintro k m ⟨hk,hnm,hf⟩
 rw[BR.eq_def _ _ k]at hf
 by_cases hlt:k<l.length
 . have w1:=wS k (by omega)
   have H:=hp k hlt
   simp only[Ye,Yq,Yt]at H
   simp[go_sem,hlt,YB]
   refine Yj (by simpa[YB]using H) ?_
   by_cases h0:p k=true
   . simp[go_sem,h0]
     exact A3 ho rfl (by rw[hf];simp[hlt,h0])
   . simp[go_sem,h0,w1,-Int.natCast_add]
     exact⟨k+1,by omega,⟨by omega,hnm,by rw[hf];simp[hlt,h0]⟩,Y0⟩
 . simp[go_sem,hlt]
   exact A3 ho rfl (by rw[hf];simp[hlt])
theorem c321 (l:List Bs) (hl:l.length<=1048576) (g:FuncId) (a b:List SV) (p:Nat->Bool) (hp:∀(i:Nat) (h:i<l.length),PC g (a++[Bs.enc l[i]]++b) (.bool (p i))):
 PC 321 [.imm 3 (l.map Bs.enc) false,.fn (.func g) a b] (AA (BR p l.length 0)):=by
 intro h n
 refine gq Tryz.func321 rfl λho=>?_
 simp[go_sem]
 refine Am 1 (α:=Nat) (λk=>[(0,.imm 3 (l.map Bs.enc) false),(1,.fn (.func g) a b),(7,AA l.length),(8,AA k)]) (λ_=>h) (λk m=>k<=l.length/\n<=m/\BR p l.length 0=BR p l.length k) (λk=>l.length-k) 0 ?_ ?_ AB ?_
 . simp
 . simp[Aj]
 rintro k m ⟨hk,hnm,hf⟩
 rw[BR.eq_def _ _ k]at hf
 by_cases hlt:k<l.length
 . have w1:=wS k (by omega)
   have H:=hp k hlt
   simp only[Ye,Yq,Yt]at H
   simp[go_sem,hlt,Bs.enc]
   refine Yj (by simpa[Bs.enc]using H) ?_
   by_cases h0:p k=true
   . simp[go_sem,h0]
     exact A3 ho rfl (by rw[hf];simp[hlt,h0])
   . simp[go_sem,h0,w1,-Int.natCast_add]
     exact⟨k+1,by omega,⟨by omega,hnm,by rw[hf];simp[hlt,h0]⟩,Y0⟩
 . simp[go_sem,hlt]
   exact A3 ho rfl (by rw[hf];simp[hlt])
theorem c327 (l:List Int) (hl:l.length<=1048576) (g:FuncId) (a b:List SV) (p:Nat->Bool) (hp:∀(i:Nat) (h:i<l.length),PC g (a++[IR l[i]]++b) (.bool (p i))):
 PC 327 [.imm 1 (l.map IR) false,.fn (.func g) a b] (AA (BR p l.length 0)):=by
 intro h n
 refine gq Tryz.func327 rfl λho=>?_
 simp[go_sem]
 refine Am 1 (α:=Nat) (λk=>[(0,.imm 1 (l.map IR) false),(1,.fn (.func g) a b),(7,AA l.length),(8,AA k)]) (λ_=>h) (λk m=>k<=l.length/\n<=m/\BR p l.length 0=BR p l.length k) (λk=>l.length-k) 0 ?_ ?_ AB ?_
 . simp
 . simp[Aj]
 rintro k m ⟨hk,hnm,hf⟩
 rw[BR.eq_def _ _ k]at hf
 by_cases hlt:k<l.length
 . have w1:=wS k (by omega)
   have H:=hp k hlt
   simp only[Ye,Yq,Yt]at H
   simp[go_sem,hlt,IR]
   refine Yj (by simpa[IR]using H) ?_
   by_cases h0:p k=true
   . simp[go_sem,h0]
     exact A3 ho rfl (by rw[hf];simp[hlt,h0])
   . simp[go_sem,h0,w1,-Int.natCast_add]
     exact⟨k+1,by omega,⟨by omega,hnm,by rw[hf];simp[hlt,h0]⟩,Y0⟩
 . simp[go_sem,hlt]
   exact A3 ho rfl (by rw[hf];simp[hlt])
theorem c214 (l:List As) (hl:l.length<=1048576) (g:FuncId) (a b:List SV) (p:Nat->Bool) (hp:∀(i:Nat) (h:i<l.length),PC g (a++[As.enc l[i]]++b) (.bool (p i))):
 PC 214 [.imm 6 (l.map As.enc) false,.fn (.func g) a b] (.bool (QW p l.length)):=by
 intro h n
 refine gq Tryz.func214 rfl λho=>?_
 simp[go_sem]
 refine(c272 l hl g a b p hp).use ?_
 simp[go_sem]
 exact A3 ho rfl rfl
theorem c303 (l:List Bs) (hl:l.length<=1048576) (g:FuncId) (a b:List SV) (p:Nat->Bool) (hp:∀(i:Nat) (h:i<l.length),PC g (a++[Bs.enc l[i]]++b) (.bool (p i))):
 PC 303 [.imm 3 (l.map Bs.enc) false,.fn (.func g) a b] (.bool (QW p l.length)):=by
 intro h n
 refine gq Tryz.func303 rfl λho=>?_
 simp[go_sem]
 refine(c321 l hl g a b p hp).use ?_
 simp[go_sem]
 exact A3 ho rfl rfl
theorem c318 (l:List Int) (hl:l.length<=1048576) (g:FuncId) (a b:List SV) (p:Nat->Bool) (hp:∀(i:Nat) (h:i<l.length),PC g (a++[IR l[i]]++b) (.bool (p i))):
 PC 318 [.imm 1 (l.map IR) false,.fn (.func g) a b] (.bool (QW p l.length)):=by
 intro h n
 refine gq Tryz.func318 rfl λho=>?_
 simp[go_sem]
 refine(c327 l hl g a b p hp).use ?_
 simp[go_sem]
 exact A3 ho rfl rfl
abbrev SP (E:Br) (N:Nat) (c:Code) (Q:Cc) (sa:SA) (h:Hp) (n:Nat):Prop:=Fk E Tryz.prog N c Q sa h n
section
variable {E : Br} {N : Nat} {a b : Code} {Q : Cc} {sa : SA} {h : Hp} {n : Nat}
theorem AI (H:JV E Tryz.prog N a Q sa h n):SP E N a Q sa h n:=Ef follows _ _ _ _ _ (by rw[<-EZ];exact H)
theorem JW (sb:SA) (H1:JV E Tryz.prog N a (DO (λsa' h' n'=>(∀p∈sb,Aj sa' p.1=p.2)/\h'=h/\n'=n) Q) sa h n) (H2:SP E N b Q sb h n):SP E N (.seq a b) Q sa h n:=
 Iz (GC (AI H1) (FO λsa' h' n' ⟨h1,h2,h3⟩=>by subst h2;subst h3;exact PI H2 h1))
theorem BG {α:Type} (k:Nat) (fr:α->SA) (hp:α->Hp) (I:α->Nat->Prop)
 (H1:JV E Tryz.prog N a (DO (λsa' h' n'=>∃x,I x n'/\(∀p∈fr x,Fz h' (hp x) k (Aj sa' p.1) p.2)/\(∀o y,hp x o=some y->h' o=some y)) Q) sa h n)
 (H2:∀x m,I x m->SP E N b Q (fr x) (hp x) m):SP E N (.seq a b) Q sa h n:=
 Iz (GC (AI H1) (FO λ_sa' _h' n' ⟨x,hI,h1,h2⟩=>NF k h2 (Y1 _) h1 (H2 x n' hI)))
theorem AV {α:Type} (k:Nat) (fr:α->SA) (hp:α->Hp) (I:α->Nat->Prop)
 (H1:SP E N a (DO (λsa' h' n'=>∃x,I x n'/\(∀p∈fr x,Fz h' (hp x) k (Aj sa' p.1) p.2)/\(∀o y,hp x o=some y->h' o=some y)) Q) sa h n)
 (H2:∀x m,I x m->SP E N b Q (fr x) (hp x) m):SP E N (.seq a b) Q sa h n:=
 Iz (GC H1 (FO λ_sa' _h' n' ⟨x,hI,h1,h2⟩=>NF k h2 (Y1 _) h1 (H2 x n' hI)))
theorem BV (k:Nat) (fr:SA) (hp:Hp) (I:Nat->Prop)
 (H1:JV E Tryz.prog N a (DO (λsa' h' n'=>∃_:Unit,I n'/\(∀p∈fr,Fz h' hp k (Aj sa' p.1) p.2)/\(∀o y,hp o=some y->h' o=some y)) Q) sa h n)
 (H2:∀m,I m->SP E N b Q fr hp m):SP E N (.seq a b) Q sa h n:=
 BG k (α:=Unit) (λ_=>fr) (λ_=>hp) (λ_=>I) H1 λ_=>H2
theorem CB (k:Nat) (fr:SA) (hp:Hp) (I:Nat->Prop)
 (H1:SP E N a (DO (λsa' h' n'=>∃_:Unit,I n'/\(∀p∈fr,Fz h' hp k (Aj sa' p.1) p.2)/\(∀o y,hp o=some y->h' o=some y)) Q) sa h n)
 (H2:∀m,I m->SP E N b Q fr hp m):SP E N (.seq a b) Q sa h n:=
 AV k (α:=Unit) (λ_=>fr) (λ_=>hp) (λ_=>I) H1 λ_=>H2
theorem Ab (k:Nat) (fr:SA) (hp:Hp) (q:Nat)
 (H1:JV E Tryz.prog N a (DO (λsa' h' n'=>∃_:Unit,q<=n'/\(∀p∈fr,Fz h' hp k (Aj sa' p.1) p.2)/\(∀o y,hp o=some y->h' o=some y)) Q) sa h n)
 (H2:∀m,q<=m->SP E N b Q fr hp m):SP E N (.seq a b) Q sa h n:=BV k fr hp (q ≤ ·) H1 H2
theorem Bt (k:Nat) (fr:SA) (hp:Hp) (q:Nat)
 (H1:SP E N a (DO (λsa' h' n'=>∃_:Unit,q<=n'/\(∀p∈fr,Fz h' hp k (Aj sa' p.1) p.2)/\(∀o y,hp o=some y->h' o=some y)) Q) sa h n)
 (H2:∀m,q<=m->SP E N b Q fr hp m):SP E N (.seq a b) Q sa h n:=CB k fr hp (q ≤ ·) H1 H2
theorem By (k:Nat) (fr:SA) (hp:Hp) (q:Nat)
 (H1:JV E Tryz.prog N a (DO (λsa' h' n'=>∃_:Unit,q=n'/\(∀p∈fr,Fz h' hp k (Aj sa' p.1) p.2)/\(∀o y,hp o=some y->h' o=some y)) Q) sa h n)
 (H2:∀m,q=m->SP E N b Q fr hp m):SP E N (.seq a b) Q sa h n:=BV k fr hp (q = ·) H1 H2
theorem GB (k:Nat) (fr:SA) (hp:Hp) (q:Nat)
 (H1:SP E N a (DO (λsa' h' n'=>∃_:Unit,q=n'/\(∀p∈fr,Fz h' hp k (Aj sa' p.1) p.2)/\(∀o y,hp o=some y->h' o=some y)) Q) sa h n)
 (H2:∀m,q=m->SP E N b Q fr hp m):SP E N (.seq a b) Q sa h n:=CB k fr hp (q = ·) H1 H2
theorem AR {id:Nat} (H:SP E N a (FF id Q) sa h n):SP E N (.block id a) Q sa h n:=MI H
theorem Ei (H:SP E N a (DO (SP E N b Q) Q) sa h n):SP E N (.seq a b) Q sa h n:=Iz H
theorem goS {f:FuncId} {fn:Func} {code:Code} {args:List SV} {K:SV->Hp->Nat->Prop} (hf:Tryz.prog.funcs[f]? = some fn) (hb:fn.body=some code)
 (hn:(fn.name != "runtime.NumGoroutine")=true) (hd:Code.dok fn.ntmps code=true) (hl:args.length<=fn.ntmps)
 (H:E4 h n->SP (E.call false 0) fn.ntmps code (L8 Tryz.prog fn n K) (ET 0 args) h n):Ak E Tryz.prog f args h n K:=
 MH hf hb hn hd hl λ_ ho=>H ho
theorem Dg {f:FuncId} {fn:Func} {code:Code} {args:List SV} {K:SV->Hp->Nat->Prop} (hf:Tryz.prog.funcs[f]? = some fn) (hb:fn.body=some code)
 (H:E4 h n->SP (E.call false 0) fn.ntmps code (L8 Tryz.prog fn n K) (ET 0 args) h n)
 (hn:(fn.name != "runtime.NumGoroutine")=true:=by kernel_rfl) (hd:Code.dok fn.ntmps code=true:=by kernel_rfl) (hl:args.length<=fn.ntmps:=by simp[go_sem]):Ak E Tryz.prog f args h n K:=
 goS hf hb hn hd hl H
theorem BP {x:Code} {α:Type} (k:Nat) (fr:α->SA) (hp:α->Hp) (I:α->Nat->Prop) (μ:α->Nat) (a0:α) (hI:I a0 n)
 (hfr:∀p∈fr a0,Fz h (hp a0) k (Aj sa p.1) p.2) (hhp:∀o y,hp a0 o=some y->h o=some y)
 (round:∀a n,I a n->SP E N x (DO (λsa' h' n'=>∃a',μ a'<μ a/\I a' n'/\(∀p∈fr a',Fz h' (hp a') k (Aj sa' p.1) p.2)/\(∀o y,hp a' o=some y->h' o=some y)) Q) (fr a) (hp a) n):
 SP E N (.loop x) Q sa h n:=by
 refine N0 (μ a0) (λm sa h n=>∃a,m=μ a/\I a n/\(∀p∈fr a,Fz h (hp a) k (Aj sa p.1) p.2)/\(∀o y,hp a o=some y->h o=some y)) ⟨a0,rfl,hI,hfr,hhp⟩ ?_
 rintro m sa h n ⟨a,rfl,hI,hfr,hhp⟩
 refine NF k hhp (Y1 _) hfr (GC (round a n hI) ?_)
 refine FO λsa' h' n' ⟨a',h1,h2,h3,h4⟩=>⟨μ a',h1,a',rfl,h2,h3,h4⟩
end
@[go_sem] theorem Lx (id:Nat) (Q:Cc):FF id Q .normal=Q .normal:=rfl
@[go_sem] theorem UM (id:Nat) (Q:Cc):FF id Q .ret=Q .ret:=rfl
@[go_sem] theorem Tt (id i:Nat) (Q:Cc) (sa:SA) (h:Hp) (n:Nat):FF id Q (.exit i) sa h n=if i=id then Q .normal sa h n else Q (.exit i) sa h n:=rfl
def IX (p:Nat->Bool):Nat->Bool
 | 0=>true
 | n+1=>IX p n&&p n
theorem IY {p:Nat->Bool} {k n:Nat} (hk:k<n) (h:p k=false):IX p n=false:=by
 induction n with
 | zero=>omega
 | succ n ih=>
  rw[IX]
  by_cases e:k=n
  . subst e;simp[h]
  . rw[ih (by omega)];rfl
def NY (d:Int):Int:=IntKind.u8.wrap (BitVec.ofInt 8 d ||| BitVec.ofInt 8 32).toNat
def EG (first:Bool) (d:Int):Bool:=decide (97<=NY d/\NY d<=122)||(!first&&decide ((48<=d/\d<=57)\/d=45\/d=95))
def Hg (s:ByteArray):Bool:=decide ((1:Int)<=s.size/\(s.size:Int)<=40)&&IX (λi=>EG (decide (i=0)) (BI s i)) s.size
theorem UR (s:ByteArray):PC 219 [.str s] (.bool (Hg s)):=by
 intro h n
 refine gq Tryz.func219 rfl λho=>?_
 by_cases e1:(s.size:Int)<1
 . simp[go_sem,e1];exact A3 ho rfl (by simp[Hg];omega)
 by_cases e2:(40:Int)<s.size
 . simp[go_sem,e1,e2];exact A3 ho rfl (by simp[Hg];omega)
 have hN:Hg s=IX (λi=>EG (decide (i=0)) (BI s i)) s.size:=by
  have:decide ((1:Int)<=s.size/\(s.size:Int)<=40)=true:=by simp;omega
  rw[Hg,this];rfl
 rw[hN]
 simp[go_sem,e1,e2]
 refine BP 1 (α:=Nat) (λk=>[(0,.str s),(16,AA s.size),(17,AA k)]) (λ_=>h) (λk m=>k<=s.size/\n<=m/\IX (λi=>EG (decide (i=0)) (BI s i)) k=true) (λk=>s.size-k) 0 ?_ ?_ AB ?_
 . simp[IX]
 . simp[Aj]
 rintro k m ⟨hk,hnm,hf⟩
 by_cases hlt:k<s.size
 . have w1:=wS k (by omega)
   obtain⟨g1,g2⟩:=Ea hlt
   have no:EG (decide (k=0)) (BI s k)=false->IX (λi=>EG (decide (i=0)) (BI s i)) s.size=false:=λhb=>IY hlt hb
   have yes':EG (decide (k=0)) (BI s k)=true->IX (λi=>EG (decide (i=0)) (BI s i)) (k+1)=true:=λhb=>by rw[IX,hf,hb];rfl
   refine JW [(0,.str s),(16,AA s.size),(17,AA k),(18,.bool true)] (by simp[go_sem,hlt]) ?_
   refine JW [(0,.str s),(16,AA s.size),(17,AA k)] (by simp[go_sem]) ?_
   refine AV 1 (α:=Unit) (λ_=>[(0,.str s),(16,AA s.size),(17,AA k)]) (λ_=>h) (λ_ m'=>m'=m/\EG (decide (k=0)) (BI s k)=true) (AR ?_) (λ_ m' hI=>AI ?_)
   rotate_left
   . simp[go_sem,w1,-Int.natCast_add]
     exact⟨k+1,by omega,⟨by omega,by omega,yes' hI.2⟩,Y0⟩
   refine JW [(0,.str s),(16,AA s.size),(17,AA k),(3,AA k)] (by simp[go_sem]) ?_
   refine JW [(0,.str s),(16,AA s.size),(17,AA k),(3,AA k),(4,.int .u8 (NY (BI s k)))] (by simp[go_sem,g1,<-g2];rfl) ?_
   generalize hc:NY (BI s k)=c
   generalize hd:BI s k=d at g2
   refine JW [(0,.str s),(16,AA s.size),(17,AA k),(3,AA k),(5,.bool (decide (97<=c/\c<=122)))] (by by_cases l1:97<=c<;>simp[go_sem,l1]) ?_
   refine JW [(0,.str s),(16,AA s.size),(17,AA k),(3,AA k),(5,.bool (decide (97<=c/\c<=122))),(6,.bool (decide ((48<=d/\d<=57)\/d=45\/d=95)))] ?_ ?_
   . by_cases d1:48<=d
     . by_cases d2:d<=57
       . simp[go_sem,g1,<-g2,d1,d2]
       . have d3:¬d=45:=by omega
         by_cases d4:d=95<;>simp[go_sem,g1,<-g2,d1,d2,d3,d4]
     . have d4:¬d=95:=by omega
       by_cases d3:d=45<;>simp[go_sem,g1,<-g2,d1,d3,d4]
   generalize hL:decide (97<=c/\c<=122)=L
   generalize hO:decide ((48<=d/\d<=57)\/d=45\/d=95)=O
   have hnb:EG (decide (k=0)) (BI s k)=(L||(!decide (k=0)&&O)):=by rw[EG,hc,hd,hL,hO]
   rw[hnb]at no
   rw[hd]at hnb
   rw[hnb]
   refine AI ?_
   by_cases hz:k=0
   . cases L<;>cases O<;>simp[hz]at no ⊢ <;> simp[go_sem]
     all_goals exact A3 ho rfl (by rw[no])
   . cases L<;>cases O<;>simp[hz]at no ⊢ <;> simp[go_sem,hz]
     all_goals exact A3 ho rfl (by rw[no])
 . refine AI ?_
   simp[go_sem,hlt]
   have:k=s.size:=by omega
   subst this
   exact A3 ho rfl (by rw[hf])
theorem c268 (k:Int):PC 268 [AA k] (AA (if k=1 then 2 else 1)):=by
 intro h n
 refine gq Tryz.func268 rfl λho=>?_
 by_cases h1:k=1<;>simp[go_sem,h1]<;>exact A3 ho rfl rfl
theorem c301 (s:Az) (id:Int):PC 301 [s.enc,.iptr [AA id]] (.bool (decide (s.id=id))):=by
 intro h n
 refine gq Tryz.func301 rfl λho=>?_
 simp[go_sem,Az.enc,AC]
 exact Au ho (AP ho (Y1 _) AB) (by by_cases e:s.id=id<;>simp[e]) rfl
def QR (a b:ByteArray):Bool:=a.toList==b.toList
theorem c300 (s:Az) (kind:Int) (name:ByteArray):PC 300 [s.enc,.iptr [AA kind],.iptr [.str name]] (.bool (decide (s.kind=kind)&&QR s.name name)):=by
 intro h n
 refine gq Tryz.func300 rfl λho=>?_
 by_cases e:s.kind=kind<;>simp[go_sem,Az.enc,AC,e]
 all_goals exact Au ho (AP ho (Y1 _) AB) (by simp[QR]) rfl
def D9 (l:List Az) (id:Int):Int:=BR (λi=>match l[i]? with|some s=>decide (s.id=id)|none=>false) l.length 0
theorem c269 (l:List Az) (id:Int) (hl:l.length<=1048576):PC 269 [Ad l,AA id] (.tup [AA (if 0<=D9 l id then D9 l id else 0),.bool (decide (0<=D9 l id))]):=by
 intro h n
 refine gq Tryz.func269 rfl λho=>?_
 simp[go_sem]
 have H:=c299 l hl 301 [] [.iptr [AA id]] (λi=>match l[i]? with|some s=>decide (s.id=id)|none=>false) (λi hi=>by simpa[hi]using c301 l[i] id)
 refine H.lend 3 rfl ?_ ?_
 . simp[AZ,Fz,hset]
 . by_cases e:0<=D9 l id
   . have e2:¬D9 l id<0:=by omega
     simp only[D9]at e e2
     simp[go_sem,e,e2]
     exact Au ho (AP ho (Y1 _) AB) (by simp[D9,e]) rfl
   . have e2:D9 l id<0:=by omega
     simp only[D9]at e e2
     simp[go_sem,e,e2]
     exact Au ho (AP ho (Y1 _) AB) (by simp[D9,e]) rfl
def Cn (l:List Az) (kind:Int) (name:ByteArray):Int:=BR (λi=>match l[i]? with|some s=>decide (s.kind=kind)&&QR s.name name|none=>false) l.length 0
theorem c267 (l:List Az) (kind:Int) (name:ByteArray) (hl:l.length<=1048576):PC 267 [Ad l,AA kind,.str name] (.tup [AA (if 0<=Cn l kind name then Cn l kind name else 0),.bool (decide (0<=Cn l kind name))]):=by
 intro h n
 refine gq Tryz.func267 rfl λho=>?_
 simp[go_sem]
 have H:=c299 l hl 300 [] [.iptr [AA kind],.iptr [.str name]] (λi=>match l[i]? with|some s=>decide (s.kind=kind)&&QR s.name name|none=>false) (λi hi=>by simpa[hi]using c300 l[i] kind name)
 have hh:∀a b:Option BT,∀o x,h o=some x->hset (hset h n a) (n+1) b o=some x:=λa b=>AP ho (YO n) (AP ho (Y1 _) AB)
 refine H.lend 3 rfl ?_ ?_
 . simp[AZ,Fz,hset]
 . by_cases e:0<=Cn l kind name
   . have e2:¬Cn l kind name<0:=by omega
     simp only[Cn]at e e2
     simp[go_sem,e,e2]
     exact Au ho (hh _ _) (by simp[Cn,e]) rfl
   . have e2:Cn l kind name<0:=by omega
     simp only[Cn]at e e2
     simp[go_sem,e,e2]
     exact Au ho (hh _ _) (by simp[Cn,e]) rfl
theorem Q9 (l:List Az) (id:Int) (h:0<=D9 l id):∃i s,D9 l id=(i:Nat)/\l[i]? = some s:=by
 rcases Fm (λi=>match l[i]? with|some s=>decide (s.id=id)|none=>false) l.length 0 with e|⟨i,_,h2,h3,_⟩
 . have:D9 l id = -1:=e
   omega
 . exact⟨i,l[i],h3,by simp[h2]⟩
def U7 (l:List Az) (kind id:Int):Bool:=decide (0<=D9 l id)&&(match l[(D9 l id).toNat]? with|some s=>decide (s.kind=kind)|none=>false)
theorem c208 (l:List Az) (kind id:Int) (hl:l.length<=1048576):PC 208 [Ad l,AA kind,AA id] (.bool (U7 l kind id)):=by
 intro h n
 refine gq Tryz.func208 rfl λho=>?_
 simp[go_sem]
 refine(c269 l id hl).use ?_
 by_cases e:0<=D9 l id
 . obtain⟨i,s,h1,h2⟩:=Q9 l id e
   simp[go_sem,h1,h2,Az.enc]
   exact A3 ho rfl (by simp[U7,h1,h2];by_cases hk:s.kind=kind<;>simp[hk])
 . simp[go_sem,e]
   exact A3 ho rfl (by simp[U7,e])
def IN (b:Int):Bool:=decide (32<=b/\b<=126)
def GP (s:ByteArray):Bool:=!decide (s.size=0)&&decide ((s.size:Int)<=40) && !decide (BI s 0=32) && !decide (BI s (s.size-1)=32)&&IX (λi=>IN (BI s i)) s.size
theorem c266 (s:ByteArray):PC 266 [.str s] (.bool (GP s)):=by
 intro h n
 refine gq Tryz.func266 rfl λho=>?_
 by_cases e1:s.size=0
 . simp[go_sem,e1];exact A3 ho rfl (by simp[GP,e1])
 by_cases e2:(40:Int)<s.size
 . simp[go_sem,e1,e2];exact A3 ho rfl (by simp[GP,e1];omega)
 have e2':(s.size:Int)<=40:=by omega
 obtain⟨a1,a2⟩:=Ea (s:=s) (i:=0) (by omega)
 obtain⟨b1,b2⟩:=Ea (s:=s) (i:=s.size-1) (by omega)
 have w0:IntKind.i64.wrap ((s.size:Int)-1)=((s.size-1:Nat):Int):=by rw[DR]<;>omega
 have e1':0<s.size:=by omega
 by_cases e3:BI s 0=32
 . simp[go_sem,e1,e1',e2,<-a2,e3];exact A3 ho rfl (by simp[GP,e1,e3])
 by_cases e4:BI s (s.size-1)=32
 . simp[go_sem,e1,e1',e2,<-a2,e3,b1,<-b2,e4,w0];exact A3 ho rfl (by simp[GP,e1,e4])
 have hN:GP s=IX (λi=>IN (BI s i)) s.size:=by simp[GP,e1,e2',e3,e4]
 rw[hN]
 simp[go_sem,e1,e1',e2,<-a2,e3,b1,<-b2,e4,w0]
 refine Am 1 (α:=Nat) (λk=>[(0,.str s),(26,AA s.size),(27,AA k)]) (λ_=>h) (λk m=>k<=s.size/\n<=m/\IX (λi=>IN (BI s i)) k=true) (λk=>s.size-k) 0 ?_ ?_ AB ?_
 . simp[IX]
 . simp[Aj]
 rintro k m ⟨hk,hnm,hf⟩
 by_cases hlt:k<s.size
 . have w1:=wS k (by omega)
   obtain⟨g1,g2⟩:=Ea hlt
   by_cases l1:BI s k<32
   . simp[go_sem,hlt,<-g2,l1]
     exact A3 ho rfl (by rw[IY hlt (by simp[IN];omega)])
   . by_cases l2:126<BI s k
     . simp[go_sem,hlt,<-g2,l1,l2]
       exact A3 ho rfl (by rw[IY hlt (by simp[IN];omega)])
     . simp[go_sem,hlt,<-g2,l1,l2,w1,-Int.natCast_add]
       exact⟨k+1,by omega,⟨by omega,hnm,by rw[IX,hf];simp[IN];omega⟩,Y0⟩
 . simp[go_sem,hlt]
   have:k=s.size:=by omega
   subst this
   exact A3 ho rfl (by rw[hf])
theorem OU (h:Hp) (j:Nat) (x:Option BT):hset h j x j=x:=by simp[hset]
theorem AY (h:Hp) (j:Nat) (x y:Option BT):hset (hset h j x) j y=hset h j y:=by funext k;simp only[hset];split<;>rfl
def Br.inRound (E:Br) (l:Nat):Br:={ ro:=some l,mks:=false,base:=0,inv:=E.inv,ext:=E.ext }
def JT:List (Tmp×SV)->SA->SA
 | [],sa=>sa
 | p::r,sa=>JT r (p::sa)
section
variable {P : Program} {E : Br} {N : Nat}
theorem FR.zip {c:Cx}:∀{ps:List Tmp} {args:List SV} {vs:List Value} {sa:SA} {tm:Array Value},(∀p∈ps,p<N)->AZ (V c) args vs->ps.length=args.length->FR E N sa c { tmps:=tm,defers:=[] }->
 FR E N (JT (ps.zip args) sa) c { tmps:=(ps.zip vs).foldl (λt p=>t.setIfInBounds p.1 p.2) tm,defers:=[] }
 | [],_,_,_,_,_,_,_,F=>F
 | p::ps,[],_,_,_,_,_,hl,_=>by simp at hl
 | p::ps,a::args,[],_,_,_,h,_,_=>h.elim
 | p::ps,a::args,v::vs,sa,tm,hp,h,hl,F=>by
  have:=F.put (dst:=some p) (λd e=>by cases e;exact hp _ (by simp)) h.1
  exact FR.zip (ps:=ps) (λq hq=>hp q (by simp[hq])) h.2 (by simpa using hl) this
theorem Hr {h:Hp} {c:Cx} {o l:Nat} {r:Loop} (R:Bl h c) (ho:h o=some (.loop r)) (hρ:c.ρ o=some (l,0)):c.w.heap[l]? = some (.loop r):=by
 obtain⟨b,h1,h2⟩:=R.obj o _ ho
 rw[hρ]at h1;cases h1;exact h2
theorem Il {h:Hp} {c:Cx} {o l:Nat} {r:Loop} (r':Loop) (R:Bl h c) (ho:h o=some (.loop r)) (hρ:c.ρ o=some (l,0)):
 Bl (hset h o (some (.loop r'))) { c with w:=c.w.putObj l (.loop r') }/\DD c { c with w:=c.w.putObj l (.loop r') }:=by
 have hl:=Hr R ho hρ
 have hlt:=(Yd.1 hl).1
 refine R.write ho hρ (by simp) (λb' hb'=>World.putObj_heap_other hb') ?_ rfl rfl λX=>⟨l,hρ,World.putObj_heap_same hlt⟩
 simp[rm,hl]
def Gw (fn:FuncId) (tm:Array Value) (ps:Array Tmp) (assign body:Code) (D:Nat) (st:LoopState) (pe:Option Code):Loop:=
 { state:=st,pending:=pe,fn:=fn,tmps:=tm,params:=ps,assign:=assign,body:=body,defers:=D }
def Hv (n:Nat) (R:LoopState->Option Code->Loop) (Q1:SV->Hp->Nat->Prop):Cc:=λe _ h2 m2=>
 h2 n=some (.loop (R .busy none))/\match e with
  | .normal=>Q1 (.bool true) (hset h2 n (some (.loop (R .ready none)))) m2
  | .ret=>Q1 (.bool false) (hset h2 n (some (.loop (R .done (some .ret))))) m2
  | .exit id=>Q1 (.bool false) (hset h2 n (some (.loop (R .done (some (.exit id)))))) m2
  | _=>False
def Pk (P:Program) (E:Br) (N n:Nat) (R:LoopState->Option Code->Loop) (assign body:Code) (Q1:SV->Hp->Nat->Prop) (sa:SA) (h:Hp) (m:Nat):Prop:=
 Fk E P N assign (λe sa1 h1 m1=>e=.normal/\h1 n=some (.loop (R .ready none))/\Fk E P N body (Hv n R Q1) sa1 (hset h1 n (some (.loop (R .busy none)))) m1) sa h m
def loopQ (n:Nat) (R:LoopState->Option Code->Loop) (Q:Cc) (sa:SA):SV->Hp->Nat->Prop:=λ_ h' n'=>
 ∃st pe,h' n=some (.loop (R st pe))/\st≠.busy/\match pe with
  | none=>Q .normal sa (hset h' n none) n'
  | some .ret=>Q .ret sa (hset h' n none) n'
  | some (.exit id)=>Q (.exit id) sa (hset h' n none) n'
  | _=>False
theorem Ow {E1:Br} {c1:Cx} {l n:Nat} {fn:FuncId} {tm:Array Value} {ps:Array Tmp} {assign body:Code} {D:Nat} {sa:SA} (hinv:∀c',E1.inv c'->DD c1 c') (hρ:c1.ρ n=some (l,0))
 (hps:∀p∈ps.toList,p<N) (hda:Code.dok N assign=true) (hdb:Code.dok N body=true) (hsz:tm.size=N) (hv:∀t,V c1 (Aj sa t) (tm.getD t undef))
 {args:List SV} {hy:Hp} {m:Nat} {Q1:SV->Hp->Nat->Prop} (hn:hy n=some (.loop (Gw fn tm ps assign body D .ready none))) (hl:args.length=ps.size)
 (H:Pk P (E1.inRound l) N n (Gw fn tm ps assign body D) assign body Q1 (JT (ps.toList.zip args) sa) hy m):FB E1 P l args hy m Q1:=by
 intro c vs I R F A
 have X1:=hinv c I
 have hρc:c.ρ n=some (l,0):=X1.ρ _ _ hρ
 have hlen:=A.length
 refine⟨_,_,_,_,run_yield (Hr R hn hρc) (by simp[Gw];omega),roundIn_of_wpIn (F:=Fence.wide) trivial ?_⟩
 have F0:FR (E1.inRound l) N sa c { tmps:=tm,defers:=[] }:=⟨hsz,⟨Y4 _,λ_=>rfl,by simp,by simp⟩,λt=>Xa X1 (hv t)⟩
 have FZ:=F0.zip (ps:=ps.toList) hps A (by simp;omega)
 have etm:(ps.zip vs.toArray).foldl (λtmps x=>tmps.setIfInBounds x.1 x.2) tm=(ps.toList.zip vs).foldl (λt p=>t.setIfInBounds p.1 p.2) tm:=by
  rw[<-Array.foldl_toList,Array.toList_zip]
 have hA:=H hda c _ I R F FZ
 rw[<-etm]at hA
 refine wpIn_mono hA ?_
 rintro e a2 w2 ⟨sa2,h2,n2,c2,⟨rfl,hn2,hB⟩,rfl,R2,F2,A2,X2⟩
 have hρ2:c2.ρ n=some (l,0):=X2.ext.ρ _ _ hρc
 obtain⟨R3,X3⟩:=Il (Gw fn tm ps assign body D .busy none) R2 hn2 hρ2
 refine⟨_,run_beginRound (Hr R2 hn2 hρ2) rfl,?_⟩
 have X23:DD c { c2 with w:=c2.w.putObj l (.loop (Gw fn tm ps assign body D .busy none)) }:=X2.ext.trans X3
 refine wpIn_mono (hB hdb { c2 with w:=c2.w.putObj l (.loop (Gw fn tm ps assign body D .busy none)) } a2 (E1.ext X23 I) R3 F2 (A2.ext X3)) ?_
 rintro e a4 w4 ⟨sa4,h4,n4,c4,⟨hn4,hq⟩,rfl,R4,F4,A4,X4⟩
 have hρ4:c4.ρ n=some (l,0):=X4.ext.ρ _ _ hρ2
 have hl4:=Hr R4 hn4 hρ4
 have fin:∀(jump:Option Code) (b:Bool) (st:LoopState),b=jump.isNone->st=(if jump.isNone then .ready else .done)->Q1 (.bool b) (hset h4 n (some (.loop (Gw fn tm ps assign body D st jump)))) n4->
  ∃v w',(Instr.endRound l jump).run P c4.w=.ok v w'/\∃u v' h' n' c',Ending.returned v=.returned u/\Q1 v' h' n'/\c'.w=w'/\V c' v' u/\Bl h' c'/\Fr n' c'/\Ff m c n' c':=by
  rintro jump b st rfl rfl hq
  obtain⟨R5,X5⟩:=Il (Gw fn tm ps assign body D (if jump.isNone then .ready else .done) jump) R4 hn4 hρ4
  refine⟨_,_,run_endRound jump hl4,.bool jump.isNone,.bool jump.isNone,_,n4,_,rfl,hq,rfl,by simp[V],R5,F4,⟨X23.trans (X4.ext.trans X5),Yo X2.le X4.le,λj hj=>?_⟩⟩
  exact(X4.same j (ZN hj X2.le)).trans (X2.same j hj)
 cases e with
 | normal=>exact fin none true .ready rfl rfl hq
 | ret=>exact fin (some .ret) false .done rfl rfl hq
 | exit id=>exact fin (some (.exit id)) false .done rfl rfl hq
 | _=>exact hq.elim
def Cx.begin (c:Cx) (n:Nat) (r:Loop):Cx:=Cx.alloc { c with w:=c.w.alloc (.deferred (some [])) } n (.loop r)
theorem Ks (c:Cx):DD c { c with w:=c.w.alloc (.deferred (some [])) }:=by
 refine⟨λ_ _ e=>e,by simp,λb hb ho=>⟨ho,?_⟩,λb=>?_,rfl,rfl⟩
 . simp[Be,Z8,ZF hb]
 . unfold rm
   rcases YX b c.w.heap.size with hx|hx
   . simp[Be,Z8,ZF hx]
   . simp[Z2 hx]
theorem PN {h:Hp} {c:Cx} (R:Bl h c):Bl h { c with w:=c.w.alloc (.deferred (some [])) }:=by
 refine⟨λo x e=>(R.obj o x e).mono (Ks c) λb hb=>?_,R.inj2,R.own2⟩
 have h2:=(R.obj o x e).hold_lt hb
 simp[Be,Z8,ZF h2]
theorem FP {g:Operand} {ps:Array Tmp} {assign body:Code} {Q:Cc} {sa:SA} {h:Hp} {n:Nat} {f:FuncId} {ys:List SV} (hro:E.ro=none) (hmk:E.mks=true) (hg:Gf sa g=.fn (.func f) [] ys)
 (H:∀(E1:Br) (l:Nat) (R:LoopState->Option Code->Loop),
   (∀args hy m Q1,hy n=some (.loop (R .ready none))->args.length=ps.size->Pk P (E1.inRound l) N n R assign body Q1 (JT (ps.toList.zip args) sa) hy m->FB E1 P l args hy m Q1)->
   Ak E1 P f (.fn (.yield l) [] []::ys) (hset h n (some (.loop (R .ready none)))) (n+1) (loopQ n R Q sa)):
 Fk E P N (.rangeFunc g ps assign body) Q sa h n:=by
 intro hd c a I R F A
 simp only[Code.dok,Yb,YL,decide_eq_true_eq]at hd
 obtain⟨hps,hda,hdb⟩:=hd
 have hfc:E.fc=Fence.wide:=by simp only[Br.fc,hro,Fence.wide]
 rw[hfc]
 refine wpIn_rangeFunc λfn _=>?_
 have hρn:c.ρ n=none:=F n (Y1 _)
 obtain⟨r0,hr0⟩:∃r0,r0=Gw fn a.tmps ps assign body c.w.heap.size .ready none:=⟨_,rfl⟩
 have R1:Bl (hset h n (some (.loop r0))) (c.begin n r0):=(PN R).alloc hρn ⟨c.w.heap.size+1,by simp[Cx.alloc],by have:=World.alloc_heap_new (c.w.alloc (.deferred (some []))) (.loop r0);rwa [World.size_alloc]at this⟩
 have X1:DD c (c.begin n r0):=(Ks c).trans (Cx.alloc_ext _ n (.loop r0) hρn)
 have hρ1:(c.begin n r0).ρ n=some (c.w.heap.size+1,0):=by simp[Cx.begin,Cx.alloc]
 have F1:Fr (n+1) (c.begin n r0):=λj hj=>by
  have:j≠n:=by omega
  simp[Cx.begin,Cx.alloc,this];exact F j (by omega)
 have hw1:(c.begin n r0).w=(c.w.alloc (.deferred (some []))).alloc (.loop r0):=rfl
 have hD1:(c.begin n r0).w.heap[c.w.heap.size]? = some (.deferred (some [])):=by
  rw[hw1];simp[Be,Z8]
 have hDo:¬(c.begin n r0).own c.w.heap.size:=by
  rintro(h1|h1)
  . obtain⟨o,x,e1,e2⟩:=(R.own2 _).1 h1
    have h4:=(R.obj o x e1).hold_lt e2
    omega
  . simp at h1
 let E1:Br:={ ro:=none,mks:=false,base:=0,inv:=λc'=>E.inv c'/\DD (c.begin n r0) c',ext:=λx i=>⟨E.ext x i.1,i.2.trans x⟩ }
 have hcall:=H E1 (c.w.heap.size+1) (Gw fn a.tmps ps assign body c.w.heap.size) λargs hy m Q1 hn hl hW=>
  Ow (E1:=E1) (c1:=c.begin n r0) (λc' i=>i.2) hρ1 hps hda hdb A.size (λt=>Xa X1 (A.val t)) hn hl hW
 rw[<-hr0]at hcall
 have hf:=A.ev g
 rw[hg,V]at hf
 obtain⟨xs,yv,hfv,h1,h2⟩:=hf
 simp only[VL]at h1
 subst h1
 have hargs:AZ (V (c.begin n r0)) (.fn (.yield (c.w.heap.size+1)) [] []::ys) (.func (.yield (c.w.heap.size+1)) #[] #[]::yv):=
  ⟨by simp[V,VL],BJ.1 (VL.mono X1 h2)⟩
 have hcl:=hcall.2 (c.begin n r0) _ ⟨E.ext X1 I,Xk _⟩ R1 F1 hargs
 have hok:=hcall.1
 unfold L6 at hok
 cases hfn:P.funcs[f]? with
 | none=>simp[hfn]at hok
 | some fn'=>
 simp only[hfn,Yb,bne_iff_ne,ne_eq]at hok
 have hb:fn'.body≠none:=by intro e;simp[e]at hok
 refine⟨c.w.heap.size+1,[SF c.w.heap.size],(c.begin n r0).w,{ target:=.fn (.func f) yv.toArray,args:=#[.func (.yield (c.w.heap.size+1)) #[] #[]] },(c.begin n r0).w,f,
  (.func (.yield (c.w.heap.size+1)) #[] #[]::yv).toArray,(c.begin n r0).w,?_,?_,λ_ _=>trivial,?_,λe=>by simp[Fence.wide]at e,?_⟩
 . rw[hw1,hr0];exact run_enterLoop_outer _ _ _ _ _
 . simp[resolve,Deferred.ofValue,hfv]
   rfl
 . simp[invoke,callFunc,hfn,hok.2,hb]
 . refine callsIn_wide.2 (hcl.mono ?_)
   rintro e w3 ⟨u,v,h',n',c',rfl,⟨st,pe,hn',hst,hq⟩,rfl,hv,R',F',X'⟩
   have hρ':c'.ρ n=some (c.w.heap.size+1,0):=X'.ext.ρ _ _ hρ1
   obtain⟨R3,X3⟩:=Il (Gw fn a.tmps ps assign body c.w.heap.size .exhausted pe) R' hn' hρ'
   have R4:=R3.kill n (OU _ _ _)
   have X4:=X3.trans (Cx.kill_ext { c' with w:=c'.w.putObj (c.w.heap.size+1) (.loop (Gw fn a.tmps ps assign body c.w.heap.size .exhausted pe)) } n)
   rw[AY]at R4
   have XX:=X1.trans (X'.ext.trans X4)
   have hD4:=(X'.ext.trans X4).keep _ (Yd.1 hD1).1 hDo
   refine⟨pe,_,run_endLoop (Hr R' hn' hρ') hst,?_⟩
   have mk:∀e,Q e sa (hset h' n none) n'->RP E N n c Q e { a with defers:=[SF c.w.heap.size]++a.defers } (c'.w.putObj (c.w.heap.size+1) (.loop (Gw fn a.tmps ps assign body c.w.heap.size .exhausted pe))):=λe hq=>by
    refine⟨sa,hset h' n none,n',_,hq,rfl,R4,F',⟨A.size,⟨Yo A.defers.base XX.size,λe=>(by rw[hmk]at e;cases e),?_,λd hd=>?_⟩,λt=>Xa XX (A.val t)⟩,⟨XX,by have:=X'.le;omega,λj hj=>?_⟩⟩
    . refine YH.2 ⟨λhm=>?_,A.defers.nodup⟩
      obtain⟨D,_,e2,e3,_⟩:=A.defers.ok _ hm
      have:D=c.w.heap.size:=by simp[SF]at e2;exact e2.symm
      have:=(Yd.1 e3).1
      omega
    . rcases Yg.1 hd with rfl|hd
      . exact⟨c.w.heap.size,A.defers.base,rfl,hD4.2.trans hD1,hD4.1⟩
      . exact(A.defers.mono XX).ok d hd
    . have:j≠n:=by omega
      have e1:(c.begin n r0).ρ j=c.ρ j:=by simp[Cx.begin,Cx.alloc,this]
      exact(X'.same j (by omega)).trans e1
   cases pe with
   | none=>exact mk .normal hq
   | some j=>
    cases j with
    | ret=>exact wpIn_ret (mk .ret hq)
    | exit id=>exact wpIn_exit (mk (.exit id) hq)
    | _=>exact hq.elim
end
theorem goM {E:Br} {f:FuncId} {fn:Func} {code:Code} {args:List SV} {h:Hp} {n:Nat} {K:SV->Hp->Nat->Prop} (hf:Tryz.prog.funcs[f]? = some fn) (hb:fn.body=some code)
 (hn:(fn.name != "runtime.NumGoroutine")=true) (hd:Code.dok fn.ntmps code=true) (hl:args.length<=fn.ntmps)
 (H:E4 h n->∀B,JV (E.call true B) Tryz.prog fn.ntmps code (L8 Tryz.prog fn n K) (ET 0 args) h n):Ak E Tryz.prog f args h n K:=
 Kl hf hb hn hd hl λ_ ho B=>AI (H ho B)
theorem IJ {E:Br} {N n:Nat} {R:LoopState->Option Code->Loop} {assign body:Code} {Q1:SV->Hp->Nat->Prop} {sa:SA} {h:Hp} {m:Nat}
 (H:JV E Tryz.prog N assign (λe sa1 h1 m1=>e=.normal/\h1 n=some (.loop (R .ready none))/\JV E Tryz.prog N body (Hv n R Q1) sa1 (hset h1 n (some (.loop (R .busy none)))) m1) sa h m):Pk Tryz.prog E N n R assign body Q1 sa h m:=
 GC (AI H) λ_ _ _ _ ⟨a,b,c⟩=>⟨a,b,AI c⟩
section
variable {P : Program} {E : Br}
theorem Io (d:Nat) {t e:TypeId} (a:Option Addr) (l cap:Nat) (hu:P.underlying t=some (.slice e)) (w:World):(Op.equalIn (d+1) t (.slice a l cap) (.slice none 0 0)).run P w=.ok a.isNone w:=by
 cases a<;>simp[Op.equalIn,AM hu]
theorem N8 {t e:TypeId} (a:Option Addr) (l cap:Nat) (hu:P.underlying t=some (.slice e)) (w:World):
 (binOp .eql t (.slice a l cap) (.slice none 0 0)).run P w=.ok (.bool a.isNone) w:=by
 have:=Io 9999 a l cap hu w
 simp only[binOp,Op.equal];simp[Op.maxDepth,this]
theorem Cg {evs:Operand->SV} {o:Oper} {h:Hp} {n:Nat} {K:SV->Hp->Nat->Prop} {t t2:TypeId} {x:Operand} {z:Nat} {es:List SV} {full:Bool} (ho:o.op=.binOp .eql t x (.const (.slice none 0 0)) t2)
 (ht:(A6 P t).isSome=true) (hx:evs x=.imm z es full) (h1:es=[]->K (.bool true) h n) (h2:K (.bool false) h n):EB E P evs o h n K:=by
 refine⟨by rw[ho];simp,λc ev hc _ R F hv=>?_⟩
 have hvx:=hv x
 obtain⟨e,ht⟩:=Z3.1 ht
 have ht:=Ay ht
 rw[hx,V]at hvx
 have fin:∀(a:Option Addr) (l cap:Nat),ev x=.slice a l cap->K (.bool a.isNone) h n->∃u v h' n' c',(execOp ev o).run P c.w=.ok (.value u) c'.w/\V c' v u/\Bl h' c'/\Fr n' c'/\Ff n c n' c'/\K v h' n':=λa l cap e hk=>
  ⟨.bool a.isNone,.bool a.isNone,h,n,c,by simp[execOp,ho,e,hc,Hy (P:=P) (a:=.slice a l cap),N8 a l cap ht],by simp[V],R,F,ZB n c,hk⟩
 rcases hvx with⟨he,e⟩|⟨a,cap,vs,e,_⟩
 . exact fin _ _ _ e (h1 he)
 . exact fin _ _ _ e h2
def DG (P:Program) (t:TypeId):SV->SV->Option Bool
 | .int k a,.int k' b=>if k=k'/\(KU P t).isSome=true/\Bh P t=1/\Fx P t=some false then some (a==b)else none
 | .str a,.str b=>if Ey P t=true/\Bh P t=1/\Fx P t=some false then some (a.toList==b.toList)else none
 | .bool a,.bool b=>if Lj P t=true/\Bh P t=1/\Fx P t=some false then some (a==b)else none
 | _,_=>none
def B9 (P:Program) (cs ds:List SV):List Field->Option Bool
 | []=>some true
 | f::fs=>if f.name = "_" then none else
  match cs[f.offset]?,ds[f.offset]? with
  | some x,some y=>match DG P f.type x y with|some true=>B9 P cs ds fs|r=>r
  | _,_=>none
def Bd (P:Program) (t:TypeId):List Field:=(P.fieldsOf t).toList
theorem PT {c:Cx} {t:TypeId} {x y:SV} {u v:Value} {b:Bool} (h:DG P t x y=some b) (hx:V c x u) (hy:V c y v) (d:Nat) (w:World):(Op.equalIn (d+1) t u v).run P w=.ok b w/\Bh P t=1/\Fx P t=some false:=by
 unfold DG at h
 split at h
 . split at h<;>try cases h
   rename_i hc
   obtain⟨rfl,h1,h2,h3⟩:=hc
   rw[DQ hx,DQ hy]
   obtain⟨i,hi⟩:=Z3.1 h1
   exact⟨run_equalIn_int w d t _ _ _ _ (GA hi),h2,h3⟩
 . split at h<;>try cases h
   rename_i hc
   obtain⟨h1,h2,h3⟩:=hc
   rw[KX hx,KX hy]
   exact⟨run_equalIn_string w d t _ _ (by unfold Ey at h1;split at h1<;>first|assumption|cases h1),h2,h3⟩
 . split at h<;>try cases h
   rename_i hc
   obtain⟨h1,h2,h3⟩:=hc
   rw[Gc hx,Gc hy]
   exact⟨Ga d _ _ (HR h1) w,h2,h3⟩
 . cases h
theorem HH {c:Cx} {cs ds:List SV} {vs us:List Value} (hc:AZ (V c) cs vs) (hd:AZ (V c) ds us) (h1:∀x∈vs,x.oneCell'=true) (h2:∀x∈us,x.oneCell'=true) (d:Nat) (w:World):
 ∀(fs:List Field) (b:Bool),B9 P cs ds fs=some b->(Op.eqFields (d+1) vs.toArray us.toArray fs).run P w=.ok b w
 | [],b,h=>by simp[B9]at h;subst h;simp[Op.eqFields]
 | f :: fs, b, h => by
  simp only[B9]at h
  split at h<;>try cases h
  rename_i hn
  split at h<;>try cases h
  rename_i x y hx hy
  obtain⟨u,hu,hvx⟩:=hc.get hx
  obtain⟨v,hv,hvy⟩:=hd.get hy
  obtain⟨b',hb⟩:∃b',DG P f.type x y=some b':=by
   cases hb:DG P f.type x y with
   | none=>simp[hb]at h
   | some b'=>exact⟨b',rfl⟩
  obtain⟨hr,hs,ha⟩:=PT hb hvx hvy d w
  have p1:(part f.type vs.toArray f.offset).run P w=.ok u w:=by simp[part,EV ha,hu]
  have p2:(part f.type us.toArray f.offset).run P w=.ok v w:=by simp[part,EV ha,hv]
  simp only[Op.eqFields,ne_eq,hn,not_false_eq_true,if_true,Sem.run_bind,p1,p2,hr,Result.andThen_ok]
  rw[hb]at h
  cases b'
  . simp at h;subst h;simp
  . simp only at h
    simp only[Bool.not_true,Y7,if_false]
    exact HH hc hd h1 h2 d w fs b h
theorem DY {evs:Operand->SV} {o:Oper} {t t2:TypeId} {x y:Operand} {op:BinOp} {cs ds:List SV} {b:Bool} (ho:o.op=.binOp op t x y t2) (hop:op=.eql\/op=.neq)
 (ht:P.underlying t=some (.struct (P.fieldsOf t))) (hp:P.stoodInHeld t=false) (hm:P.eqGuardType P.depth t=false)
 (hx:evs x=.agg cs) (hy:evs y=.agg ds) (hb:B9 P cs ds (Bd P t)=some b):QV P evs o (.bool (if op=.eql then b else !b)):=by
 refine⟨by rw[ho];simp,λc ev _ hv=>?_⟩
 have hvx:=hv x (by simp[ho,Op.operands])
 have hvy:=hv y (by simp[ho,Op.operands])
 rw[hx]at hvx;rw[hy]at hvy
 obtain⟨vs,e1,h1,h2⟩:=Fy hvx
 obtain⟨us,e2,h3,h4⟩:=Fy hvy
 have hr:=HH h1 h3 h2 h4 9998 c.w _ _ hb
 have hrr:(Op.equalIn 10000 t (.agg vs.toArray) (.agg us.toArray)).run P c.w=.ok b c.w:=by rw[run_equalIn_struct c.w 9999 t _ _ ht hp];exact hr
 rcases hop with rfl|rfl
 . exact⟨.bool b,by simp only[execOp,ho,e1,e2,Sem.run_bind,run_eqGuard_agg c.w _ _ _ _ _ _ hm,Result.andThen_ok,run_eql_struct,hrr];simp,by simp[V]⟩
 . exact⟨.bool !b,by simp only[execOp,ho,e1,e2,Sem.run_bind,run_eqGuard_agg c.w _ _ _ _ _ _ hm,Result.andThen_ok,run_neq_struct,hrr];simp,by simp[V]⟩
theorem C3 {evs:Operand->SV} {o:Oper} {h:Hp} {n:Nat} {K:SV->Hp->Nat->Prop} {t:TypeId} {z:Nat} {ps:Array (Nat×Operand)} (ho:o.op=.buildSlice t 0 ps) (hps:ps = #[]) (hi:((A6 P t).bind P.info?).isSome=true)
 (hk:K (.imm z [] true) h n):EB E P evs o h n K:=by
 subst hps
 refine⟨by rw[ho];simp,λc ev hc _ R F hv=>?_⟩
 obtain⟨i,hi⟩:=Z3.1 hi
 obtain⟨e,ht,hi⟩:=Option.bind_eq_some_iff.1 hi
 have hu:=Ay ht
 have hw:(execOp ev o).run P c.w=.ok (.value (.slice (some ⟨c.w.heap.size,0,none⟩) 0 0)) (c.w.alloc (.cells #[] e)):=by
  simp[execOp,ho,Instr.buildSlice,AM hu,sizeOf,typeInfo,hi,Instr.fill,newRow]
  congr 2;simp
 have X:DD c { c with w:=c.w.alloc (.cells #[] e) }:=by
  refine⟨λ_ _ e=>e,by simp,λb hb hn=>⟨hn,?_⟩,λb=>?_,rfl,rfl⟩
  . simp[Be,Z8,ZF hb]
  . unfold rm
    rcases YX b c.w.heap.size with hx|hx
    . simp[Be,Z8,ZF hx]
    . simp[Z2 hx]
 refine⟨_,.imm z [] true,h,n,{ c with w:=c.w.alloc (.cells #[] e) },hw,?_,⟨λo x e=>(R.obj o x e).mono X λb hb=>?_,R.inj2,R.own2⟩,F,⟨X,Y1 _,λ_ _=>rfl⟩,hk⟩
 . rw[V];exact .inr ⟨⟨c.w.heap.size,0,none⟩,0,[],rfl,Y1 _,λ_=>rfl,⟨by simp,by simp,by simp,by simp⟩,by simp[VE]⟩
 . have h2:=(R.obj o x e).hold_lt hb
   simp[Be,Z8,ZF h2]
def Cu (P:Program) (cs ds:List SV):List (Bool×TypeId×Nat)->Option Bool
 | []=>some true
 | f::fs=>if f.1=true then none else
  match cs[f.2.2]?,ds[f.2.2]? with
  | some x,some y=>match DG P f.2.1 x y with|some true=>Cu P cs ds fs|r=>r
  | _,_=>none
theorem CO (cs ds:List SV):∀fs:List Field,B9 P cs ds fs=Cu P cs ds (fs.map λf=>(f.name == "_",f.type,f.offset))
 | []=>rfl
 | f::fs=>by
  simp only[B9,Cu,Yf,beq_iff_eq,CO cs ds fs]
end
structure Lw {α:Type} (f:α->SV) (z:Nat):Prop where
 st:∀x,(f x).storable=true
 len:∀x,(f x).cells.length=z
 cl:∀n x,closed n (f x)=true
theorem Lw.size {α:Type} {f:α->SV} {z:Nat} (H:Lw f z) (l:List α):∀e∈l.map f,e.storable=true/\e.cells.length=z:=by
 intro e he;simp only[Yp]at he;obtain⟨x,_,rfl⟩:=he;exact⟨H.st x,H.len x⟩
theorem Lw.closedL {α:Type} {f:α->SV} {z:Nat} (H:Lw f z) (n:Nat) (l:List α):closedL n (l.map f)=true:=DS.2 (by
 intro e he;simp only[Yp]at he;obtain⟨x,_,rfl⟩:=he;exact H.cl n x)
theorem Lw.imm {α:Type} {f:α->SV} {z:Nat} (H:Lw f z) (n z':Nat) (l:List α) (full:Bool):closed n (.imm z' (l.map f) full)=true:=by rw[closed];exact H.closedL n l
theorem GI:Lw AA 1:=⟨λ_=>rfl,λ_=>rfl,λ_ _=>rfl⟩
theorem E8.E:Lw E8.enc 2:=⟨λ_=>rfl,λ_=>rfl,λ_ _=>rfl⟩
theorem BO.E:Lw BO.enc 2:=⟨λ_=>rfl,λ_=>rfl,λ_ _=>rfl⟩
theorem Ax.E:Lw Ax.enc 4:=⟨λ_=>rfl,λ_=>rfl,λ_ _=>rfl⟩
theorem BD.E:Lw BD.enc 3:=⟨λ_=>rfl,λ_=>rfl,λ_ _=>rfl⟩
theorem CV.E:Lw CV.enc 4:=⟨λ_=>rfl,λ_=>rfl,λ_ _=>rfl⟩
theorem As.E:Lw As.enc 6:=⟨λ_=>rfl,λ_=>rfl,λ_ _=>rfl⟩
theorem Fa.E:Lw Fa.enc 2:=⟨λ_=>rfl,λ_=>rfl,λ_ _=>rfl⟩
theorem Az.E:Lw Az.enc 6:=⟨λ_=>rfl,λ_=>rfl,λn s=>by simp[Az.enc,closed,closedL,E8.E.closedL]⟩
theorem FQ.E:Lw FQ.enc 2:=⟨λ_=>rfl,λ_=>rfl,λn s=>by simp[FQ.enc,closed,closedL,CV.E.closedL]⟩
theorem AF.flat_closed (n:Nat) (h:AF):Sh.closedL n h.flat=true:=by simp[AF.flat,closed,closedL,E8.E.closedL,BO.E.closedL,Ax.E.closedL]
theorem AF.E:Lw AF.enc 5:=⟨λ_=>rfl,λ_=>rfl,λn s=>by rw[AF.enc,closed];exact s.flat_closed n⟩
theorem DH (n:Nat):∀(a b:List SV),closedL n (a++b)=(closedL n a&&closedL n b)
 | [],b=>by simp[closedL]
 | x::a,b=>by simp[closedL,DH n a b,Bool.and_assoc]
mutual
theorem AE.cl (n:Nat):∀x:AE,closed n x.enc=true
 | .mk k c i t h f r=>by
  rw[AE.enc,closed,DH,DH]
  simp[closed,closedL,h.flat_closed,AE.clL n f,AW.clL n r]
theorem AE.clL (n:Nat):∀l:List AE,closedL n (AE.encL l)=true
 | []=>by simp[AE.encL,closedL]
 | x::l=>by rw[AE.encL,closedL,AE.cl n x,AE.clL n l];rfl
theorem AW.cl (n:Nat):∀x:AW,closed n x.enc=true
 | .mk h c=>by
  rw[AW.enc,closed,DH]
  simp[closed,closedL,h.flat_closed,AL.clL n c]
theorem AW.clL (n:Nat):∀l:List AW,closedL n (AW.encL l)=true
 | []=>by simp[AW.encL,closedL]
 | x::l=>by rw[AW.encL,closedL,AW.cl n x,AW.clL n l];rfl
theorem AL.cl (n:Nat):∀x:AL,closed n x.enc=true
 | .mk i h f=>by
  rw[AL.enc,closed,DH,DH]
  simp[closed,closedL,h.flat_closed,AE.clL n f]
theorem AL.clL (n:Nat):∀l:List AL,closedL n (AL.encL l)=true
 | []=>by simp[AL.encL,closedL]
 | x::l=>by rw[AL.encL,closedL,AL.cl n x,AL.clL n l];rfl
end
theorem AE.E:Lw AE.enc 11:=⟨λx=>by rw[Yh];rfl,λx=>by rw[Yh];rfl,AE.cl⟩
theorem AW.E:Lw AW.enc 6:=⟨λx=>by rw[YB];rfl,λx=>by rw[YB];rfl,AW.cl⟩
theorem AL.E:Lw AL.enc 7:=⟨λx=>by rw[Z9];rfl,λx=>by rw[Z9];rfl,AL.cl⟩
def AH.enc (d:AH):SV:=.agg ([AG d.flow]++d.«end».flat++[Aw d.revs]++d.settings.flat)
theorem Dj {h' h:Hp} {k z o:Nat} {es:List SV} {full full':Bool} (hn:h o=none) (hf:full'=true->full=true) (hh:h' o=some (.cells (es.flatMap SV.cells))) (hs:∀e∈es,e.storable=true/\e.cells.length=z):
 Fz h' h (k+1) (.sl o 0 z es.length full) (.imm z es full'):=by
 refine .inr ⟨hn,hf,rfl,rfl,_,_,hh,by simp[Bk,BE hs];rfl,hs,?_⟩
 have:∀l:List SV,AZ (Fz h' h k) l l:=by
  intro l;induction l with
  | nil=>trivial
  | cons a l ih=>exact⟨Y0,ih⟩
 simp only[<-BE hs,Ya]
 exact this _
theorem A9 {h' h:Hp} {k z z':Nat} {full full':Bool} (hf:full'=true->full=true):Fz h' h (k+1) (.imm z [] full) (.imm z' [] full'):=
 .inr ⟨hf,.inl rfl,trivial,by simp⟩
theorem SW {α:Type} {f:α->SV} {z:Nat} (H:Lw f z) {h h':Hp} {n n' o:Nat} {v:SV} {l:List α} {full:Bool} (ho:E4 h n) (hh:∀o x,h o=some x->h' o=some x) (hn:n<=o) (hv:v=.sl o 0 z l.length full) (hc:h' o=some (.cells ((l.map f).flatMap SV.cells))):
 Bz n h' n' v (Is (.imm z (l.map f) false) h n):=by
 subst hv
 have:=Dj (h':=h') (h:=h) (k:=0) (z:=z) (es:=l.map f) (full:=full) (full':=false) (ho.none hn) (by simp) hc (H.size l)
 rw[Y5]at this
 exact Dh 1 ho hh this (H.imm _ _ _ _)
theorem JL {h h':Hp} {n n' z z':Nat} {v:SV} {full full':Bool} (ho:E4 h n) (hh:∀o x,h o=some x->h' o=some x) (hf:full'=true->full=true) (hv:v=.imm z [] full):Bz n h' n' v (Is (.imm z' [] full') h n):=by
 subst hv;exact Dh 1 ho hh (A9 hf) (by simp[closed,closedL])
theorem Gd {P:Program} {h:Hp} {n z:Nat} {t t2 el:TypeId} {es:List SV} {full:Bool} (ht:A6 P t=some el) (ht2:(A6 P t2).isSome=true) (hz:Bh P el=z) (hz0:z≠0) (hst:(BH P el).storable=true) (hzl:(BH P el).cells.length=z)
 (hb:Bg P el<=65536) (hne:es≠[]) (hroom:es.length<=1073741824) (hrow:HM el=none:=by rfl):
 AS P h n .append [t,t2] [.imm z [] true,.imm z es full]=some { val:=.sl n 0 z es.length false,new:=some (.cells (es.flatMap SV.cells)) }:=by
 have h0:es.length≠0:=by cases es<;>simp at hne ⊢
 have hr:DU (0+es.length) (Bg P el)=true:=by simp[DU];exact⟨hroom,hb⟩
 simp only[AS,ht2,if_true,Cw,ht,EF,flat,hz,hzl,hst]
 simp[Ha,hz0,h0,hrow]
 simpa using hr
def Nz (z:Nat) (es:List SV) (h:Hp) (n:Nat):SV->Hp->Nat->Prop:=λv h' n'=>
 n<=n'/\(∀o x,h o=some x->h' o=some x)/\((es=[]/\∃z' full,v=.imm z' [] full)\/∃o full,n<=o/\o<n'/\v=.sl o 0 z es.length full/\h' o=some (.cells (es.flatMap SV.cells)))
abbrev LC (f:FuncId) (args:List SV) (z:Nat) (es:List SV):Prop:=∀h n,BM Tryz.prog f args h n (Nz z es h n)
theorem LC.pc {f:FuncId} {args:List SV} {z:Nat} {es:List SV} (H:LC f args z es) (hs:∀e∈es,e.storable=true/\e.cells.length=z) (hcl:∀n,closedL n es=true):PC f args (.imm z es false):=by
 intro h n
 refine⟨(H h n).1,λc vs I R F A=>((H h n).2 c vs I R F A).mono ?_⟩
 rintro e w' ⟨u,v,h',n',c',rfl,⟨hle,hh,hv⟩,rfl,hV,R',F',X⟩
 have ho:E4 h n:=λo x e=>G9 F (R.obj o x e)
 have hfz:Fz h' h 1 v (.imm z es false):=by
  rcases hv with⟨rfl,z',full,rfl⟩|⟨o,full,h1,h2,rfl,h3⟩
  . exact A9 (by simp)
  . exact Dj (ho.none h1) (by simp) h3 hs
 have RL:=R'.less hh
 have hv2:V ((c'.less h).cut h n) (.imm z es false) u:=(hfz.sound R' hh 1 hV).cut RL (λ_ _ e=>e) (by rw[closed];exact hcl n)
 refine⟨u,_,h,n,(c'.less h).cut h n,rfl,⟨rfl,rfl,rfl⟩,rfl,hv2,RL.cut (λo x e=>⟨e,ho o x e⟩),Rf,⟨P4 RL (λ_ _ e=>e) F (Y1 _) (X.ext.trans (DL R' hh)),Y1 _,λj hj=>?_⟩⟩
 simp only[Cx.cut,hj,if_true]
 exact X.same j hj
theorem LC.use {E:Br} {f:FuncId} {args:List SV} {z:Nat} {es:List SV} (H:LC f args z es) {h:Hp} {n:Nat} {K:SV->Hp->Nat->Prop} (hk:∀v h' n',Nz z es h n v h' n'->K v h' n'):Ak E Tryz.prog f args h n K:=
 Ak.lift ((H h n).mono hk)
structure AF.sized (h:AF):Prop where
 props:h.props.length<=1048576
 dels:h.dels.length<=1048576
 layers:h.layers.length<=1048576
mutual
def AE.sized:AE->Prop
 | .mk _ _ _ t h f r=>t.size<=1048576/\h.sized/\f.length<=1048576/\r.length<=1048576/\AE.sizedL f/\AW.sizedL r
def AE.sizedL:List AE->Prop
 | []=>True
 | x::l=>x.sized/\AE.sizedL l
def AW.sized:AW->Prop
 | .mk h c=>h.sized/\c.length<=1048576/\AL.sizedL c
def AW.sizedL:List AW->Prop
 | []=>True
 | x::l=>x.sized/\AW.sizedL l
def AL.sized:AL->Prop
 | .mk _ h f=>h.sized/\f.length<=1048576/\AE.sizedL f
def AL.sizedL:List AL->Prop
 | []=>True
 | x::l=>x.sized/\AL.sizedL l
end
theorem AE.sizedL_mem:∀{l:List AE},AE.sizedL l->∀x∈l,x.sized
 | _::_,h,x,hx=>by rw[AE.sizedL]at h;rcases Yg.1 hx with rfl|hx;exact h.1;exact AE.sizedL_mem h.2 x hx
theorem AW.sizedL_mem:∀{l:List AW},AW.sizedL l->∀x∈l,x.sized
 | _::_,h,x,hx=>by rw[AW.sizedL]at h;rcases Yg.1 hx with rfl|hx;exact h.1;exact AW.sizedL_mem h.2 x hx
theorem AL.sizedL_mem:∀{l:List AL},AL.sizedL l->∀x∈l,x.sized
 | _::_,h,x,hx=>by rw[AL.sizedL]at h;rcases Yg.1 hx with rfl|hx;exact h.1;exact AL.sizedL_mem h.2 x hx
theorem AE.sizedL_of:∀{l:List AE},(∀x∈l,x.sized)->AE.sizedL l
 | [],_=>by rw[AE.sizedL];trivial
 | x::l,h=>by rw[AE.sizedL];exact⟨h x (by simp),AE.sizedL_of λy hy=>h y (by simp[hy])⟩
theorem AW.sizedL_of:∀{l:List AW},(∀x∈l,x.sized)->AW.sizedL l
 | [],_=>by rw[AW.sizedL];trivial
 | x::l,h=>by rw[AW.sizedL];exact⟨h x (by simp),AW.sizedL_of λy hy=>h y (by simp[hy])⟩
theorem AL.sizedL_of:∀{l:List AL},(∀x∈l,x.sized)->AL.sizedL l
 | [],_=>by rw[AL.sizedL];trivial
 | x::l,h=>by rw[AL.sizedL];exact⟨h x (by simp),AL.sizedL_of λy hy=>h y (by simp[hy])⟩
section
variable {P : Program}
theorem FU {H:Hp} {n m k z:Nat} {es:List SV} {e:SV} {o:Option Nat} {t t2 el:TypeId} (ht:A6 P t=some el) (ht2:(A6 P t2).isSome=true) (hz:Bh P el=z) (hz0:z≠0) (hst:(BH P el).storable=true) (hzl:(BH P el).cells.length=z)
 (hb:Bg P el<=65536) (hroom:es.length+1<=1073741824) (hA:A7 n m z o es) (he:e.cells.length=z) (h1:H k=some (.cells e.cells)) (h2:∀j,o=some j->H j=some (.cells (es.flatMap SV.cells))) (p:Nat) (hrow:HM el=none:=by rfl):
 AS P H p .append [t,t2] [AN z o es,.sl k 0 z 1 true] =
  some { val:=.sl p 0 z (es.length+1) false,upd:=o.map λj=>(j,none),new:=some (.cells (es.flatMap SV.cells++e.cells)) }:=by
 have hfl:flat H (.sl k 0 z 1 true)=some e.cells:=by
  simp[flat,h1,Bk,he]
  exact Yl (by omega)
 have hr:DU (es.length+1) (Bg P el)=true:=by simp[DU];exact⟨by omega,hb⟩
 simp only[AS,ht2,if_true,Cw,ht,EF,hfl,hz,hzl,hst]
 cases o with
 | none=>
  have:=hA.none rfl
  subst this
  simp[AN,Ha,hz0,hrow]
  have hr':DU 1 (Bg P el)=true:=by simpa using hr
  exact hr'
 | some j =>
  have hf:flat H (.sl j 0 z es.length false)=some (es.flatMap SV.cells):=by
   simp only[flat,h2 j rfl,Bk,YW,BE hA.size,Y1,if_true,ZV]
   rw[<-BE hA.size,Ya]
  simp[AN,Ha,hz0,hf,hr,HS hrow]
end
theorem Dk {h H:Hp} {n m p z:Nat} {es:List SV} {e:SV} {o:Option Nat} {v:SV} (ho:E4 h n) (hn:n<=p) (hA:A7 n m z o es) (hH:∀j y,h j=some y->H j=some y):
 ∀j y,AO (some p) (es++[e]) h j=some y->(Cs.app H p { val:=v,upd:=o.map λj=>(j,none),new:=some (.cells (es.flatMap SV.cells++e.cells)) }) j=some y:=by
 intro j y hj
 simp only[AO]at hj
 by_cases e1:j=p
 . subst e1
   rw[AC]at hj
   simp only[Cs.app,AC]
   rw[<-hj];simp
 . rw[AD _ _ e1]at hj
   have hlt:=(ho j y hj).1
   cases o with
   | none=>simp[Cs.app,AD _ _ e1,hH j y hj]
   | some k=>
    have hk:j≠k:=by have:=(hA.lt k rfl).1;omega
    simp[Cs.app,AD _ _ e1,AD _ _ hk,hH j y hj]
theorem Dz {h:Hp} {o:Option Nat} {es:List SV}:∀j,o=some j->AO o es h j=some (.cells (es.flatMap SV.cells)):=by
 rintro j rfl;simp[AO,hset]
theorem Kb {h h':Hp} {n m m' z:Nat} {o:Option Nat} {es:List SV} (ho:E4 h n) (hA:A7 n m z o es) (hh:∀j y,AO o es h j=some y->h' j=some y) (hm:n<=m') (hm':m<=m'):Nz z es h n (AN z o es) h' m':=by
 refine⟨hm,λj x e=>hh j x (AO.old ho hA j x e),?_⟩
 cases o with
 | none=>exact .inl ⟨hA.none rfl,0,true,rfl⟩
 | some j=>exact .inr ⟨j,false,(hA.lt j rfl).1,ZN (hA.lt j rfl).2 hm',rfl,hh j _ (by simp[AO,hset])⟩
theorem If {z:Nat} {es:List SV} (hs:∀e∈es,e.storable=true/\e.cells.length=z) (i:Nat):(es.flatMap SV.cells).take (i*z)=(es.take i).flatMap SV.cells/\(es.flatMap SV.cells).drop (i*z)=(es.drop i).flatMap SV.cells:=by
 induction es generalizing i with
 | nil=>simp
 | cons e es ih =>
  cases i with
  | zero=>simp
  | succ i=>
   have he:=(hs e (by simp)).2
   obtain⟨h1,h2⟩:=ih (λx hx=>hs x (by simp[hx])) i
   have e1:(i+1)*z=e.cells.length+i*z:=by rw[he,Zg,Nat.one_mul,Nat.add_comm]
   simp only[YC,YY,Xb,e1]
   rw[List.take_length_add_append,ZD,h1,h2]
   exact⟨rfl,rfl⟩
theorem K6 {z:Nat} {es:List SV} (hs:∀e∈es,e.storable=true/\e.cells.length=z) {i:Nat} {e:SV} (h:es[i]? = some e):i*z+z<=(es.flatMap SV.cells).length/\((es.flatMap SV.cells).drop (i*z)).take z=e.cells:=by
 obtain⟨hlt,he⟩:=Y9.1 h
 have hz:=(hs e (by rw[<-he];exact Yc hlt)).2
 refine⟨?_,?_⟩
 . rw[BE hs]
   have:(i+1)*z<=es.length*z:=Za z hlt
   rw[Zg,Nat.one_mul]at this;exact this
 . rw[(If hs i).2,YA hlt,he,YC,<-hz,List.take_left]
theorem OO {z:Nat} {es:List SV} (hs:∀e∈es,e.storable=true/\e.cells.length=z) {j:Nat} {e:SV} (hj:j<es.length):(es.flatMap SV.cells).take (j*z)++(e.cells++(es.flatMap SV.cells).drop (j*z+z))=(es.set j e).flatMap SV.cells:=by
 have h1:=(If hs j).1
 have h2:=(If hs (j+1)).2
 rw[Zg,Nat.one_mul]at h2
 rw[h1,h2,Xe,if_pos hj]
 simp
section
variable {P : Program}
theorem GE {H:Hp} {n m k z j len:Nat} {es:List SV} {e:SV} {t t2 el:TypeId} (ht:A6 P t=some el) (ht2:(A6 P t2).isSome=true) (hz:Bh P el=z) (hz0:z≠0) (hst:(BH P el).storable=true) (hzl:(BH P el).cells.length=z)
 (hb:Bg P el<=65536) (hroom:es.length+1<=1073741824) (hA:A7 n m z (some j) es) (he:e.cells.length=z) (h1:H k=some (.cells e.cells)) (h2:H j=some (.cells (es.flatMap SV.cells))) (p:Nat) (hlen:len=es.length) (hrow:HM el=none:=by rfl):
 AS P H p .append [t,t2] [.sl j 0 z len false,.sl k 0 z 1 true] =
  some { val:=.sl p 0 z (es.length+1) false,upd:=some (j,none),new:=some (.cells (es.flatMap SV.cells++e.cells)) }:=by
 subst hlen
 exact FU (o:=some j) ht ht2 hz hz0 hst hzl hb hroom hA he h1 (λi e=>by cases e;exact h2) p hrow
theorem Ke {H:Hp} {k z:Nat} {e:SV} {t t2 el:TypeId} (ht:A6 P t=some el) (ht2:(A6 P t2).isSome=true) (hz:Bh P el=z) (hz0:z≠0) (hst:(BH P el).storable=true) (hzl:(BH P el).cells.length=z)
 (hb:Bg P el<=65536) (he:e.cells.length=z) (h1:H k=some (.cells e.cells)) (p:Nat) (hrow:HM el=none:=by rfl):
 AS P H p .append [t,t2] [.imm 0 [] true,.sl k 0 z 1 true]=some { val:=.sl p 0 z 1 false,new:=some (.cells e.cells) }:=
 FU (n:=0) (m:=0) (o:=none) (es:=[]) ht ht2 hz hz0 hst hzl hb (by simp) (Zs 0 0 z) he h1 (by simp) p hrow
end
theorem l185 (l:List E8) (hl:l.length<=1048576):LC 185 [.imm 2 (l.map E8.enc) false] 2 (l.map E8.enc):=by
 intro h n
 refine gq Tryz.func185 rfl λho=>?_
 simp[go_sem]
 refine Cg rfl (by kernel_rfl) rfl (λe=>?_) ?_
 . simp[go_sem]
   have:l=[]:=by simpa using e
   subst this
   exact .inl ⟨Y1 _,AB,.inl ⟨rfl,_,_,rfl⟩⟩
 . simp[go_sem]
   refine C3 (z:=2) rfl rfl (by kernel_rfl) ?_
   cases l with
   | nil=>
    simp[go_sem]
    exact .inl ⟨Y1 _,AB,.inl ⟨rfl,_,_,rfl⟩⟩
   | cons a l=>
    have hap:=Gd (P:=Tryz.prog) (h:=h) (n:=n) (t:=23) (t2:=23) (el:=193) (z:=2) (es:=(a::l).map E8.enc) (full:=false) (by simp[go_sem]) (by simp[go_sem]) (by simp[go_sem]) (by simp) (by simp[go_sem]) (by simp[go_sem]) (by simp[go_sem]) (by simp) (by simp at hl ⊢;omega)
    simp only[Yf]at hap
    simp[go_sem,hap]
    refine .inl ⟨YO n,AP ho (Y1 _) AB,.inr ⟨n,false,Y1 _,YD n,?_,?_⟩⟩
    . simp
    . simp[AC];rfl
theorem UQ (l:List E8) (hl:l.length<=1048576):PC 185 [.imm 2 (l.map E8.enc) false] (.imm 2 (l.map E8.enc) false):=(l185 l hl).pc (E8.E.size l) λn=>E8.E.closedL n l
theorem l186 (l:List BO) (hl:l.length<=1048576):LC 186 [.imm 2 (l.map BO.enc) false] 2 (l.map BO.enc):=by
 intro h n
 refine gq Tryz.func186 rfl λho=>?_
 simp[go_sem]
 refine Cg rfl (by kernel_rfl) rfl (λe=>?_) ?_
 . simp[go_sem]
   have:l=[]:=by simpa using e
   subst this
   exact .inl ⟨Y1 _,AB,.inl ⟨rfl,_,_,rfl⟩⟩
 . simp[go_sem]
   refine C3 (z:=2) rfl rfl (by kernel_rfl) ?_
   cases l with
   | nil=>
    simp[go_sem]
    exact .inl ⟨Y1 _,AB,.inl ⟨rfl,_,_,rfl⟩⟩
   | cons a l=>
    have hap:=Gd (P:=Tryz.prog) (h:=h) (n:=n) (t:=24) (t2:=24) (el:=166) (z:=2) (es:=(a::l).map BO.enc) (full:=false) (by simp[go_sem]) (by simp[go_sem]) (by simp[go_sem]) (by simp) (by simp[go_sem]) (by simp[go_sem]) (by simp[go_sem]) (by simp) (by simp at hl ⊢;omega)
    simp only[Yf]at hap
    simp[go_sem,hap]
    refine .inl ⟨YO n,AP ho (Y1 _) AB,.inr ⟨n,false,Y1 _,YD n,?_,?_⟩⟩
    . simp
    . simp[AC];rfl
theorem c186 (l:List BO) (hl:l.length<=1048576):PC 186 [.imm 2 (l.map BO.enc) false] (.imm 2 (l.map BO.enc) false):=(l186 l hl).pc (BO.E.size l) λn=>BO.E.closedL n l
theorem l187 (l:List Ax) (hl:l.length<=1048576):LC 187 [.imm 4 (l.map Ax.enc) false] 4 (l.map Ax.enc):=by
 intro h n
 refine gq Tryz.func187 rfl λho=>?_
 simp[go_sem]
 refine Cg rfl (by kernel_rfl) rfl (λe=>?_) ?_
 . simp[go_sem]
   have:l=[]:=by simpa using e
   subst this
   exact .inl ⟨Y1 _,AB,.inl ⟨rfl,_,_,rfl⟩⟩
 . simp[go_sem]
   refine C3 (z:=4) rfl rfl (by kernel_rfl) ?_
   cases l with
   | nil=>
    simp[go_sem]
    exact .inl ⟨Y1 _,AB,.inl ⟨rfl,_,_,rfl⟩⟩
   | cons a l=>
    have hap:=Gd (P:=Tryz.prog) (h:=h) (n:=n) (t:=25) (t2:=25) (el:=164) (z:=4) (es:=(a::l).map Ax.enc) (full:=false) (by simp[go_sem]) (by simp[go_sem]) (by simp[go_sem]) (by simp) (by simp[go_sem]) (by simp[go_sem]) (by simp[go_sem]) (by simp) (by simp at hl ⊢;omega)
    simp only[Yf]at hap
    simp[go_sem,hap]
    refine .inl ⟨YO n,AP ho (Y1 _) AB,.inr ⟨n,false,Y1 _,YD n,?_,?_⟩⟩
    . simp
    . simp[AC];rfl
theorem c187 (l:List Ax) (hl:l.length<=1048576):PC 187 [.imm 4 (l.map Ax.enc) false] (.imm 4 (l.map Ax.enc) false):=(l187 l hl).pc (Ax.E.size l) λn=>Ax.E.closedL n l
theorem l76 (l:List BD) (hl:l.length<=1048576):LC 76 [.imm 3 (l.map BD.enc) false] 3 (l.map BD.enc):=by
 intro h n
 refine gq Tryz.func76 rfl λho=>?_
 simp[go_sem]
 refine Cg rfl (by kernel_rfl) rfl (λe=>?_) ?_
 . simp[go_sem]
   have:l=[]:=by simpa using e
   subst this
   exact .inl ⟨Y1 _,AB,.inl ⟨rfl,_,_,rfl⟩⟩
 . simp[go_sem]
   refine C3 (z:=3) rfl rfl (by kernel_rfl) ?_
   cases l with
   | nil=>
    simp[go_sem]
    exact .inl ⟨Y1 _,AB,.inl ⟨rfl,_,_,rfl⟩⟩
   | cons a l=>
    have hap:=Gd (P:=Tryz.prog) (h:=h) (n:=n) (t:=30) (t2:=30) (el:=42) (z:=3) (es:=(a::l).map BD.enc) (full:=false) (by simp[go_sem]) (by simp[go_sem]) (by simp[go_sem]) (by simp) (by simp[go_sem]) (by simp[go_sem]) (by simp[go_sem]) (by simp) (by simp at hl ⊢;omega)
    simp only[Yf]at hap
    simp[go_sem,hap]
    refine .inl ⟨YO n,AP ho (Y1 _) AB,.inr ⟨n,false,Y1 _,YD n,?_,?_⟩⟩
    . simp
    . simp[AC];rfl
theorem c76 (l:List BD) (hl:l.length<=1048576):PC 76 [.imm 3 (l.map BD.enc) false] (.imm 3 (l.map BD.enc) false):=(l76 l hl).pc (BD.E.size l) λn=>BD.E.closedL n l
theorem l199 (l:List Az) (hl:l.length<=1048576):LC 199 [.imm 6 (l.map Az.enc) false] 6 (l.map Az.enc):=by
 intro h n
 refine gq Tryz.func199 rfl λho=>?_
 simp[go_sem]
 refine Cg rfl (by kernel_rfl) rfl (λe=>?_) ?_
 . simp[go_sem]
   have:l=[]:=by simpa using e
   subst this
   exact .inl ⟨Y1 _,AB,.inl ⟨rfl,_,_,rfl⟩⟩
 . simp[go_sem]
   refine C3 (z:=6) rfl rfl (by kernel_rfl) ?_
   cases l with
   | nil=>
    simp[go_sem]
    exact .inl ⟨Y1 _,AB,.inl ⟨rfl,_,_,rfl⟩⟩
   | cons a l=>
    have hap:=Gd (P:=Tryz.prog) (h:=h) (n:=n) (t:=31) (t2:=31) (el:=198) (z:=6) (es:=(a::l).map Az.enc) (full:=false) (by simp[go_sem]) (by simp[go_sem]) (by simp[go_sem]) (by simp) (by simp[go_sem]) (by simp[go_sem]) (by simp[go_sem]) (by simp) (by simp at hl ⊢;omega)
    simp only[Yf]at hap
    simp[go_sem,hap]
    refine .inl ⟨YO n,AP ho (Y1 _) AB,.inr ⟨n,false,Y1 _,YD n,?_,?_⟩⟩
    . simp
    . simp[AC];rfl
theorem l200 (l:List FQ) (hl:l.length<=1048576):LC 200 [.imm 2 (l.map FQ.enc) false] 2 (l.map FQ.enc):=by
 intro h n
 refine gq Tryz.func200 rfl λho=>?_
 simp[go_sem]
 refine Cg rfl (by kernel_rfl) rfl (λe=>?_) ?_
 . simp[go_sem]
   have:l=[]:=by simpa using e
   subst this
   exact .inl ⟨Y1 _,AB,.inl ⟨rfl,_,_,rfl⟩⟩
 . simp[go_sem]
   refine C3 (z:=2) rfl rfl (by kernel_rfl) ?_
   cases l with
   | nil=>
    simp[go_sem]
    exact .inl ⟨Y1 _,AB,.inl ⟨rfl,_,_,rfl⟩⟩
   | cons a l=>
    have hap:=Gd (P:=Tryz.prog) (h:=h) (n:=n) (t:=32) (t2:=32) (el:=103) (z:=2) (es:=(a::l).map FQ.enc) (full:=false) (by simp[go_sem]) (by simp[go_sem]) (by simp[go_sem]) (by simp) (by simp[go_sem]) (by simp[go_sem]) (by simp[go_sem]) (by simp) (by simp at hl ⊢;omega)
    simp only[Yf]at hap
    simp[go_sem,hap]
    refine .inl ⟨YO n,AP ho (Y1 _) AB,.inr ⟨n,false,Y1 _,YD n,?_,?_⟩⟩
    . simp
    . simp[AC];rfl
theorem l201 (l:List As) (hl:l.length<=1048576):LC 201 [.imm 6 (l.map As.enc) false] 6 (l.map As.enc):=by
 intro h n
 refine gq Tryz.func201 rfl λho=>?_
 simp[go_sem]
 refine Cg rfl (by kernel_rfl) rfl (λe=>?_) ?_
 . simp[go_sem]
   have:l=[]:=by simpa using e
   subst this
   exact .inl ⟨Y1 _,AB,.inl ⟨rfl,_,_,rfl⟩⟩
 . simp[go_sem]
   refine C3 (z:=6) rfl rfl (by kernel_rfl) ?_
   cases l with
   | nil=>
    simp[go_sem]
    exact .inl ⟨Y1 _,AB,.inl ⟨rfl,_,_,rfl⟩⟩
   | cons a l=>
    have hap:=Gd (P:=Tryz.prog) (h:=h) (n:=n) (t:=33) (t2:=33) (el:=115) (z:=6) (es:=(a::l).map As.enc) (full:=false) (by simp[go_sem]) (by simp[go_sem]) (by simp[go_sem]) (by simp) (by simp[go_sem]) (by simp[go_sem]) (by simp[go_sem]) (by simp) (by simp at hl ⊢;omega)
    simp only[Yf]at hap
    simp[go_sem,hap]
    refine .inl ⟨YO n,AP ho (Y1 _) AB,.inr ⟨n,false,Y1 _,YD n,?_,?_⟩⟩
    . simp
    . simp[AC];rfl
theorem c201 (l:List As) (hl:l.length<=1048576):PC 201 [.imm 6 (l.map As.enc) false] (.imm 6 (l.map As.enc) false):=(l201 l hl).pc (As.E.size l) λn=>As.E.closedL n l
theorem l202 (l:List Fa) (hl:l.length<=1048576):LC 202 [.imm 2 (l.map Fa.enc) false] 2 (l.map Fa.enc):=by
 intro h n
 refine gq Tryz.func202 rfl λho=>?_
 simp[go_sem]
 refine Cg rfl (by kernel_rfl) rfl (λe=>?_) ?_
 . simp[go_sem]
   have:l=[]:=by simpa using e
   subst this
   exact .inl ⟨Y1 _,AB,.inl ⟨rfl,_,_,rfl⟩⟩
 . simp[go_sem]
   refine C3 (z:=2) rfl rfl (by kernel_rfl) ?_
   cases l with
   | nil=>
    simp[go_sem]
    exact .inl ⟨Y1 _,AB,.inl ⟨rfl,_,_,rfl⟩⟩
   | cons a l=>
    have hap:=Gd (P:=Tryz.prog) (h:=h) (n:=n) (t:=34) (t2:=34) (el:=118) (z:=2) (es:=(a::l).map Fa.enc) (full:=false) (by simp[go_sem]) (by simp[go_sem]) (by simp[go_sem]) (by simp) (by simp[go_sem]) (by simp[go_sem]) (by simp[go_sem]) (by simp) (by simp at hl ⊢;omega)
    simp only[Yf]at hap
    simp[go_sem,hap]
    refine .inl ⟨YO n,AP ho (Y1 _) AB,.inr ⟨n,false,Y1 _,YD n,?_,?_⟩⟩
    . simp
    . simp[AC];rfl
theorem c202 (l:List Fa) (hl:l.length<=1048576):PC 202 [.imm 2 (l.map Fa.enc) false] (.imm 2 (l.map Fa.enc) false):=(l202 l hl).pc (Fa.E.size l) λn=>Fa.E.closedL n l
theorem l203 (l:List CV) (hl:l.length<=1048576):LC 203 [.imm 4 (l.map CV.enc) false] 4 (l.map CV.enc):=by
 intro h n
 refine gq Tryz.func203 rfl λho=>?_
 simp[go_sem]
 refine Cg rfl (by kernel_rfl) rfl (λe=>?_) ?_
 . simp[go_sem]
   have:l=[]:=by simpa using e
   subst this
   exact .inl ⟨Y1 _,AB,.inl ⟨rfl,_,_,rfl⟩⟩
 . simp[go_sem]
   refine C3 (z:=4) rfl rfl (by kernel_rfl) ?_
   cases l with
   | nil=>
    simp[go_sem]
    exact .inl ⟨Y1 _,AB,.inl ⟨rfl,_,_,rfl⟩⟩
   | cons a l=>
    have hap:=Gd (P:=Tryz.prog) (h:=h) (n:=n) (t:=101) (t2:=101) (el:=106) (z:=4) (es:=(a::l).map CV.enc) (full:=false) (by simp[go_sem]) (by simp[go_sem]) (by simp[go_sem]) (by simp) (by simp[go_sem]) (by simp[go_sem]) (by simp[go_sem]) (by simp) (by simp at hl ⊢;omega)
    simp only[Yf]at hap
    simp[go_sem,hap]
    refine .inl ⟨YO n,AP ho (Y1 _) AB,.inr ⟨n,false,Y1 _,YD n,?_,?_⟩⟩
    . simp
    . simp[AC];rfl
theorem c203 (l:List CV) (hl:l.length<=1048576):PC 203 [.imm 4 (l.map CV.enc) false] (.imm 4 (l.map CV.enc) false):=(l203 l hl).pc (CV.E.size l) λn=>CV.E.closedL n l
theorem PP (h0:AF) (hs:h0.sized):PC 118 [h0.enc] h0.enc:=by
 intro h n
 refine gq Tryz.func118 rfl λho=>?_
 simp[go_sem,AF.enc,AF.flat,AC,AD]
 refine(UQ _ hs.props).use ?_
 simp[go_sem,AC,AD]
 repeat first|refine nq ?_|refine sq ?_|refine aq ?_
 refine Z6 _ _ _ _ _ _ (c186 _ hs.dels) ?_
 simp[go_sem,AC]
 repeat first|refine nq ?_|refine sq ?_|refine aq ?_
 refine Z6 _ _ _ _ _ _ (c187 _ hs.layers) ?_
 simp[go_sem,AC,AD]
 repeat first|refine nq ?_|refine sq ?_|refine aq ?_
 exact Au ho (by repeat(first|exact AB|refine AP ho (by omega) ?_)) rfl (AF.E.cl n h0)
theorem l174 (l:List AE) (hl:l.length<=1048576) (g:FuncId) (a b:List SV) (f:AE->AE) (hf:∀(i:Nat) (h:i<l.length),PC g (a++[AE.enc l[i]]++b) (AE.enc (f l[i]))):LC 174 [.imm 11 (l.map AE.enc) false,.fn (.func g) a b] 11 ((l.map f).map AE.enc):=by
 intro h n
 generalize hR:(l.map f).map AE.enc=R
 refine gq Tryz.func174 rfl λho=>?_
 simp[go_sem]
 refine Am 1 (α:=Nat×Option Nat) (λq=>[(1,.fn (.func g) a b),(5,AN 11 q.2 (((l.take q.1).map f).map AE.enc)),(8,.imm 11 (l.map AE.enc) false),(9,AA l.length),(10,AA q.1)]) (λq=>AO q.2 (((l.take q.1).map f).map AE.enc) h)
  (λq m=>q.1<=l.length/\n<=m/\A7 n m 11 q.2 (((l.take q.1).map f).map AE.enc)) (λq=>l.length-q.1) (0,none) ?_ ?_ AB ?_
 . simp;exact Zs _ _ _
 . simp[Aj,AN]
 rintro⟨k,o⟩ m ⟨hk,hnm,hA⟩
 dsimp only at hk hA ⊢
 have hlen:(((l.take k).map f).map AE.enc).length=k:=by simp;omega
 by_cases hlt:k<l.length
 . have w1:=wS k (by omega)
   obtain⟨x,hx⟩:∃x,l[k]=x:=⟨_,rfl⟩
   have H:=hf k hlt
   rw[hx]at H
   simp only[Ye,Yq,Yt]at H
   have hgx:(l.map AE.enc)[k]? = some x.enc:=by simp[hlt,hx]
   have htk:((l.take (k+1)).map f).map AE.enc=((l.take k).map f).map AE.enc++[(f x).enc]:=by rw[Y2 hlt,hx];simp
   have hpush:=hA.push (j:=m+1+1) (m':=m+1+1+1) (e:=(f x).enc) (AE.E.st _) (AE.E.len _) (by omega) (by omega)
   rw[<-htk]at hpush
   generalize hes:((l.take k).map f).map AE.enc=es at hA htk hlen ⊢
   simp only[Yz]at hgx
   simp[go_sem,hlt,hx,Yh,AC,-List.map_map,-List.map_take]
   refine Yj (by simpa[Yh]using H) ?_
   simp[go_sem,-List.map_map,-List.map_take]
   rw[FU (es:=es) (e:=(f x).enc) (o:=o) (t:=22) (t2:=22) (el:=70) (z:=11) (by simp[go_sem]) (by simp[go_sem]) (by simp[go_sem]) (by simp) (by simp[go_sem]) (by simp[go_sem]) (by simp[go_sem]) (by omega) hA (AE.E.len _) ?a1 ?a2]
   case a1=>simp[AC,Yh,SV.cells]
   case a2=>
    intro j e
    have:=(hA.lt j e).2
    rw[AD _ _ (by omega),AD _ _ (by omega),AD _ _ (by omega)];exact Dz j e
   simp[go_sem,w1,-Int.natCast_add,-List.map_map,-List.map_take]
   refine⟨k+1,by omega,some (m+1+1),⟨by omega,by omega,hpush⟩,⟨?_,Y0⟩,?_⟩
   . rw[htk];simp[AN,Y0]
   . rw[htk]
     have:=Dk (p:=m+1+1) (v:=.sl (m+1+1) 0 11 (es.length+1) false) (e:=(f x).enc) ho (by omega) hA (H:=hset (hset (hset (AO o es h) m (some (.cells [.int .i64 0,.int .i64 0,.int .i64 0,.str .empty,.imm 0 [] true,.int .i64 0,.int .i64 0,.imm 0 [] true,.imm 0 [] true,.imm 0 [] true,.imm 0 [] true]))) m (some (.cells x.enc.cells))) (m+1) (some (.cells (f x).enc.cells)))
      (AP ho (by omega) (AP ho (by omega) (AP ho (by omega) (AO.old ho hA))))
     simpa[Yh,SV.cells,Cs.app]using this
 . have:k=l.length:=by omega
   subst this
   simp only[Ya,hR]at hA ⊢
   simp[go_sem,-List.map_map,-List.map_take]
   exact .inl (Kb ho hA AB hnm (Y1 _))
theorem l134 (l:List AW) (hl:l.length<=1048576) (g:FuncId) (a b:List SV) (f:AW->AW) (hf:∀(i:Nat) (h:i<l.length),PC g (a++[AW.enc l[i]]++b) (AW.enc (f l[i]))):LC 134 [.imm 6 (l.map AW.enc) false,.fn (.func g) a b] 6 ((l.map f).map AW.enc):=by
 intro h n
 generalize hR:(l.map f).map AW.enc=R
 refine gq Tryz.func134 rfl λho=>?_
 simp[go_sem]
 refine Am 1 (α:=Nat×Option Nat) (λq=>[(1,.fn (.func g) a b),(5,AN 6 q.2 (((l.take q.1).map f).map AW.enc)),(8,.imm 6 (l.map AW.enc) false),(9,AA l.length),(10,AA q.1)]) (λq=>AO q.2 (((l.take q.1).map f).map AW.enc) h)
  (λq m=>q.1<=l.length/\n<=m/\A7 n m 6 q.2 (((l.take q.1).map f).map AW.enc)) (λq=>l.length-q.1) (0,none) ?_ ?_ AB ?_
 . simp;exact Zs _ _ _
 . simp[Aj,AN]
 rintro⟨k,o⟩ m ⟨hk,hnm,hA⟩
 dsimp only at hk hA ⊢
 have hlen:(((l.take k).map f).map AW.enc).length=k:=by simp;omega
 by_cases hlt:k<l.length
 . have w1:=wS k (by omega)
   obtain⟨x,hx⟩:∃x,l[k]=x:=⟨_,rfl⟩
   have H:=hf k hlt
   rw[hx]at H
   simp only[Ye,Yq,Yt]at H
   have hgx:(l.map AW.enc)[k]? = some x.enc:=by simp[hlt,hx]
   have htk:((l.take (k+1)).map f).map AW.enc=((l.take k).map f).map AW.enc++[(f x).enc]:=by rw[Y2 hlt,hx];simp
   have hpush:=hA.push (j:=m+1+1) (m':=m+1+1+1) (e:=(f x).enc) (AW.E.st _) (AW.E.len _) (by omega) (by omega)
   rw[<-htk]at hpush
   generalize hes:((l.take k).map f).map AW.enc=es at hA htk hlen ⊢
   simp only[Yz]at hgx
   simp[go_sem,hlt,hx,YB,AC,-List.map_map,-List.map_take]
   refine Yj (by simpa[YB]using H) ?_
   simp[go_sem,-List.map_map,-List.map_take]
   rw[FU (es:=es) (e:=(f x).enc) (o:=o) (t:=68) (t2:=68) (el:=169) (z:=6) (by simp[go_sem]) (by simp[go_sem]) (by simp[go_sem]) (by simp) (by simp[go_sem]) (by simp[go_sem]) (by simp[go_sem]) (by omega) hA (AW.E.len _) ?a1 ?a2]
   case a1=>simp[AC,YB,SV.cells]
   case a2=>
    intro j e
    have:=(hA.lt j e).2
    rw[AD _ _ (by omega),AD _ _ (by omega),AD _ _ (by omega)];exact Dz j e
   simp[go_sem,w1,-Int.natCast_add,-List.map_map,-List.map_take]
   refine⟨k+1,by omega,some (m+1+1),⟨by omega,by omega,hpush⟩,⟨?_,Y0⟩,?_⟩
   . rw[htk];simp[AN,Y0]
   . rw[htk]
     have:=Dk (p:=m+1+1) (v:=.sl (m+1+1) 0 6 (es.length+1) false) (e:=(f x).enc) ho (by omega) hA (H:=hset (hset (hset (AO o es h) m (some (.cells [.imm 0 [] true,.int .i64 0,.int .i64 0,.imm 0 [] true,.imm 0 [] true,.imm 0 [] true]))) m (some (.cells x.enc.cells))) (m+1) (some (.cells (f x).enc.cells)))
      (AP ho (by omega) (AP ho (by omega) (AP ho (by omega) (AO.old ho hA))))
     simpa[YB,SV.cells,Cs.app]using this
 . have:k=l.length:=by omega
   subst this
   simp only[Ya,hR]at hA ⊢
   simp[go_sem,-List.map_map,-List.map_take]
   exact .inl (Kb ho hA AB hnm (Y1 _))
theorem l194 (l:List AL) (hl:l.length<=1048576) (g:FuncId) (a b:List SV) (f:AL->AL) (hf:∀(i:Nat) (h:i<l.length),PC g (a++[AL.enc l[i]]++b) (AL.enc (f l[i]))):LC 194 [.imm 7 (l.map AL.enc) false,.fn (.func g) a b] 7 ((l.map f).map AL.enc):=by
 intro h n
 generalize hR:(l.map f).map AL.enc=R
 refine gq Tryz.func194 rfl λho=>?_
 simp[go_sem]
 refine Am 1 (α:=Nat×Option Nat) (λq=>[(1,.fn (.func g) a b),(5,AN 7 q.2 (((l.take q.1).map f).map AL.enc)),(8,.imm 7 (l.map AL.enc) false),(9,AA l.length),(10,AA q.1)]) (λq=>AO q.2 (((l.take q.1).map f).map AL.enc) h)
  (λq m=>q.1<=l.length/\n<=m/\A7 n m 7 q.2 (((l.take q.1).map f).map AL.enc)) (λq=>l.length-q.1) (0,none) ?_ ?_ AB ?_
 . simp;exact Zs _ _ _
 . simp[Aj,AN]
 rintro⟨k,o⟩ m ⟨hk,hnm,hA⟩
 dsimp only at hk hA ⊢
 have hlen:(((l.take k).map f).map AL.enc).length=k:=by simp;omega
 by_cases hlt:k<l.length
 . have w1:=wS k (by omega)
   obtain⟨x,hx⟩:∃x,l[k]=x:=⟨_,rfl⟩
   have H:=hf k hlt
   rw[hx]at H
   simp only[Ye,Yq,Yt]at H
   have hgx:(l.map AL.enc)[k]? = some x.enc:=by simp[hlt,hx]
   have htk:((l.take (k+1)).map f).map AL.enc=((l.take k).map f).map AL.enc++[(f x).enc]:=by rw[Y2 hlt,hx];simp
   have hpush:=hA.push (j:=m+1+1) (m':=m+1+1+1) (e:=(f x).enc) (AL.E.st _) (AL.E.len _) (by omega) (by omega)
   rw[<-htk]at hpush
   generalize hes:((l.take k).map f).map AL.enc=es at hA htk hlen ⊢
   simp only[Yz]at hgx
   simp[go_sem,hlt,hx,Z9,AC,-List.map_map,-List.map_take]
   refine Yj (by simpa[Z9]using H) ?_
   simp[go_sem,-List.map_map,-List.map_take]
   rw[FU (es:=es) (e:=(f x).enc) (o:=o) (t:=167) (t2:=167) (el:=171) (z:=7) (by simp[go_sem]) (by simp[go_sem]) (by simp[go_sem]) (by simp) (by simp[go_sem]) (by simp[go_sem]) (by simp[go_sem]) (by omega) hA (AL.E.len _) ?a1 ?a2]
   case a1=>simp[AC,Z9,SV.cells]
   case a2=>
    intro j e
    have:=(hA.lt j e).2
    rw[AD _ _ (by omega),AD _ _ (by omega),AD _ _ (by omega)];exact Dz j e
   simp[go_sem,w1,-Int.natCast_add,-List.map_map,-List.map_take]
   refine⟨k+1,by omega,some (m+1+1),⟨by omega,by omega,hpush⟩,⟨?_,Y0⟩,?_⟩
   . rw[htk];simp[AN,Y0]
   . rw[htk]
     have:=Dk (p:=m+1+1) (v:=.sl (m+1+1) 0 7 (es.length+1) false) (e:=(f x).enc) ho (by omega) hA (H:=hset (hset (hset (AO o es h) m (some (.cells [.int .i64 0,.imm 0 [] true,.int .i64 0,.int .i64 0,.imm 0 [] true,.imm 0 [] true,.imm 0 [] true]))) m (some (.cells x.enc.cells))) (m+1) (some (.cells (f x).enc.cells)))
      (AP ho (by omega) (AP ho (by omega) (AP ho (by omega) (AO.old ho hA))))
     simpa[Z9,SV.cells,Cs.app]using this
 . have:k=l.length:=by omega
   subst this
   simp only[Ya,hR]at hA ⊢
   simp[go_sem,-List.map_map,-List.map_take]
   exact .inl (Kb ho hA AB hnm (Y1 _))
theorem NJ (l:List AE) (hl:l.length<=1048576) (H:∀(i:Nat) (h:i<l.length),PC 175 [(l[i]).enc] (l[i]).enc):PC 110 [AG l] (AG l):=by
 intro h n
 refine gq Tryz.func110 rfl λho=>?_
 simp[go_sem]
 have h1:=(l174 l hl 175 [] [] id (λi hi=>H i hi)).pc (by rw[ZU];exact AE.E.size l) (λn=>by rw[ZU];exact AE.E.closedL n l)
 rw[ZU]at h1
 refine h1.use ?_
 simp[go_sem]
 exact A3 ho (AE.E.imm _ _ _ _) rfl
theorem TB (x:AL) (hs:x.head.sized) (H:PC 110 [AG x.flow] (AG x.flow)):PC 249 [x.enc] x.enc:=by
 intro h n
 refine gq Tryz.func249 rfl λho=>?_
 simp[go_sem,Z9,AC,AD]
 repeat first|refine nq ?_|refine sq ?_|refine aq ?_
 refine Z6 _ _ _ _ _ _ (by simpa[AF.enc,AF.flat]using PP x.head hs) ?_
 simp[go_sem,AC,AD]
 repeat first|refine nq ?_|refine sq ?_|refine aq ?_
 refine Z6 _ _ _ _ _ _ H ?_
 simp[go_sem,AC]
 repeat first|refine nq ?_|refine sq ?_|refine aq ?_
 exact Au ho (by repeat(first|exact AB|refine AP ho (by omega) ?_)) rfl (by rw[<-Z9];exact AL.cl n x)
theorem S9 (x:AW) (hs:x.head.sized) (hc:x.cells.length<=1048576) (H:∀(i:Nat) (h:i<x.cells.length),PC 249 [(x.cells[i]).enc] (x.cells[i]).enc):PC 176 [x.enc] x.enc:=by
 intro h n
 refine gq Tryz.func176 rfl λho=>?_
 have h1:=(l194 x.cells hc 249 [] [] id (λi hi=>H i hi)).pc (by rw[ZU];exact AL.E.size _) (λn=>by rw[ZU];exact AL.E.closedL n _)
 rw[ZU]at h1
 simp[go_sem,YB,AC,AD]
 repeat first|refine nq ?_|refine sq ?_|refine aq ?_
 refine Z6 _ _ _ _ _ _ (by simpa[AF.enc,AF.flat]using PP x.head hs) ?_
 simp[go_sem,AC,AD]
 repeat first|refine nq ?_|refine sq ?_|refine aq ?_
 refine Z6 _ _ _ _ _ _ h1 ?_
 simp[go_sem,AC]
 repeat first|refine nq ?_|refine sq ?_|refine aq ?_
 exact Au ho (by repeat(first|exact AB|refine AP ho (by omega) ?_)) rfl (by rw[<-YB];exact AW.cl n x)
theorem S8 (x:AE) (hs:x.head.sized) (hr:x.rows.length<=1048576) (H:PC 110 [AG x.flow] (AG x.flow)) (H2:∀(i:Nat) (h:i<x.rows.length),PC 176 [(x.rows[i]).enc] (x.rows[i]).enc):PC 175 [x.enc] x.enc:=by
 intro h n
 refine gq Tryz.func175 rfl λho=>?_
 have h1:=(l134 x.rows hr 176 [] [] id (λi hi=>H2 i hi)).pc (by rw[ZU];exact AW.E.size _) (λn=>by rw[ZU];exact AW.E.closedL n _)
 rw[ZU]at h1
 simp[go_sem,Yh,AC,AD]
 repeat first|refine nq ?_|refine sq ?_|refine aq ?_
 refine Z6 _ _ _ _ _ _ (by simpa[AF.enc,AF.flat]using PP x.head hs) ?_
 simp[go_sem,AC,AD]
 repeat first|refine nq ?_|refine sq ?_|refine aq ?_
 refine Z6 _ _ _ _ _ _ H ?_
 simp[go_sem,AC,AD]
 repeat first|refine nq ?_|refine sq ?_|refine aq ?_
 refine Z6 _ _ _ _ _ _ h1 ?_
 simp[go_sem,AC,AD]
 repeat first|refine nq ?_|refine sq ?_|refine aq ?_
 exact Au ho (by repeat(first|exact AB|refine AP ho (by omega) ?_)) rfl (by rw[<-Yh];exact AE.cl n x)
mutual
theorem c175:∀x:AE,x.sized->PC 175 [x.enc] x.enc
 | .mk k c i t hd f r,hs=>by
  rw[AE.sized]at hs
  exact S8 (.mk k c i t hd f r) hs.2.1 hs.2.2.2.1 (NJ f hs.2.2.1 (P1 f hs.2.2.2.2.1)) (Tv r hs.2.2.2.2.2)
theorem P1:∀l:List AE,AE.sizedL l->∀(i:Nat) (h:i<l.length),PC 175 [(l[i]).enc] (l[i]).enc
 | [],_,i,h=>by simp at h
 | x::l,hs,0,_=>by rw[AE.sizedL]at hs;exact c175 x hs.1
 | x::l,hs,i+1,h=>by rw[AE.sizedL]at hs;exact P1 l hs.2 i (by simpa using h)
theorem c176:∀x:AW,x.sized->PC 176 [x.enc] x.enc
 | .mk hd c,hs=>by
  rw[AW.sized]at hs
  exact S9 (.mk hd c) hs.1 hs.2.1 (Tz c hs.2.2)
theorem Tv:∀l:List AW,AW.sizedL l->∀(i:Nat) (h:i<l.length),PC 176 [(l[i]).enc] (l[i]).enc
 | [],_,i,h=>by simp at h
 | x::l,hs,0,_=>by rw[AW.sizedL]at hs;exact c176 x hs.1
 | x::l,hs,i+1,h=>by rw[AW.sizedL]at hs;exact Tv l hs.2 i (by simpa using h)
theorem c249:∀x:AL,x.sized->PC 249 [x.enc] x.enc
 | .mk i hd f,hs=>by
  rw[AL.sized]at hs
  exact TB (.mk i hd f) hs.1 (NJ f hs.2.1 (P1 f hs.2.2))
theorem Tz:∀l:List AL,AL.sizedL l->∀(i:Nat) (h:i<l.length),PC 249 [(l[i]).enc] (l[i]).enc
 | [],_,i,h=>by simp at h
 | x::l,hs,0,_=>by rw[AL.sizedL]at hs;exact c249 x hs.1
 | x::l,hs,i+1,h=>by rw[AL.sizedL]at hs;exact Tz l hs.2 i (by simpa using h)
end
theorem c110 (l:List AE) (hl:l.length<=1048576) (hs:AE.sizedL l):PC 110 [AG l] (AG l):=NJ l hl (P1 l hs)
end Go.Proofs.YtgakninlhfkkmaaGreat.Sh
