/- A part of the proof (part 4 of 14). -/
import Derived.Test.YtgakninlhfkkmaaGreatM3
import Derived.RangeFuncIn
import Derived.Laws.StructEq
namespace Go.Proofs.YtgakninlhfkkmaaGreat.Sh
abbrev KW := @AE.enc_eq
abbrev Y4 := @PC.use
abbrev YL := @Bq.pure
abbrev YP := @AL.enc_eq
abbrev Yj := @AR.enc_eq
abbrev ZQ := @Ak.fz
abbrev Zp := @BQ.nil
open Proofs
set_option maxRecDepth 10000
theorem Jd (a b c : Int) : PC 155 [AA a, AA b, AA c] (.bool (decide (b ≤ a ∧ a ≤ c))) := by
 intro h n
 refine gq Tryz.func155 rfl fun ho => ?_
 by_cases h1 : b ≤ a <;> simp [go_sem, h1]
 · exact A3 ho rfl (by simp [])
 · exact A3 ho rfl (by simp [])
theorem Iy (b : Bool) (e : Int) : PC 87 [.bool b, AA e] (AA (if b then e else 0)) := by
 intro h n
 refine gq Tryz.func87 rfl fun ho => ?_
 cases b <;> simp [go_sem]
 · exact A3 ho rfl rfl
 · exact A3 ho rfl rfl
def CH : List Int → Int
 | [] => 0
 | e :: l => if e = 0 then CH l else e
theorem N4 (l : List Int) (k : Nat) (hk : k < l.length) : CH (l.drop k) = if l[k] = 0 then CH (l.drop (k + 1)) else l[k] := by
 rw [Yi hk, CH]
theorem Oz (l : List Int) (hl : l.length ≤ 1048576) : PC 82 [.imm 1 (l.map AA) false] (AA (CH l)) := by
 intro h n
 refine gq Tryz.func82 rfl fun ho => ?_
 simp [go_sem]
 refine Aq 1 (α := Nat) (fun k => [(5, .imm 1 (l.map AA) false), (6, AA l.length), (7, AA k)]) (fun _ => h) (fun k m => k ≤ l.length ∧ n ≤ m ∧ CH l = CH (l.drop k)) (fun k => l.length - k) 0 ?_ ?_ AB ?_
 · simp
 · simp [Am]
 rintro k m ⟨hk, hnm, hf⟩
 by_cases hlt : k < l.length
 · have w1 := wS k (by omega)
   rw [N4 l k hlt] at hf
   by_cases h0 : l[k] = 0
   · simp [go_sem, hlt, h0, w1, -Int.natCast_add]
     exact ⟨k + 1, by omega, ⟨by omega, hnm, by simpa [h0] using hf⟩, Jo⟩
   · simp [go_sem, hlt, h0]
     exact A3 ho rfl (by simp [hf, h0])
 · simp [go_sem, hlt]
   have : k = l.length := by omega
   subst this
   simp [CH] at hf
   exact A3 ho rfl (by rw [hf])
def D9 (s : ByteArray) : Bool := decide (1 ≤ s.size ∧ s.size ≤ 40) && Bd s
theorem c154 (s : ByteArray) (hs : s.size ≤ 1099511627776) : PC 154 [.str s] (.bool (D9 s)) := by
 intro h n
 refine gq Tryz.func154 rfl fun ho => ?_
 by_cases h1 : (1 : Int) ≤ s.size
 · have h1' : 1 ≤ s.size := by omega
   by_cases h2 : (s.size : Int) ≤ 40
   · have h2' : s.size ≤ 40 := by omega
     simp [go_sem, h1, h2]
     refine (O8 s hs).use ?_
     simp [go_sem]
     exact A3 ho rfl (by simp [D9, h1', h2'])
   · have h2' : ¬ s.size ≤ 40 := by omega
     simp [go_sem, h1, h2]
     exact A3 ho rfl (by simp [D9, h2'])
 · have h1' : ¬ 1 ≤ s.size := by omega
   simp [go_sem, h1]
   exact A3 ho rfl (by simp [D9, h1'])
def NV (s : ByteArray) : Int := CH [if !Bd s then 12 else 0, if decide ((1024 : Int) < s.size) then 10 else 0]
theorem c217 (s : ByteArray) (hs : s.size ≤ 1099511627776) : PC 217 [.str s] (AA (NV s)) := by
 intro h n
 refine gq Tryz.func217 rfl fun ho => ?_
 simp [go_sem]
 refine (O8 s hs).use ?_
 simp [go_sem]
 refine (Iy _ _).use ?_
 simp [go_sem]
 refine (Iy _ _).use ?_
 simp [go_sem]
 refine (Oz [if !Bd s then 12 else 0, if decide ((1024 : Int) < s.size) then 10 else 0] (by simp)).lend 2 rfl ?_ ?_
 · simp [AY, Fz, hset, Bm, SV.storable, SV.cells]
 · simp [go_sem]
   exact Ax ho (AN ho (JO _) AB) (by simp [NV]) rfl
def Gg (F : Nat → Int) (i : Nat) : Int := if ¬ (1 ≤ F i ∧ F i ≤ 1073741824) then 18 else if 0 < i ∧ F i = F (i - 1) then 7 else if 0 < i ∧ F i < F (i - 1) then 6 else 0
theorem UH (i : Nat) (hi : i ≤ 1099511627776) (g : FuncId) (a b : List SV) (F : Nat → Int) (hF : ∀ j, j ≤ i → PC g (a ++ [AA j] ++ b) (AA (F j))) : PC 152 [AA i, .fn (.func g) a b] (AA (Gg F i)) := by
 intro h n
 refine gq Tryz.func152 rfl fun ho => ?_
 have F0 := hF i (JO _)
 have F1 := hF (i - 1) (by omega)
 simp only [KF, XA] at F0 F1
 simp [go_sem]
 refine F0.use ?_
 simp [go_sem]
 refine (Jd _ _ _).use ?_
 by_cases h1 : 1 ≤ F i ∧ F i ≤ 1073741824
 · by_cases h0 : 0 < i
   · have e1 : IntKind.i64.wrap ((i : Int) - 1) = ((i - 1 : Nat) : Int) := by rw [DJ] <;> omega
     simp [go_sem, h1, h0]
     refine F0.use ?_
     simp [go_sem, e1]
     refine F1.use ?_
     by_cases h2 : F i = F (i - 1)
     · simp [go_sem, h2]
       have e : Gg F i = 7 := by unfold Gg; rw [if_neg (by simpa using h1), if_pos ⟨h0, h2⟩]
       exact A3 ho rfl (by rw [e])
     · simp [go_sem, h2, h0]
       refine F0.use ?_
       simp [go_sem, e1]
       refine F1.use ?_
       by_cases h3 : F i < F (i - 1)
       · simp [go_sem, h3]
         exact A3 ho rfl (by simp [Gg, h1, h0, h2, h3])
       · simp [go_sem, h3]
         exact A3 ho rfl (by simp [Gg, h1, h0, h2, h3])
   · simp [go_sem, h1, h0]
     exact A3 ho rfl (by simp [Gg, h1, h0])
 · simp [go_sem, h1]
   exact A3 ho rfl (by simp [Gg, h1])
def E4 (F : Nat → Int) : Nat → Int
 | 0 => 0
 | n + 1 => if E4 F n = 0 then F n else E4 F n
theorem IS (F : Nat → Int) {k n : Nat} (hk : k < n) (h0 : E4 F k = 0) (h1 : F k ≠ 0) : E4 F n = F k := by
 induction n with
 | zero => omega
 | succ n ih =>
  rw [E4]
  by_cases e : k = n
  · subst e; simp [h0]
  · have := ih (by omega)
    rw [this, if_neg h1]
theorem c150 (N : Nat) (hN : N ≤ 1099511627776) (g : FuncId) (a b : List SV) (F : Nat → Int) (hF : ∀ j, j < N → PC g (a ++ [AA j] ++ b) (AA (F j))) : PC 150 [AA N, .fn (.func g) a b] (AA (E4 F N)) := by
 intro h n
 refine gq Tryz.func150 rfl fun ho => ?_
 simp [go_sem]
 refine Aq 1 (α := Nat) (fun k => [(1, .fn (.func g) a b), (7, AA N), (8, AA k)]) (fun _ => h) (fun k m => k ≤ N ∧ n ≤ m ∧ E4 F k = 0) (fun k => N - k) 0 ?_ ?_ AB ?_
 · simp [E4]
 · simp [Am]
 rintro k m ⟨hk, hnm, hf⟩
 by_cases hlt : k < N
 · have w1 := wS k (by omega)
   have F0 := hF k hlt
   simp only [KF, XA] at F0
   simp [go_sem, hlt]
   refine F0.use ?_
   by_cases h0 : F k = 0
   · simp [go_sem, h0, w1, -Int.natCast_add]
     exact ⟨k + 1, by omega, ⟨by omega, hnm, by simp [E4, hf, h0]⟩, Jo⟩
   · simp [go_sem, h0]
     exact A3 ho rfl (by rw [IS F hlt hf h0])
 · simp [go_sem, hlt]
   have : k = N := by omega
   subst this
   exact A3 ho rfl (by rw [hf])
theorem c153 (l : List Av) (i : Nat) (hi : i < l.length) : PC 153 [AA i, .iptr [Aj l]] (AA (l[i]).id) := by
 intro h n
 refine gq Tryz.func153 rfl fun ho => ?_
 simp [go_sem, hi, Av.enc]
 exact A3 ho rfl rfl
def Ik (l : List Av) (i : Nat) : Int := match l[i]? with
 | some r => CH [Gg (fun j => match l[j]? with | some r => r.id | none => 0) i, if !D9 r.author then 39 else 0, if !decide (0 ≤ r.time ∧ r.time ≤ 1099511627776) then 40 else 0]
 | none => 0
theorem c151 (l : List Av) (i : Nat) (hi : i < l.length) (hl : l.length ≤ 1048576) (hs : ∀ r ∈ l, r.author.size ≤ 1048576) : PC 151 [AA i, .iptr [Aj l]] (AA (Ik l i)) := by
 intro h n
 refine gq Tryz.func151 rfl fun ho => ?_
 simp [go_sem]
 repeat first | refine nq ?_ | refine sq ?_
 have h152 := UH i (by omega) 153 [] [.iptr [Aj l]] (fun j => match l[j]? with | some r => r.id | none => 0) (fun j hj => by
  have hjl : j < l.length := by omega
  simpa [hjl] using c153 l j hjl)
 refine YL _ _ _ _ _ _ h152 ?_
 simp [go_sem, hi, Av.enc]
 repeat first | refine nq ?_ | refine sq ?_
 refine YL _ _ _ _ _ _ (c154 _ (by have := hs _ (Kn hi); omega)) ?_
 simp [go_sem]
 repeat first | refine nq ?_ | refine sq ?_
 refine YL _ _ _ _ _ _ (Iy _ _) ?_
 simp [go_sem, hi, Av.enc]
 repeat first | refine nq ?_ | refine sq ?_
 refine YL _ _ _ _ _ _ (Jd _ _ _) ?_
 simp [go_sem]
 repeat first | refine nq ?_ | refine sq ?_
 refine YL _ _ _ _ _ _ (Iy _ _) ?_
 simp [go_sem]
 repeat first | refine nq ?_ | refine sq ?_
 refine Bq.lend _ _ _ _ _ _ 2 [n] (Oz [Gg (fun j => match l[j]? with | some r => r.id | none => 0) i, if !D9 (l[i]).author then 39 else 0, if !decide (0 ≤ (l[i]).time ∧ (l[i]).time ≤ 1099511627776) then 40 else 0] (by simp)) rfl (by simp) (fun h' hh => ?_) ?_
 · have := hh n (by simp)
   simp [hset] at this
   simp [AY, Fz, this, Bm, SV.storable, SV.cells]
 simp [go_sem]
 repeat first | refine nq ?_ | refine sq ?_
 exact Ax ho (AN ho (JO _) AB) (by simp [Ik, hi]) rfl
def EI (l : List Av) : Int := CH [if decide (256 < (l.length : Int)) then 9 else 0, E4 (Ik l) (min l.length 256)]
theorem c84 (l : List Av) (hl : l.length ≤ 1048576) (hs : ∀ r ∈ l, r.author.size ≤ 1048576) : PC 84 [Aj l] (AA (EI l)) := by
 intro h n
 refine gq Tryz.func84 rfl fun ho => ?_
 simp [go_sem, AC]
 repeat first | refine nq ?_ | refine sq ?_
 refine YL _ _ _ _ _ _ (Iy _ _) ?_
 have emin : (if (256 : Int) < (l.length : Int) then (256 : Int) else (l.length : Int)) = ((min l.length 256 : Nat) : Int) := by split <;> omega
 simp [go_sem, AC, emin]
 repeat first | refine nq ?_ | refine sq ?_
 have h150 := c150 (min l.length 256) (by omega) 151 [] [.iptr [Aj l]] (Ik l) (fun j hj => c151 l j (by omega) hl hs)
 refine Bq.lend _ _ _ _ _ _ 3 [n] h150 rfl (by simp) (fun h' hh => ?_) ?_
 · have := hh n (by simp)
   simp [hset] at this
   simp [AY, Fz, this]
 simp [go_sem]
 repeat first | refine nq ?_ | refine sq ?_
 refine Bq.lend _ _ _ _ _ _ 2 [n + 1] (Oz [if decide (256 < (l.length : Int)) then 9 else 0, E4 (Ik l) (min l.length 256)] (by simp)) rfl (by simp) (fun h' hh => ?_) ?_
 · have := hh (n + 1) (by simp)
   simp [hset] at this
   simp [AY, Fz, this, Bm, SV.storable, SV.cells]
 simp [go_sem]
 repeat first | refine nq ?_ | refine sq ?_
 exact Ax ho (AN ho (YA n) (AN ho (JO _) AB)) (by simp [EI]) rfl
theorem UI (a : Int) : PC 170 [AA a] (.bool false) := by
 intro h n
 refine gq Tryz.func170 rfl fun ho => ?_
 simp [go_sem]
 exact A3 ho rfl rfl
def GD (a b : Int) : Int := if a < b then -1 else if b < a then 1 else 0
theorem Sx (a b : Int) : PC 100 [AA a, AA b] (AA (GD a b)) := by
 intro h n
 refine gq Tryz.func100 rfl fun ho => ?_
 simp [go_sem]
 refine (UI _).use ?_
 simp [go_sem]
 refine (UI _).use ?_
 by_cases h1 : a < b <;> by_cases h2 : b < a <;> simp [go_sem, h1, h2]
 all_goals exact A3 ho rfl (by simp [GD, h1, h2])
def BU (p : Nat → Bool) (n : Nat) (k : Nat) : Int := if _ : k < n then if p k then k else BU p n (k + 1) else -1
termination_by n - k
theorem Fg (p : Nat → Bool) (n k : Nat) : BU p n k = -1 ∨ ∃ i, k ≤ i ∧ i < n ∧ BU p n k = i ∧ p i = true := by
 rw [BU]
 by_cases h : k < n
 · by_cases hp : p k = true
   · exact .inr ⟨k, JO _, h, by simp [h, hp], hp⟩
   · have := Fg p n (k + 1)
     simp only [h, dite_true, hp]
     rcases this with e | ⟨i, h1, h2, h3, h4⟩
     · exact .inl (by simpa using e)
     · exact .inr ⟨i, by omega, h2, by simpa using h3, h4⟩
 · exact .inl (by simp [h])
termination_by n - k
theorem c178 (l : List Int) (x : Int) (hl : l.length ≤ 1048576) : PC 178 [.imm 1 (l.map AA) false, AA x] (AA (BU (fun i => decide (l[i]? = some x)) l.length 0)) := by
 intro h n
 refine gq Tryz.func178 rfl fun ho => ?_
 simp [go_sem]
 refine Aq 1 (α := Nat) (fun k => [(0, .imm 1 (l.map AA) false), (1, AA x), (7, AA l.length), (8, AA k)]) (fun _ => h) (fun k m => k ≤ l.length ∧ n ≤ m ∧ BU (fun i => decide (l[i]? = some x)) l.length 0 = BU (fun i => decide (l[i]? = some x)) l.length k) (fun k => l.length - k) 0 ?_ ?_ AB ?_
 · simp
 · simp [Am]
 rintro k m ⟨hk, hnm, hf⟩
 rw [BU.eq_def _ _ k] at hf
 by_cases hlt : k < l.length
 · have w1 := wS k (by omega)
   by_cases h0 : x = l[k]
   · simp [go_sem, hlt, h0]
     exact A3 ho rfl (by rw [← h0, hf]; simp [hlt, h0])
   · simp [go_sem, hlt, h0, w1, -Int.natCast_add]
     exact ⟨k + 1, by omega, ⟨by omega, hnm, by rw [hf]; simp [hlt, Ne.symm h0]⟩, Jo⟩
 · simp [go_sem, hlt]
   exact A3 ho rfl (by rw [hf]; simp [hlt])
theorem PO (l : List Int) (x : Int) : decide (0 ≤ BU (fun i => decide (l[i]? = some x)) l.length 0) = decide (x ∈ l) := by
 have gen : ∀ k, k ≤ l.length → (0 ≤ BU (fun i => decide (l[i]? = some x)) l.length k ↔ x ∈ l.drop k) := by
  intro k hk
  induction hd : l.length - k generalizing k with
  | zero =>
   have : k = l.length := by omega
   subst this
   rw [BU]; simp
  | succ d ih =>
   have hlt : k < l.length := by omega
   have hd : x ∈ l.drop k ↔ x = l[k] ∨ x ∈ l.drop (k + 1) := by rw [Yi hlt, Y0]
   rw [BU, hd]
   by_cases e : l[k] = x
   · simp [hlt, e]
   · have := ih (k + 1) (by omega) (by omega)
     simp [hlt, e, this, Ne.symm e]
 have := gen 0 (K2 _)
 simp only [Zs] at this
 simp [this]
theorem UG (l : List Int) (x : Int) (hl : l.length ≤ 1048576) : PC 113 [.imm 1 (l.map AA) false, AA x] (.bool (decide (x ∈ l))) := by
 intro h n
 refine gq Tryz.func113 rfl fun ho => ?_
 simp [go_sem]
 refine (c178 l x hl).use ?_
 simp [go_sem]
 exact A3 ho rfl (by rw [PO])
def E8 (c : Nat → Int) (i j : Nat) : Nat := if _ : i < j then if c ((i + j) / 2) < 0 then E8 c ((i + j) / 2 + 1) j else E8 c i ((i + j) / 2) else i
termination_by j - i
def A8 (c : Nat → Int) (n : Nat) : Nat × Bool := (E8 c 0 n, decide (E8 c 0 n < n ∧ c (E8 c 0 n) = 0))
theorem Sm {x : Int} (h0 : 0 ≤ x) (h1 : x ≤ 4611686018427387904) : IntKind.u64.wrap x = x := IntWalk.u64_in x (by omega)
structure IM where
 number : Int
 group : Int
 low : Int
 high : Int
 standard : Int
 name : ByteArray
def IM.enc (k : IM) : SV := .agg [AA k.number, AA k.group, AA k.low, AA k.high, AA k.standard, .str k.name]
theorem c306 (l : List IM) (hl : l.length ≤ 1048576) (t : SV) (g : FuncId) (a b : List SV) (c : Nat → Int) (hc : ∀ (i : Nat) (h : i < l.length), PC g (a ++ [IM.enc l[i], t] ++ b) (AA (c i))) :
 PC 306 [.imm 6 (l.map IM.enc) false, t, .fn (.func g) a b] (.tup [AA (A8 c l.length).1, .bool (A8 c l.length).2]) := by
 intro h n
 refine gq Tryz.func306 rfl fun ho => ?_
 simp [go_sem]
 refine Aq 1 (α := Nat × Nat) (fun q => [(0, .imm 6 (l.map IM.enc) false), (1, t), (2, .fn (.func g) a b), (8, AA l.length), (9, AA q.1), (10, AA q.2)]) (fun _ => h) (fun q m => q.1 ≤ q.2 ∧ q.2 ≤ l.length ∧ n ≤ m ∧ E8 c 0 l.length = E8 c q.1 q.2) (fun q => q.2 - q.1) (0, l.length) ?_ ?_ AB ?_
 · simp
 · simp [Am]
 rintro ⟨i, j⟩ m ⟨hij, hj, hnm, hf⟩
 dsimp only at hij hj hf
 by_cases hlt : i < j
 · have hm : (i + j) / 2 < l.length := by omega
   have w1 : IntKind.i64.wrap ((i : Int) + j) = ((i + j : Nat) : Int) := by rw [DJ] <;> omega
   have w2 : IntKind.u64.wrap ((i + j : Nat) : Int) = ((i + j : Nat) : Int) := by rw [Sm] <;> omega
   have w3 : (((i + j : Nat) : Int)).fdiv 2 = (((i + j) / 2 : Nat) : Int) := by rw [Xg _ (by omega)]; omega
   have w4 : IntKind.i64.wrap (((i + j) / 2 : Nat) : Int) = (((i + j) / 2 : Nat) : Int) := by rw [DJ] <;> omega
   have w5 : IntKind.i64.wrap ((((i + j) / 2 : Nat) : Int) + 1) = (((i + j) / 2 + 1 : Nat) : Int) := by rw [DJ] <;> omega
   have H := hc _ hm
   simp only [KF, Y7, Yc] at H
   rw [E8.eq_def c i j] at hf
   simp [go_sem, hlt, w1, w2, w3, w4, hm, IM.enc, -Int.natCast_add, -Int.natCast_ediv]
   refine Y4 (by simpa [IM.enc] using H) ?_
   by_cases hb : c ((i + j) / 2) < 0
   · simp [hlt, hb] at hf
     simp [go_sem, hb, w5, -Int.natCast_add, -Int.natCast_ediv]
     exact ⟨(i + j) / 2 + 1, j, by omega, ⟨by omega, hj, hnm, hf⟩, Jo, Jo⟩
   · simp [hlt, hb] at hf
     simp [go_sem, hb, -Int.natCast_add, -Int.natCast_ediv]
     exact ⟨i, (i + j) / 2, by omega, ⟨by omega, by omega, hnm, hf⟩, Jo, Jo⟩
 · have e : E8 c 0 l.length = i := by rw [hf, E8.eq_def]; simp [hlt]
   by_cases hi : i < l.length
   · have H := hc i hi
     simp only [KF, Y7, Yc] at H
     simp [go_sem, hlt, hi, IM.enc]
     refine Y4 (by simpa [IM.enc] using H) ?_
     simp [go_sem]
     exact A3 ho rfl (by simp [A8, e, hi]; by_cases h0 : c i = 0 <;> simp [h0])
   · simp [go_sem, hlt, hi]
     exact A3 ho rfl (by simp [A8, e, hi])
theorem c131 (l : List Av) (hl : l.length ≤ 1048576) (t : SV) (g : FuncId) (a b : List SV) (c : Nat → Int) (hc : ∀ (i : Nat) (h : i < l.length), PC g (a ++ [Av.enc l[i], t] ++ b) (AA (c i))) :
 PC 131 [.imm 3 (l.map Av.enc) false, t, .fn (.func g) a b] (.tup [AA (A8 c l.length).1, .bool (A8 c l.length).2]) := by
 intro h n
 refine gq Tryz.func131 rfl fun ho => ?_
 simp [go_sem]
 refine Aq 1 (α := Nat × Nat) (fun q => [(0, .imm 3 (l.map Av.enc) false), (1, t), (2, .fn (.func g) a b), (8, AA l.length), (9, AA q.1), (10, AA q.2)]) (fun _ => h) (fun q m => q.1 ≤ q.2 ∧ q.2 ≤ l.length ∧ n ≤ m ∧ E8 c 0 l.length = E8 c q.1 q.2) (fun q => q.2 - q.1) (0, l.length) ?_ ?_ AB ?_
 · simp
 · simp [Am]
 rintro ⟨i, j⟩ m ⟨hij, hj, hnm, hf⟩
 dsimp only at hij hj hf
 by_cases hlt : i < j
 · have hm : (i + j) / 2 < l.length := by omega
   have w1 : IntKind.i64.wrap ((i : Int) + j) = ((i + j : Nat) : Int) := by rw [DJ] <;> omega
   have w2 : IntKind.u64.wrap ((i + j : Nat) : Int) = ((i + j : Nat) : Int) := by rw [Sm] <;> omega
   have w3 : (((i + j : Nat) : Int)).fdiv 2 = (((i + j) / 2 : Nat) : Int) := by rw [Xg _ (by omega)]; omega
   have w4 : IntKind.i64.wrap (((i + j) / 2 : Nat) : Int) = (((i + j) / 2 : Nat) : Int) := by rw [DJ] <;> omega
   have w5 : IntKind.i64.wrap ((((i + j) / 2 : Nat) : Int) + 1) = (((i + j) / 2 + 1 : Nat) : Int) := by rw [DJ] <;> omega
   have H := hc _ hm
   simp only [KF, Y7, Yc] at H
   rw [E8.eq_def c i j] at hf
   simp [go_sem, hlt, w1, w2, w3, w4, hm, Av.enc, -Int.natCast_add, -Int.natCast_ediv]
   refine Y4 (by simpa [Av.enc] using H) ?_
   by_cases hb : c ((i + j) / 2) < 0
   · simp [hlt, hb] at hf
     simp [go_sem, hb, w5, -Int.natCast_add, -Int.natCast_ediv]
     exact ⟨(i + j) / 2 + 1, j, by omega, ⟨by omega, hj, hnm, hf⟩, Jo, Jo⟩
   · simp [hlt, hb] at hf
     simp [go_sem, hb, -Int.natCast_add, -Int.natCast_ediv]
     exact ⟨i, (i + j) / 2, by omega, ⟨by omega, by omega, hnm, hf⟩, Jo, Jo⟩
 · have e : E8 c 0 l.length = i := by rw [hf, E8.eq_def]; simp [hlt]
   by_cases hi : i < l.length
   · have H := hc i hi
     simp only [KF, Y7, Yc] at H
     simp [go_sem, hlt, hi, Av.enc]
     refine Y4 (by simpa [Av.enc] using H) ?_
     simp [go_sem]
     exact A3 ho rfl (by simp [A8, e, hi]; by_cases h0 : c i = 0 <;> simp [h0])
   · simp [go_sem, hlt, hi]
     exact A3 ho rfl (by simp [A8, e, hi])
set_option maxRecDepth 100000
def Bp : List IM := [
 ⟨1, 1, 0, 1073741824, 0, ⟨#[99, 104, 97, 114, 97, 99, 116, 101, 114, 45, 115, 116, 121, 108, 101]⟩⟩,
 ⟨2, 1, 0, 1, 0, ⟨#[98, 111, 108, 100]⟩⟩,
 ⟨3, 1, 0, 1, 0, ⟨#[105, 116, 97, 108, 105, 99]⟩⟩,
 ⟨4, 1, 0, 3, 0, ⟨#[117, 110, 100, 101, 114, 108, 105, 110, 101]⟩⟩,
 ⟨5, 1, 2, 1638, 22, ⟨#[115, 105, 122, 101]⟩⟩,
 ⟨6, 1, 0, 16777215, 0, ⟨#[99, 111, 108, 111, 114]⟩⟩,
 ⟨7, 1, 0, 63, 0, ⟨#[102, 111, 110, 116]⟩⟩,
 ⟨8, 1, 0, 255, 0, ⟨#[108, 97, 110, 103, 117, 97, 103, 101]⟩⟩,
 ⟨9, 1, (-400), 400, 0, ⟨#[114, 97, 105, 115, 101]⟩⟩,
 ⟨10, 1, 0, 1, 0, ⟨#[104, 105, 100, 100, 101, 110]⟩⟩,
 ⟨20, 2, 0, 1073741824, 0, ⟨#[112, 97, 114, 97, 103, 114, 97, 112, 104, 45, 115, 116, 121, 108, 101]⟩⟩,
 ⟨21, 2, 0, 3, 0, ⟨#[97, 108, 105, 103, 110]⟩⟩,
 ⟨22, 2, (-31680), 31680, 0, ⟨#[108, 101, 102, 116]⟩⟩,
 ⟨23, 2, (-31680), 31680, 0, ⟨#[114, 105, 103, 104, 116]⟩⟩,
 ⟨24, 2, (-31680), 31680, 0, ⟨#[102, 105, 114, 115, 116]⟩⟩,
 ⟨25, 2, 0, 31680, 0, ⟨#[98, 101, 102, 111, 114, 101]⟩⟩,
 ⟨26, 2, 0, 31680, 0, ⟨#[97, 102, 116, 101, 114]⟩⟩,
 ⟨27, 2, 0, 31680, 0, ⟨#[108, 101, 97, 100, 105, 110, 103]⟩⟩,
 ⟨28, 2, 0, 1, 0, ⟨#[107, 101, 101, 112, 45, 110, 101, 120, 116]⟩⟩,
 ⟨29, 2, 0, 1, 0, ⟨#[107, 101, 101, 112, 45, 108, 105, 110, 101, 115]⟩⟩,
 ⟨30, 2, 0, 1, 1, ⟨#[119, 105, 100, 111, 119]⟩⟩,
 ⟨31, 2, 0, 1, 0, ⟨#[112, 97, 103, 101, 45, 98, 101, 102, 111, 114, 101]⟩⟩,
 ⟨32, 2, 0, 9, 0, ⟨#[111, 117, 116, 108, 105, 110, 101]⟩⟩,
 ⟨33, 2, 0, 1073741824, 0, ⟨#[108, 105, 115, 116]⟩⟩,
 ⟨34, 2, 1, 9, 1, ⟨#[108, 101, 118, 101, 108]⟩⟩,
 ⟨35, 2, 0, 32767, 0, ⟨#[114, 101, 115, 116, 97, 114, 116]⟩⟩,
 ⟨36, 2, 1, 31680, 720, ⟨#[116, 97, 98, 45, 115, 116, 111, 112]⟩⟩,
 ⟨37, 2, 0, 1, 0, ⟨#[104, 121, 112, 104, 101, 110, 97, 116, 101]⟩⟩,
 ⟨40, 3, 720, 31680, 12240, ⟨#[112, 97, 103, 101, 45, 119, 105, 100, 116, 104]⟩⟩,
 ⟨41, 3, 720, 31680, 15840, ⟨#[112, 97, 103, 101, 45, 104, 101, 105, 103, 104, 116]⟩⟩,
 ⟨42, 3, 0, 31680, 1440, ⟨#[116, 111, 112]⟩⟩,
 ⟨43, 3, 0, 31680, 1440, ⟨#[98, 111, 116, 116, 111, 109]⟩⟩,
 ⟨44, 3, 0, 31680, 1440, ⟨#[105, 110, 110, 101, 114]⟩⟩,
 ⟨45, 3, 0, 31680, 1440, ⟨#[111, 117, 116, 101, 114]⟩⟩,
 ⟨46, 3, 0, 32767, 0, ⟨#[102, 105, 114, 115, 116, 45, 112, 97, 103, 101]⟩⟩,
 ⟨47, 3, 1, 6, 1, ⟨#[112, 97, 103, 101, 45, 102, 111, 114, 109, 97, 116]⟩⟩,
 ⟨50, 4, 0, 1, 0, ⟨#[104, 101, 97, 100, 101, 114]⟩⟩,
 ⟨51, 4, 0, 1, 0, ⟨#[99, 97, 110, 116, 45, 115, 112, 108, 105, 116]⟩⟩,
 ⟨52, 4, 0, 31680, 0, ⟨#[114, 111, 119, 45, 104, 101, 105, 103, 104, 116]⟩⟩,
 ⟨60, 5, 1, 32, 1, ⟨#[99, 111, 108, 117, 109, 110, 45, 115, 112, 97, 110]⟩⟩,
 ⟨61, 5, 0, 2, 0, ⟨#[118, 101, 114, 116, 105, 99, 97, 108, 45, 109, 101, 114, 103, 101]⟩⟩,
 ⟨62, 5, 0, 31680, 0, ⟨#[99, 101, 108, 108, 45, 119, 105, 100, 116, 104]⟩⟩,
 ⟨63, 5, 0, 16777215, 16777215, ⟨#[115, 104, 97, 100, 101]⟩⟩,
 ⟨70, 6, 0, 31680, 0, ⟨#[116, 97, 98, 108, 101, 45, 119, 105, 100, 116, 104]⟩⟩,
 ⟨71, 6, 0, 2, 0, ⟨#[116, 97, 98, 108, 101, 45, 97, 108, 105, 103, 110]⟩⟩]
def HZ : List SV := Bp.flatMap fun k => k.enc.cells
theorem Us (Q : Exit → SV → Hp → Nat → Prop) (h : Hp) (n : Nat) : swp Tryz.prog 47 (Tryz.f305.body.getD .ret) (fun e sa h n => Q e (Am sa 0) h n) [] h n = Q .ret (.sl n 0 6 45 true) (hset h n (some (.cells HZ))) (n + 1) := by kernel_rfl
theorem c305 : PC 305 [] (.imm 6 (Bp.map IM.enc) false) := by
 intro h n
 refine gq Tryz.func305 rfl fun ho => ?_
 rw [EP]
 have e := Us (fun e v h' n' => (e = .normal ∨ e = .ret) ∧ ∃ rs, some [v] = some rs ∧ CE n h' n' (JN rs) (Is (.imm 6 (Bp.map IM.enc) false) h n)) h n
 refine cast e.symm ⟨.inr rfl, _, rfl, ?_⟩
 refine Db 1 ho (AN ho (JO _) AB) (.inr ⟨ho.none (JO _), by simp, by kernel_rfl, rfl, HZ, HZ, AC _ _ _, by kernel_rfl, ?_, ?_⟩) ?_
 · intro x hx
   simp only [Y5] at hx
   obtain ⟨k, _, rfl⟩ := hx
   exact ⟨rfl, rfl⟩
 · have all : ∀ l : List SV, AY (Fz (hset h n (some (.cells HZ))) h 0) l l := by
    intro l; induction l with
    | nil => trivial
    | cons a l ih => exact ⟨Jo, ih⟩
   have e : (Bp.map IM.enc).flatMap SV.cells = HZ := by kernel_rfl
   rw [e]; exact all _
 · rw [closed]
   refine Df.2 fun x hx => ?_
   simp only [Y5] at hx
   obtain ⟨k, _, rfl⟩ := hx
   rfl
end Go.Proofs.YtgakninlhfkkmaaGreat.Sh
namespace Go.Proofs.YtgakninlhfkkmaaGreat.Sh
open Proofs
set_option maxRecDepth 100000
theorem c307 (k : IM) (t : Int) : PC 307 [k.enc, AA t] (AA (GD k.number t)) := by
 intro h n
 refine gq Tryz.func307 rfl fun ho => ?_
 simp [go_sem, IM.enc, AC]
 refine (Sx _ _).use ?_
 simp [go_sem]
 exact Ax ho (AN ho (JO _) AB) rfl rfl
def G2 (t : Int) (i : Nat) : Int := match Bp[i]? with | some k => GD k.number t | none => 0
def EB (t : Int) : Option IM := if (A8 (G2 t) Bp.length).2 then Bp[(A8 (G2 t) Bp.length).1]? else none
def IM.zero : IM := ⟨0, 0, 0, 0, 0, ⟨#[]⟩⟩
theorem Lr : Bp.length = 45 := by kernel_rfl
theorem c273 (t : Int) : PC 273 [AA t] (.tup [((EB t).getD IM.zero).enc, .bool (EB t).isSome]) := by
 intro h n
 refine gq Tryz.func273 rfl fun ho => ?_
 simp [go_sem]
 refine c305.use ?_
 simp [go_sem]
 refine (c306 Bp (by rw [Lr]; omega) (AA t) 307 [] [] (G2 t) (fun i hi => by simpa [G2, hi] using c307 Bp[i] t)).use ?_
 by_cases hb : (A8 (G2 t) Bp.length).2 = true
 · have hi : (A8 (G2 t) Bp.length).1 < Bp.length := by
    simp only [A8, decide_eq_true_eq] at hb
    exact hb.1
   have hf : EB t = some Bp[(A8 (G2 t) Bp.length).1] := by simp [EB, hb, hi]
   generalize hk : Bp[(A8 (G2 t) Bp.length).1] = k at hf
   have hg : (Bp.map IM.enc)[(A8 (G2 t) Bp.length).1]? = some k.enc := by rw [← hk]; simp [hi]
   simp only [Yh] at hg
   simp [go_sem, hb, hg, IM.enc, AC]
   refine Ax ho (fun o y e => ?_) (by simp [hf]) rfl
   have := (ho o y e).1
   have ne : o ≠ n := by omega
   simp [hset, ne, e]
 · have hf : EB t = none := by simp [EB, hb]
   simp [go_sem, hb, AC]
   refine Ax ho (fun o y e => ?_) (by simp [hf, IM.zero, IM.enc]; rfl) rfl
   have := (ho o y e).1
   have ne : o ≠ n := by omega
   simp [hset, ne, e]
def CA (e : Int) : List Int :=
 if e = 1 ∨ e = 4 ∨ e = 5 ∨ e = 6 then [1] else if e = 2 then [1, 2] else if e = 3 then [3] else if e = 7 then [6] else if e = 9 then [4] else if e = 10 then [5] else []
theorem c274 (e : Int) : PC 274 [AA e] (.imm 1 ((CA e).map AA) false) := by
 intro h n
 refine gq Tryz.func274 rfl fun ho => ?_
 have fin : ∀ (g : List Int) (m : Nat), n ≤ m → CE n (hset h m (some (.cells (g.map AA)))) (m + 1) (.sl m 0 1 g.length true) (Is (.imm 1 (g.map AA) false) h n) := fun g m hm => by
  refine Db 1 ho (AN ho hm AB) (.inr ⟨ho.none hm, by simp, by simp, rfl, _, _, AC _ _ _, by simp [Bm]; rfl, ?_, ?_⟩) ?_
  · intro x hx; simp at hx; obtain ⟨_, _, rfl⟩ := hx; exact ⟨rfl, rfl⟩
  · have e : (g.map AA).flatMap SV.cells = g.map AA := by induction g with | nil => rfl | cons a l ih => simpa [SV.cells] using ih
    rw [e]
    have all : ∀ l : List SV, AY (Fz (hset h m (some (.cells (g.map AA)))) h 0) l l := by
     intro l; induction l with
     | nil => trivial
     | cons a l ih => exact ⟨Jo, ih⟩
    rw [Y8 (by simp)]
    exact all _
  · rw [closed]; refine Df.2 fun x hx => ?_
    simp only [Y5] at hx
    obtain ⟨k, _, rfl⟩ := hx
    rfl
 by_cases h1 : e = 1
 · subst h1; simp [go_sem, CA]; exact fin [1] n (JO _)
 by_cases h4 : e = 4
 · subst h4; simp [go_sem, CA]; exact fin [1] n (JO _)
 by_cases h5 : e = 5
 · subst h5; simp [go_sem, CA]; exact fin [1] n (JO _)
 by_cases h6 : e = 6
 · subst h6; simp [go_sem, CA]; exact fin [1] n (JO _)
 by_cases h2 : e = 2
 · subst h2; simp [go_sem, CA]; exact fin [1, 2] n (JO _)
 by_cases h3 : e = 3
 · subst h3; simp [go_sem, CA]; exact fin [3] n (JO _)
 by_cases h7 : e = 7
 · subst h7; simp [go_sem, CA]; exact fin [6] n (JO _)
 by_cases h9 : e = 9
 · subst h9; simp [go_sem, CA]; exact fin [4] n (JO _)
 by_cases h10 : e = 10
 · subst h10; simp [go_sem, CA]; exact fin [5] n (JO _)
 simp [go_sem, CA, h1, h2, h3, h4, h5, h6, h7, h9, h10]
 exact Db 1 ho AB (.inr ⟨by simp, .inl rfl, trivial, by simp⟩) rfl
def QV (el key : Int) : Bool := match EB key with | some k => decide (k.group ∈ CA el) | none => false
theorem LS (e : Int) : (CA e).length ≤ 1048576 := by unfold CA; (repeat' split) <;> simp
theorem c220 (el key : Int) : PC 220 [AA el, AA key] (.bool (QV el key)) := by
 intro h n
 refine gq Tryz.func220 rfl fun ho => ?_
 simp [go_sem]
 refine (c273 key).use ?_
 cases hf : EB key with
 | none =>
  simp [go_sem, IM.zero, IM.enc, AC]
  repeat first | refine nq ?_ | refine sq ?_
  refine Ax ho (fun o y e => ?_) (by simp [QV, hf]) rfl
  have := (ho o y e).1
  have ne : o ≠ n := by omega
  simp [hset, ne, e]
 | some k =>
  simp [go_sem, IM.enc, AC]
  repeat first | refine nq ?_ | refine sq ?_
  refine YL _ _ _ _ _ _ (c274 el) ?_
  simp [go_sem, AC]
  repeat first | refine nq ?_ | refine sq ?_
  refine YL _ _ _ _ _ _ (UG (CA el) k.group (LS el)) ?_
  simp [go_sem]
  repeat first | refine nq ?_ | refine sq ?_
  refine Ax ho (fun o y e => ?_) (by simp [QV, hf]) rfl
  have := (ho o y e).1
  have ne : o ≠ n := by omega
  simp [hset, ne, e]
def EF (key v : Int) : Int := match EB key with | some k => if v < k.low ∨ k.high < v then 5 else 0 | none => 4
theorem UL (key v : Int) : PC 221 [AA key, AA v] (AA (EF key v)) := by
 intro h n
 refine gq Tryz.func221 rfl fun ho => ?_
 simp [go_sem]
 refine (c273 key).use ?_
 have hh : ∀ a b : Option BY, ∀ o x, h o = some x → hset (hset h n a) n b o = some x := fun a b o y e => by
  have := (ho o y e).1
  have ne : o ≠ n := by omega
  simp [hset, ne, e]
 cases hf : EB key with
 | none =>
  simp [go_sem, IM.zero, IM.enc, AC]
  exact Ax ho (hh _ _) (by simp [EF, hf]) rfl
 | some k =>
  by_cases h1 : v < k.low <;> by_cases h2 : k.high < v <;> simp [go_sem, IM.enc, AC, h1, h2]
  all_goals exact Ax ho (hh _ _) (by simp [EF, hf, h1, h2]) rfl
def DW (el : Int) (l : List Eu) (i : Nat) : Int := match l[i]? with
 | some p => if !QV el p.key then 4 else if decide (0 < i) && ((l[i - 1]?).map Eu.key == some p.key) then 7
  else if decide (0 < i) && (match l[i - 1]? with | some q => decide (p.key < q.key) | none => false) then 6 else EF p.key p.value
 | none => 0
def Fw (el : Int) (l : List Eu) : Int := if el < 1 ∨ 10 < el then 3 else E4 (DW el l) l.length
theorem c156 (el : Int) (l : List Eu) (hl : l.length ≤ 1048576) : PC 156 [AA el, Ag l] (AA (Fw el l)) := by
 intro h n
 refine gq Tryz.func156 rfl fun ho => ?_
 by_cases e1 : el < 1
 · simp [go_sem, e1]; exact A3 ho rfl (by simp [Fw, e1])
 by_cases e2 : 10 < el
 · simp [go_sem, e1, e2]; exact A3 ho rfl (by simp [Fw, e2])
 have hP : Fw el l = E4 (DW el l) l.length := by simp [Fw, e1, e2]
 rw [hP]
 simp [go_sem, e1, e2]
 refine Aq 1 (α := Nat) (fun k => [(0, AA el), (1, Ag l), (14, Ag l), (15, AA l.length), (16, AA k)]) (fun _ => h) (fun k m => k ≤ l.length ∧ n ≤ m ∧ E4 (DW el l) k = 0) (fun k => l.length - k) 0 ?_ ?_ AB ?_
 · simp [E4]
 · simp [Am]
 rintro k m ⟨hk, hnm, hf⟩
 have hh : ∀ a b : Option BY, ∀ o x, h o = some x → hset (hset h m a) m b o = some x := fun a b o y e => by
  have := (ho o y e).1
  have ne : o ≠ m := by omega
  simp [hset, ne, e]
 by_cases hlt : k < l.length
 · have w1 := wS k (by omega)
   obtain ⟨p, hp⟩ : ∃ p, l[k]? = some p := ⟨l[k], by simp [hlt]⟩
   have hp' : l[k] = p := by simpa [hlt] using hp
   have nz : ∀ e, DW el l k = e → e ≠ 0 → E4 (DW el l) l.length = e := fun e h1 h2 => by rw [IS _ hlt hf (by rw [h1]; exact h2), h1]
   simp [go_sem, hlt, hp', Eu.enc, AC]
   refine (c220 _ _).use ?_
   by_cases hfit : QV el p.key = true
   · by_cases h0 : 0 < k
     · obtain ⟨q, hq⟩ : ∃ q, l[k - 1]? = some q := ⟨l[k - 1], by simp [show k - 1 < l.length by omega]⟩
       have w2 : IntKind.i64.wrap ((k : Int) - 1) = ((k - 1 : Nat) : Int) := by rw [DJ] <;> omega
       have hq' : (l.map Eu.enc)[k - 1]? = some q.enc := by simp [hq]
       simp only [Yh] at hq'
       by_cases h7 : p.key = q.key
       · have hfit' : QV el q.key = true := by rw [← h7]; exact hfit
         simp [go_sem, hfit', h0, w2, hq, Eu.enc, AC, h7]
         repeat first | refine nq ?_ | refine sq ?_
         exact Ax ho (hh _ _) (by rw [nz 7 (by simp [DW, hp, hfit', h0, hq, h7]) (by simp)]) rfl
       · by_cases h6 : p.key < q.key
         · simp [go_sem, hfit, h0, w2, hq, Eu.enc, AC, h7, h6]
           repeat first | refine nq ?_ | refine sq ?_
           exact Ax ho (hh _ _) (by rw [nz 6 (by simp [DW, hp, hfit, h0, hq, h6, Ne.symm h7]) (by simp)]) rfl
         · simp [go_sem, hfit, h0, w2, hq, Eu.enc, AC, h7, h6]
           repeat first | refine nq ?_ | refine sq ?_
           refine (UL _ _).use ?_
           have hs : DW el l k = EF p.key p.value := by simp [DW, hp, hfit, h0, hq, h6, Ne.symm h7]
           by_cases hv : EF p.key p.value = 0
           · simp [go_sem, hv, w1, -Int.natCast_add]
             exact ⟨k + 1, by omega, ⟨by omega, by omega, by simp [E4, hf, hs, hv]⟩, Jo, hh _ _⟩
           · simp [go_sem, hv]
             exact Ax ho (hh _ _) (by rw [nz _ hs hv]) rfl
     · simp [go_sem, hfit, h0, AC]
       repeat first | refine nq ?_ | refine sq ?_
       refine (UL _ _).use ?_
       have hs : DW el l k = EF p.key p.value := by simp [DW, hp, hfit, h0]
       by_cases hv : EF p.key p.value = 0
       · simp [go_sem, hv, w1, -Int.natCast_add]
         exact ⟨k + 1, by omega, ⟨by omega, by omega, by simp [E4, hf, hs, hv]⟩, Jo, hh _ _⟩
       · simp [go_sem, hv]
         exact Ax ho (hh _ _) (by rw [nz _ hs hv]) rfl
   · simp [go_sem, hfit]
     exact Ax ho (hh _ _) (by rw [nz 4 (by simp [DW, hp, hfit]) (by simp)]) rfl
 · simp [go_sem, hlt]
   have : k = l.length := by omega
   subst this
   exact A3 ho rfl (by rw [hf])
end Go.Proofs.YtgakninlhfkkmaaGreat.Sh
namespace Go.Proofs.YtgakninlhfkkmaaGreat.Sh
open Proofs
set_option maxRecDepth 10000
def QM (p : Nat → Bool) (n : Nat) : Bool := decide (0 ≤ BU p n 0)
structure Bz where
 literal : ByteArray
 level : Int
 plain : Bool
def Bz.enc (p : Bz) : SV := .agg [.str p.literal, AA p.level, .bool p.plain]
abbrev IJ : Int → SV := .int .u8
theorem c299 (l : List A7) (hl : l.length ≤ 1048576) (g : FuncId) (a b : List SV) (p : Nat → Bool) (hp : ∀ (i : Nat) (h : i < l.length), PC g (a ++ [A7.enc l[i]] ++ b) (.bool (p i))) :
 PC 299 [.imm 6 (l.map A7.enc) false, .fn (.func g) a b] (AA (BU p l.length 0)) := by
 intro h n
 refine gq Tryz.func299 rfl fun ho => ?_
 simp [go_sem]
 refine Aq 1 (α := Nat) (fun k => [(0, .imm 6 (l.map A7.enc) false), (1, .fn (.func g) a b), (7, AA l.length), (8, AA k)]) (fun _ => h) (fun k m => k ≤ l.length ∧ n ≤ m ∧ BU p l.length 0 = BU p l.length k) (fun k => l.length - k) 0 ?_ ?_ AB ?_
 · simp
 · simp [Am]
 rintro k m ⟨hk, hnm, hf⟩
 rw [BU.eq_def _ _ k] at hf
 by_cases hlt : k < l.length
 · have w1 := wS k (by omega)
   have H := hp k hlt
   simp only [KF, Y7, Yc] at H
   simp [go_sem, hlt, A7.enc]
   refine Y4 (by simpa [A7.enc] using H) ?_
   by_cases h0 : p k = true
   · simp [go_sem, h0]
     exact A3 ho rfl (by rw [hf]; simp [hlt, h0])
   · simp [go_sem, h0, w1, -Int.natCast_add]
     exact ⟨k + 1, by omega, ⟨by omega, hnm, by rw [hf]; simp [hlt, h0]⟩, Jo⟩
 · simp [go_sem, hlt]
   exact A3 ho rfl (by rw [hf]; simp [hlt])
theorem c272 (l : List Aw) (hl : l.length ≤ 1048576) (g : FuncId) (a b : List SV) (p : Nat → Bool) (hp : ∀ (i : Nat) (h : i < l.length), PC g (a ++ [Aw.enc l[i]] ++ b) (.bool (p i))) :
 PC 272 [.imm 6 (l.map Aw.enc) false, .fn (.func g) a b] (AA (BU p l.length 0)) := by
 intro h n
 refine gq Tryz.func272 rfl fun ho => ?_
 simp [go_sem]
 refine Aq 1 (α := Nat) (fun k => [(0, .imm 6 (l.map Aw.enc) false), (1, .fn (.func g) a b), (7, AA l.length), (8, AA k)]) (fun _ => h) (fun k m => k ≤ l.length ∧ n ≤ m ∧ BU p l.length 0 = BU p l.length k) (fun k => l.length - k) 0 ?_ ?_ AB ?_
 · simp
 · simp [Am]
 rintro k m ⟨hk, hnm, hf⟩
 rw [BU.eq_def _ _ k] at hf
 by_cases hlt : k < l.length
 · have w1 := wS k (by omega)
   have H := hp k hlt
   simp only [KF, Y7, Yc] at H
   simp [go_sem, hlt, Aw.enc]
   refine Y4 (by simpa [Aw.enc] using H) ?_
   by_cases h0 : p k = true
   · simp [go_sem, h0]
     exact A3 ho rfl (by rw [hf]; simp [hlt, h0])
   · simp [go_sem, h0, w1, -Int.natCast_add]
     exact ⟨k + 1, by omega, ⟨by omega, hnm, by rw [hf]; simp [hlt, h0]⟩, Jo⟩
 · simp [go_sem, hlt]
   exact A3 ho rfl (by rw [hf]; simp [hlt])
theorem c141 (l : List Av) (hl : l.length ≤ 1048576) (g : FuncId) (a b : List SV) (p : Nat → Bool) (hp : ∀ (i : Nat) (h : i < l.length), PC g (a ++ [Av.enc l[i]] ++ b) (.bool (p i))) :
 PC 141 [.imm 3 (l.map Av.enc) false, .fn (.func g) a b] (AA (BU p l.length 0)) := by
 intro h n
 refine gq Tryz.func141 rfl fun ho => ?_
 simp [go_sem]
 refine Aq 1 (α := Nat) (fun k => [(0, .imm 3 (l.map Av.enc) false), (1, .fn (.func g) a b), (7, AA l.length), (8, AA k)]) (fun _ => h) (fun k m => k ≤ l.length ∧ n ≤ m ∧ BU p l.length 0 = BU p l.length k) (fun k => l.length - k) 0 ?_ ?_ AB ?_
 · simp
 · simp [Am]
 rintro k m ⟨hk, hnm, hf⟩
 rw [BU.eq_def _ _ k] at hf
 by_cases hlt : k < l.length
 · have w1 := wS k (by omega)
   have H := hp k hlt
   simp only [KF, Y7, Yc] at H
   simp [go_sem, hlt, Av.enc]
   refine Y4 (by simpa [Av.enc] using H) ?_
   by_cases h0 : p k = true
   · simp [go_sem, h0]
     exact A3 ho rfl (by rw [hf]; simp [hlt, h0])
   · simp [go_sem, h0, w1, -Int.natCast_add]
     exact ⟨k + 1, by omega, ⟨by omega, hnm, by rw [hf]; simp [hlt, h0]⟩, Jo⟩
 · simp [go_sem, hlt]
   exact A3 ho rfl (by rw [hf]; simp [hlt])
theorem c193 (l : List AR) (hl : l.length ≤ 1048576) (g : FuncId) (a b : List SV) (p : Nat → Bool) (hp : ∀ (i : Nat) (h : i < l.length), PC g (a ++ [AR.enc l[i]] ++ b) (.bool (p i))) :
 PC 193 [.imm 6 (l.map AR.enc) false, .fn (.func g) a b] (AA (BU p l.length 0)) := by
 intro h n
 refine gq Tryz.func193 rfl fun ho => ?_
 simp [go_sem]
 refine Aq 1 (α := Nat) (fun k => [(0, .imm 6 (l.map AR.enc) false), (1, .fn (.func g) a b), (7, AA l.length), (8, AA k)]) (fun _ => h) (fun k m => k ≤ l.length ∧ n ≤ m ∧ BU p l.length 0 = BU p l.length k) (fun k => l.length - k) 0 ?_ ?_ AB ?_
 · simp
 · simp [Am]
 rintro k m ⟨hk, hnm, hf⟩
 rw [BU.eq_def _ _ k] at hf
 by_cases hlt : k < l.length
 · have w1 := wS k (by omega)
   have H := hp k hlt
   simp only [KF, Y7, Yc] at H
   simp [go_sem, hlt, Yj]
   refine Y4 (by simpa [Yj] using H) ?_
   by_cases h0 : p k = true
   · simp [go_sem, h0]
     exact A3 ho rfl (by rw [hf]; simp [hlt, h0])
   · simp [go_sem, h0, w1, -Int.natCast_add]
     exact ⟨k + 1, by omega, ⟨by omega, hnm, by rw [hf]; simp [hlt, h0]⟩, Jo⟩
 · simp [go_sem, hlt]
   exact A3 ho rfl (by rw [hf]; simp [hlt])
theorem c321 (l : List Bz) (hl : l.length ≤ 1048576) (g : FuncId) (a b : List SV) (p : Nat → Bool) (hp : ∀ (i : Nat) (h : i < l.length), PC g (a ++ [Bz.enc l[i]] ++ b) (.bool (p i))) :
 PC 321 [.imm 3 (l.map Bz.enc) false, .fn (.func g) a b] (AA (BU p l.length 0)) := by
 intro h n
 refine gq Tryz.func321 rfl fun ho => ?_
 simp [go_sem]
 refine Aq 1 (α := Nat) (fun k => [(0, .imm 3 (l.map Bz.enc) false), (1, .fn (.func g) a b), (7, AA l.length), (8, AA k)]) (fun _ => h) (fun k m => k ≤ l.length ∧ n ≤ m ∧ BU p l.length 0 = BU p l.length k) (fun k => l.length - k) 0 ?_ ?_ AB ?_
 · simp
 · simp [Am]
 rintro k m ⟨hk, hnm, hf⟩
 rw [BU.eq_def _ _ k] at hf
 by_cases hlt : k < l.length
 · have w1 := wS k (by omega)
   have H := hp k hlt
   simp only [KF, Y7, Yc] at H
   simp [go_sem, hlt, Bz.enc]
   refine Y4 (by simpa [Bz.enc] using H) ?_
   by_cases h0 : p k = true
   · simp [go_sem, h0]
     exact A3 ho rfl (by rw [hf]; simp [hlt, h0])
   · simp [go_sem, h0, w1, -Int.natCast_add]
     exact ⟨k + 1, by omega, ⟨by omega, hnm, by rw [hf]; simp [hlt, h0]⟩, Jo⟩
 · simp [go_sem, hlt]
   exact A3 ho rfl (by rw [hf]; simp [hlt])
theorem c327 (l : List Int) (hl : l.length ≤ 1048576) (g : FuncId) (a b : List SV) (p : Nat → Bool) (hp : ∀ (i : Nat) (h : i < l.length), PC g (a ++ [IJ l[i]] ++ b) (.bool (p i))) :
 PC 327 [.imm 1 (l.map IJ) false, .fn (.func g) a b] (AA (BU p l.length 0)) := by
 intro h n
 refine gq Tryz.func327 rfl fun ho => ?_
 simp [go_sem]
 refine Aq 1 (α := Nat) (fun k => [(0, .imm 1 (l.map IJ) false), (1, .fn (.func g) a b), (7, AA l.length), (8, AA k)]) (fun _ => h) (fun k m => k ≤ l.length ∧ n ≤ m ∧ BU p l.length 0 = BU p l.length k) (fun k => l.length - k) 0 ?_ ?_ AB ?_
 · simp
 · simp [Am]
 rintro k m ⟨hk, hnm, hf⟩
 rw [BU.eq_def _ _ k] at hf
 by_cases hlt : k < l.length
 · have w1 := wS k (by omega)
   have H := hp k hlt
   simp only [KF, Y7, Yc] at H
   simp [go_sem, hlt, IJ]
   refine Y4 (by simpa [IJ] using H) ?_
   by_cases h0 : p k = true
   · simp [go_sem, h0]
     exact A3 ho rfl (by rw [hf]; simp [hlt, h0])
   · simp [go_sem, h0, w1, -Int.natCast_add]
     exact ⟨k + 1, by omega, ⟨by omega, hnm, by rw [hf]; simp [hlt, h0]⟩, Jo⟩
 · simp [go_sem, hlt]
   exact A3 ho rfl (by rw [hf]; simp [hlt])
theorem c214 (l : List Aw) (hl : l.length ≤ 1048576) (g : FuncId) (a b : List SV) (p : Nat → Bool) (hp : ∀ (i : Nat) (h : i < l.length), PC g (a ++ [Aw.enc l[i]] ++ b) (.bool (p i))) :
 PC 214 [.imm 6 (l.map Aw.enc) false, .fn (.func g) a b] (.bool (QM p l.length)) := by
 intro h n
 refine gq Tryz.func214 rfl fun ho => ?_
 simp [go_sem]
 refine (c272 l hl g a b p hp).use ?_
 simp [go_sem]
 exact A3 ho rfl rfl
theorem c303 (l : List Bz) (hl : l.length ≤ 1048576) (g : FuncId) (a b : List SV) (p : Nat → Bool) (hp : ∀ (i : Nat) (h : i < l.length), PC g (a ++ [Bz.enc l[i]] ++ b) (.bool (p i))) :
 PC 303 [.imm 3 (l.map Bz.enc) false, .fn (.func g) a b] (.bool (QM p l.length)) := by
 intro h n
 refine gq Tryz.func303 rfl fun ho => ?_
 simp [go_sem]
 refine (c321 l hl g a b p hp).use ?_
 simp [go_sem]
 exact A3 ho rfl rfl
theorem c318 (l : List Int) (hl : l.length ≤ 1048576) (g : FuncId) (a b : List SV) (p : Nat → Bool) (hp : ∀ (i : Nat) (h : i < l.length), PC g (a ++ [IJ l[i]] ++ b) (.bool (p i))) :
 PC 318 [.imm 1 (l.map IJ) false, .fn (.func g) a b] (.bool (QM p l.length)) := by
 intro h n
 refine gq Tryz.func318 rfl fun ho => ?_
 simp [go_sem]
 refine (c327 l hl g a b p hp).use ?_
 simp [go_sem]
 exact A3 ho rfl rfl
abbrev SP (E : By) (N : Nat) (c : Code) (Q : Cl) (sa : SA) (h : Hp) (n : Nat) : Prop := HN E Tryz.prog N c Q sa h n
section
variable {E : By} {N : Nat} {a b : Code} {Q : Cl} {sa : SA} {h : Hp} {n : Nat}
theorem AK (H : JZ E Tryz.prog N a Q sa h n) : SP E N a Q sa h n := EY follows _ _ _ _ _ (by rw [← EP]; exact H)
theorem Ja (sb : SA) (H1 : JZ E Tryz.prog N a (DG (fun sa' h' n' => (∀ p ∈ sb, Am sa' p.1 = p.2) ∧ h' = h ∧ n' = n) Q) sa h n) (H2 : SP E N b Q sb h n) : SP E N (.seq a b) Q sa h n :=
 Ix (F7 (AK H1) (FI fun sa' h' n' ⟨h1, h2, h3⟩ => by subst h2; subst h3; exact O2 H2 h1))
theorem BO {α : Type} (k : Nat) (fr : α → SA) (hp : α → Hp) (I : α → Nat → Prop)
 (H1 : JZ E Tryz.prog N a (DG (fun sa' h' n' => ∃ x, I x n' ∧ (∀ p ∈ fr x, Fz h' (hp x) k (Am sa' p.1) p.2) ∧ (∀ o y, hp x o = some y → h' o = some y)) Q) sa h n)
 (H2 : ∀ x m, I x m → SP E N b Q (fr x) (hp x) m) : SP E N (.seq a b) Q sa h n :=
 Ix (F7 (AK H1) (FI fun _sa' _h' n' ⟨x, hI, h1, h2⟩ => Ms k h2 (JO _) h1 (H2 x n' hI)))
theorem AV {α : Type} (k : Nat) (fr : α → SA) (hp : α → Hp) (I : α → Nat → Prop)
 (H1 : SP E N a (DG (fun sa' h' n' => ∃ x, I x n' ∧ (∀ p ∈ fr x, Fz h' (hp x) k (Am sa' p.1) p.2) ∧ (∀ o y, hp x o = some y → h' o = some y)) Q) sa h n)
 (H2 : ∀ x m, I x m → SP E N b Q (fr x) (hp x) m) : SP E N (.seq a b) Q sa h n :=
 Ix (F7 H1 (FI fun _sa' _h' n' ⟨x, hI, h1, h2⟩ => Ms k h2 (JO _) h1 (H2 x n' hI)))
theorem Bn (k : Nat) (fr : SA) (hp : Hp) (I : Nat → Prop)
 (H1 : JZ E Tryz.prog N a (DG (fun sa' h' n' => ∃ _ : Unit, I n' ∧ (∀ p ∈ fr, Fz h' hp k (Am sa' p.1) p.2) ∧ (∀ o y, hp o = some y → h' o = some y)) Q) sa h n)
 (H2 : ∀ m, I m → SP E N b Q fr hp m) : SP E N (.seq a b) Q sa h n :=
 BO k (α := Unit) (fun _ => fr) (fun _ => hp) (fun _ => I) H1 fun _ => H2
theorem CD (k : Nat) (fr : SA) (hp : Hp) (I : Nat → Prop)
 (H1 : SP E N a (DG (fun sa' h' n' => ∃ _ : Unit, I n' ∧ (∀ p ∈ fr, Fz h' hp k (Am sa' p.1) p.2) ∧ (∀ o y, hp o = some y → h' o = some y)) Q) sa h n)
 (H2 : ∀ m, I m → SP E N b Q fr hp m) : SP E N (.seq a b) Q sa h n :=
 AV k (α := Unit) (fun _ => fr) (fun _ => hp) (fun _ => I) H1 fun _ => H2
theorem AZ (k : Nat) (fr : SA) (hp : Hp) (q : Nat)
 (H1 : JZ E Tryz.prog N a (DG (fun sa' h' n' => ∃ _ : Unit, q ≤ n' ∧ (∀ p ∈ fr, Fz h' hp k (Am sa' p.1) p.2) ∧ (∀ o y, hp o = some y → h' o = some y)) Q) sa h n)
 (H2 : ∀ m, q ≤ m → SP E N b Q fr hp m) : SP E N (.seq a b) Q sa h n := Bn k fr hp (q ≤ ·) H1 H2
theorem Bf (k : Nat) (fr : SA) (hp : Hp) (q : Nat)
 (H1 : SP E N a (DG (fun sa' h' n' => ∃ _ : Unit, q ≤ n' ∧ (∀ p ∈ fr, Fz h' hp k (Am sa' p.1) p.2) ∧ (∀ o y, hp o = some y → h' o = some y)) Q) sa h n)
 (H2 : ∀ m, q ≤ m → SP E N b Q fr hp m) : SP E N (.seq a b) Q sa h n := CD k fr hp (q ≤ ·) H1 H2
theorem CJ (k : Nat) (fr : SA) (hp : Hp) (q : Nat)
 (H1 : JZ E Tryz.prog N a (DG (fun sa' h' n' => ∃ _ : Unit, q = n' ∧ (∀ p ∈ fr, Fz h' hp k (Am sa' p.1) p.2) ∧ (∀ o y, hp o = some y → h' o = some y)) Q) sa h n)
 (H2 : ∀ m, q = m → SP E N b Q fr hp m) : SP E N (.seq a b) Q sa h n := Bn k fr hp (q = ·) H1 H2
theorem F6 (k : Nat) (fr : SA) (hp : Hp) (q : Nat)
 (H1 : SP E N a (DG (fun sa' h' n' => ∃ _ : Unit, q = n' ∧ (∀ p ∈ fr, Fz h' hp k (Am sa' p.1) p.2) ∧ (∀ o y, hp o = some y → h' o = some y)) Q) sa h n)
 (H2 : ∀ m, q = m → SP E N b Q fr hp m) : SP E N (.seq a b) Q sa h n := CD k fr hp (q = ·) H1 H2
theorem AX {id : Nat} (H : SP E N a (E7 id Q) sa h n) : SP E N (.block id a) Q sa h n := MA H
theorem FW (H : SP E N a (DG (SP E N b Q) Q) sa h n) : SP E N (.seq a b) Q sa h n := Ix H
theorem goS {f : FuncId} {fn : Func} {code : Code} {args : List SV} {K : SV → Hp → Nat → Prop} (hf : Tryz.prog.funcs[f]? = some fn) (hb : fn.body = some code)
 (hn : (fn.name != "runtime.NumGoroutine") = true) (hd : Code.dok fn.ntmps code = true) (hl : args.length ≤ fn.ntmps)
 (H : FM h n → SP (E.call false 0) fn.ntmps code (Lx Tryz.prog fn n K) (EK 0 args) h n) : Ak E Tryz.prog f args h n K :=
 L9 hf hb hn hd hl fun _ ho => H ho
theorem Da {f : FuncId} {fn : Func} {code : Code} {args : List SV} {K : SV → Hp → Nat → Prop} (hf : Tryz.prog.funcs[f]? = some fn) (hb : fn.body = some code)
 (H : FM h n → SP (E.call false 0) fn.ntmps code (Lx Tryz.prog fn n K) (EK 0 args) h n)
 (hn : (fn.name != "runtime.NumGoroutine") = true := by kernel_rfl) (hd : Code.dok fn.ntmps code = true := by kernel_rfl) (hl : args.length ≤ fn.ntmps := by simp [go_sem]) : Ak E Tryz.prog f args h n K :=
 goS hf hb hn hd hl H
theorem BX {x : Code} {α : Type} (k : Nat) (fr : α → SA) (hp : α → Hp) (I : α → Nat → Prop) (μ : α → Nat) (a0 : α) (hI : I a0 n)
 (hfr : ∀ p ∈ fr a0, Fz h (hp a0) k (Am sa p.1) p.2) (hhp : ∀ o y, hp a0 o = some y → h o = some y)
 (round : ∀ a n, I a n → SP E N x (DG (fun sa' h' n' => ∃ a', μ a' < μ a ∧ I a' n' ∧ (∀ p ∈ fr a', Fz h' (hp a') k (Am sa' p.1) p.2) ∧ (∀ o y, hp a' o = some y → h' o = some y)) Q) (fr a) (hp a) n) :
 SP E N (.loop x) Q sa h n := by
 refine Nj (μ a0) (fun m sa h n => ∃ a, m = μ a ∧ I a n ∧ (∀ p ∈ fr a, Fz h (hp a) k (Am sa p.1) p.2) ∧ (∀ o y, hp a o = some y → h o = some y)) ⟨a0, rfl, hI, hfr, hhp⟩ ?_
 rintro m sa h n ⟨a, rfl, hI, hfr, hhp⟩
 refine Ms k hhp (JO _) hfr (F7 (round a n hI) ?_)
 refine FI fun sa' h' n' ⟨a', h1, h2, h3, h4⟩ => ⟨μ a', h1, a', rfl, h2, h3, h4⟩
end
@[go_sem] theorem Sn (id : Nat) (Q : Cl) : E7 id Q .normal = Q .normal := rfl
@[go_sem] theorem UE (id : Nat) (Q : Cl) : E7 id Q .ret = Q .ret := rfl
@[go_sem] theorem Tl (id i : Nat) (Q : Cl) (sa : SA) (h : Hp) (n : Nat) : E7 id Q (.exit i) sa h n = if i = id then Q .normal sa h n else Q (.exit i) sa h n := rfl
def IQ (p : Nat → Bool) : Nat → Bool
 | 0 => true
 | n + 1 => IQ p n && p n
theorem IR {p : Nat → Bool} {k n : Nat} (hk : k < n) (h : p k = false) : IQ p n = false := by
 induction n with
 | zero => omega
 | succ n ih =>
  rw [IQ]
  by_cases e : k = n
  · subst e; simp [h]
  · rw [ih (by omega)]; rfl
def NJ (d : Int) : Int := IntKind.u8.wrap (BitVec.ofInt 8 d ||| BitVec.ofInt 8 32).toNat
def EA (first : Bool) (d : Int) : Bool := decide (97 ≤ NJ d ∧ NJ d ≤ 122) || (!first && decide ((48 ≤ d ∧ d ≤ 57) ∨ d = 45 ∨ d = 95))
def HU (s : ByteArray) : Bool := decide ((1 : Int) ≤ s.size ∧ (s.size : Int) ≤ 40) && IQ (fun i => EA (decide (i = 0)) (Al s i)) s.size
theorem UK (s : ByteArray) : PC 219 [.str s] (.bool (HU s)) := by
 intro h n
 refine gq Tryz.func219 rfl fun ho => ?_
 by_cases e1 : (s.size : Int) < 1
 · simp [go_sem, e1]; exact A3 ho rfl (by simp [HU]; omega)
 by_cases e2 : (40 : Int) < s.size
 · simp [go_sem, e1, e2]; exact A3 ho rfl (by simp [HU]; omega)
 have hN : HU s = IQ (fun i => EA (decide (i = 0)) (Al s i)) s.size := by
  have : decide ((1 : Int) ≤ s.size ∧ (s.size : Int) ≤ 40) = true := by simp; omega
  rw [HU, this]; rfl
 rw [hN]
 simp [go_sem, e1, e2]
 refine BX 1 (α := Nat) (fun k => [(0, .str s), (16, AA s.size), (17, AA k)]) (fun _ => h) (fun k m => k ≤ s.size ∧ n ≤ m ∧ IQ (fun i => EA (decide (i = 0)) (Al s i)) k = true) (fun k => s.size - k) 0 ?_ ?_ AB ?_
 · simp [IQ]
 · simp [Am]
 rintro k m ⟨hk, hnm, hf⟩
 by_cases hlt : k < s.size
 · have w1 := wS k (by omega)
   obtain ⟨g1, g2⟩ := Do hlt
   have no : EA (decide (k = 0)) (Al s k) = false → IQ (fun i => EA (decide (i = 0)) (Al s i)) s.size = false := fun hb => IR hlt hb
   have yes' : EA (decide (k = 0)) (Al s k) = true → IQ (fun i => EA (decide (i = 0)) (Al s i)) (k + 1) = true := fun hb => by rw [IQ, hf, hb]; rfl
   refine Ja [(0, .str s), (16, AA s.size), (17, AA k), (18, .bool true)] (by simp [go_sem, hlt]) ?_
   refine Ja [(0, .str s), (16, AA s.size), (17, AA k)] (by simp [go_sem]) ?_
   refine AV 1 (α := Unit) (fun _ => [(0, .str s), (16, AA s.size), (17, AA k)]) (fun _ => h) (fun _ m' => m' = m ∧ EA (decide (k = 0)) (Al s k) = true) (AX ?_) (fun _ m' hI => AK ?_)
   rotate_left
   · simp [go_sem, w1, -Int.natCast_add]
     exact ⟨k + 1, by omega, ⟨by omega, by omega, yes' hI.2⟩, Jo⟩
   refine Ja [(0, .str s), (16, AA s.size), (17, AA k), (3, AA k)] (by simp [go_sem]) ?_
   refine Ja [(0, .str s), (16, AA s.size), (17, AA k), (3, AA k), (4, .int .u8 (NJ (Al s k)))] (by simp [go_sem, g1, ← g2]; rfl) ?_
   generalize hc : NJ (Al s k) = c
   generalize hd : Al s k = d at g2
   refine Ja [(0, .str s), (16, AA s.size), (17, AA k), (3, AA k), (5, .bool (decide (97 ≤ c ∧ c ≤ 122)))] (by by_cases l1 : 97 ≤ c <;> simp [go_sem, l1]) ?_
   refine Ja [(0, .str s), (16, AA s.size), (17, AA k), (3, AA k), (5, .bool (decide (97 ≤ c ∧ c ≤ 122))), (6, .bool (decide ((48 ≤ d ∧ d ≤ 57) ∨ d = 45 ∨ d = 95)))] ?_ ?_
   · by_cases d1 : 48 ≤ d
     · by_cases d2 : d ≤ 57
       · simp [go_sem, g1, ← g2, d1, d2]
       · have d3 : ¬ d = 45 := by omega
         by_cases d4 : d = 95 <;> simp [go_sem, g1, ← g2, d1, d2, d3, d4]
     · have d4 : ¬ d = 95 := by omega
       by_cases d3 : d = 45 <;> simp [go_sem, g1, ← g2, d1, d3, d4]
   generalize hL : decide (97 ≤ c ∧ c ≤ 122) = L
   generalize hO : decide ((48 ≤ d ∧ d ≤ 57) ∨ d = 45 ∨ d = 95) = O
   have hnb : EA (decide (k = 0)) (Al s k) = (L || (!decide (k = 0) && O)) := by rw [EA, hc, hd, hL, hO]
   rw [hnb] at no
   rw [hd] at hnb
   rw [hnb]
   refine AK ?_
   by_cases hz : k = 0
   · cases L <;> cases O <;> simp [hz] at no ⊢ <;> simp [go_sem]
     all_goals exact A3 ho rfl (by rw [no])
   · cases L <;> cases O <;> simp [hz] at no ⊢ <;> simp [go_sem, hz]
     all_goals exact A3 ho rfl (by rw [no])
 · refine AK ?_
   simp [go_sem, hlt]
   have : k = s.size := by omega
   subst this
   exact A3 ho rfl (by rw [hf])
theorem c268 (k : Int) : PC 268 [AA k] (AA (if k = 1 then 2 else 1)) := by
 intro h n
 refine gq Tryz.func268 rfl fun ho => ?_
 by_cases h1 : k = 1 <;> simp [go_sem, h1] <;> exact A3 ho rfl rfl
theorem c301 (s : A7) (id : Int) : PC 301 [s.enc, .iptr [AA id]] (.bool (decide (s.id = id))) := by
 intro h n
 refine gq Tryz.func301 rfl fun ho => ?_
 simp [go_sem, A7.enc, AC]
 exact Ax ho (AN ho (JO _) AB) (by by_cases e : s.id = id <;> simp [e]) rfl
def QG (a b : ByteArray) : Bool := a.toList == b.toList
theorem c300 (s : A7) (kind : Int) (name : ByteArray) : PC 300 [s.enc, .iptr [AA kind], .iptr [.str name]] (.bool (decide (s.kind = kind) && QG s.name name)) := by
 intro h n
 refine gq Tryz.func300 rfl fun ho => ?_
 by_cases e : s.kind = kind <;> simp [go_sem, A7.enc, AC, e]
 all_goals exact Ax ho (AN ho (JO _) AB) (by simp [QG]) rfl
def Dz (l : List A7) (id : Int) : Int := BU (fun i => match l[i]? with | some s => decide (s.id = id) | none => false) l.length 0
theorem c269 (l : List A7) (id : Int) (hl : l.length ≤ 1048576) : PC 269 [Ac l, AA id] (.tup [AA (if 0 ≤ Dz l id then Dz l id else 0), .bool (decide (0 ≤ Dz l id))]) := by
 intro h n
 refine gq Tryz.func269 rfl fun ho => ?_
 simp [go_sem]
 have H := c299 l hl 301 [] [.iptr [AA id]] (fun i => match l[i]? with | some s => decide (s.id = id) | none => false) (fun i hi => by simpa [hi] using c301 l[i] id)
 refine H.lend 3 rfl ?_ ?_
 · simp [AY, Fz, hset]
 · by_cases e : 0 ≤ Dz l id
   · have e2 : ¬ Dz l id < 0 := by omega
     simp only [Dz] at e e2
     simp [go_sem, e, e2]
     exact Ax ho (AN ho (JO _) AB) (by simp [Dz, e]) rfl
   · have e2 : Dz l id < 0 := by omega
     simp only [Dz] at e e2
     simp [go_sem, e, e2]
     exact Ax ho (AN ho (JO _) AB) (by simp [Dz, e]) rfl
def Cp (l : List A7) (kind : Int) (name : ByteArray) : Int := BU (fun i => match l[i]? with | some s => decide (s.kind = kind) && QG s.name name | none => false) l.length 0
theorem c267 (l : List A7) (kind : Int) (name : ByteArray) (hl : l.length ≤ 1048576) : PC 267 [Ac l, AA kind, .str name] (.tup [AA (if 0 ≤ Cp l kind name then Cp l kind name else 0), .bool (decide (0 ≤ Cp l kind name))]) := by
 intro h n
 refine gq Tryz.func267 rfl fun ho => ?_
 simp [go_sem]
 have H := c299 l hl 300 [] [.iptr [AA kind], .iptr [.str name]] (fun i => match l[i]? with | some s => decide (s.kind = kind) && QG s.name name | none => false) (fun i hi => by simpa [hi] using c300 l[i] kind name)
 have hh : ∀ a b : Option BY, ∀ o x, h o = some x → hset (hset h n a) (n + 1) b o = some x := fun a b => AN ho (YA n) (AN ho (JO _) AB)
 refine H.lend 3 rfl ?_ ?_
 · simp [AY, Fz, hset]
 · by_cases e : 0 ≤ Cp l kind name
   · have e2 : ¬ Cp l kind name < 0 := by omega
     simp only [Cp] at e e2
     simp [go_sem, e, e2]
     exact Ax ho (hh _ _) (by simp [Cp, e]) rfl
   · have e2 : Cp l kind name < 0 := by omega
     simp only [Cp] at e e2
     simp [go_sem, e, e2]
     exact Ax ho (hh _ _) (by simp [Cp, e]) rfl
theorem Q3 (l : List A7) (id : Int) (h : 0 ≤ Dz l id) : ∃ i s, Dz l id = (i : Nat) ∧ l[i]? = some s := by
 rcases Fg (fun i => match l[i]? with | some s => decide (s.id = id) | none => false) l.length 0 with e | ⟨i, _, h2, h3, _⟩
 · have : Dz l id = -1 := e
   omega
 · exact ⟨i, l[i], h3, by simp [h2]⟩
def Uv (l : List A7) (kind id : Int) : Bool := decide (0 ≤ Dz l id) && (match l[(Dz l id).toNat]? with | some s => decide (s.kind = kind) | none => false)
theorem c208 (l : List A7) (kind id : Int) (hl : l.length ≤ 1048576) : PC 208 [Ac l, AA kind, AA id] (.bool (Uv l kind id)) := by
 intro h n
 refine gq Tryz.func208 rfl fun ho => ?_
 simp [go_sem]
 refine (c269 l id hl).use ?_
 by_cases e : 0 ≤ Dz l id
 · obtain ⟨i, s, h1, h2⟩ := Q3 l id e
   simp [go_sem, h1, h2, A7.enc]
   exact A3 ho rfl (by simp [Uv, h1, h2]; by_cases hk : s.kind = kind <;> simp [hk])
 · simp [go_sem, e]
   exact A3 ho rfl (by simp [Uv, e])
def IC (b : Int) : Bool := decide (32 ≤ b ∧ b ≤ 126)
def GL (s : ByteArray) : Bool := !decide (s.size = 0) && decide ((s.size : Int) ≤ 40) && !decide (Al s 0 = 32) && !decide (Al s (s.size - 1) = 32) && IQ (fun i => IC (Al s i)) s.size
theorem c266 (s : ByteArray) : PC 266 [.str s] (.bool (GL s)) := by
 intro h n
 refine gq Tryz.func266 rfl fun ho => ?_
 by_cases e1 : s.size = 0
 · simp [go_sem, e1]; exact A3 ho rfl (by simp [GL, e1])
 by_cases e2 : (40 : Int) < s.size
 · simp [go_sem, e1, e2]; exact A3 ho rfl (by simp [GL, e1]; omega)
 have e2' : (s.size : Int) ≤ 40 := by omega
 obtain ⟨a1, a2⟩ := Do (s := s) (i := 0) (by omega)
 obtain ⟨b1, b2⟩ := Do (s := s) (i := s.size - 1) (by omega)
 have w0 : IntKind.i64.wrap ((s.size : Int) - 1) = ((s.size - 1 : Nat) : Int) := by rw [DJ] <;> omega
 have e1' : 0 < s.size := by omega
 by_cases e3 : Al s 0 = 32
 · simp [go_sem, e1, e1', e2, ← a2, e3]; exact A3 ho rfl (by simp [GL, e1, e3])
 by_cases e4 : Al s (s.size - 1) = 32
 · simp [go_sem, e1, e1', e2, ← a2, e3, b1, ← b2, e4, w0]; exact A3 ho rfl (by simp [GL, e1, e4])
 have hN : GL s = IQ (fun i => IC (Al s i)) s.size := by simp [GL, e1, e2', e3, e4]
 rw [hN]
 simp [go_sem, e1, e1', e2, ← a2, e3, b1, ← b2, e4, w0]
 refine Aq 1 (α := Nat) (fun k => [(0, .str s), (26, AA s.size), (27, AA k)]) (fun _ => h) (fun k m => k ≤ s.size ∧ n ≤ m ∧ IQ (fun i => IC (Al s i)) k = true) (fun k => s.size - k) 0 ?_ ?_ AB ?_
 · simp [IQ]
 · simp [Am]
 rintro k m ⟨hk, hnm, hf⟩
 by_cases hlt : k < s.size
 · have w1 := wS k (by omega)
   obtain ⟨g1, g2⟩ := Do hlt
   by_cases l1 : Al s k < 32
   · simp [go_sem, hlt, ← g2, l1]
     exact A3 ho rfl (by rw [IR hlt (by simp [IC]; omega)])
   · by_cases l2 : 126 < Al s k
     · simp [go_sem, hlt, ← g2, l1, l2]
       exact A3 ho rfl (by rw [IR hlt (by simp [IC]; omega)])
     · simp [go_sem, hlt, ← g2, l1, l2, w1, -Int.natCast_add]
       exact ⟨k + 1, by omega, ⟨by omega, hnm, by rw [IQ, hf]; simp [IC]; omega⟩, Jo⟩
 · simp [go_sem, hlt]
   have : k = s.size := by omega
   subst this
   exact A3 ho rfl (by rw [hf])
theorem N8 (h : Hp) (j : Nat) (x : Option BY) : hset h j x j = x := by simp [hset]
theorem Ai (h : Hp) (j : Nat) (x y : Option BY) : hset (hset h j x) j y = hset h j y := by funext k; simp only [hset]; split <;> rfl
def By.inRound (E : By) (l : Nat) : By := { ro := some l, mks := false, base := 0, inv := E.inv, ext := E.ext }
def JX : List (Tmp × SV) → SA → SA
 | [], sa => sa
 | p :: r, sa => JX r (p :: sa)
section
variable {P : Program} {E : By} {N : Nat}
theorem FR.zip {c : Cx} : ∀ {ps : List Tmp} {args : List SV} {vs : List Value} {sa : SA} {tm : Array Value}, (∀ p ∈ ps, p < N) → AY (V c) args vs → ps.length = args.length → FR E N sa c { tmps := tm, defers := [] } →
 FR E N (JX (ps.zip args) sa) c { tmps := (ps.zip vs).foldl (fun t p => t.setIfInBounds p.1 p.2) tm, defers := [] }
 | [], _, _, _, _, _, _, _, F => F
 | p :: ps, [], _, _, _, _, _, hl, _ => by simp at hl
 | p :: ps, a :: args, [], _, _, _, h, _, _ => h.elim
 | p :: ps, a :: args, v :: vs, sa, tm, hp, h, hl, F => by
  have := F.put (dst := some p) (fun d e => by cases e; exact hp _ (by simp)) h.1
  exact FR.zip (ps := ps) (fun q hq => hp q (by simp [hq])) h.2 (by simpa using hl) this
theorem He {h : Hp} {c : Cx} {o l : Nat} {r : Loop} (R : B5 h c) (ho : h o = some (.loop r)) (hρ : c.ρ o = some (l, 0)) : c.w.heap[l]? = some (.loop r) := by
 obtain ⟨b, h1, h2⟩ := R.obj o _ ho
 rw [hρ] at h1; cases h1; exact h2
theorem If {h : Hp} {c : Cx} {o l : Nat} {r : Loop} (r' : Loop) (R : B5 h c) (ho : h o = some (.loop r)) (hρ : c.ρ o = some (l, 0)) :
 B5 (hset h o (some (.loop r'))) { c with w := c.w.putObj l (.loop r') } ∧ Dc c { c with w := c.w.putObj l (.loop r') } := by
 have hl := He R ho hρ
 have hlt := (KA.1 hl).1
 refine R.write ho hρ (by simp) (fun b' hb' => World.putObj_heap_other hb') ?_ rfl rfl fun X => ⟨l, hρ, World.putObj_heap_same hlt⟩
 simp [rm, hl]
def Gl (fn : FuncId) (tm : Array Value) (ps : Array Tmp) (assign body : Code) (D : Nat) (st : LoopState) (pe : Option Code) : Loop :=
 { state := st, pending := pe, fn := fn, tmps := tm, params := ps, assign := assign, body := body, defers := D }
def Hh (n : Nat) (R : LoopState → Option Code → Loop) (Q1 : SV → Hp → Nat → Prop) : Cl := fun e _ h2 m2 =>
 h2 n = some (.loop (R .busy none)) ∧ match e with
  | .normal => Q1 (.bool true) (hset h2 n (some (.loop (R .ready none)))) m2
  | .ret => Q1 (.bool false) (hset h2 n (some (.loop (R .done (some .ret))))) m2
  | .exit id => Q1 (.bool false) (hset h2 n (some (.loop (R .done (some (.exit id)))))) m2
  | _ => False
def Pe (P : Program) (E : By) (N n : Nat) (R : LoopState → Option Code → Loop) (assign body : Code) (Q1 : SV → Hp → Nat → Prop) (sa : SA) (h : Hp) (m : Nat) : Prop :=
 HN E P N assign (fun e sa1 h1 m1 => e = .normal ∧ h1 n = some (.loop (R .ready none)) ∧ HN E P N body (Hh n R Q1) sa1 (hset h1 n (some (.loop (R .busy none)))) m1) sa h m
def loopQ (n : Nat) (R : LoopState → Option Code → Loop) (Q : Cl) (sa : SA) : SV → Hp → Nat → Prop := fun _ h' n' =>
 ∃ st pe, h' n = some (.loop (R st pe)) ∧ st ≠ .busy ∧ match pe with
  | none => Q .normal sa (hset h' n none) n'
  | some .ret => Q .ret sa (hset h' n none) n'
  | some (.exit id) => Q (.exit id) sa (hset h' n none) n'
  | _ => False
theorem OY {E1 : By} {c1 : Cx} {l n : Nat} {fn : FuncId} {tm : Array Value} {ps : Array Tmp} {assign body : Code} {D : Nat} {sa : SA} (hinv : ∀ c', E1.inv c' → Dc c1 c') (hρ : c1.ρ n = some (l, 0))
 (hps : ∀ p ∈ ps.toList, p < N) (hda : Code.dok N assign = true) (hdb : Code.dok N body = true) (hsz : tm.size = N) (hv : ∀ t, V c1 (Am sa t) (tm.getD t undef))
 {args : List SV} {hy : Hp} {m : Nat} {Q1 : SV → Hp → Nat → Prop} (hn : hy n = some (.loop (Gl fn tm ps assign body D .ready none))) (hl : args.length = ps.size)
 (H : Pe P (E1.inRound l) N n (Gl fn tm ps assign body D) assign body Q1 (JX (ps.toList.zip args) sa) hy m) : Ez E1 P l args hy m Q1 := by
 intro c vs I R F A
 have X1 := hinv c I
 have hρc : c.ρ n = some (l, 0) := X1.ρ _ _ hρ
 have hlen := A.length
 refine ⟨_, _, _, _, run_yield (He R hn hρc) (by simp [Gl]; omega), roundIn_of_wpIn (F := Fence.wide) trivial ?_⟩
 have F0 : FR (E1.inRound l) N sa c { tmps := tm, defers := [] } := ⟨hsz, ⟨K2 _, fun _ => rfl, by simp, by simp⟩, fun t => ZH X1 (hv t)⟩
 have FZ := F0.zip (ps := ps.toList) hps A (by simp; omega)
 have etm : (ps.zip vs.toArray).foldl (fun tmps x => tmps.setIfInBounds x.1 x.2) tm = (ps.toList.zip vs).foldl (fun t p => t.setIfInBounds p.1 p.2) tm := by
  rw [← Array.foldl_toList, Array.toList_zip]
 have hA := H hda c _ I R F FZ
 rw [← etm] at hA
 refine wpIn_mono hA ?_
 rintro e a2 w2 ⟨sa2, h2, n2, c2, ⟨rfl, hn2, hB⟩, rfl, R2, F2, A2, X2⟩
 have hρ2 : c2.ρ n = some (l, 0) := X2.ext.ρ _ _ hρc
 obtain ⟨R3, X3⟩ := If (Gl fn tm ps assign body D .busy none) R2 hn2 hρ2
 refine ⟨_, run_beginRound (He R2 hn2 hρ2) rfl, ?_⟩
 have X23 : Dc c { c2 with w := c2.w.putObj l (.loop (Gl fn tm ps assign body D .busy none)) } := X2.ext.trans X3
 refine wpIn_mono (hB hdb { c2 with w := c2.w.putObj l (.loop (Gl fn tm ps assign body D .busy none)) } a2 (E1.ext X23 I) R3 F2 (A2.ext X3)) ?_
 rintro e a4 w4 ⟨sa4, h4, n4, c4, ⟨hn4, hq⟩, rfl, R4, F4, A4, X4⟩
 have hρ4 : c4.ρ n = some (l, 0) := X4.ext.ρ _ _ hρ2
 have hl4 := He R4 hn4 hρ4
 have fin : ∀ (jump : Option Code) (b : Bool) (st : LoopState), b = jump.isNone → st = (if jump.isNone then .ready else .done) → Q1 (.bool b) (hset h4 n (some (.loop (Gl fn tm ps assign body D st jump)))) n4 →
  ∃ v w', (Instr.endRound l jump).run P c4.w = .ok v w' ∧ ∃ u v' h' n' c', Ending.returned v = .returned u ∧ Q1 v' h' n' ∧ c'.w = w' ∧ V c' v' u ∧ B5 h' c' ∧ Fr n' c' ∧ F5 m c n' c' := by
  rintro jump b st rfl rfl hq
  obtain ⟨R5, X5⟩ := If (Gl fn tm ps assign body D (if jump.isNone then .ready else .done) jump) R4 hn4 hρ4
  refine ⟨_, _, run_endRound jump hl4, .bool jump.isNone, .bool jump.isNone, _, n4, _, rfl, hq, rfl, by simp [V], R5, F4, ⟨X23.trans (X4.ext.trans X5), Yv X2.le X4.le, fun j hj => ?_⟩⟩
  exact (X4.same j (Zw hj X2.le)).trans (X2.same j hj)
 cases e with
 | normal => exact fin none true .ready rfl rfl hq
 | ret => exact fin (some .ret) false .done rfl rfl hq
 | exit id => exact fin (some (.exit id)) false .done rfl rfl hq
 | _ => exact hq.elim
def Cx.begin (c : Cx) (n : Nat) (r : Loop) : Cx := Cx.alloc { c with w := c.w.alloc (.deferred (some [])) } n (.loop r)
theorem Ku (c : Cx) : Dc c { c with w := c.w.alloc (.deferred (some [])) } := by
 refine ⟨fun _ _ e => e, by simp, fun b hb ho => ⟨ho, ?_⟩, fun b => ?_, rfl, rfl⟩
 · simp [Bh, YN, Zj hb]
 · unfold rm
   rcases Yr b c.w.heap.size with hx | hx
   · simp [Bh, YN, Zj hx]
   · simp [YE hx]
theorem O7 {h : Hp} {c : Cx} (R : B5 h c) : B5 h { c with w := c.w.alloc (.deferred (some [])) } := by
 refine ⟨fun o x e => (R.obj o x e).mono (Ku c) fun b hb => ?_, R.inj2, R.own2⟩
 have h2 := (R.obj o x e).hold_lt hb
 simp [Bh, YN, Zj h2]
theorem FJ {g : Operand} {ps : Array Tmp} {assign body : Code} {Q : Cl} {sa : SA} {h : Hp} {n : Nat} {f : FuncId} {ys : List SV} (hro : E.ro = none) (hmk : E.mks = true) (hg : GZ sa g = .fn (.func f) [] ys)
 (H : ∀ (E1 : By) (l : Nat) (R : LoopState → Option Code → Loop),
   (∀ args hy m Q1, hy n = some (.loop (R .ready none)) → args.length = ps.size → Pe P (E1.inRound l) N n R assign body Q1 (JX (ps.toList.zip args) sa) hy m → Ez E1 P l args hy m Q1) →
   Ak E1 P f (.fn (.yield l) [] [] :: ys) (hset h n (some (.loop (R .ready none)))) (n + 1) (loopQ n R Q sa)) :
 HN E P N (.rangeFunc g ps assign body) Q sa h n := by
 intro hd c a I R F A
 simp only [Code.dok, KB, Ys, decide_eq_true_eq] at hd
 obtain ⟨hps, hda, hdb⟩ := hd
 have hfc : E.fc = Fence.wide := by simp only [By.fc, hro, Fence.wide]
 rw [hfc]
 refine wpIn_rangeFunc fun fn _ => ?_
 have hρn : c.ρ n = none := F n (JO _)
 obtain ⟨r0, hr0⟩ : ∃ r0, r0 = Gl fn a.tmps ps assign body c.w.heap.size .ready none := ⟨_, rfl⟩
 have R1 : B5 (hset h n (some (.loop r0))) (c.begin n r0) := (O7 R).alloc hρn ⟨c.w.heap.size + 1, by simp [Cx.alloc], by have := World.alloc_heap_new (c.w.alloc (.deferred (some []))) (.loop r0); rwa [World.size_alloc] at this⟩
 have X1 : Dc c (c.begin n r0) := (Ku c).trans (Cx.alloc_ext _ n (.loop r0) hρn)
 have hρ1 : (c.begin n r0).ρ n = some (c.w.heap.size + 1, 0) := by simp [Cx.begin, Cx.alloc]
 have F1 : Fr (n + 1) (c.begin n r0) := fun j hj => by
  have : j ≠ n := by omega
  simp [Cx.begin, Cx.alloc, this]; exact F j (by omega)
 have hw1 : (c.begin n r0).w = (c.w.alloc (.deferred (some []))).alloc (.loop r0) := rfl
 have hD1 : (c.begin n r0).w.heap[c.w.heap.size]? = some (.deferred (some [])) := by
  rw [hw1]; simp [Bh, YN]
 have hDo : ¬ (c.begin n r0).own c.w.heap.size := by
  rintro (h1 | h1)
  · obtain ⟨o, x, e1, e2⟩ := (R.own2 _).1 h1
    have h4 := (R.obj o x e1).hold_lt e2
    omega
  · simp at h1
 let E1 : By := { ro := none, mks := false, base := 0, inv := fun c' => E.inv c' ∧ Dc (c.begin n r0) c', ext := fun x i => ⟨E.ext x i.1, i.2.trans x⟩ }
 have hcall := H E1 (c.w.heap.size + 1) (Gl fn a.tmps ps assign body c.w.heap.size) fun args hy m Q1 hn hl hW =>
  OY (E1 := E1) (c1 := c.begin n r0) (fun c' i => i.2) hρ1 hps hda hdb A.size (fun t => ZH X1 (A.val t)) hn hl hW
 rw [← hr0] at hcall
 have hf := A.ev g
 rw [hg, V] at hf
 obtain ⟨xs, yv, hfv, h1, h2⟩ := hf
 simp only [VL] at h1
 subst h1
 have hargs : AY (V (c.begin n r0)) (.fn (.yield (c.w.heap.size + 1)) [] [] :: ys) (.func (.yield (c.w.heap.size + 1)) #[] #[] :: yv) :=
  ⟨by simp [V, VL], BL.1 (VL.mono X1 h2)⟩
 have hcl := hcall.2 (c.begin n r0) _ ⟨E.ext X1 I, Xh _⟩ R1 F1 hargs
 have hok := hcall.1
 unfold Lv at hok
 cases hfn : P.funcs[f]? with
 | none => simp [hfn] at hok
 | some fn' =>
 simp only [hfn, KB, bne_iff_ne, ne_eq] at hok
 have hb : fn'.body ≠ none := by intro e; simp [e] at hok
 refine ⟨c.w.heap.size + 1, [R9 c.w.heap.size], (c.begin n r0).w, { target := .fn (.func f) yv.toArray, args := #[.func (.yield (c.w.heap.size + 1)) #[] #[]] }, (c.begin n r0).w, f,
  (.func (.yield (c.w.heap.size + 1)) #[] #[] :: yv).toArray, (c.begin n r0).w, ?_, ?_, fun _ _ => trivial, ?_, fun e => by simp [Fence.wide] at e, ?_⟩
 · rw [hw1, hr0]; exact run_enterLoop_outer _ _ _ _ _
 · simp [resolve, Deferred.ofValue, hfv]
   rfl
 · simp [invoke, callFunc, hfn, hok.2, hb]
 · refine callsIn_wide.2 (hcl.mono ?_)
   rintro e w3 ⟨u, v, h', n', c', rfl, ⟨st, pe, hn', hst, hq⟩, rfl, hv, R', F', X'⟩
   have hρ' : c'.ρ n = some (c.w.heap.size + 1, 0) := X'.ext.ρ _ _ hρ1
   obtain ⟨R3, X3⟩ := If (Gl fn a.tmps ps assign body c.w.heap.size .exhausted pe) R' hn' hρ'
   have R4 := R3.kill n (N8 _ _ _)
   have X4 := X3.trans (Cx.kill_ext { c' with w := c'.w.putObj (c.w.heap.size + 1) (.loop (Gl fn a.tmps ps assign body c.w.heap.size .exhausted pe)) } n)
   rw [Ai] at R4
   have XX := X1.trans (X'.ext.trans X4)
   have hD4 := (X'.ext.trans X4).keep _ (KA.1 hD1).1 hDo
   refine ⟨pe, _, run_endLoop (He R' hn' hρ') hst, ?_⟩
   have mk : ∀ e, Q e sa (hset h' n none) n' → RI E N n c Q e { a with defers := [R9 c.w.heap.size] ++ a.defers } (c'.w.putObj (c.w.heap.size + 1) (.loop (Gl fn a.tmps ps assign body c.w.heap.size .exhausted pe))) := fun e hq => by
    refine ⟨sa, hset h' n none, n', _, hq, rfl, R4, F', ⟨A.size, ⟨Yv A.defers.base XX.size, fun e => (by rw [hmk] at e; cases e), ?_, fun d hd => ?_⟩, fun t => ZH XX (A.val t)⟩, ⟨XX, by have := X'.le; omega, fun j hj => ?_⟩⟩
    · refine Z5.2 ⟨fun hm => ?_, A.defers.nodup⟩
      obtain ⟨D, _, e2, e3, _⟩ := A.defers.ok _ hm
      have : D = c.w.heap.size := by simp [R9] at e2; exact e2.symm
      have := (KA.1 e3).1
      omega
    · rcases Y0.1 hd with rfl | hd
      · exact ⟨c.w.heap.size, A.defers.base, rfl, hD4.2.trans hD1, hD4.1⟩
      · exact (A.defers.mono XX).ok d hd
    · have : j ≠ n := by omega
      have e1 : (c.begin n r0).ρ j = c.ρ j := by simp [Cx.begin, Cx.alloc, this]
      exact (X'.same j (by omega)).trans e1
   cases pe with
   | none => exact mk .normal hq
   | some j =>
    cases j with
    | ret => exact wpIn_ret (mk .ret hq)
    | exit id => exact wpIn_exit (mk (.exit id) hq)
    | _ => exact hq.elim
end
theorem goM {E : By} {f : FuncId} {fn : Func} {code : Code} {args : List SV} {h : Hp} {n : Nat} {K : SV → Hp → Nat → Prop} (hf : Tryz.prog.funcs[f]? = some fn) (hb : fn.body = some code)
 (hn : (fn.name != "runtime.NumGoroutine") = true) (hd : Code.dok fn.ntmps code = true) (hl : args.length ≤ fn.ntmps)
 (H : FM h n → ∀ B, JZ (E.call true B) Tryz.prog fn.ntmps code (Lx Tryz.prog fn n K) (EK 0 args) h n) : Ak E Tryz.prog f args h n K :=
 Ko hf hb hn hd hl fun _ ho B => AK (H ho B)
theorem H8 {E : By} {N n : Nat} {R : LoopState → Option Code → Loop} {assign body : Code} {Q1 : SV → Hp → Nat → Prop} {sa : SA} {h : Hp} {m : Nat}
 (H : JZ E Tryz.prog N assign (fun e sa1 h1 m1 => e = .normal ∧ h1 n = some (.loop (R .ready none)) ∧ JZ E Tryz.prog N body (Hh n R Q1) sa1 (hset h1 n (some (.loop (R .busy none)))) m1) sa h m) : Pe Tryz.prog E N n R assign body Q1 sa h m :=
 F7 (AK H) fun _ _ _ _ ⟨a, b, c⟩ => ⟨a, b, AK c⟩
section
variable {P : Program} {E : By}
theorem Il (d : Nat) {t e : TypeId} (a : Option Addr) (l cap : Nat) (hu : P.underlying t = some (.slice e)) (w : World) : (Op.equalIn (d + 1) t (.slice a l cap) (.slice none 0 0)).run P w = .ok a.isNone w := by
 cases a <;> simp [Op.equalIn, AM hu]
theorem Np {t e : TypeId} (a : Option Addr) (l cap : Nat) (hu : P.underlying t = some (.slice e)) (w : World) :
 (binOp .eql t (.slice a l cap) (.slice none 0 0)).run P w = .ok (.bool a.isNone) w := by
 have := Il 9999 a l cap hu w
 simp only [binOp, Op.equal]; simp [Op.maxDepth, this]
theorem CV {evs : Operand → SV} {o : Oper} {h : Hp} {n : Nat} {K : SV → Hp → Nat → Prop} {t t2 : TypeId} {x : Operand} {z : Nat} {es : List SV} {full : Bool} (ho : o.op = .binOp .eql t x (.const (.slice none 0 0)) t2)
 (ht : (BC P t).isSome = true) (hx : evs x = .imm z es full) (h1 : es = [] → K (.bool true) h n) (h2 : K (.bool false) h n) : EQ E P evs o h n K := by
 refine ⟨by rw [ho]; simp, fun c ev hc _ R F hv => ?_⟩
 have hvx := hv x
 obtain ⟨e, ht⟩ := YF.1 ht
 have ht := A5 ht
 rw [hx, V] at hvx
 have fin : ∀ (a : Option Addr) (l cap : Nat), ev x = .slice a l cap → K (.bool a.isNone) h n → ∃ u v h' n' c', (execOp ev o).run P c.w = .ok (.value u) c'.w ∧ V c' v u ∧ B5 h' c' ∧ Fr n' c' ∧ F5 n c n' c' ∧ K v h' n' := fun a l cap e hk =>
  ⟨.bool a.isNone, .bool a.isNone, h, n, c, by simp [execOp, ho, e, hc, Hk (P := P) (a := .slice a l cap), Np a l cap ht], by simp [V], R, F, Zi n c, hk⟩
 rcases hvx with ⟨he, e⟩ | ⟨a, cap, vs, e, _⟩
 · exact fin _ _ _ e (h1 he)
 · exact fin _ _ _ e h2
def E9 (P : Program) (t : TypeId) : SV → SV → Option Bool
 | .int k a, .int k' b => if k = k' ∧ (L8 P t).isSome = true ∧ Bk P t = 1 ∧ Gb P t = some false then some (a == b) else none
 | .str a, .str b => if Er P t = true ∧ Bk P t = 1 ∧ Gb P t = some false then some (a.toList == b.toList) else none
 | .bool a, .bool b => if Le P t = true ∧ Bk P t = 1 ∧ Gb P t = some false then some (a == b) else none
 | _, _ => none
def Cz (P : Program) (cs ds : List SV) : List Field → Option Bool
 | [] => some true
 | f :: fs => if f.name = "_" then none else
  match cs[f.offset]?, ds[f.offset]? with
  | some x, some y => match E9 P f.type x y with | some true => Cz P cs ds fs | r => r
  | _, _ => none
def CO (P : Program) (t : TypeId) : List Field := (P.fieldsOf t).toList
theorem PD {c : Cx} {t : TypeId} {x y : SV} {u v : Value} {b : Bool} (h : E9 P t x y = some b) (hx : V c x u) (hy : V c y v) (d : Nat) (w : World) : (Op.equalIn (d + 1) t u v).run P w = .ok b w ∧ Bk P t = 1 ∧ Gb P t = some false := by
 unfold E9 at h
 split at h
 · split at h <;> try cases h
   rename_i hc
   obtain ⟨rfl, h1, h2, h3⟩ := hc
   rw [DI hx, DI hy]
   obtain ⟨i, hi⟩ := YF.1 h1
   exact ⟨run_equalIn_int w d t _ _ _ _ (F3 hi), h2, h3⟩
 · split at h <;> try cases h
   rename_i hc
   obtain ⟨h1, h2, h3⟩ := hc
   rw [Ka hx, Ka hy]
   exact ⟨run_equalIn_string w d t _ _ (by unfold Er at h1; split at h1 <;> first | assumption | cases h1), h2, h3⟩
 · split at h <;> try cases h
   rename_i hc
   obtain ⟨h1, h2, h3⟩ := hc
   rw [GX hx, GX hy]
   exact ⟨GV d _ _ (HG h1) w, h2, h3⟩
 · cases h
theorem I8 {c : Cx} {cs ds : List SV} {vs us : List Value} (hc : AY (V c) cs vs) (hd : AY (V c) ds us) (h1 : ∀ x ∈ vs, x.oneCell' = true) (h2 : ∀ x ∈ us, x.oneCell' = true) (d : Nat) (w : World) :
 ∀ (fs : List Field) (b : Bool), Cz P cs ds fs = some b → (Op.eqFields (d + 1) vs.toArray us.toArray fs).run P w = .ok b w
 | [], b, h => by simp [Cz] at h; subst h; simp [Op.eqFields]
 | f :: fs, b, h => by
  simp only [Cz] at h
  split at h <;> try cases h
  rename_i hn
  split at h <;> try cases h
  rename_i x y hx hy
  obtain ⟨u, hu, hvx⟩ := hc.get hx
  obtain ⟨v, hv, hvy⟩ := hd.get hy
  obtain ⟨b', hb⟩ : ∃ b', E9 P f.type x y = some b' := by
   cases hb : E9 P f.type x y with
   | none => simp [hb] at h
   | some b' => exact ⟨b', rfl⟩
  obtain ⟨hr, hs, ha⟩ := PD hb hvx hvy d w
  have p1 : (part f.type vs.toArray f.offset).run P w = .ok u w := by simp [part, FH ha, hu]
  have p2 : (part f.type us.toArray f.offset).run P w = .ok v w := by simp [part, FH ha, hv]
  simp only [Op.eqFields, ne_eq, hn, not_false_eq_true, if_true, Sem.run_bind, p1, p2, hr, Result.andThen_ok]
  rw [hb] at h
  cases b'
  · simp at h; subst h; simp
  · simp only at h
    simp only [Bool.not_true, KC, if_false]
    exact I8 hc hd h1 h2 d w fs b h
theorem DU {evs : Operand → SV} {o : Oper} {t t2 : TypeId} {x y : Operand} {op : BinOp} {cs ds : List SV} {b : Bool} (ho : o.op = .binOp op t x y t2) (hop : op = .eql ∨ op = .neq)
 (ht : P.underlying t = some (.struct (P.fieldsOf t))) (hp : P.stoodInHeld t = false) (hm : P.eqGuardType P.depth t = false)
 (hx : evs x = .agg cs) (hy : evs y = .agg ds) (hb : Cz P cs ds (CO P t) = some b) : QL P evs o (.bool (if op = .eql then b else !b)) := by
 refine ⟨by rw [ho]; simp, fun c ev _ hv => ?_⟩
 have hvx := hv x (by simp [ho, Op.operands])
 have hvy := hv y (by simp [ho, Op.operands])
 rw [hx] at hvx; rw [hy] at hvy
 obtain ⟨vs, e1, h1, h2⟩ := Hw hvx
 obtain ⟨us, e2, h3, h4⟩ := Hw hvy
 have hr := I8 h1 h3 h2 h4 9998 c.w _ _ hb
 have hrr : (Op.equalIn 10000 t (.agg vs.toArray) (.agg us.toArray)).run P c.w = .ok b c.w := by rw [run_equalIn_struct c.w 9999 t _ _ ht hp]; exact hr
 rcases hop with rfl | rfl
 · exact ⟨.bool b, by simp only [execOp, ho, e1, e2, Sem.run_bind, run_eqGuard_agg c.w _ _ _ _ _ _ hm, Result.andThen_ok, run_eql_struct, hrr]; simp, by simp [V]⟩
 · exact ⟨.bool !b, by simp only [execOp, ho, e1, e2, Sem.run_bind, run_eqGuard_agg c.w _ _ _ _ _ _ hm, Result.andThen_ok, run_neq_struct, hrr]; simp, by simp [V]⟩
theorem Cn {evs : Operand → SV} {o : Oper} {h : Hp} {n : Nat} {K : SV → Hp → Nat → Prop} {t : TypeId} {z : Nat} {ps : Array (Nat × Operand)} (ho : o.op = .buildSlice t 0 ps) (hps : ps = #[]) (hi : ((BC P t).bind P.info?).isSome = true)
 (hk : K (.imm z [] true) h n) : EQ E P evs o h n K := by
 subst hps
 refine ⟨by rw [ho]; simp, fun c ev hc _ R F hv => ?_⟩
 obtain ⟨i, hi⟩ := YF.1 hi
 obtain ⟨e, ht, hi⟩ := Xq.1 hi
 have hu := A5 ht
 have hw : (execOp ev o).run P c.w = .ok (.value (.slice (some ⟨c.w.heap.size, 0, none⟩) 0 0)) (c.w.alloc (.cells #[] e)) := by
  simp [execOp, ho, Instr.buildSlice, AM hu, sizeOf, typeInfo, hi, Instr.fill, newRow]
  congr 2; simp
 have X : Dc c { c with w := c.w.alloc (.cells #[] e) } := by
  refine ⟨fun _ _ e => e, by simp, fun b hb hn => ⟨hn, ?_⟩, fun b => ?_, rfl, rfl⟩
  · simp [Bh, YN, Zj hb]
  · unfold rm
    rcases Yr b c.w.heap.size with hx | hx
    · simp [Bh, YN, Zj hx]
    · simp [YE hx]
 refine ⟨_, .imm z [] true, h, n, { c with w := c.w.alloc (.cells #[] e) }, hw, ?_, ⟨fun o x e => (R.obj o x e).mono X fun b hb => ?_, R.inj2, R.own2⟩, F, ⟨X, JO _, fun _ _ => rfl⟩, hk⟩
 · rw [V]; exact .inr ⟨⟨c.w.heap.size, 0, none⟩, 0, [], rfl, JO _, fun _ => rfl, ⟨by simp, by simp, by simp, by simp⟩, by simp [VE]⟩
 · have h2 := (R.obj o x e).hold_lt hb
   simp [Bh, YN, Zj h2]
def DY (P : Program) (cs ds : List SV) : List (Bool × TypeId × Nat) → Option Bool
 | [] => some true
 | f :: fs => if f.1 = true then none else
  match cs[f.2.2]?, ds[f.2.2]? with
  | some x, some y => match E9 P f.2.1 x y with | some true => DY P cs ds fs | r => r
  | _, _ => none
theorem C0 (cs ds : List SV) : ∀ fs : List Field, Cz P cs ds fs = DY P cs ds (fs.map fun f => (f.name == "_", f.type, f.offset))
 | [] => rfl
 | f :: fs => by
  simp only [Cz, DY, Y3, beq_iff_eq, C0 cs ds fs]
end
structure Lp {α : Type} (f : α → SV) (z : Nat) : Prop where
 st : ∀ x, (f x).storable = true
 len : ∀ x, (f x).cells.length = z
 cl : ∀ n x, closed n (f x) = true
theorem Lp.size {α : Type} {f : α → SV} {z : Nat} (H : Lp f z) (l : List α) : ∀ e ∈ l.map f, e.storable = true ∧ e.cells.length = z := by
 intro e he; simp only [Y5] at he; obtain ⟨x, _, rfl⟩ := he; exact ⟨H.st x, H.len x⟩
theorem Lp.closedL {α : Type} {f : α → SV} {z : Nat} (H : Lp f z) (n : Nat) (l : List α) : closedL n (l.map f) = true := Df.2 (by
 intro e he; simp only [Y5] at he; obtain ⟨x, _, rfl⟩ := he; exact H.cl n x)
theorem Lp.imm {α : Type} {f : α → SV} {z : Nat} (H : Lp f z) (n z' : Nat) (l : List α) (full : Bool) : closed n (.imm z' (l.map f) full) = true := by rw [closed]; exact H.closedL n l
theorem LF : Lp AA 1 := ⟨fun _ => rfl, fun _ => rfl, fun _ _ => rfl⟩
theorem Eu.E : Lp Eu.enc 2 := ⟨fun _ => rfl, fun _ => rfl, fun _ _ => rfl⟩
theorem BS.E : Lp BS.enc 2 := ⟨fun _ => rfl, fun _ => rfl, fun _ _ => rfl⟩
theorem Az.E : Lp Az.enc 4 := ⟨fun _ => rfl, fun _ => rfl, fun _ _ => rfl⟩
theorem Av.E : Lp Av.enc 3 := ⟨fun _ => rfl, fun _ => rfl, fun _ _ => rfl⟩
theorem CZ.E : Lp CZ.enc 4 := ⟨fun _ => rfl, fun _ => rfl, fun _ _ => rfl⟩
theorem Aw.E : Lp Aw.enc 6 := ⟨fun _ => rfl, fun _ => rfl, fun _ _ => rfl⟩
theorem FX.E : Lp FX.enc 2 := ⟨fun _ => rfl, fun _ => rfl, fun _ _ => rfl⟩
theorem A7.E : Lp A7.enc 6 := ⟨fun _ => rfl, fun _ => rfl, fun n s => by simp [A7.enc, closed, closedL, Eu.E.closedL]⟩
theorem FL.E : Lp FL.enc 2 := ⟨fun _ => rfl, fun _ => rfl, fun n s => by simp [FL.enc, closed, closedL, CZ.E.closedL]⟩
theorem AF.flat_closed (n : Nat) (h : AF) : Sh.closedL n h.flat = true := by simp [AF.flat, closed, closedL, Eu.E.closedL, BS.E.closedL, Az.E.closedL]
theorem AF.E : Lp AF.enc 5 := ⟨fun _ => rfl, fun _ => rfl, fun n s => by rw [AF.enc, closed]; exact s.flat_closed n⟩
theorem C9 (n : Nat) : ∀ (a b : List SV), closedL n (a ++ b) = (closedL n a && closedL n b)
 | [], b => by simp [closedL]
 | x :: a, b => by simp [closedL, C9 n a b, Bool.and_assoc]
mutual
theorem AE.cl (n : Nat) : ∀ x : AE, closed n x.enc = true
 | .mk k c i t h f r => by
  rw [AE.enc, closed, C9, C9]
  simp [closed, closedL, h.flat_closed, AE.clL n f, AR.clL n r]
theorem AE.clL (n : Nat) : ∀ l : List AE, closedL n (AE.encL l) = true
 | [] => by simp [AE.encL, closedL]
 | x :: l => by rw [AE.encL, closedL, AE.cl n x, AE.clL n l]; rfl
theorem AR.cl (n : Nat) : ∀ x : AR, closed n x.enc = true
 | .mk h c => by
  rw [AR.enc, closed, C9]
  simp [closed, closedL, h.flat_closed, AL.clL n c]
theorem AR.clL (n : Nat) : ∀ l : List AR, closedL n (AR.encL l) = true
 | [] => by simp [AR.encL, closedL]
 | x :: l => by rw [AR.encL, closedL, AR.cl n x, AR.clL n l]; rfl
theorem AL.cl (n : Nat) : ∀ x : AL, closed n x.enc = true
 | .mk i h f => by
  rw [AL.enc, closed, C9, C9]
  simp [closed, closedL, h.flat_closed, AE.clL n f]
theorem AL.clL (n : Nat) : ∀ l : List AL, closedL n (AL.encL l) = true
 | [] => by simp [AL.encL, closedL]
 | x :: l => by rw [AL.encL, closedL, AL.cl n x, AL.clL n l]; rfl
end
theorem AE.E : Lp AE.enc 11 := ⟨fun x => by rw [KW]; rfl, fun x => by rw [KW]; rfl, AE.cl⟩
theorem AR.E : Lp AR.enc 6 := ⟨fun x => by rw [Yj]; rfl, fun x => by rw [Yj]; rfl, AR.cl⟩
theorem AL.E : Lp AL.enc 7 := ⟨fun x => by rw [YP]; rfl, fun x => by rw [YP]; rfl, AL.cl⟩
def AH.enc (d : AH) : SV := .agg ([AG d.flow] ++ d.«end».flat ++ [Aj d.revs] ++ d.settings.flat)
theorem DN {h' h : Hp} {k z o : Nat} {es : List SV} {full full' : Bool} (hn : h o = none) (hf : full' = true → full = true) (hh : h' o = some (.cells (es.flatMap SV.cells))) (hs : ∀ e ∈ es, e.storable = true ∧ e.cells.length = z) :
 Fz h' h (k + 1) (.sl o 0 z es.length full) (.imm z es full') := by
 refine .inr ⟨hn, hf, rfl, rfl, _, _, hh, by simp [Bm, BK hs]; rfl, hs, ?_⟩
 have : ∀ l : List SV, AY (Fz h' h k) l l := by
  intro l; induction l with
  | nil => trivial
  | cons a l ih => exact ⟨Jo, ih⟩
 simp only [← BK hs, KE]
 exact this _
theorem BR {h' h : Hp} {k z z' : Nat} {full full' : Bool} (hf : full' = true → full = true) : Fz h' h (k + 1) (.imm z [] full) (.imm z' [] full') :=
 .inr ⟨hf, .inl rfl, trivial, by simp⟩
theorem SU {α : Type} {f : α → SV} {z : Nat} (H : Lp f z) {h h' : Hp} {n n' o : Nat} {v : SV} {l : List α} {full : Bool} (ho : FM h n) (hh : ∀ o x, h o = some x → h' o = some x) (hn : n ≤ o) (hv : v = .sl o 0 z l.length full) (hc : h' o = some (.cells ((l.map f).flatMap SV.cells))) :
 CE n h' n' v (Is (.imm z (l.map f) false) h n) := by
 subst hv
 have := DN (h' := h') (h := h) (k := 0) (z := z) (es := l.map f) (full := full) (full' := false) (ho.none hn) (by simp) hc (H.size l)
 rw [Kj] at this
 exact Db 1 ho hh this (H.imm _ _ _ _)
theorem JQ {h h' : Hp} {n n' z z' : Nat} {v : SV} {full full' : Bool} (ho : FM h n) (hh : ∀ o x, h o = some x → h' o = some x) (hf : full' = true → full = true) (hv : v = .imm z [] full) : CE n h' n' v (Is (.imm z' [] full') h n) := by
 subst hv; exact Db 1 ho hh (BR hf) (by simp [closed, closedL])
theorem GY {P : Program} {h : Hp} {n z : Nat} {t t2 el : TypeId} {es : List SV} {full : Bool} (ht : BC P t = some el) (ht2 : (BC P t2).isSome = true) (hz : Bk P el = z) (hz0 : z ≠ 0) (hst : (BP P el).storable = true) (hzl : (BP P el).cells.length = z)
 (hb : Bj P el ≤ 65536) (hne : es ≠ []) (hroom : es.length ≤ 1073741824) (hrow : G9 el = none := by rfl) :
 AT P h n .append [t, t2] [.imm z [] true, .imm z es full] = some { val := .sl n 0 z es.length false, new := some (.cells (es.flatMap SV.cells)) } := by
 have h0 : es.length ≠ 0 := by cases es <;> simp at hne ⊢
 have hr : DM (0 + es.length) (Bj P el) = true := by simp [DM]; exact ⟨hroom, hb⟩
 simp only [AT, ht2, if_true, C5, ht, Ea, flat, hz, hzl, hst]
 simp [ID, hz0, h0, hrow]
 simpa using hr
def Ni (z : Nat) (es : List SV) (h : Hp) (n : Nat) : SV → Hp → Nat → Prop := fun v h' n' =>
 n ≤ n' ∧ (∀ o x, h o = some x → h' o = some x) ∧ ((es = [] ∧ ∃ z' full, v = .imm z' [] full) ∨ ∃ o full, n ≤ o ∧ o < n' ∧ v = .sl o 0 z es.length full ∧ h' o = some (.cells (es.flatMap SV.cells)))
abbrev LC (f : FuncId) (args : List SV) (z : Nat) (es : List SV) : Prop := ∀ h n, BN Tryz.prog f args h n (Ni z es h n)
theorem LC.pc {f : FuncId} {args : List SV} {z : Nat} {es : List SV} (H : LC f args z es) (hs : ∀ e ∈ es, e.storable = true ∧ e.cells.length = z) (hcl : ∀ n, closedL n es = true) : PC f args (.imm z es false) := by
 intro h n
 refine ⟨(H h n).1, fun c vs I R F A => ((H h n).2 c vs I R F A).mono ?_⟩
 rintro e w' ⟨u, v, h', n', c', rfl, ⟨hle, hh, hv⟩, rfl, hV, R', F', X⟩
 have ho : FM h n := fun o x e => Gu F (R.obj o x e)
 have hfz : Fz h' h 1 v (.imm z es false) := by
  rcases hv with ⟨rfl, z', full, rfl⟩ | ⟨o, full, h1, h2, rfl, h3⟩
  · exact BR (by simp)
  · exact DN (ho.none h1) (by simp) h3 hs
 have RL := R'.less hh
 have hv2 : V ((c'.less h).cut h n) (.imm z es false) u := (hfz.sound R' hh 1 hV).cut RL (fun _ _ e => e) (by rw [closed]; exact hcl n)
 refine ⟨u, _, h, n, (c'.less h).cut h n, rfl, ⟨rfl, rfl, rfl⟩, rfl, hv2, RL.cut (fun o x e => ⟨e, ho o x e⟩), RU, ⟨Py RL (fun _ _ e => e) F (JO _) (X.ext.trans (DE R' hh)), JO _, fun j hj => ?_⟩⟩
 simp only [Cx.cut, hj, if_true]
 exact X.same j hj
theorem LC.use {E : By} {f : FuncId} {args : List SV} {z : Nat} {es : List SV} (H : LC f args z es) {h : Hp} {n : Nat} {K : SV → Hp → Nat → Prop} (hk : ∀ v h' n', Ni z es h n v h' n' → K v h' n') : Ak E Tryz.prog f args h n K :=
 Ak.lift ((H h n).mono hk)
structure AF.sized (h : AF) : Prop where
 props : h.props.length ≤ 1048576
 dels : h.dels.length ≤ 1048576
 layers : h.layers.length ≤ 1048576
mutual
def AE.sized : AE → Prop
 | .mk _ _ _ t h f r => t.size ≤ 1048576 ∧ h.sized ∧ f.length ≤ 1048576 ∧ r.length ≤ 1048576 ∧ AE.sizedL f ∧ AR.sizedL r
def AE.sizedL : List AE → Prop
 | [] => True
 | x :: l => x.sized ∧ AE.sizedL l
def AR.sized : AR → Prop
 | .mk h c => h.sized ∧ c.length ≤ 1048576 ∧ AL.sizedL c
def AR.sizedL : List AR → Prop
 | [] => True
 | x :: l => x.sized ∧ AR.sizedL l
def AL.sized : AL → Prop
 | .mk _ h f => h.sized ∧ f.length ≤ 1048576 ∧ AE.sizedL f
def AL.sizedL : List AL → Prop
 | [] => True
 | x :: l => x.sized ∧ AL.sizedL l
end
theorem AE.sizedL_mem : ∀ {l : List AE}, AE.sizedL l → ∀ x ∈ l, x.sized
 | _ :: _, h, x, hx => by rw [AE.sizedL] at h; rcases Y0.1 hx with rfl | hx; exact h.1; exact AE.sizedL_mem h.2 x hx
theorem AR.sizedL_mem : ∀ {l : List AR}, AR.sizedL l → ∀ x ∈ l, x.sized
 | _ :: _, h, x, hx => by rw [AR.sizedL] at h; rcases Y0.1 hx with rfl | hx; exact h.1; exact AR.sizedL_mem h.2 x hx
theorem AL.sizedL_mem : ∀ {l : List AL}, AL.sizedL l → ∀ x ∈ l, x.sized
 | _ :: _, h, x, hx => by rw [AL.sizedL] at h; rcases Y0.1 hx with rfl | hx; exact h.1; exact AL.sizedL_mem h.2 x hx
theorem AE.sizedL_of : ∀ {l : List AE}, (∀ x ∈ l, x.sized) → AE.sizedL l
 | [], _ => by rw [AE.sizedL]; trivial
 | x :: l, h => by rw [AE.sizedL]; exact ⟨h x (by simp), AE.sizedL_of fun y hy => h y (by simp [hy])⟩
theorem AR.sizedL_of : ∀ {l : List AR}, (∀ x ∈ l, x.sized) → AR.sizedL l
 | [], _ => by rw [AR.sizedL]; trivial
 | x :: l, h => by rw [AR.sizedL]; exact ⟨h x (by simp), AR.sizedL_of fun y hy => h y (by simp [hy])⟩
theorem AL.sizedL_of : ∀ {l : List AL}, (∀ x ∈ l, x.sized) → AL.sizedL l
 | [], _ => by rw [AL.sizedL]; trivial
 | x :: l, h => by rw [AL.sizedL]; exact ⟨h x (by simp), AL.sizedL_of fun y hy => h y (by simp [hy])⟩
section
variable {P : Program}
theorem Fd {H : Hp} {n m k z : Nat} {es : List SV} {e : SV} {o : Option Nat} {t t2 el : TypeId} (ht : BC P t = some el) (ht2 : (BC P t2).isSome = true) (hz : Bk P el = z) (hz0 : z ≠ 0) (hst : (BP P el).storable = true) (hzl : (BP P el).cells.length = z)
 (hb : Bj P el ≤ 65536) (hroom : es.length + 1 ≤ 1073741824) (hA : BQ n m z o es) (he : e.cells.length = z) (h1 : H k = some (.cells e.cells)) (h2 : ∀ j, o = some j → H j = some (.cells (es.flatMap SV.cells))) (p : Nat) (hrow : G9 el = none := by rfl) :
 AT P H p .append [t, t2] [AQ z o es, .sl k 0 z 1 true] =
  some { val := .sl p 0 z (es.length + 1) false, upd := o.map fun j => (j, none), new := some (.cells (es.flatMap SV.cells ++ e.cells)) } := by
 have hfl : flat H (.sl k 0 z 1 true) = some e.cells := by
  simp [flat, h1, Bm, he]
  exact Y8 (by omega)
 have hr : DM (es.length + 1) (Bj P el) = true := by simp [DM]; exact ⟨by omega, hb⟩
 simp only [AT, ht2, if_true, C5, ht, Ea, hfl, hz, hzl, hst]
 cases o with
 | none =>
  have := hA.none rfl
  subst this
  simp [AQ, ID, hz0, hrow]
  have hr' : DM 1 (Bj P el) = true := by simpa using hr
  exact hr'
 | some j =>
  have hf : flat H (.sl j 0 z es.length false) = some (es.flatMap SV.cells) := by
   simp only [flat, h2 j rfl, Bm, YV, BK hA.size, JO, if_true, Zs]
   rw [← BK hA.size, KE]
  simp [AQ, ID, hz0, hf, hr, Iu hrow]
end
theorem De {h H : Hp} {n m p z : Nat} {es : List SV} {e : SV} {o : Option Nat} {v : SV} (ho : FM h n) (hn : n ≤ p) (hA : BQ n m z o es) (hH : ∀ j y, h j = some y → H j = some y) :
 ∀ j y, AS (some p) (es ++ [e]) h j = some y → (Cu.app H p { val := v, upd := o.map fun j => (j, none), new := some (.cells (es.flatMap SV.cells ++ e.cells)) }) j = some y := by
 intro j y hj
 simp only [AS] at hj
 by_cases e1 : j = p
 · subst e1
   rw [AC] at hj
   simp only [Cu.app, AC]
   rw [← hj]; simp
 · rw [AD _ _ e1] at hj
   have hlt := (ho j y hj).1
   cases o with
   | none => simp [Cu.app, AD _ _ e1, hH j y hj]
   | some k =>
    have hk : j ≠ k := by have := (hA.lt k rfl).1; omega
    simp [Cu.app, AD _ _ e1, AD _ _ hk, hH j y hj]
theorem E3 {h : Hp} {o : Option Nat} {es : List SV} : ∀ j, o = some j → AS o es h j = some (.cells (es.flatMap SV.cells)) := by
 rintro j rfl; simp [AS, hset]
theorem Kd {h h' : Hp} {n m m' z : Nat} {o : Option Nat} {es : List SV} (ho : FM h n) (hA : BQ n m z o es) (hh : ∀ j y, AS o es h j = some y → h' j = some y) (hm : n ≤ m') (hm' : m ≤ m') : Ni z es h n (AQ z o es) h' m' := by
 refine ⟨hm, fun j x e => hh j x (AS.old ho hA j x e), ?_⟩
 cases o with
 | none => exact .inl ⟨hA.none rfl, 0, true, rfl⟩
 | some j => exact .inr ⟨j, false, (hA.lt j rfl).1, Zw (hA.lt j rfl).2 hm', rfl, hh j _ (by simp [AS, hset])⟩
theorem IY {z : Nat} {es : List SV} (hs : ∀ e ∈ es, e.storable = true ∧ e.cells.length = z) (i : Nat) : (es.flatMap SV.cells).take (i * z) = (es.take i).flatMap SV.cells ∧ (es.flatMap SV.cells).drop (i * z) = (es.drop i).flatMap SV.cells := by
 induction es generalizing i with
 | nil => simp
 | cons e es ih =>
  cases i with
  | zero => simp
  | succ i =>
   have he := (hs e (by simp)).2
   obtain ⟨h1, h2⟩ := ih (fun x hx => hs x (by simp [hx])) i
   have e1 : (i + 1) * z = e.cells.length + i * z := by rw [he, YY, Nat.one_mul, ZU]
   simp only [Yx, Yu, ZK, e1]
   rw [List.take_length_add_append, Zh, h1, h2]
   exact ⟨rfl, rfl⟩
theorem K9 {z : Nat} {es : List SV} (hs : ∀ e ∈ es, e.storable = true ∧ e.cells.length = z) {i : Nat} {e : SV} (h : es[i]? = some e) : i * z + z ≤ (es.flatMap SV.cells).length ∧ ((es.flatMap SV.cells).drop (i * z)).take z = e.cells := by
 obtain ⟨hlt, he⟩ := Ky.1 h
 have hz := (hs e (by rw [← he]; exact Kn hlt)).2
 refine ⟨?_, ?_⟩
 · rw [BK hs]
   have : (i + 1) * z ≤ es.length * z := YQ z hlt
   rw [YY, Nat.one_mul] at this; exact this
 · rw [(IY hs i).2, Yi hlt, he, Yx, ← hz, Xe]
theorem N5 {z : Nat} {es : List SV} (hs : ∀ e ∈ es, e.storable = true ∧ e.cells.length = z) {j : Nat} {e : SV} (hj : j < es.length) : (es.flatMap SV.cells).take (j * z) ++ (e.cells ++ (es.flatMap SV.cells).drop (j * z + z)) = (es.set j e).flatMap SV.cells := by
 have h1 := (IY hs j).1
 have h2 := (IY hs (j + 1)).2
 rw [YY, Nat.one_mul] at h2
 rw [h1, h2, ZP, if_pos hj]
 simp
section
variable {P : Program}
theorem GB {H : Hp} {n m k z j len : Nat} {es : List SV} {e : SV} {t t2 el : TypeId} (ht : BC P t = some el) (ht2 : (BC P t2).isSome = true) (hz : Bk P el = z) (hz0 : z ≠ 0) (hst : (BP P el).storable = true) (hzl : (BP P el).cells.length = z)
 (hb : Bj P el ≤ 65536) (hroom : es.length + 1 ≤ 1073741824) (hA : BQ n m z (some j) es) (he : e.cells.length = z) (h1 : H k = some (.cells e.cells)) (h2 : H j = some (.cells (es.flatMap SV.cells))) (p : Nat) (hlen : len = es.length) (hrow : G9 el = none := by rfl) :
 AT P H p .append [t, t2] [.sl j 0 z len false, .sl k 0 z 1 true] =
  some { val := .sl p 0 z (es.length + 1) false, upd := some (j, none), new := some (.cells (es.flatMap SV.cells ++ e.cells)) } := by
 subst hlen
 exact Fd (o := some j) ht ht2 hz hz0 hst hzl hb hroom hA he h1 (fun i e => by cases e; exact h2) p hrow
theorem Kg {H : Hp} {k z : Nat} {e : SV} {t t2 el : TypeId} (ht : BC P t = some el) (ht2 : (BC P t2).isSome = true) (hz : Bk P el = z) (hz0 : z ≠ 0) (hst : (BP P el).storable = true) (hzl : (BP P el).cells.length = z)
 (hb : Bj P el ≤ 65536) (he : e.cells.length = z) (h1 : H k = some (.cells e.cells)) (p : Nat) (hrow : G9 el = none := by rfl) :
 AT P H p .append [t, t2] [.imm 0 [] true, .sl k 0 z 1 true] = some { val := .sl p 0 z 1 false, new := some (.cells e.cells) } :=
 Fd (n := 0) (m := 0) (o := none) (es := []) ht ht2 hz hz0 hst hzl hb (by simp) (Zp 0 0 z) he h1 (by simp) p hrow
end
theorem l185 (l : List Eu) (hl : l.length ≤ 1048576) : LC 185 [.imm 2 (l.map Eu.enc) false] 2 (l.map Eu.enc) := by
 intro h n
 refine gq Tryz.func185 rfl fun ho => ?_
 simp [go_sem]
 refine CV rfl (by kernel_rfl) rfl (fun e => ?_) ?_
 · simp [go_sem]
   have : l = [] := by simpa using e
   subst this
   exact .inl ⟨JO _, AB, .inl ⟨rfl, _, _, rfl⟩⟩
 · simp [go_sem]
   refine Cn (z := 2) rfl rfl (by kernel_rfl) ?_
   cases l with
   | nil =>
    simp [go_sem]
    exact .inl ⟨JO _, AB, .inl ⟨rfl, _, _, rfl⟩⟩
   | cons a l =>
    have hap := GY (P := Tryz.prog) (h := h) (n := n) (t := 23) (t2 := 23) (el := 193) (z := 2) (es := (a :: l).map Eu.enc) (full := false) (by simp [go_sem]) (by simp [go_sem]) (by simp [go_sem]) (by simp) (by simp [go_sem]) (by simp [go_sem]) (by simp [go_sem]) (by simp) (by simp at hl ⊢; omega)
    simp only [Y3] at hap
    simp [go_sem, hap]
    refine .inl ⟨YA n, AN ho (JO _) AB, .inr ⟨n, false, JO _, Yk n, ?_, ?_⟩⟩
    · simp
    · simp [AC]; rfl
theorem UJ (l : List Eu) (hl : l.length ≤ 1048576) : PC 185 [.imm 2 (l.map Eu.enc) false] (.imm 2 (l.map Eu.enc) false) := (l185 l hl).pc (Eu.E.size l) fun n => Eu.E.closedL n l
theorem l186 (l : List BS) (hl : l.length ≤ 1048576) : LC 186 [.imm 2 (l.map BS.enc) false] 2 (l.map BS.enc) := by
 intro h n
 refine gq Tryz.func186 rfl fun ho => ?_
 simp [go_sem]
 refine CV rfl (by kernel_rfl) rfl (fun e => ?_) ?_
 · simp [go_sem]
   have : l = [] := by simpa using e
   subst this
   exact .inl ⟨JO _, AB, .inl ⟨rfl, _, _, rfl⟩⟩
 · simp [go_sem]
   refine Cn (z := 2) rfl rfl (by kernel_rfl) ?_
   cases l with
   | nil =>
    simp [go_sem]
    exact .inl ⟨JO _, AB, .inl ⟨rfl, _, _, rfl⟩⟩
   | cons a l =>
    have hap := GY (P := Tryz.prog) (h := h) (n := n) (t := 24) (t2 := 24) (el := 166) (z := 2) (es := (a :: l).map BS.enc) (full := false) (by simp [go_sem]) (by simp [go_sem]) (by simp [go_sem]) (by simp) (by simp [go_sem]) (by simp [go_sem]) (by simp [go_sem]) (by simp) (by simp at hl ⊢; omega)
    simp only [Y3] at hap
    simp [go_sem, hap]
    refine .inl ⟨YA n, AN ho (JO _) AB, .inr ⟨n, false, JO _, Yk n, ?_, ?_⟩⟩
    · simp
    · simp [AC]; rfl
theorem c186 (l : List BS) (hl : l.length ≤ 1048576) : PC 186 [.imm 2 (l.map BS.enc) false] (.imm 2 (l.map BS.enc) false) := (l186 l hl).pc (BS.E.size l) fun n => BS.E.closedL n l
theorem l187 (l : List Az) (hl : l.length ≤ 1048576) : LC 187 [.imm 4 (l.map Az.enc) false] 4 (l.map Az.enc) := by
 intro h n
 refine gq Tryz.func187 rfl fun ho => ?_
 simp [go_sem]
 refine CV rfl (by kernel_rfl) rfl (fun e => ?_) ?_
 · simp [go_sem]
   have : l = [] := by simpa using e
   subst this
   exact .inl ⟨JO _, AB, .inl ⟨rfl, _, _, rfl⟩⟩
 · simp [go_sem]
   refine Cn (z := 4) rfl rfl (by kernel_rfl) ?_
   cases l with
   | nil =>
    simp [go_sem]
    exact .inl ⟨JO _, AB, .inl ⟨rfl, _, _, rfl⟩⟩
   | cons a l =>
    have hap := GY (P := Tryz.prog) (h := h) (n := n) (t := 25) (t2 := 25) (el := 164) (z := 4) (es := (a :: l).map Az.enc) (full := false) (by simp [go_sem]) (by simp [go_sem]) (by simp [go_sem]) (by simp) (by simp [go_sem]) (by simp [go_sem]) (by simp [go_sem]) (by simp) (by simp at hl ⊢; omega)
    simp only [Y3] at hap
    simp [go_sem, hap]
    refine .inl ⟨YA n, AN ho (JO _) AB, .inr ⟨n, false, JO _, Yk n, ?_, ?_⟩⟩
    · simp
    · simp [AC]; rfl
theorem c187 (l : List Az) (hl : l.length ≤ 1048576) : PC 187 [.imm 4 (l.map Az.enc) false] (.imm 4 (l.map Az.enc) false) := (l187 l hl).pc (Az.E.size l) fun n => Az.E.closedL n l
theorem T2 (l : List Av) (hl : l.length ≤ 1048576) : LC 76 [.imm 3 (l.map Av.enc) false] 3 (l.map Av.enc) := by
 intro h n
 refine gq Tryz.func76 rfl fun ho => ?_
 simp [go_sem]
 refine CV rfl (by kernel_rfl) rfl (fun e => ?_) ?_
 · simp [go_sem]
   have : l = [] := by simpa using e
   subst this
   exact .inl ⟨JO _, AB, .inl ⟨rfl, _, _, rfl⟩⟩
 · simp [go_sem]
   refine Cn (z := 3) rfl rfl (by kernel_rfl) ?_
   cases l with
   | nil =>
    simp [go_sem]
    exact .inl ⟨JO _, AB, .inl ⟨rfl, _, _, rfl⟩⟩
   | cons a l =>
    have hap := GY (P := Tryz.prog) (h := h) (n := n) (t := 30) (t2 := 30) (el := 42) (z := 3) (es := (a :: l).map Av.enc) (full := false) (by simp [go_sem]) (by simp [go_sem]) (by simp [go_sem]) (by simp) (by simp [go_sem]) (by simp [go_sem]) (by simp [go_sem]) (by simp) (by simp at hl ⊢; omega)
    simp only [Y3] at hap
    simp [go_sem, hap]
    refine .inl ⟨YA n, AN ho (JO _) AB, .inr ⟨n, false, JO _, Yk n, ?_, ?_⟩⟩
    · simp
    · simp [AC]; rfl
theorem c76 (l : List Av) (hl : l.length ≤ 1048576) : PC 76 [.imm 3 (l.map Av.enc) false] (.imm 3 (l.map Av.enc) false) := (T2 l hl).pc (Av.E.size l) fun n => Av.E.closedL n l
theorem l199 (l : List A7) (hl : l.length ≤ 1048576) : LC 199 [.imm 6 (l.map A7.enc) false] 6 (l.map A7.enc) := by
 intro h n
 refine gq Tryz.func199 rfl fun ho => ?_
 simp [go_sem]
 refine CV rfl (by kernel_rfl) rfl (fun e => ?_) ?_
 · simp [go_sem]
   have : l = [] := by simpa using e
   subst this
   exact .inl ⟨JO _, AB, .inl ⟨rfl, _, _, rfl⟩⟩
 · simp [go_sem]
   refine Cn (z := 6) rfl rfl (by kernel_rfl) ?_
   cases l with
   | nil =>
    simp [go_sem]
    exact .inl ⟨JO _, AB, .inl ⟨rfl, _, _, rfl⟩⟩
   | cons a l =>
    have hap := GY (P := Tryz.prog) (h := h) (n := n) (t := 31) (t2 := 31) (el := 198) (z := 6) (es := (a :: l).map A7.enc) (full := false) (by simp [go_sem]) (by simp [go_sem]) (by simp [go_sem]) (by simp) (by simp [go_sem]) (by simp [go_sem]) (by simp [go_sem]) (by simp) (by simp at hl ⊢; omega)
    simp only [Y3] at hap
    simp [go_sem, hap]
    refine .inl ⟨YA n, AN ho (JO _) AB, .inr ⟨n, false, JO _, Yk n, ?_, ?_⟩⟩
    · simp
    · simp [AC]; rfl
theorem l200 (l : List FL) (hl : l.length ≤ 1048576) : LC 200 [.imm 2 (l.map FL.enc) false] 2 (l.map FL.enc) := by
 intro h n
 refine gq Tryz.func200 rfl fun ho => ?_
 simp [go_sem]
 refine CV rfl (by kernel_rfl) rfl (fun e => ?_) ?_
 · simp [go_sem]
   have : l = [] := by simpa using e
   subst this
   exact .inl ⟨JO _, AB, .inl ⟨rfl, _, _, rfl⟩⟩
 · simp [go_sem]
   refine Cn (z := 2) rfl rfl (by kernel_rfl) ?_
   cases l with
   | nil =>
    simp [go_sem]
    exact .inl ⟨JO _, AB, .inl ⟨rfl, _, _, rfl⟩⟩
   | cons a l =>
    have hap := GY (P := Tryz.prog) (h := h) (n := n) (t := 32) (t2 := 32) (el := 103) (z := 2) (es := (a :: l).map FL.enc) (full := false) (by simp [go_sem]) (by simp [go_sem]) (by simp [go_sem]) (by simp) (by simp [go_sem]) (by simp [go_sem]) (by simp [go_sem]) (by simp) (by simp at hl ⊢; omega)
    simp only [Y3] at hap
    simp [go_sem, hap]
    refine .inl ⟨YA n, AN ho (JO _) AB, .inr ⟨n, false, JO _, Yk n, ?_, ?_⟩⟩
    · simp
    · simp [AC]; rfl
theorem l201 (l : List Aw) (hl : l.length ≤ 1048576) : LC 201 [.imm 6 (l.map Aw.enc) false] 6 (l.map Aw.enc) := by
 intro h n
 refine gq Tryz.func201 rfl fun ho => ?_
 simp [go_sem]
 refine CV rfl (by kernel_rfl) rfl (fun e => ?_) ?_
 · simp [go_sem]
   have : l = [] := by simpa using e
   subst this
   exact .inl ⟨JO _, AB, .inl ⟨rfl, _, _, rfl⟩⟩
 · simp [go_sem]
   refine Cn (z := 6) rfl rfl (by kernel_rfl) ?_
   cases l with
   | nil =>
    simp [go_sem]
    exact .inl ⟨JO _, AB, .inl ⟨rfl, _, _, rfl⟩⟩
   | cons a l =>
    have hap := GY (P := Tryz.prog) (h := h) (n := n) (t := 33) (t2 := 33) (el := 115) (z := 6) (es := (a :: l).map Aw.enc) (full := false) (by simp [go_sem]) (by simp [go_sem]) (by simp [go_sem]) (by simp) (by simp [go_sem]) (by simp [go_sem]) (by simp [go_sem]) (by simp) (by simp at hl ⊢; omega)
    simp only [Y3] at hap
    simp [go_sem, hap]
    refine .inl ⟨YA n, AN ho (JO _) AB, .inr ⟨n, false, JO _, Yk n, ?_, ?_⟩⟩
    · simp
    · simp [AC]; rfl
theorem c201 (l : List Aw) (hl : l.length ≤ 1048576) : PC 201 [.imm 6 (l.map Aw.enc) false] (.imm 6 (l.map Aw.enc) false) := (l201 l hl).pc (Aw.E.size l) fun n => Aw.E.closedL n l
theorem l202 (l : List FX) (hl : l.length ≤ 1048576) : LC 202 [.imm 2 (l.map FX.enc) false] 2 (l.map FX.enc) := by
 intro h n
 refine gq Tryz.func202 rfl fun ho => ?_
 simp [go_sem]
 refine CV rfl (by kernel_rfl) rfl (fun e => ?_) ?_
 · simp [go_sem]
   have : l = [] := by simpa using e
   subst this
   exact .inl ⟨JO _, AB, .inl ⟨rfl, _, _, rfl⟩⟩
 · simp [go_sem]
   refine Cn (z := 2) rfl rfl (by kernel_rfl) ?_
   cases l with
   | nil =>
    simp [go_sem]
    exact .inl ⟨JO _, AB, .inl ⟨rfl, _, _, rfl⟩⟩
   | cons a l =>
    have hap := GY (P := Tryz.prog) (h := h) (n := n) (t := 34) (t2 := 34) (el := 118) (z := 2) (es := (a :: l).map FX.enc) (full := false) (by simp [go_sem]) (by simp [go_sem]) (by simp [go_sem]) (by simp) (by simp [go_sem]) (by simp [go_sem]) (by simp [go_sem]) (by simp) (by simp at hl ⊢; omega)
    simp only [Y3] at hap
    simp [go_sem, hap]
    refine .inl ⟨YA n, AN ho (JO _) AB, .inr ⟨n, false, JO _, Yk n, ?_, ?_⟩⟩
    · simp
    · simp [AC]; rfl
theorem c202 (l : List FX) (hl : l.length ≤ 1048576) : PC 202 [.imm 2 (l.map FX.enc) false] (.imm 2 (l.map FX.enc) false) := (l202 l hl).pc (FX.E.size l) fun n => FX.E.closedL n l
theorem l203 (l : List CZ) (hl : l.length ≤ 1048576) : LC 203 [.imm 4 (l.map CZ.enc) false] 4 (l.map CZ.enc) := by
 intro h n
 refine gq Tryz.func203 rfl fun ho => ?_
 simp [go_sem]
 refine CV rfl (by kernel_rfl) rfl (fun e => ?_) ?_
 · simp [go_sem]
   have : l = [] := by simpa using e
   subst this
   exact .inl ⟨JO _, AB, .inl ⟨rfl, _, _, rfl⟩⟩
 · simp [go_sem]
   refine Cn (z := 4) rfl rfl (by kernel_rfl) ?_
   cases l with
   | nil =>
    simp [go_sem]
    exact .inl ⟨JO _, AB, .inl ⟨rfl, _, _, rfl⟩⟩
   | cons a l =>
    have hap := GY (P := Tryz.prog) (h := h) (n := n) (t := 101) (t2 := 101) (el := 106) (z := 4) (es := (a :: l).map CZ.enc) (full := false) (by simp [go_sem]) (by simp [go_sem]) (by simp [go_sem]) (by simp) (by simp [go_sem]) (by simp [go_sem]) (by simp [go_sem]) (by simp) (by simp at hl ⊢; omega)
    simp only [Y3] at hap
    simp [go_sem, hap]
    refine .inl ⟨YA n, AN ho (JO _) AB, .inr ⟨n, false, JO _, Yk n, ?_, ?_⟩⟩
    · simp
    · simp [AC]; rfl
theorem c203 (l : List CZ) (hl : l.length ≤ 1048576) : PC 203 [.imm 4 (l.map CZ.enc) false] (.imm 4 (l.map CZ.enc) false) := (l203 l hl).pc (CZ.E.size l) fun n => CZ.E.closedL n l
theorem Ns (h0 : AF) (hs : h0.sized) : PC 118 [h0.enc] h0.enc := by
 intro h n
 refine gq Tryz.func118 rfl fun ho => ?_
 simp [go_sem, AF.enc, AF.flat, AC, AD]
 refine (UJ _ hs.props).use ?_
 simp [go_sem, AC, AD]
 repeat first | refine nq ?_ | refine sq ?_ | refine aq ?_
 refine YL _ _ _ _ _ _ (c186 _ hs.dels) ?_
 simp [go_sem, AC]
 repeat first | refine nq ?_ | refine sq ?_ | refine aq ?_
 refine YL _ _ _ _ _ _ (c187 _ hs.layers) ?_
 simp [go_sem, AC, AD]
 repeat first | refine nq ?_ | refine sq ?_ | refine aq ?_
 exact Ax ho (by repeat (first | exact AB | refine AN ho (by omega) ?_)) rfl (AF.E.cl n h0)
theorem l174 (l : List AE) (hl : l.length ≤ 1048576) (g : FuncId) (a b : List SV) (f : AE → AE) (hf : ∀ (i : Nat) (h : i < l.length), PC g (a ++ [AE.enc l[i]] ++ b) (AE.enc (f l[i]))) : LC 174 [.imm 11 (l.map AE.enc) false, .fn (.func g) a b] 11 ((l.map f).map AE.enc) := by
 intro h n
 generalize hR : (l.map f).map AE.enc = R
 refine gq Tryz.func174 rfl fun ho => ?_
 simp [go_sem]
 refine Aq 1 (α := Nat × Option Nat) (fun q => [(1, .fn (.func g) a b), (5, AQ 11 q.2 (((l.take q.1).map f).map AE.enc)), (8, .imm 11 (l.map AE.enc) false), (9, AA l.length), (10, AA q.1)]) (fun q => AS q.2 (((l.take q.1).map f).map AE.enc) h)
  (fun q m => q.1 ≤ l.length ∧ n ≤ m ∧ BQ n m 11 q.2 (((l.take q.1).map f).map AE.enc)) (fun q => l.length - q.1) (0, none) ?_ ?_ AB ?_
 · simp; exact Zp _ _ _
 · simp [Am, AQ]
 rintro ⟨k, o⟩ m ⟨hk, hnm, hA⟩
 dsimp only at hk hA ⊢
 have hlen : (((l.take k).map f).map AE.enc).length = k := by simp; omega
 by_cases hlt : k < l.length
 · have w1 := wS k (by omega)
   obtain ⟨x, hx⟩ : ∃ x, l[k] = x := ⟨_, rfl⟩
   have H := hf k hlt
   rw [hx] at H
   simp only [KF, Y7, Yc] at H
   have hgx : (l.map AE.enc)[k]? = some x.enc := by simp [hlt, hx]
   have htk : ((l.take (k + 1)).map f).map AE.enc = ((l.take k).map f).map AE.enc ++ [(f x).enc] := by rw [JW hlt, hx]; simp
   have hpush := hA.push (j := m + 1 + 1) (m' := m + 1 + 1 + 1) (e := (f x).enc) (AE.E.st _) (AE.E.len _) (by omega) (by omega)
   rw [← htk] at hpush
   generalize hes : ((l.take k).map f).map AE.enc = es at hA htk hlen ⊢
   simp only [Yh] at hgx
   simp [go_sem, hlt, hx, KW, AC, -List.map_map, -List.map_take]
   refine Y4 (by simpa [KW] using H) ?_
   simp [go_sem, -List.map_map, -List.map_take]
   rw [Fd (es := es) (e := (f x).enc) (o := o) (t := 22) (t2 := 22) (el := 70) (z := 11) (by simp [go_sem]) (by simp [go_sem]) (by simp [go_sem]) (by simp) (by simp [go_sem]) (by simp [go_sem]) (by simp [go_sem]) (by omega) hA (AE.E.len _) ?a1 ?a2]
   case a1 => simp [AC, KW, SV.cells]
   case a2 =>
    intro j e
    have := (hA.lt j e).2
    rw [AD _ _ (by omega), AD _ _ (by omega), AD _ _ (by omega)]; exact E3 j e
   simp [go_sem, w1, -Int.natCast_add, -List.map_map, -List.map_take]
   refine ⟨k + 1, by omega, some (m + 1 + 1), ⟨by omega, by omega, hpush⟩, ⟨?_, Jo⟩, ?_⟩
   · rw [htk]; simp [AQ, Jo]
   · rw [htk]
     have := De (p := m + 1 + 1) (v := .sl (m + 1 + 1) 0 11 (es.length + 1) false) (e := (f x).enc) ho (by omega) hA (H := hset (hset (hset (AS o es h) m (some (.cells [.int .i64 0, .int .i64 0, .int .i64 0, .str .empty, .imm 0 [] true, .int .i64 0, .int .i64 0, .imm 0 [] true, .imm 0 [] true, .imm 0 [] true, .imm 0 [] true]))) m (some (.cells x.enc.cells))) (m + 1) (some (.cells (f x).enc.cells)))
      (AN ho (by omega) (AN ho (by omega) (AN ho (by omega) (AS.old ho hA))))
     simpa [KW, SV.cells, Cu.app] using this
 · have : k = l.length := by omega
   subst this
   simp only [KE, hR] at hA ⊢
   simp [go_sem, -List.map_map, -List.map_take]
   exact .inl (Kd ho hA AB hnm (JO _))
theorem l134 (l : List AR) (hl : l.length ≤ 1048576) (g : FuncId) (a b : List SV) (f : AR → AR) (hf : ∀ (i : Nat) (h : i < l.length), PC g (a ++ [AR.enc l[i]] ++ b) (AR.enc (f l[i]))) : LC 134 [.imm 6 (l.map AR.enc) false, .fn (.func g) a b] 6 ((l.map f).map AR.enc) := by
 intro h n
 generalize hR : (l.map f).map AR.enc = R
 refine gq Tryz.func134 rfl fun ho => ?_
 simp [go_sem]
 refine Aq 1 (α := Nat × Option Nat) (fun q => [(1, .fn (.func g) a b), (5, AQ 6 q.2 (((l.take q.1).map f).map AR.enc)), (8, .imm 6 (l.map AR.enc) false), (9, AA l.length), (10, AA q.1)]) (fun q => AS q.2 (((l.take q.1).map f).map AR.enc) h)
  (fun q m => q.1 ≤ l.length ∧ n ≤ m ∧ BQ n m 6 q.2 (((l.take q.1).map f).map AR.enc)) (fun q => l.length - q.1) (0, none) ?_ ?_ AB ?_
 · simp; exact Zp _ _ _
 · simp [Am, AQ]
 rintro ⟨k, o⟩ m ⟨hk, hnm, hA⟩
 dsimp only at hk hA ⊢
 have hlen : (((l.take k).map f).map AR.enc).length = k := by simp; omega
 by_cases hlt : k < l.length
 · have w1 := wS k (by omega)
   obtain ⟨x, hx⟩ : ∃ x, l[k] = x := ⟨_, rfl⟩
   have H := hf k hlt
   rw [hx] at H
   simp only [KF, Y7, Yc] at H
   have hgx : (l.map AR.enc)[k]? = some x.enc := by simp [hlt, hx]
   have htk : ((l.take (k + 1)).map f).map AR.enc = ((l.take k).map f).map AR.enc ++ [(f x).enc] := by rw [JW hlt, hx]; simp
   have hpush := hA.push (j := m + 1 + 1) (m' := m + 1 + 1 + 1) (e := (f x).enc) (AR.E.st _) (AR.E.len _) (by omega) (by omega)
   rw [← htk] at hpush
   generalize hes : ((l.take k).map f).map AR.enc = es at hA htk hlen ⊢
   simp only [Yh] at hgx
   simp [go_sem, hlt, hx, Yj, AC, -List.map_map, -List.map_take]
   refine Y4 (by simpa [Yj] using H) ?_
   simp [go_sem, -List.map_map, -List.map_take]
   rw [Fd (es := es) (e := (f x).enc) (o := o) (t := 68) (t2 := 68) (el := 169) (z := 6) (by simp [go_sem]) (by simp [go_sem]) (by simp [go_sem]) (by simp) (by simp [go_sem]) (by simp [go_sem]) (by simp [go_sem]) (by omega) hA (AR.E.len _) ?a1 ?a2]
   case a1 => simp [AC, Yj, SV.cells]
   case a2 =>
    intro j e
    have := (hA.lt j e).2
    rw [AD _ _ (by omega), AD _ _ (by omega), AD _ _ (by omega)]; exact E3 j e
   simp [go_sem, w1, -Int.natCast_add, -List.map_map, -List.map_take]
   refine ⟨k + 1, by omega, some (m + 1 + 1), ⟨by omega, by omega, hpush⟩, ⟨?_, Jo⟩, ?_⟩
   · rw [htk]; simp [AQ, Jo]
   · rw [htk]
     have := De (p := m + 1 + 1) (v := .sl (m + 1 + 1) 0 6 (es.length + 1) false) (e := (f x).enc) ho (by omega) hA (H := hset (hset (hset (AS o es h) m (some (.cells [.imm 0 [] true, .int .i64 0, .int .i64 0, .imm 0 [] true, .imm 0 [] true, .imm 0 [] true]))) m (some (.cells x.enc.cells))) (m + 1) (some (.cells (f x).enc.cells)))
      (AN ho (by omega) (AN ho (by omega) (AN ho (by omega) (AS.old ho hA))))
     simpa [Yj, SV.cells, Cu.app] using this
 · have : k = l.length := by omega
   subst this
   simp only [KE, hR] at hA ⊢
   simp [go_sem, -List.map_map, -List.map_take]
   exact .inl (Kd ho hA AB hnm (JO _))
theorem l194 (l : List AL) (hl : l.length ≤ 1048576) (g : FuncId) (a b : List SV) (f : AL → AL) (hf : ∀ (i : Nat) (h : i < l.length), PC g (a ++ [AL.enc l[i]] ++ b) (AL.enc (f l[i]))) : LC 194 [.imm 7 (l.map AL.enc) false, .fn (.func g) a b] 7 ((l.map f).map AL.enc) := by
 intro h n
 generalize hR : (l.map f).map AL.enc = R
 refine gq Tryz.func194 rfl fun ho => ?_
 simp [go_sem]
 refine Aq 1 (α := Nat × Option Nat) (fun q => [(1, .fn (.func g) a b), (5, AQ 7 q.2 (((l.take q.1).map f).map AL.enc)), (8, .imm 7 (l.map AL.enc) false), (9, AA l.length), (10, AA q.1)]) (fun q => AS q.2 (((l.take q.1).map f).map AL.enc) h)
  (fun q m => q.1 ≤ l.length ∧ n ≤ m ∧ BQ n m 7 q.2 (((l.take q.1).map f).map AL.enc)) (fun q => l.length - q.1) (0, none) ?_ ?_ AB ?_
 · simp; exact Zp _ _ _
 · simp [Am, AQ]
 rintro ⟨k, o⟩ m ⟨hk, hnm, hA⟩
 dsimp only at hk hA ⊢
 have hlen : (((l.take k).map f).map AL.enc).length = k := by simp; omega
 by_cases hlt : k < l.length
 · have w1 := wS k (by omega)
   obtain ⟨x, hx⟩ : ∃ x, l[k] = x := ⟨_, rfl⟩
   have H := hf k hlt
   rw [hx] at H
   simp only [KF, Y7, Yc] at H
   have hgx : (l.map AL.enc)[k]? = some x.enc := by simp [hlt, hx]
   have htk : ((l.take (k + 1)).map f).map AL.enc = ((l.take k).map f).map AL.enc ++ [(f x).enc] := by rw [JW hlt, hx]; simp
   have hpush := hA.push (j := m + 1 + 1) (m' := m + 1 + 1 + 1) (e := (f x).enc) (AL.E.st _) (AL.E.len _) (by omega) (by omega)
   rw [← htk] at hpush
   generalize hes : ((l.take k).map f).map AL.enc = es at hA htk hlen ⊢
   simp only [Yh] at hgx
   simp [go_sem, hlt, hx, YP, AC, -List.map_map, -List.map_take]
   refine Y4 (by simpa [YP] using H) ?_
   simp [go_sem, -List.map_map, -List.map_take]
   rw [Fd (es := es) (e := (f x).enc) (o := o) (t := 167) (t2 := 167) (el := 171) (z := 7) (by simp [go_sem]) (by simp [go_sem]) (by simp [go_sem]) (by simp) (by simp [go_sem]) (by simp [go_sem]) (by simp [go_sem]) (by omega) hA (AL.E.len _) ?a1 ?a2]
   case a1 => simp [AC, YP, SV.cells]
   case a2 =>
    intro j e
    have := (hA.lt j e).2
    rw [AD _ _ (by omega), AD _ _ (by omega), AD _ _ (by omega)]; exact E3 j e
   simp [go_sem, w1, -Int.natCast_add, -List.map_map, -List.map_take]
   refine ⟨k + 1, by omega, some (m + 1 + 1), ⟨by omega, by omega, hpush⟩, ⟨?_, Jo⟩, ?_⟩
   · rw [htk]; simp [AQ, Jo]
   · rw [htk]
     have := De (p := m + 1 + 1) (v := .sl (m + 1 + 1) 0 7 (es.length + 1) false) (e := (f x).enc) ho (by omega) hA (H := hset (hset (hset (AS o es h) m (some (.cells [.int .i64 0, .imm 0 [] true, .int .i64 0, .int .i64 0, .imm 0 [] true, .imm 0 [] true, .imm 0 [] true]))) m (some (.cells x.enc.cells))) (m + 1) (some (.cells (f x).enc.cells)))
      (AN ho (by omega) (AN ho (by omega) (AN ho (by omega) (AS.old ho hA))))
     simpa [YP, SV.cells, Cu.app] using this
 · have : k = l.length := by omega
   subst this
   simp only [KE, hR] at hA ⊢
   simp [go_sem, -List.map_map, -List.map_take]
   exact .inl (Kd ho hA AB hnm (JO _))
theorem Mw (l : List AE) (hl : l.length ≤ 1048576) (H : ∀ (i : Nat) (h : i < l.length), PC 175 [(l[i]).enc] (l[i]).enc) : PC 110 [AG l] (AG l) := by
 intro h n
 refine gq Tryz.func110 rfl fun ho => ?_
 simp [go_sem]
 have h1 := (l174 l hl 175 [] [] id (fun i hi => H i hi)).pc (by rw [Za]; exact AE.E.size l) (fun n => by rw [Za]; exact AE.E.closedL n l)
 rw [Za] at h1
 refine h1.use ?_
 simp [go_sem]
 exact A3 ho (AE.E.imm _ _ _ _) rfl
theorem S6 (x : AL) (hs : x.head.sized) (H : PC 110 [AG x.flow] (AG x.flow)) : PC 249 [x.enc] x.enc := by
 intro h n
 refine gq Tryz.func249 rfl fun ho => ?_
 simp [go_sem, YP, AC, AD]
 repeat first | refine nq ?_ | refine sq ?_ | refine aq ?_
 refine YL _ _ _ _ _ _ (by simpa [AF.enc, AF.flat] using Ns x.head hs) ?_
 simp [go_sem, AC, AD]
 repeat first | refine nq ?_ | refine sq ?_ | refine aq ?_
 refine YL _ _ _ _ _ _ H ?_
 simp [go_sem, AC]
 repeat first | refine nq ?_ | refine sq ?_ | refine aq ?_
 exact Ax ho (by repeat (first | exact AB | refine AN ho (by omega) ?_)) rfl (by rw [← YP]; exact AL.cl n x)
theorem S3 (x : AR) (hs : x.head.sized) (hc : x.cells.length ≤ 1048576) (H : ∀ (i : Nat) (h : i < x.cells.length), PC 249 [(x.cells[i]).enc] (x.cells[i]).enc) : PC 176 [x.enc] x.enc := by
 intro h n
 refine gq Tryz.func176 rfl fun ho => ?_
 have h1 := (l194 x.cells hc 249 [] [] id (fun i hi => H i hi)).pc (by rw [Za]; exact AL.E.size _) (fun n => by rw [Za]; exact AL.E.closedL n _)
 rw [Za] at h1
 simp [go_sem, Yj, AC, AD]
 repeat first | refine nq ?_ | refine sq ?_ | refine aq ?_
 refine YL _ _ _ _ _ _ (by simpa [AF.enc, AF.flat] using Ns x.head hs) ?_
 simp [go_sem, AC, AD]
 repeat first | refine nq ?_ | refine sq ?_ | refine aq ?_
 refine YL _ _ _ _ _ _ h1 ?_
 simp [go_sem, AC]
 repeat first | refine nq ?_ | refine sq ?_ | refine aq ?_
 exact Ax ho (by repeat (first | exact AB | refine AN ho (by omega) ?_)) rfl (by rw [← Yj]; exact AR.cl n x)
theorem Sz (x : AE) (hs : x.head.sized) (hr : x.rows.length ≤ 1048576) (H : PC 110 [AG x.flow] (AG x.flow)) (H2 : ∀ (i : Nat) (h : i < x.rows.length), PC 176 [(x.rows[i]).enc] (x.rows[i]).enc) : PC 175 [x.enc] x.enc := by
 intro h n
 refine gq Tryz.func175 rfl fun ho => ?_
 have h1 := (l134 x.rows hr 176 [] [] id (fun i hi => H2 i hi)).pc (by rw [Za]; exact AR.E.size _) (fun n => by rw [Za]; exact AR.E.closedL n _)
 rw [Za] at h1
 simp [go_sem, KW, AC, AD]
 repeat first | refine nq ?_ | refine sq ?_ | refine aq ?_
 refine YL _ _ _ _ _ _ (by simpa [AF.enc, AF.flat] using Ns x.head hs) ?_
 simp [go_sem, AC, AD]
 repeat first | refine nq ?_ | refine sq ?_ | refine aq ?_
 refine YL _ _ _ _ _ _ H ?_
 simp [go_sem, AC, AD]
 repeat first | refine nq ?_ | refine sq ?_ | refine aq ?_
 refine YL _ _ _ _ _ _ h1 ?_
 simp [go_sem, AC, AD]
 repeat first | refine nq ?_ | refine sq ?_ | refine aq ?_
 exact Ax ho (by repeat (first | exact AB | refine AN ho (by omega) ?_)) rfl (by rw [← KW]; exact AE.cl n x)
mutual
theorem c175 : ∀ x : AE, x.sized → PC 175 [x.enc] x.enc
 | .mk k c i t hd f r, hs => by
  rw [AE.sized] at hs
  exact Sz (.mk k c i t hd f r) hs.2.1 hs.2.2.2.1 (Mw f hs.2.2.1 (Pv f hs.2.2.2.2.1)) (Tn r hs.2.2.2.2.2)
theorem Pv : ∀ l : List AE, AE.sizedL l → ∀ (i : Nat) (h : i < l.length), PC 175 [(l[i]).enc] (l[i]).enc
 | [], _, i, h => by simp at h
 | x :: l, hs, 0, _ => by rw [AE.sizedL] at hs; exact c175 x hs.1
 | x :: l, hs, i + 1, h => by rw [AE.sizedL] at hs; exact Pv l hs.2 i (by simpa using h)
theorem c176 : ∀ x : AR, x.sized → PC 176 [x.enc] x.enc
 | .mk hd c, hs => by
  rw [AR.sized] at hs
  exact S3 (.mk hd c) hs.1 hs.2.1 (Tq c hs.2.2)
theorem Tn : ∀ l : List AR, AR.sizedL l → ∀ (i : Nat) (h : i < l.length), PC 176 [(l[i]).enc] (l[i]).enc
 | [], _, i, h => by simp at h
 | x :: l, hs, 0, _ => by rw [AR.sizedL] at hs; exact c176 x hs.1
 | x :: l, hs, i + 1, h => by rw [AR.sizedL] at hs; exact Tn l hs.2 i (by simpa using h)
theorem c249 : ∀ x : AL, x.sized → PC 249 [x.enc] x.enc
 | .mk i hd f, hs => by
  rw [AL.sized] at hs
  exact S6 (.mk i hd f) hs.1 (Mw f hs.2.1 (Pv f hs.2.2))
theorem Tq : ∀ l : List AL, AL.sizedL l → ∀ (i : Nat) (h : i < l.length), PC 249 [(l[i]).enc] (l[i]).enc
 | [], _, i, h => by simp at h
 | x :: l, hs, 0, _ => by rw [AL.sizedL] at hs; exact c249 x hs.1
 | x :: l, hs, i + 1, h => by rw [AL.sizedL] at hs; exact Tq l hs.2 i (by simpa using h)
end
theorem c110 (l : List AE) (hl : l.length ≤ 1048576) (hs : AE.sizedL l) : PC 110 [AG l] (AG l) := Mw l hl (Pv l hs)
end Go.Proofs.YtgakninlhfkkmaaGreat.Sh
