/- A part of the proof (part 4 of 13). -/
import Derived.Test.YthinbkgpjmjfeaaGreatDoorN3
import Derived.RangeFuncIn
import Derived.Laws.StructEq
namespace Go.Proofs.YthinbkgpjmjfeaaGreatDoor.Sh
open Proofs
set_option maxRecDepth 10000
theorem c155 (a b c : Int) : PC 148 [intE a, intE b, intE c] (.bool (decide (b ≤ a ∧ a ≤ c))) := by
  intro h n
  refine go Tryz.func148 rfl (by kernel_rfl) (by kernel_rfl) (by simp [go_sem]) fun ho => ?_
  by_cases h1 : b ≤ a <;> simp [go_sem, h1]
  · exact ret0 ho rfl (by simp [])
  · exact ret0 ho rfl (by simp [])
theorem c87 (b : Bool) (e : Int) : PC 83 [.bool b, intE e] (intE (if b then e else 0)) := by
  intro h n
  refine go Tryz.func83 rfl (by kernel_rfl) (by kernel_rfl) (by simp [go_sem]) fun ho => ?_
  cases b <;> simp [go_sem]
  · exact ret0 ho rfl rfl
  · exact ret0 ho rfl rfl
def firstE : List Int → Int
  | [] => 0
  | e :: l => if e = 0 then firstE l else e
theorem firstE_drop (l : List Int) (k : Nat) (hk : k < l.length) : firstE (l.drop k) = if l[k] = 0 then firstE (l.drop (k + 1)) else l[k] := by
  rw [List.drop_eq_getElem_cons hk, firstE]
theorem c82 (l : List Int) (hl : l.length ≤ 1048576) : PC 78 [.imm 1 (l.map intE) false] (intE (firstE l)) := by
  intro h n
  refine go Tryz.func78 rfl (by kernel_rfl) (by kernel_rfl) (by simp [go_sem]) fun ho => ?_
  simp [go_sem]
  refine goloop 1 (α := Nat) (fun k => [(5, .imm 1 (l.map intE) false), (6, intE l.length), (7, intE k)]) (fun _ => h) (fun k m => k ≤ l.length ∧ n ≤ m ∧ firstE l = firstE (l.drop k)) (fun k => l.length - k) 0 ?_ ?_ look_same ?_
  · simp
  · simp [look]
  rintro k m ⟨hk, hnm, hf⟩
  by_cases hlt : k < l.length
  · have w1 : IntKind.i64.wrap ((k : Int) + 1) = ((k + 1 : Nat) : Int) := by rw [wr64] <;> omega
    rw [firstE_drop l k hlt] at hf
    by_cases h0 : l[k] = 0
    · simp [go_sem, hlt, h0, w1, -Int.natCast_add]
      exact ⟨k + 1, by omega, ⟨by omega, hnm, by simpa [h0] using hf⟩, Fz.same⟩
    · simp [go_sem, hlt, h0]
      exact ret0 ho rfl (by simp [hf, h0])
  · simp [go_sem, hlt]
    have : k = l.length := by omega
    subst this
    simp [firstE] at hf
    exact ret0 ho rfl (by rw [hf])
def isAuthor (s : ByteArray) : Bool := decide (1 ≤ s.size ∧ s.size ≤ 40) && cpValid s
theorem c154 (s : ByteArray) (hs : s.size ≤ 1099511627776) : PC 147 [.str s] (.bool (isAuthor s)) := by
  intro h n
  refine go Tryz.func147 rfl (by kernel_rfl) (by kernel_rfl) (by simp [go_sem]) fun ho => ?_
  by_cases h1 : (1 : Int) ≤ s.size
  · have h1' : 1 ≤ s.size := by omega
    by_cases h2 : (s.size : Int) ≤ 40
    · have h2' : s.size ≤ 40 := by omega
      simp [go_sem, h1, h2]
      refine (c116 s hs).use ?_
      simp [go_sem]
      exact ret0 ho rfl (by simp [isAuthor, h1', h2'])
    · have h2' : ¬ s.size ≤ 40 := by omega
      simp [go_sem, h1, h2]
      exact ret0 ho rfl (by simp [isAuthor, h2'])
  · have h1' : ¬ 1 ≤ s.size := by omega
    simp [go_sem, h1]
    exact ret0 ho rfl (by simp [isAuthor, h1'])
def textErr (s : ByteArray) : Int := firstE [if !cpValid s then 12 else 0, if decide ((1024 : Int) < s.size) then 10 else 0]
theorem c217 (s : ByteArray) (hs : s.size ≤ 1099511627776) : PC 196 [.str s] (intE (textErr s)) := by
  intro h n
  refine go Tryz.func196 rfl (by kernel_rfl) (by kernel_rfl) (by simp [go_sem]) fun ho => ?_
  simp [go_sem]
  refine (c116 s hs).use ?_
  simp [go_sem]
  refine (c87 _ _).use ?_
  simp [go_sem]
  refine (c87 _ _).use ?_
  simp [go_sem]
  refine (c82 [if !cpValid s then 12 else 0, if decide ((1024 : Int) < s.size) then 10 else 0] (by simp)).lend 2 rfl ?_ ?_
  · simp [All2, Fz, hset, takeN, SV.storable, SV.cells]
  · simp [go_sem]
    exact retIs ho (hset_old ho (Nat.le_refl _) look_same) (by simp [textErr]) rfl
def incrE (F : Nat → Int) (i : Nat) : Int := if ¬ (1 ≤ F i ∧ F i ≤ 1073741824) then 18 else if 0 < i ∧ F i = F (i - 1) then 7 else if 0 < i ∧ F i < F (i - 1) then 6 else 0
theorem c152 (i : Nat) (hi : i ≤ 1099511627776) (g : FuncId) (a b : List SV) (F : Nat → Int) (hF : ∀ j, j ≤ i → PC g (a ++ [intE j] ++ b) (intE (F j))) : PC 145 [intE i, .fn (.func g) a b] (intE (incrE F i)) := by
  intro h n
  refine go Tryz.func145 rfl (by kernel_rfl) (by kernel_rfl) (by simp [go_sem]) fun ho => ?_
  have F0 := hF i (Nat.le_refl _)
  have F1 := hF (i - 1) (by omega)
  simp only [List.append_assoc, List.singleton_append] at F0 F1
  simp [go_sem]
  refine F0.use ?_
  simp [go_sem]
  refine (c155 _ _ _).use ?_
  by_cases h1 : 1 ≤ F i ∧ F i ≤ 1073741824
  · by_cases h0 : 0 < i
    · have e1 : IntKind.i64.wrap ((i : Int) - 1) = ((i - 1 : Nat) : Int) := by rw [wr64] <;> omega
      simp [go_sem, h1, h0]
      refine F0.use ?_
      simp [go_sem, e1]
      refine F1.use ?_
      by_cases h2 : F i = F (i - 1)
      · simp [go_sem, h2]
        have e : incrE F i = 7 := by unfold incrE; rw [if_neg (by simpa using h1), if_pos ⟨h0, h2⟩]
        exact ret0 ho rfl (by rw [e])
      · simp [go_sem, h2, h0]
        refine F0.use ?_
        simp [go_sem, e1]
        refine F1.use ?_
        by_cases h3 : F i < F (i - 1)
        · simp [go_sem, h3]
          exact ret0 ho rfl (by simp [incrE, h1, h0, h2, h3])
        · simp [go_sem, h3]
          exact ret0 ho rfl (by simp [incrE, h1, h0, h2, h3])
    · simp [go_sem, h1, h0]
      exact ret0 ho rfl (by simp [incrE, h1, h0])
  · simp [go_sem, h1]
    exact ret0 ho rfl (by simp [incrE, h1])
def allE (F : Nat → Int) : Nat → Int
  | 0 => 0
  | n + 1 => if allE F n = 0 then F n else allE F n
theorem allE_first (F : Nat → Int) {k n : Nat} (hk : k < n) (h0 : allE F k = 0) (h1 : F k ≠ 0) : allE F n = F k := by
  induction n with
  | zero => omega
  | succ n ih =>
    rw [allE]
    by_cases e : k = n
    · subst e; simp [h0]
    · have := ih (by omega)
      rw [this, if_neg h1]
theorem c150 (N : Nat) (hN : N ≤ 1099511627776) (g : FuncId) (a b : List SV) (F : Nat → Int) (hF : ∀ j, j < N → PC g (a ++ [intE j] ++ b) (intE (F j))) : PC 143 [intE N, .fn (.func g) a b] (intE (allE F N)) := by
  intro h n
  refine go Tryz.func143 rfl (by kernel_rfl) (by kernel_rfl) (by simp [go_sem]) fun ho => ?_
  simp [go_sem]
  refine goloop 1 (α := Nat) (fun k => [(1, .fn (.func g) a b), (7, intE N), (8, intE k)]) (fun _ => h) (fun k m => k ≤ N ∧ n ≤ m ∧ allE F k = 0) (fun k => N - k) 0 ?_ ?_ look_same ?_
  · simp [allE]
  · simp [look]
  rintro k m ⟨hk, hnm, hf⟩
  by_cases hlt : k < N
  · have w1 : IntKind.i64.wrap ((k : Int) + 1) = ((k + 1 : Nat) : Int) := by rw [wr64] <;> omega
    have F0 := hF k hlt
    simp only [List.append_assoc, List.singleton_append] at F0
    simp [go_sem, hlt]
    refine F0.use ?_
    by_cases h0 : F k = 0
    · simp [go_sem, h0, w1, -Int.natCast_add]
      exact ⟨k + 1, by omega, ⟨by omega, hnm, by simp [allE, hf, h0]⟩, Fz.same⟩
    · simp [go_sem, h0]
      exact ret0 ho rfl (by rw [allE_first F hlt hf h0])
  · simp [go_sem, hlt]
    have : k = N := by omega
    subst this
    exact ret0 ho rfl (by rw [hf])
theorem c153 (l : List Rev) (i : Nat) (hi : i < l.length) : PC 146 [intE i, .iptr [revsE l]] (intE (l[i]).id) := by
  intro h n
  refine go Tryz.func146 rfl (by kernel_rfl) (by kernel_rfl) (by simp [go_sem]) fun ho => ?_
  simp [go_sem, hi, Rev.enc]
  exact ret0 ho rfl rfl
def revErr (l : List Rev) (i : Nat) : Int := match l[i]? with
  | some r => firstE [incrE (fun j => match l[j]? with | some r => r.id | none => 0) i, if !isAuthor r.author then 39 else 0, if !decide (0 ≤ r.time ∧ r.time ≤ 1099511627776) then 40 else 0]
  | none => 0
theorem c151 (l : List Rev) (i : Nat) (hi : i < l.length) (hl : l.length ≤ 1048576) (hs : ∀ r ∈ l, r.author.size ≤ 1048576) : PC 144 [intE i, .iptr [revsE l]] (intE (revErr l i)) := by
  intro h n
  refine go Tryz.func144 rfl (by kernel_rfl) (by kernel_rfl) (by simp [go_sem]) fun ho => ?_
  simp [go_sem]
  repeat first | refine nd (by kernel_rfl) ?_ | refine sd (by kernel_rfl) ?_
  have h152 := c152 i (by omega) 146 [] [.iptr [revsE l]] (fun j => match l[j]? with | some r => r.id | none => 0) (fun j hj => by
    have hjl : j < l.length := by omega
    simpa [hjl] using c153 l j hjl)
  refine CallD.pure _ _ _ _ _ _ h152 ?_
  simp [go_sem, hi, Rev.enc]
  repeat first | refine nd (by kernel_rfl) ?_ | refine sd (by kernel_rfl) ?_
  refine CallD.pure _ _ _ _ _ _ (c154 _ (by have := hs _ (List.getElem_mem hi); omega)) ?_
  simp [go_sem]
  repeat first | refine nd (by kernel_rfl) ?_ | refine sd (by kernel_rfl) ?_
  refine CallD.pure _ _ _ _ _ _ (c87 _ _) ?_
  simp [go_sem, hi, Rev.enc]
  repeat first | refine nd (by kernel_rfl) ?_ | refine sd (by kernel_rfl) ?_
  refine CallD.pure _ _ _ _ _ _ (c155 _ _ _) ?_
  simp [go_sem]
  repeat first | refine nd (by kernel_rfl) ?_ | refine sd (by kernel_rfl) ?_
  refine CallD.pure _ _ _ _ _ _ (c87 _ _) ?_
  simp [go_sem]
  repeat first | refine nd (by kernel_rfl) ?_ | refine sd (by kernel_rfl) ?_
  refine CallD.lend _ _ _ _ _ _ 2 [n] (c82 [incrE (fun j => match l[j]? with | some r => r.id | none => 0) i, if !isAuthor (l[i]).author then 39 else 0, if !decide (0 ≤ (l[i]).time ∧ (l[i]).time ≤ 1099511627776) then 40 else 0] (by simp)) rfl (by simp) (fun h' hh => ?_) ?_
  · have := hh n (by simp)
    simp [hset] at this
    simp [All2, Fz, this, takeN, SV.storable, SV.cells]
  simp [go_sem]
  repeat first | refine nd (by kernel_rfl) ?_ | refine sd (by kernel_rfl) ?_
  exact retIs ho (hset_old ho (Nat.le_refl _) look_same) (by simp [revErr, hi]) rfl
def revsErr (l : List Rev) : Int := firstE [if decide (256 < (l.length : Int)) then 9 else 0, allE (revErr l) (min l.length 256)]
theorem c84 (l : List Rev) (hl : l.length ≤ 1048576) (hs : ∀ r ∈ l, r.author.size ≤ 1048576) : PC 80 [revsE l] (intE (revsErr l)) := by
  intro h n
  refine go Tryz.func80 rfl (by kernel_rfl) (by kernel_rfl) (by simp [go_sem]) fun ho => ?_
  simp [go_sem, hset_at]
  repeat first | refine nd (by kernel_rfl) ?_ | refine sd (by kernel_rfl) ?_
  refine CallD.pure _ _ _ _ _ _ (c87 _ _) ?_
  have emin : (if (256 : Int) < (l.length : Int) then (256 : Int) else (l.length : Int)) = ((min l.length 256 : Nat) : Int) := by split <;> omega
  simp [go_sem, hset_at, emin]
  repeat first | refine nd (by kernel_rfl) ?_ | refine sd (by kernel_rfl) ?_
  have h150 := c150 (min l.length 256) (by omega) 144 [] [.iptr [revsE l]] (revErr l) (fun j hj => c151 l j (by omega) hl hs)
  refine CallD.lend _ _ _ _ _ _ 3 [n] h150 rfl (by simp) (fun h' hh => ?_) ?_
  · have := hh n (by simp)
    simp [hset] at this
    simp [All2, Fz, this]
  simp [go_sem]
  repeat first | refine nd (by kernel_rfl) ?_ | refine sd (by kernel_rfl) ?_
  refine CallD.lend _ _ _ _ _ _ 2 [n + 1] (c82 [if decide (256 < (l.length : Int)) then 9 else 0, allE (revErr l) (min l.length 256)] (by simp)) rfl (by simp) (fun h' hh => ?_) ?_
  · have := hh (n + 1) (by simp)
    simp [hset] at this
    simp [All2, Fz, this, takeN, SV.storable, SV.cells]
  simp [go_sem]
  repeat first | refine nd (by kernel_rfl) ?_ | refine sd (by kernel_rfl) ?_
  exact retIs ho (hset_old ho (Nat.le_succ n) (hset_old ho (Nat.le_refl _) look_same)) (by simp [revsErr]) rfl
theorem c170 (a : Int) : PC 185 [intE a] (.bool false) := by
  intro h n
  refine go Tryz.func185 rfl (by kernel_rfl) (by kernel_rfl) (by simp [go_sem]) fun ho => ?_
  simp [go_sem]
  exact ret0 ho rfl rfl
def cmpI (a b : Int) : Int := if a < b then -1 else if b < a then 1 else 0
theorem c100 (a b : Int) : PC 138 [intE a, intE b] (intE (cmpI a b)) := by
  intro h n
  refine go Tryz.func138 rfl (by kernel_rfl) (by kernel_rfl) (by simp [go_sem]) fun ho => ?_
  simp [go_sem]
  refine (c170 _).use ?_
  simp [go_sem]
  refine (c170 _).use ?_
  by_cases h1 : a < b <;> by_cases h2 : b < a <;> simp [go_sem, h1, h2]
  all_goals exact ret0 ho rfl (by simp [cmpI, h1, h2])
def indexP (p : Nat → Bool) (n : Nat) (k : Nat) : Int := if _ : k < n then if p k then k else indexP p n (k + 1) else -1
termination_by n - k
theorem indexP_range (p : Nat → Bool) (n k : Nat) : indexP p n k = -1 ∨ ∃ i, k ≤ i ∧ i < n ∧ indexP p n k = i ∧ p i = true := by
  rw [indexP]
  by_cases h : k < n
  · by_cases hp : p k = true
    · exact .inr ⟨k, Nat.le_refl _, h, by simp [h, hp], hp⟩
    · have := indexP_range p n (k + 1)
      simp only [h, dite_true, hp]
      rcases this with e | ⟨i, h1, h2, h3, h4⟩
      · exact .inl (by simpa using e)
      · exact .inr ⟨i, by omega, h2, by simpa using h3, h4⟩
  · exact .inl (by simp [h])
termination_by n - k
theorem c178 (l : List Int) (x : Int) (hl : l.length ≤ 1048576) : PC 288 [.imm 1 (l.map intE) false, intE x] (intE (indexP (fun i => decide (l[i]? = some x)) l.length 0)) := by
  intro h n
  refine go Tryz.func288 rfl (by kernel_rfl) (by kernel_rfl) (by simp [go_sem]) fun ho => ?_
  simp [go_sem]
  refine goloop 1 (α := Nat) (fun k => [(0, .imm 1 (l.map intE) false), (1, intE x), (7, intE l.length), (8, intE k)]) (fun _ => h) (fun k m => k ≤ l.length ∧ n ≤ m ∧ indexP (fun i => decide (l[i]? = some x)) l.length 0 = indexP (fun i => decide (l[i]? = some x)) l.length k) (fun k => l.length - k) 0 ?_ ?_ look_same ?_
  · simp
  · simp [look]
  rintro k m ⟨hk, hnm, hf⟩
  rw [indexP.eq_def _ _ k] at hf
  by_cases hlt : k < l.length
  · have w1 : IntKind.i64.wrap ((k : Int) + 1) = ((k + 1 : Nat) : Int) := by rw [wr64] <;> omega
    by_cases h0 : x = l[k]
    · simp [go_sem, hlt, h0]
      exact ret0 ho rfl (by rw [← h0, hf]; simp [hlt, h0])
    · simp [go_sem, hlt, h0, w1, -Int.natCast_add]
      exact ⟨k + 1, by omega, ⟨by omega, hnm, by rw [hf]; simp [hlt, Ne.symm h0]⟩, Fz.same⟩
  · simp [go_sem, hlt]
    exact ret0 ho rfl (by rw [hf]; simp [hlt])
theorem indexP_mem (l : List Int) (x : Int) : decide (0 ≤ indexP (fun i => decide (l[i]? = some x)) l.length 0) = decide (x ∈ l) := by
  have gen : ∀ k, k ≤ l.length → (0 ≤ indexP (fun i => decide (l[i]? = some x)) l.length k ↔ x ∈ l.drop k) := by
    intro k hk
    induction hd : l.length - k generalizing k with
    | zero =>
      have : k = l.length := by omega
      subst this
      rw [indexP]; simp
    | succ d ih =>
      have hlt : k < l.length := by omega
      have hd : x ∈ l.drop k ↔ x = l[k] ∨ x ∈ l.drop (k + 1) := by rw [List.drop_eq_getElem_cons hlt, List.mem_cons]
      rw [indexP, hd]
      by_cases e : l[k] = x
      · simp [hlt, e]
      · have := ih (k + 1) (by omega) (by omega)
        simp [hlt, e, this, Ne.symm e]
  have := gen 0 (Nat.zero_le _)
  simp only [List.drop_zero] at this
  simp [this]
theorem c113 (l : List Int) (x : Int) (hl : l.length ≤ 1048576) : PC 252 [.imm 1 (l.map intE) false, intE x] (.bool (decide (x ∈ l))) := by
  intro h n
  refine go Tryz.func252 rfl (by kernel_rfl) (by kernel_rfl) (by simp [go_sem]) fun ho => ?_
  simp [go_sem]
  refine (c178 l x hl).use ?_
  simp [go_sem]
  exact ret0 ho rfl (by rw [indexP_mem])
def bsGo (c : Nat → Int) (i j : Nat) : Nat := if _ : i < j then if c ((i + j) / 2) < 0 then bsGo c ((i + j) / 2 + 1) j else bsGo c i ((i + j) / 2) else i
termination_by j - i
def bsearch (c : Nat → Int) (n : Nat) : Nat × Bool := (bsGo c 0 n, decide (bsGo c 0 n < n ∧ c (bsGo c 0 n) = 0))
theorem wru64 {x : Int} (h0 : 0 ≤ x) (h1 : x ≤ 4611686018427387904) : IntKind.u64.wrap x = x := IntWalk.u64_in x (by omega)
structure Key where
  number : Int
  group : Int
  low : Int
  high : Int
  standard : Int
  name : ByteArray
def Key.enc (k : Key) : SV := .agg [intE k.number, intE k.group, intE k.low, intE k.high, intE k.standard, .str k.name]
theorem c306 (l : List Key) (hl : l.length ≤ 1048576) (t : SV) (g : FuncId) (a b : List SV) (c : Nat → Int) (hc : ∀ (i : Nat) (h : i < l.length), PC g (a ++ [Key.enc l[i], t] ++ b) (intE (c i))) :
    PC 286 [.imm 6 (l.map Key.enc) false, t, .fn (.func g) a b] (.tup [intE (bsearch c l.length).1, .bool (bsearch c l.length).2]) := by
  intro h n
  refine go Tryz.func286 rfl (by kernel_rfl) (by kernel_rfl) (by simp [go_sem]) fun ho => ?_
  simp [go_sem]
  refine goloop 1 (α := Nat × Nat) (fun q => [(0, .imm 6 (l.map Key.enc) false), (1, t), (2, .fn (.func g) a b), (8, intE l.length), (9, intE q.1), (10, intE q.2)]) (fun _ => h) (fun q m => q.1 ≤ q.2 ∧ q.2 ≤ l.length ∧ n ≤ m ∧ bsGo c 0 l.length = bsGo c q.1 q.2) (fun q => q.2 - q.1) (0, l.length) ?_ ?_ look_same ?_
  · simp
  · simp [look]
  rintro ⟨i, j⟩ m ⟨hij, hj, hnm, hf⟩
  dsimp only at hij hj hf
  by_cases hlt : i < j
  · have hm : (i + j) / 2 < l.length := by omega
    have w1 : IntKind.i64.wrap ((i : Int) + j) = ((i + j : Nat) : Int) := by rw [wr64] <;> omega
    have w2 : IntKind.u64.wrap ((i + j : Nat) : Int) = ((i + j : Nat) : Int) := by rw [wru64] <;> omega
    have w3 : (((i + j : Nat) : Int)).fdiv 2 = (((i + j) / 2 : Nat) : Int) := by rw [Int.fdiv_eq_ediv_of_nonneg _ (by omega)]; omega
    have w4 : IntKind.i64.wrap (((i + j) / 2 : Nat) : Int) = (((i + j) / 2 : Nat) : Int) := by rw [wr64] <;> omega
    have w5 : IntKind.i64.wrap ((((i + j) / 2 : Nat) : Int) + 1) = (((i + j) / 2 + 1 : Nat) : Int) := by rw [wr64] <;> omega
    have H := hc _ hm
    simp only [List.append_assoc, List.cons_append, List.nil_append] at H
    rw [bsGo.eq_def c i j] at hf
    simp [go_sem, hlt, w1, w2, w3, w4, hm, Key.enc, -Int.natCast_add, -Int.natCast_ediv]
    refine PC.use (by simpa [Key.enc] using H) ?_
    by_cases hb : c ((i + j) / 2) < 0
    · simp [hlt, hb] at hf
      simp [go_sem, hb, w5, -Int.natCast_add, -Int.natCast_ediv]
      exact ⟨(i + j) / 2 + 1, j, by omega, ⟨by omega, hj, hnm, hf⟩, Fz.same, Fz.same⟩
    · simp [hlt, hb] at hf
      simp [go_sem, hb, -Int.natCast_add, -Int.natCast_ediv]
      exact ⟨i, (i + j) / 2, by omega, ⟨by omega, by omega, hnm, hf⟩, Fz.same, Fz.same⟩
  · have e : bsGo c 0 l.length = i := by rw [hf, bsGo.eq_def]; simp [hlt]
    by_cases hi : i < l.length
    · have H := hc i hi
      simp only [List.append_assoc, List.cons_append, List.nil_append] at H
      simp [go_sem, hlt, hi, Key.enc]
      refine PC.use (by simpa [Key.enc] using H) ?_
      simp [go_sem]
      exact ret0 ho rfl (by simp [bsearch, e, hi]; by_cases h0 : c i = 0 <;> simp [h0])
    · simp [go_sem, hlt, hi]
      exact ret0 ho rfl (by simp [bsearch, e, hi])
set_option maxRecDepth 100000
def keysTable : List Key := [
  ⟨1, 1, 0, 1073741824, 0, ⟨#[99, 104, 97, 114, 97, 99, 116, 101, 114, 45, 115, 116, 121, 108, 101]⟩⟩,
  ⟨2, 1, 0, 1, 0, ⟨#[98, 111, 108, 100]⟩⟩,
  ⟨3, 1, 0, 1, 0, ⟨#[105, 116, 97, 108, 105, 99]⟩⟩,
  ⟨4, 1, 0, 3, 0, ⟨#[117, 110, 100, 101, 114, 108, 105, 110, 101]⟩⟩,
  ⟨5, 1, 2, 1638, 22, ⟨#[115, 105, 122, 101]⟩⟩,
  ⟨6, 1, 0, 16777215, 0, ⟨#[99, 111, 108, 111, 114]⟩⟩,
  ⟨7, 1, 0, 63, 0, ⟨#[102, 111, 110, 116]⟩⟩,
  ⟨8, 1, 0, 255, 0, ⟨#[108, 97, 110, 103, 117, 97, 103, 101]⟩⟩,
  ⟨9, 1, (-400), 400, 0, ⟨#[114, 97, 105, 115, 101]⟩⟩,
  ⟨10, 1, 0, 1, 0, ⟨#[104, 105, 100, 100, 101, 110]⟩⟩,
  ⟨20, 2, 0, 1073741824, 0, ⟨#[112, 97, 114, 97, 103, 114, 97, 112, 104, 45, 115, 116, 121, 108, 101]⟩⟩,
  ⟨21, 2, 0, 3, 0, ⟨#[97, 108, 105, 103, 110]⟩⟩,
  ⟨22, 2, (-31680), 31680, 0, ⟨#[108, 101, 102, 116]⟩⟩,
  ⟨23, 2, (-31680), 31680, 0, ⟨#[114, 105, 103, 104, 116]⟩⟩,
  ⟨24, 2, (-31680), 31680, 0, ⟨#[102, 105, 114, 115, 116]⟩⟩,
  ⟨25, 2, 0, 31680, 0, ⟨#[98, 101, 102, 111, 114, 101]⟩⟩,
  ⟨26, 2, 0, 31680, 0, ⟨#[97, 102, 116, 101, 114]⟩⟩,
  ⟨27, 2, 0, 31680, 0, ⟨#[108, 101, 97, 100, 105, 110, 103]⟩⟩,
  ⟨28, 2, 0, 1, 0, ⟨#[107, 101, 101, 112, 45, 110, 101, 120, 116]⟩⟩,
  ⟨29, 2, 0, 1, 0, ⟨#[107, 101, 101, 112, 45, 108, 105, 110, 101, 115]⟩⟩,
  ⟨30, 2, 0, 1, 1, ⟨#[119, 105, 100, 111, 119]⟩⟩,
  ⟨31, 2, 0, 1, 0, ⟨#[112, 97, 103, 101, 45, 98, 101, 102, 111, 114, 101]⟩⟩,
  ⟨32, 2, 0, 9, 0, ⟨#[111, 117, 116, 108, 105, 110, 101]⟩⟩,
  ⟨33, 2, 0, 1073741824, 0, ⟨#[108, 105, 115, 116]⟩⟩,
  ⟨34, 2, 1, 9, 1, ⟨#[108, 101, 118, 101, 108]⟩⟩,
  ⟨35, 2, 0, 32767, 0, ⟨#[114, 101, 115, 116, 97, 114, 116]⟩⟩,
  ⟨36, 2, 1, 31680, 720, ⟨#[116, 97, 98, 45, 115, 116, 111, 112]⟩⟩,
  ⟨37, 2, 0, 1, 0, ⟨#[104, 121, 112, 104, 101, 110, 97, 116, 101]⟩⟩,
  ⟨40, 3, 720, 31680, 12240, ⟨#[112, 97, 103, 101, 45, 119, 105, 100, 116, 104]⟩⟩,
  ⟨41, 3, 720, 31680, 15840, ⟨#[112, 97, 103, 101, 45, 104, 101, 105, 103, 104, 116]⟩⟩,
  ⟨42, 3, 0, 31680, 1440, ⟨#[116, 111, 112]⟩⟩,
  ⟨43, 3, 0, 31680, 1440, ⟨#[98, 111, 116, 116, 111, 109]⟩⟩,
  ⟨44, 3, 0, 31680, 1440, ⟨#[105, 110, 110, 101, 114]⟩⟩,
  ⟨45, 3, 0, 31680, 1440, ⟨#[111, 117, 116, 101, 114]⟩⟩,
  ⟨46, 3, 0, 32767, 0, ⟨#[102, 105, 114, 115, 116, 45, 112, 97, 103, 101]⟩⟩,
  ⟨47, 3, 1, 6, 1, ⟨#[112, 97, 103, 101, 45, 102, 111, 114, 109, 97, 116]⟩⟩,
  ⟨50, 4, 0, 1, 0, ⟨#[104, 101, 97, 100, 101, 114]⟩⟩,
  ⟨51, 4, 0, 1, 0, ⟨#[99, 97, 110, 116, 45, 115, 112, 108, 105, 116]⟩⟩,
  ⟨52, 4, 0, 31680, 0, ⟨#[114, 111, 119, 45, 104, 101, 105, 103, 104, 116]⟩⟩,
  ⟨60, 5, 1, 32, 1, ⟨#[99, 111, 108, 117, 109, 110, 45, 115, 112, 97, 110]⟩⟩,
  ⟨61, 5, 0, 2, 0, ⟨#[118, 101, 114, 116, 105, 99, 97, 108, 45, 109, 101, 114, 103, 101]⟩⟩,
  ⟨62, 5, 0, 31680, 0, ⟨#[99, 101, 108, 108, 45, 119, 105, 100, 116, 104]⟩⟩,
  ⟨63, 5, 0, 16777215, 16777215, ⟨#[115, 104, 97, 100, 101]⟩⟩,
  ⟨70, 6, 0, 31680, 0, ⟨#[116, 97, 98, 108, 101, 45, 119, 105, 100, 116, 104]⟩⟩,
  ⟨71, 6, 0, 2, 0, ⟨#[116, 97, 98, 108, 101, 45, 97, 108, 105, 103, 110]⟩⟩]
def keyCells : List SV := keysTable.flatMap fun k => k.enc.cells
theorem run305 (Q : Exit → SV → Hp → Nat → Prop) (h : Hp) (n : Nat) : swp Tryz.prog 47 (Tryz.f285.body.getD .ret) (fun e sa h n => Q e (look sa 0) h n) [] h n = Q .ret (.sl n 0 6 45 true) (hset h n (some (.cells keyCells))) (n + 1) := by kernel_rfl
theorem c305 : PC 285 [] (.imm 6 (keysTable.map Key.enc) false) := by
  intro h n
  refine go Tryz.func285 rfl (by kernel_rfl) (by kernel_rfl) (by simp [go_sem]) fun ho => ?_
  rw [wlk_eq]
  have e := run305 (fun e v h' n' => (e = .normal ∨ e = .ret) ∧ ∃ rs, some [v] = some rs ∧ RetS n h' n' (packS rs) (Is (.imm 6 (keysTable.map Key.enc) false) h n)) h n
  refine cast e.symm ⟨.inr rfl, _, rfl, ?_⟩
  refine retFz 1 ho (hset_old ho (Nat.le_refl _) look_same) (.inr ⟨ho.none (Nat.le_refl _), by simp, by kernel_rfl, rfl, keyCells, keyCells, hset_at _ _ _, by kernel_rfl, ?_, ?_⟩) ?_
  · intro x hx
    simp only [List.mem_map] at hx
    obtain ⟨k, _, rfl⟩ := hx
    exact ⟨rfl, rfl⟩
  · have all : ∀ l : List SV, All2 (Fz (hset h n (some (.cells keyCells))) h 0) l l := by
      intro l; induction l with
      | nil => trivial
      | cons a l ih => exact ⟨Fz.same, ih⟩
    have e : (keysTable.map Key.enc).flatMap SV.cells = keyCells := by kernel_rfl
    rw [e]; exact all _
  · rw [closed]
    refine closedL_iff.2 fun x hx => ?_
    simp only [List.mem_map] at hx
    obtain ⟨k, _, rfl⟩ := hx
    rfl
end Go.Proofs.YthinbkgpjmjfeaaGreatDoor.Sh
namespace Go.Proofs.YthinbkgpjmjfeaaGreatDoor.Sh
open Proofs
set_option maxRecDepth 100000
theorem c307 (k : Key) (t : Int) : PC 287 [k.enc, intE t] (intE (cmpI k.number t)) := by
  intro h n
  refine go Tryz.func287 rfl (by kernel_rfl) (by kernel_rfl) (by simp [go_sem]) fun ho => ?_
  simp [go_sem, Key.enc, hset_at]
  refine (c100 _ _).use ?_
  simp [go_sem]
  exact retIs ho (hset_old ho (Nat.le_refl _) look_same) rfl rfl
def keyCmp (t : Int) (i : Nat) : Int := match keysTable[i]? with | some k => cmpI k.number t | none => 0
def propFind (t : Int) : Option Key := if (bsearch (keyCmp t) keysTable.length).2 then keysTable[(bsearch (keyCmp t) keysTable.length).1]? else none
def Key.zero : Key := ⟨0, 0, 0, 0, 0, ⟨#[]⟩⟩
theorem keysTable_len : keysTable.length = 45 := by kernel_rfl
theorem c273 (t : Int) : PC 251 [intE t] (.tup [((propFind t).getD Key.zero).enc, .bool (propFind t).isSome]) := by
  intro h n
  refine go Tryz.func251 rfl (by kernel_rfl) (by kernel_rfl) (by simp [go_sem]) fun ho => ?_
  simp [go_sem]
  refine c305.use ?_
  simp [go_sem]
  refine (c306 keysTable (by rw [keysTable_len]; omega) (intE t) 287 [] [] (keyCmp t) (fun i hi => by simpa [keyCmp, hi] using c307 keysTable[i] t)).use ?_
  by_cases hb : (bsearch (keyCmp t) keysTable.length).2 = true
  · have hi : (bsearch (keyCmp t) keysTable.length).1 < keysTable.length := by
      simp only [bsearch, decide_eq_true_eq] at hb
      exact hb.1
    have hf : propFind t = some keysTable[(bsearch (keyCmp t) keysTable.length).1] := by simp [propFind, hb, hi]
    generalize hk : keysTable[(bsearch (keyCmp t) keysTable.length).1] = k at hf
    have hg : (keysTable.map Key.enc)[(bsearch (keyCmp t) keysTable.length).1]? = some k.enc := by rw [← hk]; simp [hi]
    simp only [List.getElem?_map] at hg
    simp [go_sem, hb, hg, Key.enc, hset_at]
    refine retIs ho (fun o y e => ?_) (by simp [hf]) rfl
    have := (ho o y e).1
    have ne : o ≠ n := by omega
    simp [hset, ne, e]
  · have hf : propFind t = none := by simp [propFind, hb]
    simp [go_sem, hb, hset_at]
    refine retIs ho (fun o y e => ?_) (by simp [hf, Key.zero, Key.enc]; rfl) rfl
    have := (ho o y e).1
    have ne : o ≠ n := by omega
    simp [hset, ne, e]
def propGroups (e : Int) : List Int :=
  if e = 1 ∨ e = 4 ∨ e = 5 ∨ e = 6 then [1] else if e = 2 then [1, 2] else if e = 3 then [3] else if e = 7 then [6] else if e = 9 then [4] else if e = 10 then [5] else []
theorem c274 (e : Int) : PC 253 [intE e] (.imm 1 ((propGroups e).map intE) false) := by
  intro h n
  refine go Tryz.func253 rfl (by kernel_rfl) (by kernel_rfl) (by simp [go_sem]) fun ho => ?_
  have fin : ∀ (g : List Int) (m : Nat), n ≤ m → RetS n (hset h m (some (.cells (g.map intE)))) (m + 1) (.sl m 0 1 g.length true) (Is (.imm 1 (g.map intE) false) h n) := fun g m hm => by
    refine retFz 1 ho (hset_old ho hm look_same) (.inr ⟨ho.none hm, by simp, by simp, rfl, _, _, hset_at _ _ _, by simp [takeN]; rfl, ?_, ?_⟩) ?_
    · intro x hx; simp at hx; obtain ⟨_, _, rfl⟩ := hx; exact ⟨rfl, rfl⟩
    · have e : (g.map intE).flatMap SV.cells = g.map intE := by induction g with | nil => rfl | cons a l ih => simpa [SV.cells] using ih
      rw [e]
      have all : ∀ l : List SV, All2 (Fz (hset h m (some (.cells (g.map intE)))) h 0) l l := by
        intro l; induction l with
        | nil => trivial
        | cons a l ih => exact ⟨Fz.same, ih⟩
      rw [List.take_of_length_le (by simp)]
      exact all _
    · rw [closed]; refine closedL_iff.2 fun x hx => ?_
      simp only [List.mem_map] at hx
      obtain ⟨k, _, rfl⟩ := hx
      rfl
  by_cases h1 : e = 1
  · subst h1; simp [go_sem, propGroups]; exact fin [1] n (Nat.le_refl _)
  by_cases h4 : e = 4
  · subst h4; simp [go_sem, propGroups]; exact fin [1] n (Nat.le_refl _)
  by_cases h5 : e = 5
  · subst h5; simp [go_sem, propGroups]; exact fin [1] n (Nat.le_refl _)
  by_cases h6 : e = 6
  · subst h6; simp [go_sem, propGroups]; exact fin [1] n (Nat.le_refl _)
  by_cases h2 : e = 2
  · subst h2; simp [go_sem, propGroups]; exact fin [1, 2] n (Nat.le_refl _)
  by_cases h3 : e = 3
  · subst h3; simp [go_sem, propGroups]; exact fin [3] n (Nat.le_refl _)
  by_cases h7 : e = 7
  · subst h7; simp [go_sem, propGroups]; exact fin [6] n (Nat.le_refl _)
  by_cases h9 : e = 9
  · subst h9; simp [go_sem, propGroups]; exact fin [4] n (Nat.le_refl _)
  by_cases h10 : e = 10
  · subst h10; simp [go_sem, propGroups]; exact fin [5] n (Nat.le_refl _)
  simp [go_sem, propGroups, h1, h2, h3, h4, h5, h6, h7, h9, h10]
  exact retFz 1 ho look_same (.inr ⟨by simp, .inl rfl, trivial, by simp⟩) rfl
def fits (el key : Int) : Bool := match propFind key with | some k => decide (k.group ∈ propGroups el) | none => false
theorem propGroups_len (e : Int) : (propGroups e).length ≤ 1048576 := by unfold propGroups; (repeat' split) <;> simp
theorem c220 (el key : Int) : PC 199 [intE el, intE key] (.bool (fits el key)) := by
  intro h n
  refine go Tryz.func199 rfl (by kernel_rfl) (by kernel_rfl) (by simp [go_sem]) fun ho => ?_
  simp [go_sem]
  refine (c273 key).use ?_
  cases hf : propFind key with
  | none =>
    simp [go_sem, Key.zero, Key.enc, hset_at]
    repeat first | refine nd (by kernel_rfl) ?_ | refine sd (by kernel_rfl) ?_
    refine retIs ho (fun o y e => ?_) (by simp [fits, hf]) rfl
    have := (ho o y e).1
    have ne : o ≠ n := by omega
    simp [hset, ne, e]
  | some k =>
    simp [go_sem, Key.enc, hset_at]
    repeat first | refine nd (by kernel_rfl) ?_ | refine sd (by kernel_rfl) ?_
    refine CallD.pure _ _ _ _ _ _ (c274 el) ?_
    simp [go_sem, hset_at]
    repeat first | refine nd (by kernel_rfl) ?_ | refine sd (by kernel_rfl) ?_
    refine CallD.pure _ _ _ _ _ _ (c113 (propGroups el) k.group (propGroups_len el)) ?_
    simp [go_sem]
    repeat first | refine nd (by kernel_rfl) ?_ | refine sd (by kernel_rfl) ?_
    refine retIs ho (fun o y e => ?_) (by simp [fits, hf]) rfl
    have := (ho o y e).1
    have ne : o ≠ n := by omega
    simp [hset, ne, e]
def valueErr (key v : Int) : Int := match propFind key with | some k => if v < k.low ∨ k.high < v then 5 else 0 | none => 4
theorem c221 (key v : Int) : PC 200 [intE key, intE v] (intE (valueErr key v)) := by
  intro h n
  refine go Tryz.func200 rfl (by kernel_rfl) (by kernel_rfl) (by simp [go_sem]) fun ho => ?_
  simp [go_sem]
  refine (c273 key).use ?_
  have hh : ∀ a b : Option SObj, ∀ o x, h o = some x → hset (hset h n a) n b o = some x := fun a b o y e => by
    have := (ho o y e).1
    have ne : o ≠ n := by omega
    simp [hset, ne, e]
  cases hf : propFind key with
  | none =>
    simp [go_sem, Key.zero, Key.enc, hset_at]
    exact retIs ho (hh _ _) (by simp [valueErr, hf]) rfl
  | some k =>
    by_cases h1 : v < k.low <;> by_cases h2 : k.high < v <;> simp [go_sem, Key.enc, hset_at, h1, h2]
    all_goals exact retIs ho (hh _ _) (by simp [valueErr, hf, h1, h2]) rfl
def propStep (el : Int) (l : List Prp) (i : Nat) : Int := match l[i]? with
  | some p => if !fits el p.key then 4 else if decide (0 < i) && ((l[i - 1]?).map Prp.key == some p.key) then 7
      else if decide (0 < i) && (match l[i - 1]? with | some q => decide (p.key < q.key) | none => false) then 6 else valueErr p.key p.value
  | none => 0
def propCheck (el : Int) (l : List Prp) : Int := if el < 1 ∨ 10 < el then 3 else allE (propStep el l) l.length
theorem c156 (el : Int) (l : List Prp) (hl : l.length ≤ 1048576) : PC 149 [intE el, propsE l] (intE (propCheck el l)) := by
  intro h n
  refine go Tryz.func149 rfl (by kernel_rfl) (by kernel_rfl) (by simp [go_sem]) fun ho => ?_
  by_cases e1 : el < 1
  · simp [go_sem, e1]; exact ret0 ho rfl (by simp [propCheck, e1])
  by_cases e2 : 10 < el
  · simp [go_sem, e1, e2]; exact ret0 ho rfl (by simp [propCheck, e2])
  have hP : propCheck el l = allE (propStep el l) l.length := by simp [propCheck, e1, e2]
  rw [hP]
  simp [go_sem, e1, e2]
  refine goloop 1 (α := Nat) (fun k => [(0, intE el), (1, propsE l), (14, propsE l), (15, intE l.length), (16, intE k)]) (fun _ => h) (fun k m => k ≤ l.length ∧ n ≤ m ∧ allE (propStep el l) k = 0) (fun k => l.length - k) 0 ?_ ?_ look_same ?_
  · simp [allE]
  · simp [look]
  rintro k m ⟨hk, hnm, hf⟩
  have hh : ∀ a b : Option SObj, ∀ o x, h o = some x → hset (hset h m a) m b o = some x := fun a b o y e => by
    have := (ho o y e).1
    have ne : o ≠ m := by omega
    simp [hset, ne, e]
  by_cases hlt : k < l.length
  · have w1 : IntKind.i64.wrap ((k : Int) + 1) = ((k + 1 : Nat) : Int) := by rw [wr64] <;> omega
    obtain ⟨p, hp⟩ : ∃ p, l[k]? = some p := ⟨l[k], by simp [hlt]⟩
    have hp' : l[k] = p := by simpa [hlt] using hp
    have nz : ∀ e, propStep el l k = e → e ≠ 0 → allE (propStep el l) l.length = e := fun e h1 h2 => by rw [allE_first _ hlt hf (by rw [h1]; exact h2), h1]
    simp [go_sem, hlt, hp', Prp.enc, hset_at]
    refine (c220 _ _).use ?_
    by_cases hfit : fits el p.key = true
    · by_cases h0 : 0 < k
      · obtain ⟨q, hq⟩ : ∃ q, l[k - 1]? = some q := ⟨l[k - 1], by simp [show k - 1 < l.length by omega]⟩
        have w2 : IntKind.i64.wrap ((k : Int) - 1) = ((k - 1 : Nat) : Int) := by rw [wr64] <;> omega
        have hq' : (l.map Prp.enc)[k - 1]? = some q.enc := by simp [hq]
        simp only [List.getElem?_map] at hq'
        by_cases h7 : p.key = q.key
        · have hfit' : fits el q.key = true := by rw [← h7]; exact hfit
          simp [go_sem, hfit', h0, w2, hq, Prp.enc, hset_at, h7]
          repeat first | refine nd (by kernel_rfl) ?_ | refine sd (by kernel_rfl) ?_
          exact retIs ho (hh _ _) (by rw [nz 7 (by simp [propStep, hp, hfit', h0, hq, h7]) (by simp)]) rfl
        · by_cases h6 : p.key < q.key
          · simp [go_sem, hfit, h0, w2, hq, Prp.enc, hset_at, h7, h6]
            repeat first | refine nd (by kernel_rfl) ?_ | refine sd (by kernel_rfl) ?_
            exact retIs ho (hh _ _) (by rw [nz 6 (by simp [propStep, hp, hfit, h0, hq, h6, Ne.symm h7]) (by simp)]) rfl
          · simp [go_sem, hfit, h0, w2, hq, Prp.enc, hset_at, h7, h6]
            repeat first | refine nd (by kernel_rfl) ?_ | refine sd (by kernel_rfl) ?_
            refine (c221 _ _).use ?_
            have hs : propStep el l k = valueErr p.key p.value := by simp [propStep, hp, hfit, h0, hq, h6, Ne.symm h7]
            by_cases hv : valueErr p.key p.value = 0
            · simp [go_sem, hv, w1, -Int.natCast_add]
              exact ⟨k + 1, by omega, ⟨by omega, by omega, by simp [allE, hf, hs, hv]⟩, Fz.same, hh _ _⟩
            · simp [go_sem, hv]
              exact retIs ho (hh _ _) (by rw [nz _ hs hv]) rfl
      · simp [go_sem, hfit, h0, hset_at]
        repeat first | refine nd (by kernel_rfl) ?_ | refine sd (by kernel_rfl) ?_
        refine (c221 _ _).use ?_
        have hs : propStep el l k = valueErr p.key p.value := by simp [propStep, hp, hfit, h0]
        by_cases hv : valueErr p.key p.value = 0
        · simp [go_sem, hv, w1, -Int.natCast_add]
          exact ⟨k + 1, by omega, ⟨by omega, by omega, by simp [allE, hf, hs, hv]⟩, Fz.same, hh _ _⟩
        · simp [go_sem, hv]
          exact retIs ho (hh _ _) (by rw [nz _ hs hv]) rfl
    · simp [go_sem, hfit]
      exact retIs ho (hh _ _) (by rw [nz 4 (by simp [propStep, hp, hfit]) (by simp)]) rfl
  · simp [go_sem, hlt]
    have : k = l.length := by omega
    subst this
    exact ret0 ho rfl (by rw [hf])
end Go.Proofs.YthinbkgpjmjfeaaGreatDoor.Sh
namespace Go.Proofs.YthinbkgpjmjfeaaGreatDoor.Sh
open Proofs
set_option maxRecDepth 10000
def anyI (p : Nat → Bool) (n : Nat) : Bool := decide (0 ≤ indexP p n 0)
structure Part where
  literal : ByteArray
  level : Int
  plain : Bool
def Part.enc (p : Part) : SV := .agg [.str p.literal, intE p.level, .bool p.plain]
abbrev byteE : Int → SV := .int .u8
theorem c299 (l : List Style) (hl : l.length ≤ 1048576) (g : FuncId) (a b : List SV) (p : Nat → Bool) (hp : ∀ (i : Nat) (h : i < l.length), PC g (a ++ [Style.enc l[i]] ++ b) (.bool (p i))) :
    PC 279 [.imm 6 (l.map Style.enc) false, .fn (.func g) a b] (intE (indexP p l.length 0)) := by
  intro h n
  refine go Tryz.func279 rfl (by kernel_rfl) (by kernel_rfl) (by simp [go_sem]) fun ho => ?_
  simp [go_sem]
  refine goloop 1 (α := Nat) (fun k => [(0, .imm 6 (l.map Style.enc) false), (1, .fn (.func g) a b), (7, intE l.length), (8, intE k)]) (fun _ => h) (fun k m => k ≤ l.length ∧ n ≤ m ∧ indexP p l.length 0 = indexP p l.length k) (fun k => l.length - k) 0 ?_ ?_ look_same ?_
  · simp
  · simp [look]
  rintro k m ⟨hk, hnm, hf⟩
  rw [indexP.eq_def _ _ k] at hf
  by_cases hlt : k < l.length
  · have w1 : IntKind.i64.wrap ((k : Int) + 1) = ((k + 1 : Nat) : Int) := by rw [wr64] <;> omega
    have H := hp k hlt
    simp only [List.append_assoc, List.cons_append, List.nil_append] at H
    simp [go_sem, hlt, Style.enc]
    refine PC.use (by simpa [Style.enc] using H) ?_
    by_cases h0 : p k = true
    · simp [go_sem, h0]
      exact ret0 ho rfl (by rw [hf]; simp [hlt, h0])
    · simp [go_sem, h0, w1, -Int.natCast_add]
      exact ⟨k + 1, by omega, ⟨by omega, hnm, by rw [hf]; simp [hlt, h0]⟩, Fz.same⟩
  · simp [go_sem, hlt]
    exact ret0 ho rfl (by rw [hf]; simp [hlt])
theorem c272 (l : List Comment) (hl : l.length ≤ 1048576) (g : FuncId) (a b : List SV) (p : Nat → Bool) (hp : ∀ (i : Nat) (h : i < l.length), PC g (a ++ [Comment.enc l[i]] ++ b) (.bool (p i))) :
    PC 250 [.imm 6 (l.map Comment.enc) false, .fn (.func g) a b] (intE (indexP p l.length 0)) := by
  intro h n
  refine go Tryz.func250 rfl (by kernel_rfl) (by kernel_rfl) (by simp [go_sem]) fun ho => ?_
  simp [go_sem]
  refine goloop 1 (α := Nat) (fun k => [(0, .imm 6 (l.map Comment.enc) false), (1, .fn (.func g) a b), (7, intE l.length), (8, intE k)]) (fun _ => h) (fun k m => k ≤ l.length ∧ n ≤ m ∧ indexP p l.length 0 = indexP p l.length k) (fun k => l.length - k) 0 ?_ ?_ look_same ?_
  · simp
  · simp [look]
  rintro k m ⟨hk, hnm, hf⟩
  rw [indexP.eq_def _ _ k] at hf
  by_cases hlt : k < l.length
  · have w1 : IntKind.i64.wrap ((k : Int) + 1) = ((k + 1 : Nat) : Int) := by rw [wr64] <;> omega
    have H := hp k hlt
    simp only [List.append_assoc, List.cons_append, List.nil_append] at H
    simp [go_sem, hlt, Comment.enc]
    refine PC.use (by simpa [Comment.enc] using H) ?_
    by_cases h0 : p k = true
    · simp [go_sem, h0]
      exact ret0 ho rfl (by rw [hf]; simp [hlt, h0])
    · simp [go_sem, h0, w1, -Int.natCast_add]
      exact ⟨k + 1, by omega, ⟨by omega, hnm, by rw [hf]; simp [hlt, h0]⟩, Fz.same⟩
  · simp [go_sem, hlt]
    exact ret0 ho rfl (by rw [hf]; simp [hlt])
theorem c321 (l : List Part) (hl : l.length ≤ 1048576) (g : FuncId) (a b : List SV) (p : Nat → Bool) (hp : ∀ (i : Nat) (h : i < l.length), PC g (a ++ [Part.enc l[i]] ++ b) (.bool (p i))) :
    PC 310 [.imm 3 (l.map Part.enc) false, .fn (.func g) a b] (intE (indexP p l.length 0)) := by
  intro h n
  refine go Tryz.func310 rfl (by kernel_rfl) (by kernel_rfl) (by simp [go_sem]) fun ho => ?_
  simp [go_sem]
  refine goloop 1 (α := Nat) (fun k => [(0, .imm 3 (l.map Part.enc) false), (1, .fn (.func g) a b), (7, intE l.length), (8, intE k)]) (fun _ => h) (fun k m => k ≤ l.length ∧ n ≤ m ∧ indexP p l.length 0 = indexP p l.length k) (fun k => l.length - k) 0 ?_ ?_ look_same ?_
  · simp
  · simp [look]
  rintro k m ⟨hk, hnm, hf⟩
  rw [indexP.eq_def _ _ k] at hf
  by_cases hlt : k < l.length
  · have w1 : IntKind.i64.wrap ((k : Int) + 1) = ((k + 1 : Nat) : Int) := by rw [wr64] <;> omega
    have H := hp k hlt
    simp only [List.append_assoc, List.cons_append, List.nil_append] at H
    simp [go_sem, hlt, Part.enc]
    refine PC.use (by simpa [Part.enc] using H) ?_
    by_cases h0 : p k = true
    · simp [go_sem, h0]
      exact ret0 ho rfl (by rw [hf]; simp [hlt, h0])
    · simp [go_sem, h0, w1, -Int.natCast_add]
      exact ⟨k + 1, by omega, ⟨by omega, hnm, by rw [hf]; simp [hlt, h0]⟩, Fz.same⟩
  · simp [go_sem, hlt]
    exact ret0 ho rfl (by rw [hf]; simp [hlt])
theorem c327 (l : List Int) (hl : l.length ≤ 1048576) (g : FuncId) (a b : List SV) (p : Nat → Bool) (hp : ∀ (i : Nat) (h : i < l.length), PC g (a ++ [byteE l[i]] ++ b) (.bool (p i))) :
    PC 319 [.imm 1 (l.map byteE) false, .fn (.func g) a b] (intE (indexP p l.length 0)) := by
  intro h n
  refine go Tryz.func319 rfl (by kernel_rfl) (by kernel_rfl) (by simp [go_sem]) fun ho => ?_
  simp [go_sem]
  refine goloop 1 (α := Nat) (fun k => [(0, .imm 1 (l.map byteE) false), (1, .fn (.func g) a b), (7, intE l.length), (8, intE k)]) (fun _ => h) (fun k m => k ≤ l.length ∧ n ≤ m ∧ indexP p l.length 0 = indexP p l.length k) (fun k => l.length - k) 0 ?_ ?_ look_same ?_
  · simp
  · simp [look]
  rintro k m ⟨hk, hnm, hf⟩
  rw [indexP.eq_def _ _ k] at hf
  by_cases hlt : k < l.length
  · have w1 : IntKind.i64.wrap ((k : Int) + 1) = ((k + 1 : Nat) : Int) := by rw [wr64] <;> omega
    have H := hp k hlt
    simp only [List.append_assoc, List.cons_append, List.nil_append] at H
    simp [go_sem, hlt, byteE]
    refine PC.use (by simpa [byteE] using H) ?_
    by_cases h0 : p k = true
    · simp [go_sem, h0]
      exact ret0 ho rfl (by rw [hf]; simp [hlt, h0])
    · simp [go_sem, h0, w1, -Int.natCast_add]
      exact ⟨k + 1, by omega, ⟨by omega, hnm, by rw [hf]; simp [hlt, h0]⟩, Fz.same⟩
  · simp [go_sem, hlt]
    exact ret0 ho rfl (by rw [hf]; simp [hlt])
theorem c214 (l : List Comment) (hl : l.length ≤ 1048576) (g : FuncId) (a b : List SV) (p : Nat → Bool) (hp : ∀ (i : Nat) (h : i < l.length), PC g (a ++ [Comment.enc l[i]] ++ b) (.bool (p i))) :
    PC 193 [.imm 6 (l.map Comment.enc) false, .fn (.func g) a b] (.bool (anyI p l.length)) := by
  intro h n
  refine go Tryz.func193 rfl (by kernel_rfl) (by kernel_rfl) (by simp [go_sem]) fun ho => ?_
  simp [go_sem]
  refine (c272 l hl g a b p hp).use ?_
  simp [go_sem]
  exact ret0 ho rfl rfl
theorem c303 (l : List Part) (hl : l.length ≤ 1048576) (g : FuncId) (a b : List SV) (p : Nat → Bool) (hp : ∀ (i : Nat) (h : i < l.length), PC g (a ++ [Part.enc l[i]] ++ b) (.bool (p i))) :
    PC 283 [.imm 3 (l.map Part.enc) false, .fn (.func g) a b] (.bool (anyI p l.length)) := by
  intro h n
  refine go Tryz.func283 rfl (by kernel_rfl) (by kernel_rfl) (by simp [go_sem]) fun ho => ?_
  simp [go_sem]
  refine (c321 l hl g a b p hp).use ?_
  simp [go_sem]
  exact ret0 ho rfl rfl
theorem c318 (l : List Int) (hl : l.length ≤ 1048576) (g : FuncId) (a b : List SV) (p : Nat → Bool) (hp : ∀ (i : Nat) (h : i < l.length), PC g (a ++ [byteE l[i]] ++ b) (.bool (p i))) :
    PC 307 [.imm 1 (l.map byteE) false, .fn (.func g) a b] (.bool (anyI p l.length)) := by
  intro h n
  refine go Tryz.func307 rfl (by kernel_rfl) (by kernel_rfl) (by simp [go_sem]) fun ho => ?_
  simp [go_sem]
  refine (c327 l hl g a b p hp).use ?_
  simp [go_sem]
  exact ret0 ho rfl rfl
abbrev SP (E : Env) (N : Nat) (c : Code) (Q : Post) (sa : SA) (h : Hp) (n : Nat) : Prop := SWE E Tryz.prog N c Q sa h n
section
variable {E : Env} {N : Nat} {a b : Code} {Q : Post} {sa : SA} {h : Hp} {n : Nat}
theorem SP_of (H : wlk E Tryz.prog N a Q sa h n) : SP E N a Q sa h n := swp_sound follows _ _ _ _ _ (by rw [← wlk_eq]; exact H)
theorem SP_cut (sb : SA) (H1 : wlk E Tryz.prog N a (thenQ (fun sa' h' n' => (∀ p ∈ sb, look sa' p.1 = p.2) ∧ h' = h ∧ n' = n) Q) sa h n) (H2 : SP E N b Q sb h n) : SP E N (.seq a b) Q sa h n :=
  SWE_seq (SWE_mono (SP_of H1) (thenQ_mono fun sa' h' n' ⟨h1, h2, h3⟩ => by subst h2; subst h3; exact SWE_weaken H2 h1))
theorem SP_mid {α : Type} (k : Nat) (fr : α → SA) (hp : α → Hp) (I : α → Nat → Prop)
    (H1 : wlk E Tryz.prog N a (thenQ (fun sa' h' n' => ∃ x, I x n' ∧ (∀ p ∈ fr x, Fz h' (hp x) k (look sa' p.1) p.2) ∧ (∀ o y, hp x o = some y → h' o = some y)) Q) sa h n)
    (H2 : ∀ x m, I x m → SP E N b Q (fr x) (hp x) m) : SP E N (.seq a b) Q sa h n :=
  SWE_seq (SWE_mono (SP_of H1) (thenQ_mono fun _sa' _h' n' ⟨x, hI, h1, h2⟩ => SWE_fz k h2 (Nat.le_refl _) h1 (H2 x n' hI)))
theorem SP_midS {α : Type} (k : Nat) (fr : α → SA) (hp : α → Hp) (I : α → Nat → Prop)
    (H1 : SP E N a (thenQ (fun sa' h' n' => ∃ x, I x n' ∧ (∀ p ∈ fr x, Fz h' (hp x) k (look sa' p.1) p.2) ∧ (∀ o y, hp x o = some y → h' o = some y)) Q) sa h n)
    (H2 : ∀ x m, I x m → SP E N b Q (fr x) (hp x) m) : SP E N (.seq a b) Q sa h n :=
  SWE_seq (SWE_mono H1 (thenQ_mono fun _sa' _h' n' ⟨x, hI, h1, h2⟩ => SWE_fz k h2 (Nat.le_refl _) h1 (H2 x n' hI)))
theorem SP_block {id : Nat} (H : SP E N a (blockQ id Q) sa h n) : SP E N (.block id a) Q sa h n := SWE_block H
theorem SP_seq (H : SP E N a (thenQ (SP E N b Q) Q) sa h n) : SP E N (.seq a b) Q sa h n := SWE_seq H
theorem goS {f : FuncId} {fn : Func} {code : Code} {args : List SV} {K : SV → Hp → Nat → Prop} (hf : Tryz.prog.funcs[f]? = some fn) (hb : fn.body = some code)
    (hn : (fn.name != "runtime.NumGoroutine") = true) (hd : Code.dok fn.ntmps code = true) (hl : args.length ≤ fn.ntmps)
    (H : Old h n → SP (E.call false 0) fn.ntmps code (retQ Tryz.prog fn n K) (initSA 0 args) h n) : SCallE E Tryz.prog f args h n K :=
  SCallE_of hf hb hn hd hl fun _ ho => H ho
theorem goloopS {x : Code} {α : Type} (k : Nat) (fr : α → SA) (hp : α → Hp) (I : α → Nat → Prop) (μ : α → Nat) (a0 : α) (hI : I a0 n)
    (hfr : ∀ p ∈ fr a0, Fz h (hp a0) k (look sa p.1) p.2) (hhp : ∀ o y, hp a0 o = some y → h o = some y)
    (round : ∀ a n, I a n → SP E N x (thenQ (fun sa' h' n' => ∃ a', μ a' < μ a ∧ I a' n' ∧ (∀ p ∈ fr a', Fz h' (hp a') k (look sa' p.1) p.2) ∧ (∀ o y, hp a' o = some y → h' o = some y)) Q) (fr a) (hp a) n) :
    SP E N (.loop x) Q sa h n := by
  refine SWE_loop (μ a0) (fun m sa h n => ∃ a, m = μ a ∧ I a n ∧ (∀ p ∈ fr a, Fz h (hp a) k (look sa p.1) p.2) ∧ (∀ o y, hp a o = some y → h o = some y)) ⟨a0, rfl, hI, hfr, hhp⟩ ?_
  rintro m sa h n ⟨a, rfl, hI, hfr, hhp⟩
  refine SWE_fz k hhp (Nat.le_refl _) hfr (SWE_mono (round a n hI) ?_)
  refine thenQ_mono fun sa' h' n' ⟨a', h1, h2, h3, h4⟩ => ⟨μ a', h1, a', rfl, h2, h3, h4⟩
end
@[go_sem] theorem blockQ_normal (id : Nat) (Q : Post) : blockQ id Q .normal = Q .normal := rfl
@[go_sem] theorem blockQ_ret (id : Nat) (Q : Post) : blockQ id Q .ret = Q .ret := rfl
@[go_sem] theorem blockQ_exit (id i : Nat) (Q : Post) (sa : SA) (h : Hp) (n : Nat) : blockQ id Q (.exit i) sa h n = if i = id then Q .normal sa h n else Q (.exit i) sa h n := rfl
def allB (p : Nat → Bool) : Nat → Bool
  | 0 => true
  | n + 1 => allB p n && p n
theorem allB_false {p : Nat → Bool} {k n : Nat} (hk : k < n) (h : p k = false) : allB p n = false := by
  induction n with
  | zero => omega
  | succ n ih =>
    rw [allB]
    by_cases e : k = n
    · subst e; simp [h]
    · rw [ih (by omega)]; rfl
def orByte (d : Int) : Int := IntKind.u8.wrap (BitVec.ofInt 8 d ||| BitVec.ofInt 8 32).toNat
def nameByte (first : Bool) (d : Int) : Bool := decide (97 ≤ orByte d ∧ orByte d ≤ 122) || (!first && decide ((48 ≤ d ∧ d ≤ 57) ∨ d = 45 ∨ d = 95))
def cpIsName (s : ByteArray) : Bool := decide ((1 : Int) ≤ s.size ∧ (s.size : Int) ≤ 40) && allB (fun i => nameByte (decide (i = 0)) (byteAt s i)) s.size
theorem c219 (s : ByteArray) : PC 198 [.str s] (.bool (cpIsName s)) := by
  intro h n
  refine go Tryz.func198 rfl (by kernel_rfl) (by kernel_rfl) (by simp [go_sem]) fun ho => ?_
  by_cases e1 : (s.size : Int) < 1
  · simp [go_sem, e1]; exact ret0 ho rfl (by simp [cpIsName]; omega)
  by_cases e2 : (40 : Int) < s.size
  · simp [go_sem, e1, e2]; exact ret0 ho rfl (by simp [cpIsName]; omega)
  have hN : cpIsName s = allB (fun i => nameByte (decide (i = 0)) (byteAt s i)) s.size := by
    have : decide ((1 : Int) ≤ s.size ∧ (s.size : Int) ≤ 40) = true := by simp; omega
    rw [cpIsName, this]; rfl
  rw [hN]
  simp [go_sem, e1, e2]
  refine goloopS 1 (α := Nat) (fun k => [(0, .str s), (16, intE s.size), (17, intE k)]) (fun _ => h) (fun k m => k ≤ s.size ∧ n ≤ m ∧ allB (fun i => nameByte (decide (i = 0)) (byteAt s i)) k = true) (fun k => s.size - k) 0 ?_ ?_ look_same ?_
  · simp [allB]
  · simp [look]
  rintro k m ⟨hk, hnm, hf⟩
  by_cases hlt : k < s.size
  · have w1 : IntKind.i64.wrap ((k : Int) + 1) = ((k + 1 : Nat) : Int) := by rw [wr64] <;> omega
    obtain ⟨g1, g2⟩ := byteAt_lt hlt
    have no : nameByte (decide (k = 0)) (byteAt s k) = false → allB (fun i => nameByte (decide (i = 0)) (byteAt s i)) s.size = false := fun hb => allB_false hlt hb
    have yes' : nameByte (decide (k = 0)) (byteAt s k) = true → allB (fun i => nameByte (decide (i = 0)) (byteAt s i)) (k + 1) = true := fun hb => by rw [allB, hf, hb]; rfl
    refine SP_cut [(0, .str s), (16, intE s.size), (17, intE k), (18, .bool true)] (by simp [go_sem, hlt]) ?_
    refine SP_cut [(0, .str s), (16, intE s.size), (17, intE k)] (by simp [go_sem]) ?_
    refine SP_midS 1 (α := Unit) (fun _ => [(0, .str s), (16, intE s.size), (17, intE k)]) (fun _ => h) (fun _ m' => m' = m ∧ nameByte (decide (k = 0)) (byteAt s k) = true) (SP_block ?_) (fun _ m' hI => SP_of ?_)
    rotate_left
    · simp [go_sem, w1, -Int.natCast_add]
      exact ⟨k + 1, by omega, ⟨by omega, by omega, yes' hI.2⟩, Fz.same⟩
    refine SP_cut [(0, .str s), (16, intE s.size), (17, intE k), (3, intE k)] (by simp [go_sem]) ?_
    refine SP_cut [(0, .str s), (16, intE s.size), (17, intE k), (3, intE k), (4, .int .u8 (orByte (byteAt s k)))] (by simp [go_sem, g1, ← g2]; rfl) ?_
    generalize hc : orByte (byteAt s k) = c
    generalize hd : byteAt s k = d at g2
    refine SP_cut [(0, .str s), (16, intE s.size), (17, intE k), (3, intE k), (5, .bool (decide (97 ≤ c ∧ c ≤ 122)))] (by by_cases l1 : 97 ≤ c <;> simp [go_sem, l1]) ?_
    refine SP_cut [(0, .str s), (16, intE s.size), (17, intE k), (3, intE k), (5, .bool (decide (97 ≤ c ∧ c ≤ 122))), (6, .bool (decide ((48 ≤ d ∧ d ≤ 57) ∨ d = 45 ∨ d = 95)))] ?_ ?_
    · by_cases d1 : 48 ≤ d
      · by_cases d2 : d ≤ 57
        · simp [go_sem, g1, ← g2, d1, d2]
        · have d3 : ¬ d = 45 := by omega
          by_cases d4 : d = 95 <;> simp [go_sem, g1, ← g2, d1, d2, d3, d4]
      · have d4 : ¬ d = 95 := by omega
        by_cases d3 : d = 45 <;> simp [go_sem, g1, ← g2, d1, d3, d4]
    generalize hL : decide (97 ≤ c ∧ c ≤ 122) = L
    generalize hO : decide ((48 ≤ d ∧ d ≤ 57) ∨ d = 45 ∨ d = 95) = O
    have hnb : nameByte (decide (k = 0)) (byteAt s k) = (L || (!decide (k = 0) && O)) := by rw [nameByte, hc, hd, hL, hO]
    rw [hnb] at no
    rw [hd] at hnb
    rw [hnb]
    refine SP_of ?_
    by_cases hz : k = 0
    · cases L <;> cases O <;> simp [hz] at no ⊢ <;> simp [go_sem]
      all_goals exact ret0 ho rfl (by rw [no])
    · cases L <;> cases O <;> simp [hz] at no ⊢ <;> simp [go_sem, hz]
      all_goals exact ret0 ho rfl (by rw [no])
  · refine SP_of ?_
    simp [go_sem, hlt]
    have : k = s.size := by omega
    subst this
    exact ret0 ho rfl (by rw [hf])
theorem c268 (k : Int) : PC 246 [intE k] (intE (if k = 1 then 2 else 1)) := by
  intro h n
  refine go Tryz.func246 rfl (by kernel_rfl) (by kernel_rfl) (by simp [go_sem]) fun ho => ?_
  by_cases h1 : k = 1 <;> simp [go_sem, h1] <;> exact ret0 ho rfl rfl
theorem c301 (s : Style) (id : Int) : PC 281 [s.enc, .iptr [intE id]] (.bool (decide (s.id = id))) := by
  intro h n
  refine go Tryz.func281 rfl (by kernel_rfl) (by kernel_rfl) (by simp [go_sem]) fun ho => ?_
  simp [go_sem, Style.enc, hset_at]
  exact retIs ho (hset_old ho (Nat.le_refl _) look_same) (by by_cases e : s.id = id <;> simp [e]) rfl
def strEq (a b : ByteArray) : Bool := a.toList == b.toList
theorem c300 (s : Style) (kind : Int) (name : ByteArray) : PC 280 [s.enc, .iptr [intE kind], .iptr [.str name]] (.bool (decide (s.kind = kind) && strEq s.name name)) := by
  intro h n
  refine go Tryz.func280 rfl (by kernel_rfl) (by kernel_rfl) (by simp [go_sem]) fun ho => ?_
  by_cases e : s.kind = kind <;> simp [go_sem, Style.enc, hset_at, e]
  all_goals exact retIs ho (hset_old ho (Nat.le_refl _) look_same) (by simp [strEq]) rfl
def stFind (l : List Style) (id : Int) : Int := indexP (fun i => match l[i]? with | some s => decide (s.id = id) | none => false) l.length 0
theorem c269 (l : List Style) (id : Int) (hl : l.length ≤ 1048576) : PC 247 [stylesE l, intE id] (.tup [intE (if 0 ≤ stFind l id then stFind l id else 0), .bool (decide (0 ≤ stFind l id))]) := by
  intro h n
  refine go Tryz.func247 rfl (by kernel_rfl) (by kernel_rfl) (by simp [go_sem]) fun ho => ?_
  simp [go_sem]
  have H := c299 l hl 281 [] [.iptr [intE id]] (fun i => match l[i]? with | some s => decide (s.id = id) | none => false) (fun i hi => by simpa [hi] using c301 l[i] id)
  refine H.lend 3 rfl ?_ ?_
  · simp [All2, Fz, hset]
  · by_cases e : 0 ≤ stFind l id
    · have e2 : ¬ stFind l id < 0 := by omega
      simp only [stFind] at e e2
      simp [go_sem, e, e2]
      exact retIs ho (hset_old ho (Nat.le_refl _) look_same) (by simp [stFind, e]) rfl
    · have e2 : stFind l id < 0 := by omega
      simp only [stFind] at e e2
      simp [go_sem, e, e2]
      exact retIs ho (hset_old ho (Nat.le_refl _) look_same) (by simp [stFind, e]) rfl
def stFindName (l : List Style) (kind : Int) (name : ByteArray) : Int := indexP (fun i => match l[i]? with | some s => decide (s.kind = kind) && strEq s.name name | none => false) l.length 0
theorem c267 (l : List Style) (kind : Int) (name : ByteArray) (hl : l.length ≤ 1048576) : PC 245 [stylesE l, intE kind, .str name] (.tup [intE (if 0 ≤ stFindName l kind name then stFindName l kind name else 0), .bool (decide (0 ≤ stFindName l kind name))]) := by
  intro h n
  refine go Tryz.func245 rfl (by kernel_rfl) (by kernel_rfl) (by simp [go_sem]) fun ho => ?_
  simp [go_sem]
  have H := c299 l hl 280 [] [.iptr [intE kind], .iptr [.str name]] (fun i => match l[i]? with | some s => decide (s.kind = kind) && strEq s.name name | none => false) (fun i hi => by simpa [hi] using c300 l[i] kind name)
  have hh : ∀ a b : Option SObj, ∀ o x, h o = some x → hset (hset h n a) (n + 1) b o = some x := fun a b => hset_old ho (Nat.le_succ n) (hset_old ho (Nat.le_refl _) look_same)
  refine H.lend 3 rfl ?_ ?_
  · simp [All2, Fz, hset]
  · by_cases e : 0 ≤ stFindName l kind name
    · have e2 : ¬ stFindName l kind name < 0 := by omega
      simp only [stFindName] at e e2
      simp [go_sem, e, e2]
      exact retIs ho (hh _ _) (by simp [stFindName, e]) rfl
    · have e2 : stFindName l kind name < 0 := by omega
      simp only [stFindName] at e e2
      simp [go_sem, e, e2]
      exact retIs ho (hh _ _) (by simp [stFindName, e]) rfl
theorem stFind_lt (l : List Style) (id : Int) (h : 0 ≤ stFind l id) : ∃ i s, stFind l id = (i : Nat) ∧ l[i]? = some s := by
  rcases indexP_range (fun i => match l[i]? with | some s => decide (s.id = id) | none => false) l.length 0 with e | ⟨i, _, h2, h3, _⟩
  · have : stFind l id = -1 := e
    omega
  · exact ⟨i, l[i], h3, by simp [h2]⟩
def stIs (l : List Style) (kind id : Int) : Bool := decide (0 ≤ stFind l id) && (match l[(stFind l id).toNat]? with | some s => decide (s.kind = kind) | none => false)
theorem c208 (l : List Style) (kind id : Int) (hl : l.length ≤ 1048576) : PC 187 [stylesE l, intE kind, intE id] (.bool (stIs l kind id)) := by
  intro h n
  refine go Tryz.func187 rfl (by kernel_rfl) (by kernel_rfl) (by simp [go_sem]) fun ho => ?_
  simp [go_sem]
  refine (c269 l id hl).use ?_
  by_cases e : 0 ≤ stFind l id
  · obtain ⟨i, s, h1, h2⟩ := stFind_lt l id e
    simp [go_sem, h1, h2, Style.enc]
    exact ret0 ho rfl (by simp [stIs, h1, h2]; by_cases hk : s.kind = kind <;> simp [hk])
  · simp [go_sem, e]
    exact ret0 ho rfl (by simp [stIs, e])
def visible (b : Int) : Bool := decide (32 ≤ b ∧ b ≤ 126)
def stIsName (s : ByteArray) : Bool := !decide (s.size = 0) && decide ((s.size : Int) ≤ 40) && !decide (byteAt s 0 = 32) && !decide (byteAt s (s.size - 1) = 32) && allB (fun i => visible (byteAt s i)) s.size
theorem c266 (s : ByteArray) : PC 244 [.str s] (.bool (stIsName s)) := by
  intro h n
  refine go Tryz.func244 rfl (by kernel_rfl) (by kernel_rfl) (by simp [go_sem]) fun ho => ?_
  by_cases e1 : s.size = 0
  · simp [go_sem, e1]; exact ret0 ho rfl (by simp [stIsName, e1])
  by_cases e2 : (40 : Int) < s.size
  · simp [go_sem, e1, e2]; exact ret0 ho rfl (by simp [stIsName, e1]; omega)
  have e2' : (s.size : Int) ≤ 40 := by omega
  obtain ⟨a1, a2⟩ := byteAt_lt (s := s) (i := 0) (by omega)
  obtain ⟨b1, b2⟩ := byteAt_lt (s := s) (i := s.size - 1) (by omega)
  have w0 : IntKind.i64.wrap ((s.size : Int) - 1) = ((s.size - 1 : Nat) : Int) := by rw [wr64] <;> omega
  have e1' : 0 < s.size := by omega
  by_cases e3 : byteAt s 0 = 32
  · simp [go_sem, e1, e1', e2, ← a2, e3]; exact ret0 ho rfl (by simp [stIsName, e1, e3])
  by_cases e4 : byteAt s (s.size - 1) = 32
  · simp [go_sem, e1, e1', e2, ← a2, e3, b1, ← b2, e4, w0]; exact ret0 ho rfl (by simp [stIsName, e1, e4])
  have hN : stIsName s = allB (fun i => visible (byteAt s i)) s.size := by simp [stIsName, e1, e2', e3, e4]
  rw [hN]
  simp [go_sem, e1, e1', e2, ← a2, e3, b1, ← b2, e4, w0]
  refine goloop 1 (α := Nat) (fun k => [(0, .str s), (26, intE s.size), (27, intE k)]) (fun _ => h) (fun k m => k ≤ s.size ∧ n ≤ m ∧ allB (fun i => visible (byteAt s i)) k = true) (fun k => s.size - k) 0 ?_ ?_ look_same ?_
  · simp [allB]
  · simp [look]
  rintro k m ⟨hk, hnm, hf⟩
  by_cases hlt : k < s.size
  · have w1 : IntKind.i64.wrap ((k : Int) + 1) = ((k + 1 : Nat) : Int) := by rw [wr64] <;> omega
    obtain ⟨g1, g2⟩ := byteAt_lt hlt
    by_cases l1 : byteAt s k < 32
    · simp [go_sem, hlt, ← g2, l1]
      exact ret0 ho rfl (by rw [allB_false hlt (by simp [visible]; omega)])
    · by_cases l2 : 126 < byteAt s k
      · simp [go_sem, hlt, ← g2, l1, l2]
        exact ret0 ho rfl (by rw [allB_false hlt (by simp [visible]; omega)])
      · simp [go_sem, hlt, ← g2, l1, l2, w1, -Int.natCast_add]
        exact ⟨k + 1, by omega, ⟨by omega, hnm, by rw [allB, hf]; simp [visible]; omega⟩, Fz.same⟩
  · simp [go_sem, hlt]
    have : k = s.size := by omega
    subst this
    exact ret0 ho rfl (by rw [hf])
theorem hset_at' (h : Hp) (j : Nat) (x : Option SObj) : hset h j x j = x := by simp [hset]
theorem hset_two (h : Hp) (j : Nat) (x y : Option SObj) : hset (hset h j x) j y = hset h j y := by funext k; simp only [hset]; split <;> rfl
def Env.inRound (E : Env) (l : Nat) : Env := { ro := some l, mks := false, base := 0, inv := E.inv, ext := E.ext }
def zipSA : List (Tmp × SV) → SA → SA
  | [], sa => sa
  | p :: r, sa => zipSA r (p :: sa)
section
variable {P : Program} {E : Env} {N : Nat}
theorem FR.zip {c : Cx} : ∀ {ps : List Tmp} {args : List SV} {vs : List Value} {sa : SA} {tm : Array Value}, (∀ p ∈ ps, p < N) → All2 (V c) args vs → ps.length = args.length → FR E N sa c { tmps := tm, defers := [] } →
    FR E N (zipSA (ps.zip args) sa) c { tmps := (ps.zip vs).foldl (fun t p => t.setIfInBounds p.1 p.2) tm, defers := [] }
  | [], _, _, _, _, _, _, _, F => F
  | p :: ps, [], _, _, _, _, _, hl, _ => by simp at hl
  | p :: ps, a :: args, [], _, _, _, h, _, _ => h.elim
  | p :: ps, a :: args, v :: vs, sa, tm, hp, h, hl, F => by
    have := F.put (dst := some p) (fun d e => by cases e; exact hp _ (by simp)) h.1
    exact FR.zip (ps := ps) (fun q hq => hp q (by simp [hq])) h.2 (by simpa using hl) this
theorem rel_loop {h : Hp} {c : Cx} {o l : Nat} {r : Loop} (R : Rel h c) (ho : h o = some (.loop r)) (hρ : c.ρ o = some (l, 0)) : c.w.heap[l]? = some (.loop r) := by
  obtain ⟨b, h1, h2⟩ := R.obj o _ ho
  rw [hρ] at h1; cases h1; exact h2
theorem loop_write {h : Hp} {c : Cx} {o l : Nat} {r : Loop} (r' : Loop) (R : Rel h c) (ho : h o = some (.loop r)) (hρ : c.ρ o = some (l, 0)) :
    Rel (hset h o (some (.loop r'))) { c with w := c.w.putObj l (.loop r') } ∧ Ext c { c with w := c.w.putObj l (.loop r') } := by
  have hl := rel_loop R ho hρ
  have hlt := (Array.getElem?_eq_some_iff.1 hl).1
  refine R.write ho hρ (by simp) (fun b' hb' => World.putObj_heap_other hb') ?_ rfl rfl fun X => ⟨l, hρ, World.putObj_heap_same hlt⟩
  simp [rm, hl]
def recOf (fn : FuncId) (tm : Array Value) (ps : Array Tmp) (assign body : Code) (D : Nat) (st : LoopState) (pe : Option Code) : Loop :=
  { state := st, pending := pe, fn := fn, tmps := tm, params := ps, assign := assign, body := body, defers := D }
def roundQ (n : Nat) (R : LoopState → Option Code → Loop) (Q1 : SV → Hp → Nat → Prop) : Post := fun e _ h2 m2 =>
  h2 n = some (.loop (R .busy none)) ∧ match e with
    | .normal => Q1 (.bool true) (hset h2 n (some (.loop (R .ready none)))) m2
    | .ret => Q1 (.bool false) (hset h2 n (some (.loop (R .done (some .ret))))) m2
    | .exit id => Q1 (.bool false) (hset h2 n (some (.loop (R .done (some (.exit id)))))) m2
    | _ => False
def roundW (P : Program) (E : Env) (N n : Nat) (R : LoopState → Option Code → Loop) (assign body : Code) (Q1 : SV → Hp → Nat → Prop) (sa : SA) (h : Hp) (m : Nat) : Prop :=
  SWE E P N assign (fun e sa1 h1 m1 => e = .normal ∧ h1 n = some (.loop (R .ready none)) ∧ SWE E P N body (roundQ n R Q1) sa1 (hset h1 n (some (.loop (R .busy none)))) m1) sa h m
def loopQ (n : Nat) (R : LoopState → Option Code → Loop) (Q : Post) (sa : SA) : SV → Hp → Nat → Prop := fun _ h' n' =>
  ∃ st pe, h' n = some (.loop (R st pe)) ∧ st ≠ .busy ∧ match pe with
    | none => Q .normal sa (hset h' n none) n'
    | some .ret => Q .ret sa (hset h' n none) n'
    | some (.exit id) => Q (.exit id) sa (hset h' n none) n'
    | _ => False
theorem round_sound {E1 : Env} {c1 : Cx} {l n : Nat} {fn : FuncId} {tm : Array Value} {ps : Array Tmp} {assign body : Code} {D : Nat} {sa : SA} (hinv : ∀ c', E1.inv c' → Ext c1 c') (hρ : c1.ρ n = some (l, 0))
    (hps : ∀ p ∈ ps.toList, p < N) (hda : Code.dok N assign = true) (hdb : Code.dok N body = true) (hsz : tm.size = N) (hv : ∀ t, V c1 (look sa t) (tm.getD t undef))
    {args : List SV} {hy : Hp} {m : Nat} {Q1 : SV → Hp → Nat → Prop} (hn : hy n = some (.loop (recOf fn tm ps assign body D .ready none))) (hl : args.length = ps.size)
    (H : roundW P (E1.inRound l) N n (recOf fn tm ps assign body D) assign body Q1 (zipSA (ps.toList.zip args) sa) hy m) : YCallE E1 P l args hy m Q1 := by
  intro c vs I R F A
  have X1 := hinv c I
  have hρc : c.ρ n = some (l, 0) := X1.ρ _ _ hρ
  have hlen := A.length
  refine ⟨_, _, _, _, run_yield (rel_loop R hn hρc) (by simp [recOf]; omega), roundIn_of_wpIn (F := Fence.wide) trivial ?_⟩
  have F0 : FR (E1.inRound l) N sa c { tmps := tm, defers := [] } := ⟨hsz, ⟨Nat.zero_le _, fun _ => rfl, by simp, by simp⟩, fun t => V.mono X1 (hv t)⟩
  have FZ := F0.zip (ps := ps.toList) hps A (by simp; omega)
  have etm : (ps.zip vs.toArray).foldl (fun tmps x => tmps.setIfInBounds x.1 x.2) tm = (ps.toList.zip vs).foldl (fun t p => t.setIfInBounds p.1 p.2) tm := by
    rw [← Array.foldl_toList, Array.toList_zip]
  have hA := H hda c _ I R F FZ
  rw [← etm] at hA
  refine wpIn_mono hA ?_
  rintro e a2 w2 ⟨sa2, h2, n2, c2, ⟨rfl, hn2, hB⟩, rfl, R2, F2, A2, X2⟩
  have hρ2 : c2.ρ n = some (l, 0) := X2.ext.ρ _ _ hρc
  obtain ⟨R3, X3⟩ := loop_write (recOf fn tm ps assign body D .busy none) R2 hn2 hρ2
  refine ⟨_, run_beginRound (rel_loop R2 hn2 hρ2) rfl, ?_⟩
  have X23 : Ext c { c2 with w := c2.w.putObj l (.loop (recOf fn tm ps assign body D .busy none)) } := X2.ext.trans X3
  refine wpIn_mono (hB hdb { c2 with w := c2.w.putObj l (.loop (recOf fn tm ps assign body D .busy none)) } a2 (E1.ext X23 I) R3 F2 (A2.ext X3)) ?_
  rintro e a4 w4 ⟨sa4, h4, n4, c4, ⟨hn4, hq⟩, rfl, R4, F4, A4, X4⟩
  have hρ4 : c4.ρ n = some (l, 0) := X4.ext.ρ _ _ hρ2
  have hl4 := rel_loop R4 hn4 hρ4
  have fin : ∀ (jump : Option Code) (b : Bool) (st : LoopState), b = jump.isNone → st = (if jump.isNone then .ready else .done) → Q1 (.bool b) (hset h4 n (some (.loop (recOf fn tm ps assign body D st jump)))) n4 →
      ∃ v w', (Instr.endRound l jump).run P c4.w = .ok v w' ∧ ∃ u v' h' n' c', Ending.returned v = .returned u ∧ Q1 v' h' n' ∧ c'.w = w' ∧ V c' v' u ∧ Rel h' c' ∧ Fr n' c' ∧ Adv m c n' c' := by
    rintro jump b st rfl rfl hq
    obtain ⟨R5, X5⟩ := loop_write (recOf fn tm ps assign body D (if jump.isNone then .ready else .done) jump) R4 hn4 hρ4
    refine ⟨_, _, run_endRound jump hl4, .bool jump.isNone, .bool jump.isNone, _, n4, _, rfl, hq, rfl, by simp [V], R5, F4, ⟨X23.trans (X4.ext.trans X5), Nat.le_trans X2.le X4.le, fun j hj => ?_⟩⟩
    exact (X4.same j (Nat.lt_of_lt_of_le hj X2.le)).trans (X2.same j hj)
  cases e with
  | normal => exact fin none true .ready rfl rfl hq
  | ret => exact fin (some .ret) false .done rfl rfl hq
  | exit id => exact fin (some (.exit id)) false .done rfl rfl hq
  | _ => exact hq.elim
def Cx.begin (c : Cx) (n : Nat) (r : Loop) : Cx := Cx.alloc { c with w := c.w.alloc (.deferred (some [])) } n (.loop r)
theorem begin_ext0 (c : Cx) : Ext c { c with w := c.w.alloc (.deferred (some [])) } := by
  refine ⟨fun _ _ e => e, by simp, fun b hb ho => ⟨ho, ?_⟩, fun b => ?_, rfl, rfl, ⟨rfl, Nat.le_refl _⟩⟩
  · simp [heap_alloc, Array.getElem?_push, Nat.ne_of_lt hb]
  · unfold rm
    rcases Nat.lt_or_ge b c.w.heap.size with hx | hx
    · simp [heap_alloc, Array.getElem?_push, Nat.ne_of_lt hx]
    · simp [Array.getElem?_eq_none hx]
theorem begin_rel0 {h : Hp} {c : Cx} (R : Rel h c) : Rel h { c with w := c.w.alloc (.deferred (some [])) } := by
  refine ⟨fun o x e => (R.obj o x e).mono (begin_ext0 c) fun b hb => ?_, R.inj2, R.own2⟩
  have h2 := (R.obj o x e).hold_lt hb
  simp [heap_alloc, Array.getElem?_push, Nat.ne_of_lt h2]
theorem SWE_rangeFuncG {g : Operand} {ps : Array Tmp} {assign body : Code} {Q : Post} {sa : SA} {h : Hp} {n : Nat} {f : FuncId} {ys : List SV} (y : Nat → SV) (hy0 : ∀ (c : Cx) (l : Nat), c.ρ n = some (l, 0) → V c (y l) (.func (.yield l) #[] #[])) (hro : E.ro = none) (hmk : E.mks = true) (hg : evS sa g = .fn (.func f) [] ys)
    (H : ∀ (E1 : Env) (l : Nat) (R : LoopState → Option Code → Loop), (∀ c, E1.inv c → E.inv c ∧ c.ρ n = some (l, 0)) →
      (∀ args hy m Q1, hy n = some (.loop (R .ready none)) → args.length = ps.size → roundW P (E1.inRound l) N n R assign body Q1 (zipSA (ps.toList.zip args) sa) hy m → YCallE E1 P l args hy m Q1) →
      SCallE E1 P f (y l :: ys) (hset h n (some (.loop (R .ready none)))) (n + 1) (loopQ n R Q sa)) :
    SWE E P N (.rangeFunc g ps assign body) Q sa h n := by
  intro hd c a I R F A
  simp only [Code.dok, Bool.and_eq_true, List.all_eq_true, decide_eq_true_eq] at hd
  obtain ⟨hps, hda, hdb⟩ := hd
  have hfc : E.fc = Fence.wide := by simp only [Env.fc, hro, Fence.wide]
  rw [hfc]
  refine wpIn_rangeFunc fun fn _ => ?_
  have hρn : c.ρ n = none := F n (Nat.le_refl _)
  obtain ⟨r0, hr0⟩ : ∃ r0, r0 = recOf fn a.tmps ps assign body c.w.heap.size .ready none := ⟨_, rfl⟩
  have R1 : Rel (hset h n (some (.loop r0))) (c.begin n r0) := (begin_rel0 R).alloc hρn ⟨c.w.heap.size + 1, by simp [Cx.alloc], by have := World.alloc_heap_new (c.w.alloc (.deferred (some []))) (.loop r0); rwa [World.size_alloc] at this⟩
  have X1 : Ext c (c.begin n r0) := (begin_ext0 c).trans (Cx.alloc_ext _ n (.loop r0) hρn)
  have hρ1 : (c.begin n r0).ρ n = some (c.w.heap.size + 1, 0) := by simp [Cx.begin, Cx.alloc]
  have F1 : Fr (n + 1) (c.begin n r0) := fun j hj => by
    have : j ≠ n := by omega
    simp [Cx.begin, Cx.alloc, this]; exact F j (by omega)
  have hw1 : (c.begin n r0).w = (c.w.alloc (.deferred (some []))).alloc (.loop r0) := rfl
  have hD1 : (c.begin n r0).w.heap[c.w.heap.size]? = some (.deferred (some [])) := by
    rw [hw1]; simp [heap_alloc, Array.getElem?_push]
  have hDo : ¬ (c.begin n r0).own c.w.heap.size := by
    rintro (h1 | h1)
    · obtain ⟨o, x, e1, e2⟩ := (R.own2 _).1 h1
      have h4 := (R.obj o x e1).hold_lt e2
      omega
    · simp at h1
  let E1 : Env := { ro := none, mks := false, base := 0, inv := fun c' => E.inv c' ∧ Ext (c.begin n r0) c', ext := fun x i => ⟨E.ext x i.1, i.2.trans x⟩ }
  have hcall := H E1 (c.w.heap.size + 1) (recOf fn a.tmps ps assign body c.w.heap.size) (fun c' i => ⟨i.1, i.2.ρ _ _ hρ1⟩) fun args hy m Q1 hn hl hW =>
    round_sound (E1 := E1) (c1 := c.begin n r0) (fun c' i => i.2) hρ1 hps hda hdb A.size (fun t => V.mono X1 (A.val t)) hn hl hW
  rw [← hr0] at hcall
  have hf := A.ev g
  rw [hg, V] at hf
  obtain ⟨xs, yv, hfv, h1, h2⟩ := hf
  simp only [VL] at h1
  subst h1
  have hargs : All2 (V (c.begin n r0)) (y (c.w.heap.size + 1) :: ys) (.func (.yield (c.w.heap.size + 1)) #[] #[] :: yv) :=
    ⟨hy0 _ _ hρ1, VL_iff.1 (VL.mono X1 h2)⟩
  have hcl := hcall.2 (c.begin n r0) _ ⟨E.ext X1 I, Ext.refl _⟩ R1 F1 hargs
  have hok := hcall.1
  unfold okFn at hok
  cases hfn : P.funcs[f]? with
  | none => simp [hfn] at hok
  | some fn' =>
  simp only [hfn, Bool.and_eq_true, bne_iff_ne, ne_eq] at hok
  have hb : fn'.body ≠ none := by intro e; simp [e] at hok
  refine ⟨c.w.heap.size + 1, [mark c.w.heap.size], (c.begin n r0).w, { target := .fn (.func f) yv.toArray, args := #[.func (.yield (c.w.heap.size + 1)) #[] #[]] }, (c.begin n r0).w, f,
    (.func (.yield (c.w.heap.size + 1)) #[] #[] :: yv).toArray, (c.begin n r0).w, ?_, ?_, fun _ _ => trivial, ?_, fun e => by simp [Fence.wide] at e, ?_⟩
  · rw [hw1, hr0]; exact run_enterLoop_outer _ _ _ _ _
  · simp [resolve, Deferred.ofValue, hfv]
    rfl
  · simp [invoke, callFunc, hfn, hok.2, hb]
  · refine callsIn_wide.2 (hcl.mono ?_)
    rintro e w3 ⟨u, v, h', n', c', rfl, ⟨st, pe, hn', hst, hq⟩, rfl, hv, R', F', X'⟩
    have hρ' : c'.ρ n = some (c.w.heap.size + 1, 0) := X'.ext.ρ _ _ hρ1
    obtain ⟨R3, X3⟩ := loop_write (recOf fn a.tmps ps assign body c.w.heap.size .exhausted pe) R' hn' hρ'
    have R4 := R3.kill n (hset_at' _ _ _)
    have X4 := X3.trans (Cx.kill_ext { c' with w := c'.w.putObj (c.w.heap.size + 1) (.loop (recOf fn a.tmps ps assign body c.w.heap.size .exhausted pe)) } n)
    rw [hset_two] at R4
    have XX := X1.trans (X'.ext.trans X4)
    have hD4 := (X'.ext.trans X4).keep _ (Array.getElem?_eq_some_iff.1 hD1).1 hDo
    refine ⟨pe, _, run_endLoop (rel_loop R' hn' hρ') hst, ?_⟩
    have mk : ∀ e, Q e sa (hset h' n none) n' → Lift E N n c Q e { a with defers := [mark c.w.heap.size] ++ a.defers } (c'.w.putObj (c.w.heap.size + 1) (.loop (recOf fn a.tmps ps assign body c.w.heap.size .exhausted pe))) := fun e hq => by
      refine ⟨sa, hset h' n none, n', _, hq, rfl, R4, F', ⟨A.size, ⟨Nat.le_trans A.defers.base XX.size, fun e => (by rw [hmk] at e; cases e), ?_, fun d hd => ?_⟩, fun t => V.mono XX (A.val t)⟩, ⟨XX, by have := X'.le; omega, fun j hj => ?_⟩⟩
      · refine List.nodup_cons.2 ⟨fun hm => ?_, A.defers.nodup⟩
        obtain ⟨D, _, e2, e3, _⟩ := A.defers.ok _ hm
        have : D = c.w.heap.size := by simp [mark] at e2; exact e2.symm
        have := (Array.getElem?_eq_some_iff.1 e3).1
        omega
      · rcases List.mem_cons.1 hd with rfl | hd
        · exact ⟨c.w.heap.size, A.defers.base, rfl, hD4.2.trans hD1, hD4.1⟩
        · exact (A.defers.mono XX).ok d hd
      · have : j ≠ n := by omega
        have e1 : (c.begin n r0).ρ j = c.ρ j := by simp [Cx.begin, Cx.alloc, this]
        exact (X'.same j (by omega)).trans e1
    cases pe with
    | none => exact mk .normal hq
    | some j =>
      cases j with
      | ret => exact wpIn_ret (mk .ret hq)
      | exit id => exact wpIn_exit (mk (.exit id) hq)
      | _ => exact hq.elim
theorem SWE_rangeFunc {g : Operand} {ps : Array Tmp} {assign body : Code} {Q : Post} {sa : SA} {h : Hp} {n : Nat} {f : FuncId} {ys : List SV} (hro : E.ro = none) (hmk : E.mks = true) (hg : evS sa g = .fn (.func f) [] ys)
    (H : ∀ (E1 : Env) (l : Nat) (R : LoopState → Option Code → Loop),
      (∀ args hy m Q1, hy n = some (.loop (R .ready none)) → args.length = ps.size → roundW P (E1.inRound l) N n R assign body Q1 (zipSA (ps.toList.zip args) sa) hy m → YCallE E1 P l args hy m Q1) →
      SCallE E1 P f (.fn (.yield l) [] [] :: ys) (hset h n (some (.loop (R .ready none)))) (n + 1) (loopQ n R Q sa)) :
    SWE E P N (.rangeFunc g ps assign body) Q sa h n :=
  SWE_rangeFuncG (fun l => .fn (.yield l) [] []) (fun _ _ _ => by simp [V, VL]) hro hmk hg fun E1 l R _ hY => H E1 l R hY
theorem SWE_rangeFuncO {g : Operand} {ps : Array Tmp} {assign body : Code} {Q : Post} {sa : SA} {h : Hp} {n : Nat} {f : FuncId} {ys : List SV} (hro : E.ro = none) (hmk : E.mks = true) (hg : evS sa g = .fn (.func f) [] ys)
    (H : ∀ (E1 : Env) (l : Nat) (R : LoopState → Option Code → Loop), (∀ c, E1.inv c → E.inv c) →
      (∀ args hy m Q1, hy n = some (.loop (R .ready none)) → args.length = ps.size → roundW P (E1.inRound l) N n R assign body Q1 (zipSA (ps.toList.zip args) sa) hy m → YCallO E1 P n args hy m Q1) →
      SCallE E1 P f (.yl n :: ys) (hset h n (some (.loop (R .ready none)))) (n + 1) (loopQ n R Q sa)) :
    SWE E P N (.rangeFunc g ps assign body) Q sa h n :=
  SWE_rangeFuncG (fun _ => .yl n) (fun c l hl => by rw [V]; exact ⟨l, hl, rfl⟩) hro hmk hg fun E1 l R hi hY => H E1 l R (fun c i => (hi c i).1) fun args hy m Q1 h1 h2 h3 c vs l' hl I R' F A => by
    have := (hi c I).2
    rw [hl] at this; cases this
    exact hY args hy m Q1 h1 h2 h3 c vs I R' F A
end
theorem goM {E : Env} {f : FuncId} {fn : Func} {code : Code} {args : List SV} {h : Hp} {n : Nat} {K : SV → Hp → Nat → Prop} (hf : Tryz.prog.funcs[f]? = some fn) (hb : fn.body = some code)
    (hn : (fn.name != "runtime.NumGoroutine") = true) (hd : Code.dok fn.ntmps code = true) (hl : args.length ≤ fn.ntmps)
    (H : Old h n → ∀ B, wlk (E.call true B) Tryz.prog fn.ntmps code (retQ Tryz.prog fn n K) (initSA 0 args) h n) : SCallE E Tryz.prog f args h n K :=
  SCallE_ofM hf hb hn hd hl fun _ ho B => SP_of (H ho B)
theorem roundW_of {E : Env} {N n : Nat} {R : LoopState → Option Code → Loop} {assign body : Code} {Q1 : SV → Hp → Nat → Prop} {sa : SA} {h : Hp} {m : Nat}
    (H : wlk E Tryz.prog N assign (fun e sa1 h1 m1 => e = .normal ∧ h1 n = some (.loop (R .ready none)) ∧ wlk E Tryz.prog N body (roundQ n R Q1) sa1 (hset h1 n (some (.loop (R .busy none)))) m1) sa h m) : roundW Tryz.prog E N n R assign body Q1 sa h m :=
  SWE_mono (SP_of H) fun _ _ _ _ ⟨a, b, c⟩ => ⟨a, b, SP_of c⟩
section
variable {P : Program} {E : Env}
theorem run_equalIn_slice2 (d : Nat) {t e : TypeId} (a : Option Addr) (l cap : Nat) (hu : P.underlying t = some (.slice e)) (w : World) : (Op.equalIn (d + 1) t (.slice a l cap) (.slice none 0 0)).run P w = .ok a.isNone w := by
  cases a <;> simp [Op.equalIn, run_underlying' hu]
theorem binOp_slice {t e : TypeId} (a : Option Addr) (l cap : Nat) (hu : P.underlying t = some (.slice e)) (w : World) :
    (binOp .eql t (.slice a l cap) (.slice none 0 0)).run P w = .ok (.bool a.isNone) w := by
  have := run_equalIn_slice2 9999 a l cap hu w
  simp only [binOp, Op.equal]; simp [Op.maxDepth, this]
theorem sem_sliceNil {evs : Operand → SV} {o : Oper} {h : Hp} {n : Nat} {K : SV → Hp → Nat → Prop} {t t2 : TypeId} {x : Operand} {z : Nat} {es : List SV} {full : Bool} (ho : o.op = .binOp .eql t x (.const (.slice none 0 0)) t2)
    (ht : (tslice P t).isSome = true) (hx : evs x = .imm z es full) (h1 : es = [] → K (.bool true) h n) (h2 : K (.bool false) h n) : SemOp E P evs o h n K := by
  refine ⟨by rw [ho]; simp, fun c ev hc _ R F hv => ?_⟩
  have hvx := hv x
  obtain ⟨e, ht⟩ := Option.isSome_iff_exists.1 ht
  have ht := tslice_some ht
  rw [hx, V] at hvx
  have fin : ∀ (a : Option Addr) (l cap : Nat), ev x = .slice a l cap → K (.bool a.isNone) h n → ∃ u v h' n' c', (execOp ev o).run P c.w = .ok (.value u) c'.w ∧ V c' v u ∧ Rel h' c' ∧ Fr n' c' ∧ Adv n c n' c' ∧ K v h' n' := fun a l cap e hk =>
    ⟨.bool a.isNone, .bool a.isNone, h, n, c, by simp [execOp, ho, e, hc, run_eqGuard (P := P) (a := .slice a l cap), binOp_slice a l cap ht], by simp [V], R, F, Adv.refl n c, hk⟩
  rcases hvx with ⟨he, e⟩ | ⟨a, cap, vs, e, _⟩
  · exact fin _ _ _ e (h1 he)
  · exact fin _ _ _ e h2
def cellEq (P : Program) (t : TypeId) : SV → SV → Option Bool
  | .int k a, .int k' b => if k = k' ∧ (tint P t).isSome = true ∧ tsz P t = 1 ∧ tagg P t = some false then some (a == b) else none
  | .str a, .str b => if tstring P t = true ∧ tsz P t = 1 ∧ tagg P t = some false then some (a.toList == b.toList) else none
  | .bool a, .bool b => if tbool P t = true ∧ tsz P t = 1 ∧ tagg P t = some false then some (a == b) else none
  | _, _ => none
def fieldsEq (P : Program) (cs ds : List SV) : List Field → Option Bool
  | [] => some true
  | f :: fs => if f.name = "_" then none else
    match cs[f.offset]?, ds[f.offset]? with
    | some x, some y => match cellEq P f.type x y with | some true => fieldsEq P cs ds fs | r => r
    | _, _ => none
def fieldsOfT (P : Program) (t : TypeId) : List Field := (P.fieldsOf t).toList
theorem cellEq_run {c : Cx} {t : TypeId} {x y : SV} {u v : Value} {b : Bool} (h : cellEq P t x y = some b) (hx : V c x u) (hy : V c y v) (d : Nat) (w : World) : (Op.equalIn (d + 1) t u v).run P w = .ok b w ∧ tsz P t = 1 ∧ tagg P t = some false := by
  unfold cellEq at h
  split at h
  · split at h <;> try cases h
    rename_i hc
    obtain ⟨rfl, h1, h2, h3⟩ := hc
    rw [vint hx, vint hy]
    obtain ⟨i, hi⟩ := Option.isSome_iff_exists.1 h1
    exact ⟨run_equalIn_int w d t _ _ _ _ (tint_some hi), h2, h3⟩
  · split at h <;> try cases h
    rename_i hc
    obtain ⟨h1, h2, h3⟩ := hc
    rw [vstr hx, vstr hy]
    exact ⟨run_equalIn_string w d t _ _ (by unfold tstring at h1; split at h1 <;> first | assumption | cases h1), h2, h3⟩
  · split at h <;> try cases h
    rename_i hc
    obtain ⟨h1, h2, h3⟩ := hc
    rw [vbool hx, vbool hy]
    exact ⟨run_equalIn_bool2 d _ _ (tbool_some h1) w, h2, h3⟩
  · cases h
theorem fieldsEq_run {c : Cx} {cs ds : List SV} {vs us : List Value} (hc : All2 (V c) cs vs) (hd : All2 (V c) ds us) (h1 : ∀ x ∈ vs, x.oneCell' = true) (h2 : ∀ x ∈ us, x.oneCell' = true) (d : Nat) (w : World) :
    ∀ (fs : List Field) (b : Bool), fieldsEq P cs ds fs = some b → (Op.eqFields (d + 1) vs.toArray us.toArray fs).run P w = .ok b w
  | [], b, h => by simp [fieldsEq] at h; subst h; simp [Op.eqFields]
  | f :: fs, b, h => by
    simp only [fieldsEq] at h
    split at h <;> try cases h
    rename_i hn
    split at h <;> try cases h
    rename_i x y hx hy
    obtain ⟨u, hu, hvx⟩ := hc.get hx
    obtain ⟨v, hv, hvy⟩ := hd.get hy
    obtain ⟨b', hb⟩ : ∃ b', cellEq P f.type x y = some b' := by
      cases hb : cellEq P f.type x y with
      | none => simp [hb] at h
      | some b' => exact ⟨b', rfl⟩
    obtain ⟨hr, hs, ha⟩ := cellEq_run hb hvx hvy d w
    have p1 : (part f.type vs.toArray f.offset).run P w = .ok u w := by simp [part, run_isAgg' ha, hu]
    have p2 : (part f.type us.toArray f.offset).run P w = .ok v w := by simp [part, run_isAgg' ha, hv]
    simp only [Op.eqFields, ne_eq, hn, not_false_eq_true, if_true, Sem.run_bind, p1, p2, hr, Result.andThen_ok]
    rw [hb] at h
    cases b'
    · simp at h; subst h; simp
    · simp only at h
      simp only [Bool.not_true, Bool.false_eq_true, if_false]
      exact fieldsEq_run hc hd h1 h2 d w fs b h
theorem sem_structEq {evs : Operand → SV} {o : Oper} {t t2 : TypeId} {x y : Operand} {op : BinOp} {cs ds : List SV} {b : Bool} (ho : o.op = .binOp op t x y t2) (hop : op = .eql ∨ op = .neq)
    (ht : P.underlying t = some (.struct (P.fieldsOf t))) (hp : P.stoodInHeld t = false) (hm : P.eqGuardType P.depth t = false)
    (hx : evs x = .agg cs) (hy : evs y = .agg ds) (hb : fieldsEq P cs ds (fieldsOfT P t) = some b) : SemV P evs o (.bool (if op = .eql then b else !b)) := by
  refine ⟨by rw [ho]; simp, fun c ev _ hv => ?_⟩
  have hvx := hv x (by simp [ho, Op.operands])
  have hvy := hv y (by simp [ho, Op.operands])
  rw [hx] at hvx; rw [hy] at hvy
  obtain ⟨vs, e1, h1, h2⟩ := agg_cells hvx
  obtain ⟨us, e2, h3, h4⟩ := agg_cells hvy
  have hr := fieldsEq_run h1 h3 h2 h4 9998 c.w _ _ hb
  have hrr : (Op.equalIn 10000 t (.agg vs.toArray) (.agg us.toArray)).run P c.w = .ok b c.w := by rw [run_equalIn_struct c.w 9999 t _ _ ht hp]; exact hr
  rcases hop with rfl | rfl
  · exact ⟨.bool b, by simp only [execOp, ho, e1, e2, Sem.run_bind, run_eqGuard_agg c.w _ _ _ _ _ _ hm, Result.andThen_ok, run_eql_struct, hrr]; simp, by simp [V]⟩
  · exact ⟨.bool !b, by simp only [execOp, ho, e1, e2, Sem.run_bind, run_eqGuard_agg c.w _ _ _ _ _ _ hm, Result.andThen_ok, run_neq_struct, hrr]; simp, by simp [V]⟩
theorem sem_build0 {evs : Operand → SV} {o : Oper} {h : Hp} {n : Nat} {K : SV → Hp → Nat → Prop} {t : TypeId} {z : Nat} {ps : Array (Nat × Operand)} (ho : o.op = .buildSlice t 0 ps) (hps : ps = #[]) (hi : ((tslice P t).bind P.info?).isSome = true)
    (hk : K (.imm z [] true) h n) : SemOp E P evs o h n K := by
  subst hps
  refine ⟨by rw [ho]; simp, fun c ev hc _ R F hv => ?_⟩
  obtain ⟨i, hi⟩ := Option.isSome_iff_exists.1 hi
  obtain ⟨e, ht, hi⟩ := Option.bind_eq_some_iff.1 hi
  have hu := tslice_some ht
  have hw : (execOp ev o).run P c.w = .ok (.value (.slice (some ⟨c.w.heap.size, 0, none⟩) 0 0)) (c.w.alloc (.cells #[] e)) := by
    simp [execOp, ho, Instr.buildSlice, run_underlying' hu, sizeOf, typeInfo, hi, Instr.fill, newRow]
    congr 2; simp
  have X : Ext c { c with w := c.w.alloc (.cells #[] e) } := by
    refine ⟨fun _ _ e => e, by simp, fun b hb hn => ⟨hn, ?_⟩, fun b => ?_, rfl, rfl, ⟨rfl, Nat.le_refl _⟩⟩
    · simp [heap_alloc, Array.getElem?_push, Nat.ne_of_lt hb]
    · unfold rm
      rcases Nat.lt_or_ge b c.w.heap.size with hx | hx
      · simp [heap_alloc, Array.getElem?_push, Nat.ne_of_lt hx]
      · simp [Array.getElem?_eq_none hx]
  refine ⟨_, .imm z [] true, h, n, { c with w := c.w.alloc (.cells #[] e) }, hw, ?_, ⟨fun o x e => (R.obj o x e).mono X fun b hb => ?_, R.inj2, R.own2⟩, F, ⟨X, Nat.le_refl _, fun _ _ => rfl⟩, hk⟩
  · rw [V]; exact .inr ⟨⟨c.w.heap.size, 0, none⟩, 0, [], rfl, Nat.le_refl _, fun _ => rfl, ⟨by simp, by simp, by simp, by simp⟩, by simp [VE]⟩
  · have h2 := (R.obj o x e).hold_lt hb
    simp [heap_alloc, Array.getElem?_push, Nat.ne_of_lt h2]
end
structure Enc {α : Type} (f : α → SV) (z : Nat) : Prop where
  st : ∀ x, (f x).storable = true
  len : ∀ x, (f x).cells.length = z
  cl : ∀ n x, closed n (f x) = true
theorem Enc.size {α : Type} {f : α → SV} {z : Nat} (H : Enc f z) (l : List α) : ∀ e ∈ l.map f, e.storable = true ∧ e.cells.length = z := by
  intro e he; simp only [List.mem_map] at he; obtain ⟨x, _, rfl⟩ := he; exact ⟨H.st x, H.len x⟩
theorem Enc.closedL {α : Type} {f : α → SV} {z : Nat} (H : Enc f z) (n : Nat) (l : List α) : closedL n (l.map f) = true := closedL_iff.2 (by
  intro e he; simp only [List.mem_map] at he; obtain ⟨x, _, rfl⟩ := he; exact H.cl n x)
theorem Enc.imm {α : Type} {f : α → SV} {z : Nat} (H : Enc f z) (n z' : Nat) (l : List α) (full : Bool) : closed n (.imm z' (l.map f) full) = true := by rw [closed]; exact H.closedL n l
theorem Prp.E : Enc Prp.enc 2 := ⟨fun _ => rfl, fun _ => rfl, fun _ _ => rfl⟩
theorem Del.E : Enc Del.enc 2 := ⟨fun _ => rfl, fun _ => rfl, fun _ _ => rfl⟩
theorem Layer.E : Enc Layer.enc 4 := ⟨fun _ => rfl, fun _ => rfl, fun _ _ => rfl⟩
theorem Rev.E : Enc Rev.enc 3 := ⟨fun _ => rfl, fun _ => rfl, fun _ _ => rfl⟩
theorem Level.E : Enc Level.enc 4 := ⟨fun _ => rfl, fun _ => rfl, fun _ _ => rfl⟩
theorem Comment.E : Enc Comment.enc 6 := ⟨fun _ => rfl, fun _ => rfl, fun _ _ => rfl⟩
theorem Var.E : Enc Var.enc 2 := ⟨fun _ => rfl, fun _ => rfl, fun _ _ => rfl⟩
theorem Style.E : Enc Style.enc 6 := ⟨fun _ => rfl, fun _ => rfl, fun n s => by simp [Style.enc, closed, closedL, Prp.E.closedL]⟩
theorem Lst.E : Enc Lst.enc 2 := ⟨fun _ => rfl, fun _ => rfl, fun n s => by simp [Lst.enc, closed, closedL, Level.E.closedL]⟩
theorem Head.flat_closed (n : Nat) (h : Head) : Sh.closedL n h.flat = true := by simp [Head.flat, closed, closedL, Prp.E.closedL, Del.E.closedL, Layer.E.closedL]
theorem Head.E : Enc Head.enc 5 := ⟨fun _ => rfl, fun _ => rfl, fun n s => by rw [Head.enc, closed]; exact s.flat_closed n⟩
theorem closedL_append (n : Nat) : ∀ (a b : List SV), closedL n (a ++ b) = (closedL n a && closedL n b)
  | [], b => by simp [closedL]
  | x :: a, b => by simp [closedL, closedL_append n a b, Bool.and_assoc]
mutual
theorem Item.cl (n : Nat) : ∀ x : Item, closed n x.enc = true
  | .mk k c i t h f r => by
    rw [Item.enc, closed, closedL_append, closedL_append]
    simp [closed, closedL, h.flat_closed, Item.clL n f, Row.clL n r]
theorem Item.clL (n : Nat) : ∀ l : List Item, closedL n (Item.encL l) = true
  | [] => by simp [Item.encL, closedL]
  | x :: l => by rw [Item.encL, closedL, Item.cl n x, Item.clL n l]; rfl
theorem Row.cl (n : Nat) : ∀ x : Row, closed n x.enc = true
  | .mk h c => by
    rw [Row.enc, closed, closedL_append]
    simp [closed, closedL, h.flat_closed, Cell.clL n c]
theorem Row.clL (n : Nat) : ∀ l : List Row, closedL n (Row.encL l) = true
  | [] => by simp [Row.encL, closedL]
  | x :: l => by rw [Row.encL, closedL, Row.cl n x, Row.clL n l]; rfl
theorem Cell.cl (n : Nat) : ∀ x : Cell, closed n x.enc = true
  | .mk i h f => by
    rw [Cell.enc, closed, closedL_append, closedL_append]
    simp [closed, closedL, h.flat_closed, Item.clL n f]
theorem Cell.clL (n : Nat) : ∀ l : List Cell, closedL n (Cell.encL l) = true
  | [] => by simp [Cell.encL, closedL]
  | x :: l => by rw [Cell.encL, closedL, Cell.cl n x, Cell.clL n l]; rfl
end
theorem Item.E : Enc Item.enc 11 := ⟨fun x => by rw [Item.enc_eq]; rfl, fun x => by rw [Item.enc_eq]; rfl, Item.cl⟩
theorem Row.E : Enc Row.enc 6 := ⟨fun x => by rw [Row.enc_eq]; rfl, fun x => by rw [Row.enc_eq]; rfl, Row.cl⟩
theorem Cell.E : Enc Cell.enc 7 := ⟨fun x => by rw [Cell.enc_eq]; rfl, fun x => by rw [Cell.enc_eq]; rfl, Cell.cl⟩
def Document.enc (d : Document) : SV := .agg ([itemsE d.flow] ++ d.«end».flat ++ [revsE d.revs] ++ d.settings.flat)
theorem sl_fz {h' h : Hp} {k z o : Nat} {es : List SV} {full full' : Bool} (hn : h o = none) (hf : full' = true → full = true) (hh : h' o = some (.cells (es.flatMap SV.cells))) (hs : ∀ e ∈ es, e.storable = true ∧ e.cells.length = z) :
    Fz h' h (k + 1) (.sl o 0 z es.length full) (.imm z es full') := by
  refine .inr ⟨hn, hf, rfl, rfl, _, _, hh, by simp [takeN, flat_len hs]; rfl, hs, ?_⟩
  have : ∀ l : List SV, All2 (Fz h' h k) l l := by
    intro l; induction l with
    | nil => trivial
    | cons a l ih => exact ⟨Fz.same, ih⟩
  simp only [← flat_len hs, List.take_length]
  exact this _
theorem imm_fz {h' h : Hp} {k z z' : Nat} {full full' : Bool} (hf : full' = true → full = true) : Fz h' h (k + 1) (.imm z [] full) (.imm z' [] full') :=
  .inr ⟨hf, .inl rfl, trivial, by simp⟩
theorem app_ii {P : Program} {h : Hp} {n z : Nat} {t t2 el : TypeId} {es : List SV} {full : Bool} (ht : tslice P t = some el) (ht2 : (tslice P t2).isSome = true) (hz : tsz P el = z) (hz0 : z ≠ 0) (hst : (tzero P el).storable = true) (hzl : (tzero P el).cells.length = z)
    (hb : tbytes P el ≤ 65536) (hne : es ≠ []) (hroom : es.length ≤ 1073741824) (hrow : rowT el = none := by rfl) :
    builtinS P h n .append [t, t2] [.imm z [] true, .imm z es full] = some { val := .sl n 0 z es.length false, new := some (.cells (es.flatMap SV.cells)) } := by
  have h0 : es.length ≠ 0 := by cases es <;> simp at hne ⊢
  have hr : roomy (0 + es.length) (tbytes P el) = true := by simp [roomy]; exact ⟨hroom, hb⟩
  simp only [builtinS, ht2, if_true, appendS, ht, lenS, flat, hz, hzl, hst]
  simp [zOk, hz0, h0, hrow]
  simpa using hr
def NewL (z : Nat) (es : List SV) (h : Hp) (n : Nat) : SV → Hp → Nat → Prop := fun v h' n' =>
  n ≤ n' ∧ (∀ o x, h o = some x → h' o = some x) ∧ ((es = [] ∧ ∃ z' full, v = .imm z' [] full) ∨ ∃ o full, n ≤ o ∧ o < n' ∧ v = .sl o 0 z es.length full ∧ h' o = some (.cells (es.flatMap SV.cells)))
abbrev LC (f : FuncId) (args : List SV) (z : Nat) (es : List SV) : Prop := ∀ h n, SCall Tryz.prog f args h n (NewL z es h n)
theorem LC.pc {f : FuncId} {args : List SV} {z : Nat} {es : List SV} (H : LC f args z es) (hs : ∀ e ∈ es, e.storable = true ∧ e.cells.length = z) (hcl : ∀ n, closedL n es = true) : PC f args (.imm z es false) := by
  intro h n
  refine ⟨(H h n).1, fun c vs I R F A => ((H h n).2 c vs I R F A).mono ?_⟩
  rintro e w' ⟨u, v, h', n', c', rfl, ⟨hle, hh, hv⟩, rfl, hV, R', F', X⟩
  have ho : Old h n := fun o x e => closedO_of F (R.obj o x e)
  have hfz : Fz h' h 1 v (.imm z es false) := by
    rcases hv with ⟨rfl, z', full, rfl⟩ | ⟨o, full, h1, h2, rfl, h3⟩
    · exact imm_fz (by simp)
    · exact sl_fz (ho.none h1) (by simp) h3 hs
  have RL := R'.less hh
  have hv2 : V ((c'.less h).cut h n) (.imm z es false) u := (hfz.sound R' hh 1 hV).cut RL (fun _ _ e => e) (by rw [closed]; exact hcl n)
  refine ⟨u, _, h, n, (c'.less h).cut h n, rfl, ⟨rfl, rfl, rfl⟩, rfl, hv2, RL.cut (fun o x e => ⟨e, ho o x e⟩), cut_fr, ⟨cut_ext RL (fun _ _ e => e) F (Nat.le_refl _) (X.ext.trans (less_ext R' hh)), Nat.le_refl _, fun j hj => ?_⟩⟩
  simp only [Cx.cut, hj, if_true]
  exact X.same j hj
theorem LC.use {E : Env} {f : FuncId} {args : List SV} {z : Nat} {es : List SV} (H : LC f args z es) {h : Hp} {n : Nat} {K : SV → Hp → Nat → Prop} (hk : ∀ v h' n', NewL z es h n v h' n' → K v h' n') : SCallE E Tryz.prog f args h n K :=
  SCallE.lift ((H h n).mono hk)
structure Head.sized (h : Head) : Prop where
  props : h.props.length ≤ 1048576
  dels : h.dels.length ≤ 1048576
  layers : h.layers.length ≤ 1048576
mutual
def Item.sized : Item → Prop
  | .mk _ _ _ t h f r => t.size ≤ 1048576 ∧ h.sized ∧ f.length ≤ 1048576 ∧ r.length ≤ 1048576 ∧ Item.sizedL f ∧ Row.sizedL r
def Item.sizedL : List Item → Prop
  | [] => True
  | x :: l => x.sized ∧ Item.sizedL l
def Row.sized : Row → Prop
  | .mk h c => h.sized ∧ c.length ≤ 1048576 ∧ Cell.sizedL c
def Row.sizedL : List Row → Prop
  | [] => True
  | x :: l => x.sized ∧ Row.sizedL l
def Cell.sized : Cell → Prop
  | .mk _ h f => h.sized ∧ f.length ≤ 1048576 ∧ Item.sizedL f
def Cell.sizedL : List Cell → Prop
  | [] => True
  | x :: l => x.sized ∧ Cell.sizedL l
end
theorem Item.sizedL_mem : ∀ {l : List Item}, Item.sizedL l → ∀ x ∈ l, x.sized
  | _ :: _, h, x, hx => by rw [Item.sizedL] at h; rcases List.mem_cons.1 hx with rfl | hx; exact h.1; exact Item.sizedL_mem h.2 x hx
theorem Row.sizedL_mem : ∀ {l : List Row}, Row.sizedL l → ∀ x ∈ l, x.sized
  | _ :: _, h, x, hx => by rw [Row.sizedL] at h; rcases List.mem_cons.1 hx with rfl | hx; exact h.1; exact Row.sizedL_mem h.2 x hx
theorem Cell.sizedL_mem : ∀ {l : List Cell}, Cell.sizedL l → ∀ x ∈ l, x.sized
  | _ :: _, h, x, hx => by rw [Cell.sizedL] at h; rcases List.mem_cons.1 hx with rfl | hx; exact h.1; exact Cell.sizedL_mem h.2 x hx
theorem Item.sizedL_of : ∀ {l : List Item}, (∀ x ∈ l, x.sized) → Item.sizedL l
  | [], _ => by rw [Item.sizedL]; trivial
  | x :: l, h => by rw [Item.sizedL]; exact ⟨h x (by simp), Item.sizedL_of fun y hy => h y (by simp [hy])⟩
theorem Row.sizedL_of : ∀ {l : List Row}, (∀ x ∈ l, x.sized) → Row.sizedL l
  | [], _ => by rw [Row.sizedL]; trivial
  | x :: l, h => by rw [Row.sizedL]; exact ⟨h x (by simp), Row.sizedL_of fun y hy => h y (by simp [hy])⟩
theorem Cell.sizedL_of : ∀ {l : List Cell}, (∀ x ∈ l, x.sized) → Cell.sizedL l
  | [], _ => by rw [Cell.sizedL]; trivial
  | x :: l, h => by rw [Cell.sizedL]; exact ⟨h x (by simp), Cell.sizedL_of fun y hy => h y (by simp [hy])⟩
section
variable {P : Program}
theorem app1g {H : Hp} {n m k z : Nat} {es : List SV} {e : SV} {o : Option Nat} {t t2 el : TypeId} (ht : tslice P t = some el) (ht2 : (tslice P t2).isSome = true) (hz : tsz P el = z) (hz0 : z ≠ 0) (hst : (tzero P el).storable = true) (hzl : (tzero P el).cells.length = z)
    (hb : tbytes P el ≤ 65536) (hroom : es.length + 1 ≤ 1073741824) (hA : AccI n m z o es) (he : e.cells.length = z) (h1 : H k = some (.cells e.cells)) (h2 : ∀ j, o = some j → H j = some (.cells (es.flatMap SV.cells))) (p : Nat) (hrow : rowT el = none := by rfl) :
    builtinS P H p .append [t, t2] [AccV z o es, .sl k 0 z 1 true] =
      some { val := .sl p 0 z (es.length + 1) false, upd := o.map fun j => (j, none), new := some (.cells (es.flatMap SV.cells ++ e.cells)) } := by
  have hfl : flat H (.sl k 0 z 1 true) = some e.cells := by
    simp [flat, h1, takeN, he]
    exact List.take_of_length_le (by omega)
  have hr : roomy (es.length + 1) (tbytes P el) = true := by simp [roomy]; exact ⟨by omega, hb⟩
  simp only [builtinS, ht2, if_true, appendS, ht, lenS, hfl, hz, hzl, hst]
  cases o with
  | none =>
    have := hA.none rfl
    subst this
    simp [AccV, zOk, hz0, hrow]
    have hr' : roomy 1 (tbytes P el) = true := by simpa using hr
    exact hr'
  | some j =>
    have hf : flat H (.sl j 0 z es.length false) = some (es.flatMap SV.cells) := by
      simp only [flat, h2 j rfl, takeN, Nat.zero_add, flat_len hA.size, Nat.le_refl, if_true, List.drop_zero]
      rw [← flat_len hA.size, List.take_length]
    simp [AccV, zOk, hz0, hf, hr, tyApp_none hrow]
end
theorem acc_live {h H : Hp} {n m p z : Nat} {es : List SV} {e : SV} {o : Option Nat} {v : SV} (ho : Old h n) (hn : n ≤ p) (hA : AccI n m z o es) (hH : ∀ j y, h j = some y → H j = some y) :
    ∀ j y, AccH (some p) (es ++ [e]) h j = some y → (Out.app H p { val := v, upd := o.map fun j => (j, none), new := some (.cells (es.flatMap SV.cells ++ e.cells)) }) j = some y := by
  intro j y hj
  simp only [AccH] at hj
  by_cases e1 : j = p
  · subst e1
    rw [hset_at] at hj
    simp only [Out.app, hset_at]
    rw [← hj]; simp
  · rw [hset_ne _ _ e1] at hj
    have hlt := (ho j y hj).1
    cases o with
    | none => simp [Out.app, hset_ne _ _ e1, hH j y hj]
    | some k =>
      have hk : j ≠ k := by have := (hA.lt k rfl).1; omega
      simp [Out.app, hset_ne _ _ e1, hset_ne _ _ hk, hH j y hj]
theorem acc_at {h : Hp} {o : Option Nat} {es : List SV} : ∀ j, o = some j → AccH o es h j = some (.cells (es.flatMap SV.cells)) := by
  rintro j rfl; simp [AccH, hset]
theorem acc_new {h h' : Hp} {n m m' z : Nat} {o : Option Nat} {es : List SV} (ho : Old h n) (hA : AccI n m z o es) (hh : ∀ j y, AccH o es h j = some y → h' j = some y) (hm : n ≤ m') (hm' : m ≤ m') : NewL z es h n (AccV z o es) h' m' := by
  refine ⟨hm, fun j x e => hh j x (AccH.old ho hA j x e), ?_⟩
  cases o with
  | none => exact .inl ⟨hA.none rfl, 0, true, rfl⟩
  | some j => exact .inr ⟨j, false, (hA.lt j rfl).1, Nat.lt_of_lt_of_le (hA.lt j rfl).2 hm', rfl, hh j _ (by simp [AccH, hset])⟩
theorem flat_split {z : Nat} {es : List SV} (hs : ∀ e ∈ es, e.storable = true ∧ e.cells.length = z) (i : Nat) : (es.flatMap SV.cells).take (i * z) = (es.take i).flatMap SV.cells ∧ (es.flatMap SV.cells).drop (i * z) = (es.drop i).flatMap SV.cells := by
  induction es generalizing i with
  | nil => simp
  | cons e es ih =>
    cases i with
    | zero => simp
    | succ i =>
      have he := (hs e (by simp)).2
      obtain ⟨h1, h2⟩ := ih (fun x hx => hs x (by simp [hx])) i
      have e1 : (i + 1) * z = e.cells.length + i * z := by rw [he, Nat.add_mul, Nat.one_mul, Nat.add_comm]
      simp only [List.flatMap_cons, List.take_succ_cons, List.drop_succ_cons, e1]
      rw [List.take_length_add_append, List.drop_length_add_append, h1, h2]
      exact ⟨rfl, rfl⟩
theorem flat_get {z : Nat} {es : List SV} (hs : ∀ e ∈ es, e.storable = true ∧ e.cells.length = z) {i : Nat} {e : SV} (h : es[i]? = some e) : i * z + z ≤ (es.flatMap SV.cells).length ∧ ((es.flatMap SV.cells).drop (i * z)).take z = e.cells := by
  obtain ⟨hlt, he⟩ := List.getElem?_eq_some_iff.1 h
  have hz := (hs e (by rw [← he]; exact List.getElem_mem hlt)).2
  refine ⟨?_, ?_⟩
  · rw [flat_len hs]
    have : (i + 1) * z ≤ es.length * z := Nat.mul_le_mul_right z hlt
    rw [Nat.add_mul, Nat.one_mul] at this; exact this
  · rw [(flat_split hs i).2, List.drop_eq_getElem_cons hlt, he, List.flatMap_cons, ← hz, List.take_left]
section
variable {P : Program}
end
theorem l185 (l : List Prp) (hl : l.length ≤ 1048576) : LC 93 [.imm 2 (l.map Prp.enc) false] 2 (l.map Prp.enc) := by
  intro h n
  refine go Tryz.func93 rfl (by kernel_rfl) (by kernel_rfl) (by simp [go_sem]) fun ho => ?_
  simp [go_sem]
  refine sem_sliceNil rfl (by kernel_rfl) rfl (fun e => ?_) ?_
  · simp [go_sem]
    have : l = [] := by simpa using e
    subst this
    exact .inl ⟨Nat.le_refl _, look_same, .inl ⟨rfl, _, _, rfl⟩⟩
  · simp [go_sem]
    refine sem_build0 (z := 2) rfl rfl (by kernel_rfl) ?_
    cases l with
    | nil =>
      simp [go_sem]
      exact .inl ⟨Nat.le_refl _, look_same, .inl ⟨rfl, _, _, rfl⟩⟩
    | cons a l =>
      have hap := app_ii (P := Tryz.prog) (h := h) (n := n) (t := 23) (t2 := 23) (el := 164) (z := 2) (es := (a :: l).map Prp.enc) (full := false) (by simp [go_sem]) (by simp [go_sem]) (by simp [go_sem]) (by simp) (by simp [go_sem]) (by simp [go_sem]) (by simp [go_sem]) (by simp) (by simp at hl ⊢; omega)
      simp only [List.map_cons] at hap
      simp [go_sem, hap]
      refine .inl ⟨Nat.le_succ n, hset_old ho (Nat.le_refl _) look_same, .inr ⟨n, false, Nat.le_refl _, Nat.lt_succ_self n, ?_, ?_⟩⟩
      · simp
      · simp [hset_at]; rfl
theorem c185 (l : List Prp) (hl : l.length ≤ 1048576) : PC 93 [.imm 2 (l.map Prp.enc) false] (.imm 2 (l.map Prp.enc) false) := (l185 l hl).pc (Prp.E.size l) fun n => Prp.E.closedL n l
theorem l186 (l : List Del) (hl : l.length ≤ 1048576) : LC 94 [.imm 2 (l.map Del.enc) false] 2 (l.map Del.enc) := by
  intro h n
  refine go Tryz.func94 rfl (by kernel_rfl) (by kernel_rfl) (by simp [go_sem]) fun ho => ?_
  simp [go_sem]
  refine sem_sliceNil rfl (by kernel_rfl) rfl (fun e => ?_) ?_
  · simp [go_sem]
    have : l = [] := by simpa using e
    subst this
    exact .inl ⟨Nat.le_refl _, look_same, .inl ⟨rfl, _, _, rfl⟩⟩
  · simp [go_sem]
    refine sem_build0 (z := 2) rfl rfl (by kernel_rfl) ?_
    cases l with
    | nil =>
      simp [go_sem]
      exact .inl ⟨Nat.le_refl _, look_same, .inl ⟨rfl, _, _, rfl⟩⟩
    | cons a l =>
      have hap := app_ii (P := Tryz.prog) (h := h) (n := n) (t := 24) (t2 := 24) (el := 74) (z := 2) (es := (a :: l).map Del.enc) (full := false) (by simp [go_sem]) (by simp [go_sem]) (by simp [go_sem]) (by simp) (by simp [go_sem]) (by simp [go_sem]) (by simp [go_sem]) (by simp) (by simp at hl ⊢; omega)
      simp only [List.map_cons] at hap
      simp [go_sem, hap]
      refine .inl ⟨Nat.le_succ n, hset_old ho (Nat.le_refl _) look_same, .inr ⟨n, false, Nat.le_refl _, Nat.lt_succ_self n, ?_, ?_⟩⟩
      · simp
      · simp [hset_at]; rfl
theorem c186 (l : List Del) (hl : l.length ≤ 1048576) : PC 94 [.imm 2 (l.map Del.enc) false] (.imm 2 (l.map Del.enc) false) := (l186 l hl).pc (Del.E.size l) fun n => Del.E.closedL n l
theorem l187 (l : List Layer) (hl : l.length ≤ 1048576) : LC 95 [.imm 4 (l.map Layer.enc) false] 4 (l.map Layer.enc) := by
  intro h n
  refine go Tryz.func95 rfl (by kernel_rfl) (by kernel_rfl) (by simp [go_sem]) fun ho => ?_
  simp [go_sem]
  refine sem_sliceNil rfl (by kernel_rfl) rfl (fun e => ?_) ?_
  · simp [go_sem]
    have : l = [] := by simpa using e
    subst this
    exact .inl ⟨Nat.le_refl _, look_same, .inl ⟨rfl, _, _, rfl⟩⟩
  · simp [go_sem]
    refine sem_build0 (z := 4) rfl rfl (by kernel_rfl) ?_
    cases l with
    | nil =>
      simp [go_sem]
      exact .inl ⟨Nat.le_refl _, look_same, .inl ⟨rfl, _, _, rfl⟩⟩
    | cons a l =>
      have hap := app_ii (P := Tryz.prog) (h := h) (n := n) (t := 25) (t2 := 25) (el := 76) (z := 4) (es := (a :: l).map Layer.enc) (full := false) (by simp [go_sem]) (by simp [go_sem]) (by simp [go_sem]) (by simp) (by simp [go_sem]) (by simp [go_sem]) (by simp [go_sem]) (by simp) (by simp at hl ⊢; omega)
      simp only [List.map_cons] at hap
      simp [go_sem, hap]
      refine .inl ⟨Nat.le_succ n, hset_old ho (Nat.le_refl _) look_same, .inr ⟨n, false, Nat.le_refl _, Nat.lt_succ_self n, ?_, ?_⟩⟩
      · simp
      · simp [hset_at]; rfl
theorem c187 (l : List Layer) (hl : l.length ≤ 1048576) : PC 95 [.imm 4 (l.map Layer.enc) false] (.imm 4 (l.map Layer.enc) false) := (l187 l hl).pc (Layer.E.size l) fun n => Layer.E.closedL n l
theorem l76 (l : List Rev) (hl : l.length ≤ 1048576) : LC 105 [.imm 3 (l.map Rev.enc) false] 3 (l.map Rev.enc) := by
  intro h n
  refine go Tryz.func105 rfl (by kernel_rfl) (by kernel_rfl) (by simp [go_sem]) fun ho => ?_
  simp [go_sem]
  refine sem_sliceNil rfl (by kernel_rfl) rfl (fun e => ?_) ?_
  · simp [go_sem]
    have : l = [] := by simpa using e
    subst this
    exact .inl ⟨Nat.le_refl _, look_same, .inl ⟨rfl, _, _, rfl⟩⟩
  · simp [go_sem]
    refine sem_build0 (z := 3) rfl rfl (by kernel_rfl) ?_
    cases l with
    | nil =>
      simp [go_sem]
      exact .inl ⟨Nat.le_refl _, look_same, .inl ⟨rfl, _, _, rfl⟩⟩
    | cons a l =>
      have hap := app_ii (P := Tryz.prog) (h := h) (n := n) (t := 30) (t2 := 30) (el := 68) (z := 3) (es := (a :: l).map Rev.enc) (full := false) (by simp [go_sem]) (by simp [go_sem]) (by simp [go_sem]) (by simp) (by simp [go_sem]) (by simp [go_sem]) (by simp [go_sem]) (by simp) (by simp at hl ⊢; omega)
      simp only [List.map_cons] at hap
      simp [go_sem, hap]
      refine .inl ⟨Nat.le_succ n, hset_old ho (Nat.le_refl _) look_same, .inr ⟨n, false, Nat.le_refl _, Nat.lt_succ_self n, ?_, ?_⟩⟩
      · simp
      · simp [hset_at]; rfl
theorem c76 (l : List Rev) (hl : l.length ≤ 1048576) : PC 105 [.imm 3 (l.map Rev.enc) false] (.imm 3 (l.map Rev.enc) false) := (l76 l hl).pc (Rev.E.size l) fun n => Rev.E.closedL n l
theorem l199 (l : List Style) (hl : l.length ≤ 1048576) : LC 217 [.imm 6 (l.map Style.enc) false] 6 (l.map Style.enc) := by
  intro h n
  refine go Tryz.func217 rfl (by kernel_rfl) (by kernel_rfl) (by simp [go_sem]) fun ho => ?_
  simp [go_sem]
  refine sem_sliceNil rfl (by kernel_rfl) rfl (fun e => ?_) ?_
  · simp [go_sem]
    have : l = [] := by simpa using e
    subst this
    exact .inl ⟨Nat.le_refl _, look_same, .inl ⟨rfl, _, _, rfl⟩⟩
  · simp [go_sem]
    refine sem_build0 (z := 6) rfl rfl (by kernel_rfl) ?_
    cases l with
    | nil =>
      simp [go_sem]
      exact .inl ⟨Nat.le_refl _, look_same, .inl ⟨rfl, _, _, rfl⟩⟩
    | cons a l =>
      have hap := app_ii (P := Tryz.prog) (h := h) (n := n) (t := 31) (t2 := 31) (el := 110) (z := 6) (es := (a :: l).map Style.enc) (full := false) (by simp [go_sem]) (by simp [go_sem]) (by simp [go_sem]) (by simp) (by simp [go_sem]) (by simp [go_sem]) (by simp [go_sem]) (by simp) (by simp at hl ⊢; omega)
      simp only [List.map_cons] at hap
      simp [go_sem, hap]
      refine .inl ⟨Nat.le_succ n, hset_old ho (Nat.le_refl _) look_same, .inr ⟨n, false, Nat.le_refl _, Nat.lt_succ_self n, ?_, ?_⟩⟩
      · simp
      · simp [hset_at]; rfl
theorem l200 (l : List Lst) (hl : l.length ≤ 1048576) : LC 218 [.imm 2 (l.map Lst.enc) false] 2 (l.map Lst.enc) := by
  intro h n
  refine go Tryz.func218 rfl (by kernel_rfl) (by kernel_rfl) (by simp [go_sem]) fun ho => ?_
  simp [go_sem]
  refine sem_sliceNil rfl (by kernel_rfl) rfl (fun e => ?_) ?_
  · simp [go_sem]
    have : l = [] := by simpa using e
    subst this
    exact .inl ⟨Nat.le_refl _, look_same, .inl ⟨rfl, _, _, rfl⟩⟩
  · simp [go_sem]
    refine sem_build0 (z := 2) rfl rfl (by kernel_rfl) ?_
    cases l with
    | nil =>
      simp [go_sem]
      exact .inl ⟨Nat.le_refl _, look_same, .inl ⟨rfl, _, _, rfl⟩⟩
    | cons a l =>
      have hap := app_ii (P := Tryz.prog) (h := h) (n := n) (t := 32) (t2 := 32) (el := 113) (z := 2) (es := (a :: l).map Lst.enc) (full := false) (by simp [go_sem]) (by simp [go_sem]) (by simp [go_sem]) (by simp) (by simp [go_sem]) (by simp [go_sem]) (by simp [go_sem]) (by simp) (by simp at hl ⊢; omega)
      simp only [List.map_cons] at hap
      simp [go_sem, hap]
      refine .inl ⟨Nat.le_succ n, hset_old ho (Nat.le_refl _) look_same, .inr ⟨n, false, Nat.le_refl _, Nat.lt_succ_self n, ?_, ?_⟩⟩
      · simp
      · simp [hset_at]; rfl
theorem l201 (l : List Comment) (hl : l.length ≤ 1048576) : LC 219 [.imm 6 (l.map Comment.enc) false] 6 (l.map Comment.enc) := by
  intro h n
  refine go Tryz.func219 rfl (by kernel_rfl) (by kernel_rfl) (by simp [go_sem]) fun ho => ?_
  simp [go_sem]
  refine sem_sliceNil rfl (by kernel_rfl) rfl (fun e => ?_) ?_
  · simp [go_sem]
    have : l = [] := by simpa using e
    subst this
    exact .inl ⟨Nat.le_refl _, look_same, .inl ⟨rfl, _, _, rfl⟩⟩
  · simp [go_sem]
    refine sem_build0 (z := 6) rfl rfl (by kernel_rfl) ?_
    cases l with
    | nil =>
      simp [go_sem]
      exact .inl ⟨Nat.le_refl _, look_same, .inl ⟨rfl, _, _, rfl⟩⟩
    | cons a l =>
      have hap := app_ii (P := Tryz.prog) (h := h) (n := n) (t := 33) (t2 := 33) (el := 71) (z := 6) (es := (a :: l).map Comment.enc) (full := false) (by simp [go_sem]) (by simp [go_sem]) (by simp [go_sem]) (by simp) (by simp [go_sem]) (by simp [go_sem]) (by simp [go_sem]) (by simp) (by simp at hl ⊢; omega)
      simp only [List.map_cons] at hap
      simp [go_sem, hap]
      refine .inl ⟨Nat.le_succ n, hset_old ho (Nat.le_refl _) look_same, .inr ⟨n, false, Nat.le_refl _, Nat.lt_succ_self n, ?_, ?_⟩⟩
      · simp
      · simp [hset_at]; rfl
theorem c201 (l : List Comment) (hl : l.length ≤ 1048576) : PC 219 [.imm 6 (l.map Comment.enc) false] (.imm 6 (l.map Comment.enc) false) := (l201 l hl).pc (Comment.E.size l) fun n => Comment.E.closedL n l
theorem l202 (l : List Var) (hl : l.length ≤ 1048576) : LC 220 [.imm 2 (l.map Var.enc) false] 2 (l.map Var.enc) := by
  intro h n
  refine go Tryz.func220 rfl (by kernel_rfl) (by kernel_rfl) (by simp [go_sem]) fun ho => ?_
  simp [go_sem]
  refine sem_sliceNil rfl (by kernel_rfl) rfl (fun e => ?_) ?_
  · simp [go_sem]
    have : l = [] := by simpa using e
    subst this
    exact .inl ⟨Nat.le_refl _, look_same, .inl ⟨rfl, _, _, rfl⟩⟩
  · simp [go_sem]
    refine sem_build0 (z := 2) rfl rfl (by kernel_rfl) ?_
    cases l with
    | nil =>
      simp [go_sem]
      exact .inl ⟨Nat.le_refl _, look_same, .inl ⟨rfl, _, _, rfl⟩⟩
    | cons a l =>
      have hap := app_ii (P := Tryz.prog) (h := h) (n := n) (t := 34) (t2 := 34) (el := 88) (z := 2) (es := (a :: l).map Var.enc) (full := false) (by simp [go_sem]) (by simp [go_sem]) (by simp [go_sem]) (by simp) (by simp [go_sem]) (by simp [go_sem]) (by simp [go_sem]) (by simp) (by simp at hl ⊢; omega)
      simp only [List.map_cons] at hap
      simp [go_sem, hap]
      refine .inl ⟨Nat.le_succ n, hset_old ho (Nat.le_refl _) look_same, .inr ⟨n, false, Nat.le_refl _, Nat.lt_succ_self n, ?_, ?_⟩⟩
      · simp
      · simp [hset_at]; rfl
theorem c202 (l : List Var) (hl : l.length ≤ 1048576) : PC 220 [.imm 2 (l.map Var.enc) false] (.imm 2 (l.map Var.enc) false) := (l202 l hl).pc (Var.E.size l) fun n => Var.E.closedL n l
theorem l203 (l : List Level) (hl : l.length ≤ 1048576) : LC 221 [.imm 4 (l.map Level.enc) false] 4 (l.map Level.enc) := by
  intro h n
  refine go Tryz.func221 rfl (by kernel_rfl) (by kernel_rfl) (by simp [go_sem]) fun ho => ?_
  simp [go_sem]
  refine sem_sliceNil rfl (by kernel_rfl) rfl (fun e => ?_) ?_
  · simp [go_sem]
    have : l = [] := by simpa using e
    subst this
    exact .inl ⟨Nat.le_refl _, look_same, .inl ⟨rfl, _, _, rfl⟩⟩
  · simp [go_sem]
    refine sem_build0 (z := 4) rfl rfl (by kernel_rfl) ?_
    cases l with
    | nil =>
      simp [go_sem]
      exact .inl ⟨Nat.le_refl _, look_same, .inl ⟨rfl, _, _, rfl⟩⟩
    | cons a l =>
      have hap := app_ii (P := Tryz.prog) (h := h) (n := n) (t := 111) (t2 := 111) (el := 115) (z := 4) (es := (a :: l).map Level.enc) (full := false) (by simp [go_sem]) (by simp [go_sem]) (by simp [go_sem]) (by simp) (by simp [go_sem]) (by simp [go_sem]) (by simp [go_sem]) (by simp) (by simp at hl ⊢; omega)
      simp only [List.map_cons] at hap
      simp [go_sem, hap]
      refine .inl ⟨Nat.le_succ n, hset_old ho (Nat.le_refl _) look_same, .inr ⟨n, false, Nat.le_refl _, Nat.lt_succ_self n, ?_, ?_⟩⟩
      · simp
      · simp [hset_at]; rfl
theorem c203 (l : List Level) (hl : l.length ≤ 1048576) : PC 221 [.imm 4 (l.map Level.enc) false] (.imm 4 (l.map Level.enc) false) := (l203 l hl).pc (Level.E.size l) fun n => Level.E.closedL n l
theorem c118 (h0 : Head) (hs : h0.sized) : PC 30 [h0.enc] h0.enc := by
  intro h n
  refine go Tryz.func30 rfl (by kernel_rfl) (by kernel_rfl) (by simp [go_sem]) fun ho => ?_
  simp [go_sem, Head.enc, Head.flat, hset_at, hset_ne]
  refine (c185 _ hs.props).use ?_
  simp [go_sem, hset_at, hset_ne]
  repeat first | refine nd (by kernel_rfl) ?_ | refine sd (by kernel_rfl) ?_ | refine And.intro (by omega) ?_
  refine CallD.pure _ _ _ _ _ _ (c186 _ hs.dels) ?_
  simp [go_sem, hset_at]
  repeat first | refine nd (by kernel_rfl) ?_ | refine sd (by kernel_rfl) ?_ | refine And.intro (by omega) ?_
  refine CallD.pure _ _ _ _ _ _ (c187 _ hs.layers) ?_
  simp [go_sem, hset_at, hset_ne]
  repeat first | refine nd (by kernel_rfl) ?_ | refine sd (by kernel_rfl) ?_ | refine And.intro (by omega) ?_
  exact retIs ho (by repeat (first | exact look_same | refine hset_old ho (by omega) ?_)) rfl (Head.E.cl n h0)
theorem l174 (l : List Item) (hl : l.length ≤ 1048576) (g : FuncId) (a b : List SV) (f : Item → Item) (hf : ∀ (i : Nat) (h : i < l.length), PC g (a ++ [Item.enc l[i]] ++ b) (Item.enc (f l[i]))) : LC 155 [.imm 11 (l.map Item.enc) false, .fn (.func g) a b] 11 ((l.map f).map Item.enc) := by
  intro h n
  generalize hR : (l.map f).map Item.enc = R
  refine go Tryz.func155 rfl (by kernel_rfl) (by kernel_rfl) (by simp [go_sem]) fun ho => ?_
  simp [go_sem]
  refine goloop 1 (α := Nat × Option Nat) (fun q => [(1, .fn (.func g) a b), (5, AccV 11 q.2 (((l.take q.1).map f).map Item.enc)), (8, .imm 11 (l.map Item.enc) false), (9, intE l.length), (10, intE q.1)]) (fun q => AccH q.2 (((l.take q.1).map f).map Item.enc) h)
    (fun q m => q.1 ≤ l.length ∧ n ≤ m ∧ AccI n m 11 q.2 (((l.take q.1).map f).map Item.enc)) (fun q => l.length - q.1) (0, none) ?_ ?_ look_same ?_
  · simp; exact AccI.nil _ _ _
  · simp [look, AccV]
  rintro ⟨k, o⟩ m ⟨hk, hnm, hA⟩
  dsimp only at hk hA ⊢
  have hlen : (((l.take k).map f).map Item.enc).length = k := by simp; omega
  by_cases hlt : k < l.length
  · have w1 : IntKind.i64.wrap ((k : Int) + 1) = ((k + 1 : Nat) : Int) := by rw [wr64] <;> omega
    obtain ⟨x, hx⟩ : ∃ x, l[k] = x := ⟨_, rfl⟩
    have H := hf k hlt
    rw [hx] at H
    simp only [List.append_assoc, List.cons_append, List.nil_append] at H
    have hgx : (l.map Item.enc)[k]? = some x.enc := by simp [hlt, hx]
    have htk : ((l.take (k + 1)).map f).map Item.enc = ((l.take k).map f).map Item.enc ++ [(f x).enc] := by rw [List.take_succ_eq_append_getElem hlt, hx]; simp
    have hpush := hA.push (j := m + 1 + 1) (m' := m + 1 + 1 + 1) (e := (f x).enc) (Item.E.st _) (Item.E.len _) (by omega) (by omega)
    rw [← htk] at hpush
    generalize hes : ((l.take k).map f).map Item.enc = es at hA htk hlen ⊢
    simp only [List.getElem?_map] at hgx
    simp [go_sem, hlt, hx, Item.enc_eq, hset_at, -List.map_map, -List.map_take]
    refine PC.use (by simpa [Item.enc_eq] using H) ?_
    simp [go_sem, -List.map_map, -List.map_take]
    rw [app1g (es := es) (e := (f x).enc) (o := o) (t := 22) (t2 := 22) (el := 80) (z := 11) (by simp [go_sem]) (by simp [go_sem]) (by simp [go_sem]) (by simp) (by simp [go_sem]) (by simp [go_sem]) (by simp [go_sem]) (by omega) hA (Item.E.len _) ?a1 ?a2]
    case a1 => simp [hset_at, Item.enc_eq, SV.cells]
    case a2 =>
      intro j e
      have := (hA.lt j e).2
      rw [hset_ne _ _ (by omega), hset_ne _ _ (by omega), hset_ne _ _ (by omega)]; exact acc_at j e
    simp [go_sem, w1, -Int.natCast_add, -List.map_map, -List.map_take]
    refine ⟨k + 1, by omega, some (m + 1 + 1), ⟨by omega, by omega, hpush⟩, ⟨?_, Fz.same⟩, ?_⟩
    · rw [htk]; simp [AccV, Fz.same]
    · rw [htk]
      have := acc_live (p := m + 1 + 1) (v := .sl (m + 1 + 1) 0 11 (es.length + 1) false) (e := (f x).enc) ho (by omega) hA (H := hset (hset (hset (AccH o es h) m (some (.cells [.int .i64 0, .int .i64 0, .int .i64 0, .str .empty, .imm 0 [] true, .int .i64 0, .int .i64 0, .imm 0 [] true, .imm 0 [] true, .imm 0 [] true, .imm 0 [] true]))) m (some (.cells x.enc.cells))) (m + 1) (some (.cells (f x).enc.cells)))
        (hset_old ho (by omega) (hset_old ho (by omega) (hset_old ho (by omega) (AccH.old ho hA))))
      simpa [Item.enc_eq, SV.cells, Out.app] using this
  · have : k = l.length := by omega
    subst this
    simp only [List.take_length, hR] at hA ⊢
    simp [go_sem, -List.map_map, -List.map_take]
    exact .inl (acc_new ho hA look_same hnm (Nat.le_refl _))
theorem l134 (l : List Row) (hl : l.length ≤ 1048576) (g : FuncId) (a b : List SV) (f : Row → Row) (hf : ∀ (i : Nat) (h : i < l.length), PC g (a ++ [Row.enc l[i]] ++ b) (Row.enc (f l[i]))) : LC 157 [.imm 6 (l.map Row.enc) false, .fn (.func g) a b] 6 ((l.map f).map Row.enc) := by
  intro h n
  generalize hR : (l.map f).map Row.enc = R
  refine go Tryz.func157 rfl (by kernel_rfl) (by kernel_rfl) (by simp [go_sem]) fun ho => ?_
  simp [go_sem]
  refine goloop 1 (α := Nat × Option Nat) (fun q => [(1, .fn (.func g) a b), (5, AccV 6 q.2 (((l.take q.1).map f).map Row.enc)), (8, .imm 6 (l.map Row.enc) false), (9, intE l.length), (10, intE q.1)]) (fun q => AccH q.2 (((l.take q.1).map f).map Row.enc) h)
    (fun q m => q.1 ≤ l.length ∧ n ≤ m ∧ AccI n m 6 q.2 (((l.take q.1).map f).map Row.enc)) (fun q => l.length - q.1) (0, none) ?_ ?_ look_same ?_
  · simp; exact AccI.nil _ _ _
  · simp [look, AccV]
  rintro ⟨k, o⟩ m ⟨hk, hnm, hA⟩
  dsimp only at hk hA ⊢
  have hlen : (((l.take k).map f).map Row.enc).length = k := by simp; omega
  by_cases hlt : k < l.length
  · have w1 : IntKind.i64.wrap ((k : Int) + 1) = ((k + 1 : Nat) : Int) := by rw [wr64] <;> omega
    obtain ⟨x, hx⟩ : ∃ x, l[k] = x := ⟨_, rfl⟩
    have H := hf k hlt
    rw [hx] at H
    simp only [List.append_assoc, List.cons_append, List.nil_append] at H
    have hgx : (l.map Row.enc)[k]? = some x.enc := by simp [hlt, hx]
    have htk : ((l.take (k + 1)).map f).map Row.enc = ((l.take k).map f).map Row.enc ++ [(f x).enc] := by rw [List.take_succ_eq_append_getElem hlt, hx]; simp
    have hpush := hA.push (j := m + 1 + 1) (m' := m + 1 + 1 + 1) (e := (f x).enc) (Row.E.st _) (Row.E.len _) (by omega) (by omega)
    rw [← htk] at hpush
    generalize hes : ((l.take k).map f).map Row.enc = es at hA htk hlen ⊢
    simp only [List.getElem?_map] at hgx
    simp [go_sem, hlt, hx, Row.enc_eq, hset_at, -List.map_map, -List.map_take]
    refine PC.use (by simpa [Row.enc_eq] using H) ?_
    simp [go_sem, -List.map_map, -List.map_take]
    rw [app1g (es := es) (e := (f x).enc) (o := o) (t := 78) (t2 := 78) (el := 171) (z := 6) (by simp [go_sem]) (by simp [go_sem]) (by simp [go_sem]) (by simp) (by simp [go_sem]) (by simp [go_sem]) (by simp [go_sem]) (by omega) hA (Row.E.len _) ?a1 ?a2]
    case a1 => simp [hset_at, Row.enc_eq, SV.cells]
    case a2 =>
      intro j e
      have := (hA.lt j e).2
      rw [hset_ne _ _ (by omega), hset_ne _ _ (by omega), hset_ne _ _ (by omega)]; exact acc_at j e
    simp [go_sem, w1, -Int.natCast_add, -List.map_map, -List.map_take]
    refine ⟨k + 1, by omega, some (m + 1 + 1), ⟨by omega, by omega, hpush⟩, ⟨?_, Fz.same⟩, ?_⟩
    · rw [htk]; simp [AccV, Fz.same]
    · rw [htk]
      have := acc_live (p := m + 1 + 1) (v := .sl (m + 1 + 1) 0 6 (es.length + 1) false) (e := (f x).enc) ho (by omega) hA (H := hset (hset (hset (AccH o es h) m (some (.cells [.imm 0 [] true, .int .i64 0, .int .i64 0, .imm 0 [] true, .imm 0 [] true, .imm 0 [] true]))) m (some (.cells x.enc.cells))) (m + 1) (some (.cells (f x).enc.cells)))
        (hset_old ho (by omega) (hset_old ho (by omega) (hset_old ho (by omega) (AccH.old ho hA))))
      simpa [Row.enc_eq, SV.cells, Out.app] using this
  · have : k = l.length := by omega
    subst this
    simp only [List.take_length, hR] at hA ⊢
    simp [go_sem, -List.map_map, -List.map_take]
    exact .inl (acc_new ho hA look_same hnm (Nat.le_refl _))
theorem l194 (l : List Cell) (hl : l.length ≤ 1048576) (g : FuncId) (a b : List SV) (f : Cell → Cell) (hf : ∀ (i : Nat) (h : i < l.length), PC g (a ++ [Cell.enc l[i]] ++ b) (Cell.enc (f l[i]))) : LC 204 [.imm 7 (l.map Cell.enc) false, .fn (.func g) a b] 7 ((l.map f).map Cell.enc) := by
  intro h n
  generalize hR : (l.map f).map Cell.enc = R
  refine go Tryz.func204 rfl (by kernel_rfl) (by kernel_rfl) (by simp [go_sem]) fun ho => ?_
  simp [go_sem]
  refine goloop 1 (α := Nat × Option Nat) (fun q => [(1, .fn (.func g) a b), (5, AccV 7 q.2 (((l.take q.1).map f).map Cell.enc)), (8, .imm 7 (l.map Cell.enc) false), (9, intE l.length), (10, intE q.1)]) (fun q => AccH q.2 (((l.take q.1).map f).map Cell.enc) h)
    (fun q m => q.1 ≤ l.length ∧ n ≤ m ∧ AccI n m 7 q.2 (((l.take q.1).map f).map Cell.enc)) (fun q => l.length - q.1) (0, none) ?_ ?_ look_same ?_
  · simp; exact AccI.nil _ _ _
  · simp [look, AccV]
  rintro ⟨k, o⟩ m ⟨hk, hnm, hA⟩
  dsimp only at hk hA ⊢
  have hlen : (((l.take k).map f).map Cell.enc).length = k := by simp; omega
  by_cases hlt : k < l.length
  · have w1 : IntKind.i64.wrap ((k : Int) + 1) = ((k + 1 : Nat) : Int) := by rw [wr64] <;> omega
    obtain ⟨x, hx⟩ : ∃ x, l[k] = x := ⟨_, rfl⟩
    have H := hf k hlt
    rw [hx] at H
    simp only [List.append_assoc, List.cons_append, List.nil_append] at H
    have hgx : (l.map Cell.enc)[k]? = some x.enc := by simp [hlt, hx]
    have htk : ((l.take (k + 1)).map f).map Cell.enc = ((l.take k).map f).map Cell.enc ++ [(f x).enc] := by rw [List.take_succ_eq_append_getElem hlt, hx]; simp
    have hpush := hA.push (j := m + 1 + 1) (m' := m + 1 + 1 + 1) (e := (f x).enc) (Cell.E.st _) (Cell.E.len _) (by omega) (by omega)
    rw [← htk] at hpush
    generalize hes : ((l.take k).map f).map Cell.enc = es at hA htk hlen ⊢
    simp only [List.getElem?_map] at hgx
    simp [go_sem, hlt, hx, Cell.enc_eq, hset_at, -List.map_map, -List.map_take]
    refine PC.use (by simpa [Cell.enc_eq] using H) ?_
    simp [go_sem, -List.map_map, -List.map_take]
    rw [app1g (es := es) (e := (f x).enc) (o := o) (t := 169) (t2 := 169) (el := 173) (z := 7) (by simp [go_sem]) (by simp [go_sem]) (by simp [go_sem]) (by simp) (by simp [go_sem]) (by simp [go_sem]) (by simp [go_sem]) (by omega) hA (Cell.E.len _) ?a1 ?a2]
    case a1 => simp [hset_at, Cell.enc_eq, SV.cells]
    case a2 =>
      intro j e
      have := (hA.lt j e).2
      rw [hset_ne _ _ (by omega), hset_ne _ _ (by omega), hset_ne _ _ (by omega)]; exact acc_at j e
    simp [go_sem, w1, -Int.natCast_add, -List.map_map, -List.map_take]
    refine ⟨k + 1, by omega, some (m + 1 + 1), ⟨by omega, by omega, hpush⟩, ⟨?_, Fz.same⟩, ?_⟩
    · rw [htk]; simp [AccV, Fz.same]
    · rw [htk]
      have := acc_live (p := m + 1 + 1) (v := .sl (m + 1 + 1) 0 7 (es.length + 1) false) (e := (f x).enc) ho (by omega) hA (H := hset (hset (hset (AccH o es h) m (some (.cells [.int .i64 0, .imm 0 [] true, .int .i64 0, .int .i64 0, .imm 0 [] true, .imm 0 [] true, .imm 0 [] true]))) m (some (.cells x.enc.cells))) (m + 1) (some (.cells (f x).enc.cells)))
        (hset_old ho (by omega) (hset_old ho (by omega) (hset_old ho (by omega) (AccH.old ho hA))))
      simpa [Cell.enc_eq, SV.cells, Out.app] using this
  · have : k = l.length := by omega
    subst this
    simp only [List.take_length, hR] at hA ⊢
    simp [go_sem, -List.map_map, -List.map_take]
    exact .inl (acc_new ho hA look_same hnm (Nat.le_refl _))
theorem c110_of (l : List Item) (hl : l.length ≤ 1048576) (H : ∀ (i : Nat) (h : i < l.length), PC 156 [(l[i]).enc] (l[i]).enc) : PC 96 [itemsE l] (itemsE l) := by
  intro h n
  refine go Tryz.func96 rfl (by kernel_rfl) (by kernel_rfl) (by simp [go_sem]) fun ho => ?_
  simp [go_sem]
  have h1 := (l174 l hl 156 [] [] id (fun i hi => H i hi)).pc (by rw [List.map_id]; exact Item.E.size l) (fun n => by rw [List.map_id]; exact Item.E.closedL n l)
  rw [List.map_id] at h1
  refine h1.use ?_
  simp [go_sem]
  exact ret0 ho (Item.E.imm _ _ _ _) rfl
theorem c249_of (x : Cell) (hs : x.head.sized) (H : PC 96 [itemsE x.flow] (itemsE x.flow)) : PC 205 [x.enc] x.enc := by
  intro h n
  refine go Tryz.func205 rfl (by kernel_rfl) (by kernel_rfl) (by simp [go_sem]) fun ho => ?_
  simp [go_sem, Cell.enc_eq, hset_at, hset_ne]
  repeat first | refine nd (by kernel_rfl) ?_ | refine sd (by kernel_rfl) ?_ | refine And.intro (by omega) ?_
  refine CallD.pure _ _ _ _ _ _ (by simpa [Head.enc, Head.flat] using c118 x.head hs) ?_
  simp [go_sem, hset_at, hset_ne]
  repeat first | refine nd (by kernel_rfl) ?_ | refine sd (by kernel_rfl) ?_ | refine And.intro (by omega) ?_
  refine CallD.pure _ _ _ _ _ _ H ?_
  simp [go_sem, hset_at]
  repeat first | refine nd (by kernel_rfl) ?_ | refine sd (by kernel_rfl) ?_ | refine And.intro (by omega) ?_
  exact retIs ho (by repeat (first | exact look_same | refine hset_old ho (by omega) ?_)) rfl (by rw [← Cell.enc_eq]; exact Cell.cl n x)
theorem c176_of (x : Row) (hs : x.head.sized) (hc : x.cells.length ≤ 1048576) (H : ∀ (i : Nat) (h : i < x.cells.length), PC 205 [(x.cells[i]).enc] (x.cells[i]).enc) : PC 158 [x.enc] x.enc := by
  intro h n
  refine go Tryz.func158 rfl (by kernel_rfl) (by kernel_rfl) (by simp [go_sem]) fun ho => ?_
  have h1 := (l194 x.cells hc 205 [] [] id (fun i hi => H i hi)).pc (by rw [List.map_id]; exact Cell.E.size _) (fun n => by rw [List.map_id]; exact Cell.E.closedL n _)
  rw [List.map_id] at h1
  simp [go_sem, Row.enc_eq, hset_at, hset_ne]
  repeat first | refine nd (by kernel_rfl) ?_ | refine sd (by kernel_rfl) ?_ | refine And.intro (by omega) ?_
  refine CallD.pure _ _ _ _ _ _ (by simpa [Head.enc, Head.flat] using c118 x.head hs) ?_
  simp [go_sem, hset_at, hset_ne]
  repeat first | refine nd (by kernel_rfl) ?_ | refine sd (by kernel_rfl) ?_ | refine And.intro (by omega) ?_
  refine CallD.pure _ _ _ _ _ _ h1 ?_
  simp [go_sem, hset_at]
  repeat first | refine nd (by kernel_rfl) ?_ | refine sd (by kernel_rfl) ?_ | refine And.intro (by omega) ?_
  exact retIs ho (by repeat (first | exact look_same | refine hset_old ho (by omega) ?_)) rfl (by rw [← Row.enc_eq]; exact Row.cl n x)
theorem c175_of (x : Item) (hs : x.head.sized) (hr : x.rows.length ≤ 1048576) (H : PC 96 [itemsE x.flow] (itemsE x.flow)) (H2 : ∀ (i : Nat) (h : i < x.rows.length), PC 158 [(x.rows[i]).enc] (x.rows[i]).enc) : PC 156 [x.enc] x.enc := by
  intro h n
  refine go Tryz.func156 rfl (by kernel_rfl) (by kernel_rfl) (by simp [go_sem]) fun ho => ?_
  have h1 := (l134 x.rows hr 158 [] [] id (fun i hi => H2 i hi)).pc (by rw [List.map_id]; exact Row.E.size _) (fun n => by rw [List.map_id]; exact Row.E.closedL n _)
  rw [List.map_id] at h1
  simp [go_sem, Item.enc_eq, hset_at, hset_ne]
  repeat first | refine nd (by kernel_rfl) ?_ | refine sd (by kernel_rfl) ?_ | refine And.intro (by omega) ?_
  refine CallD.pure _ _ _ _ _ _ (by simpa [Head.enc, Head.flat] using c118 x.head hs) ?_
  simp [go_sem, hset_at, hset_ne]
  repeat first | refine nd (by kernel_rfl) ?_ | refine sd (by kernel_rfl) ?_ | refine And.intro (by omega) ?_
  refine CallD.pure _ _ _ _ _ _ H ?_
  simp [go_sem, hset_at, hset_ne]
  repeat first | refine nd (by kernel_rfl) ?_ | refine sd (by kernel_rfl) ?_ | refine And.intro (by omega) ?_
  refine CallD.pure _ _ _ _ _ _ h1 ?_
  simp [go_sem, hset_at, hset_ne]
  repeat first | refine nd (by kernel_rfl) ?_ | refine sd (by kernel_rfl) ?_ | refine And.intro (by omega) ?_
  exact retIs ho (by repeat (first | exact look_same | refine hset_old ho (by omega) ?_)) rfl (by rw [← Item.enc_eq]; exact Item.cl n x)
mutual
theorem c175 : ∀ x : Item, x.sized → PC 156 [x.enc] x.enc
  | .mk k c i t hd f r, hs => by
    rw [Item.sized] at hs
    exact c175_of (.mk k c i t hd f r) hs.2.1 hs.2.2.2.1 (c110_of f hs.2.2.1 (c175L f hs.2.2.2.2.1)) (c176L r hs.2.2.2.2.2)
theorem c175L : ∀ l : List Item, Item.sizedL l → ∀ (i : Nat) (h : i < l.length), PC 156 [(l[i]).enc] (l[i]).enc
  | [], _, i, h => by simp at h
  | x :: l, hs, 0, _ => by rw [Item.sizedL] at hs; exact c175 x hs.1
  | x :: l, hs, i + 1, h => by rw [Item.sizedL] at hs; exact c175L l hs.2 i (by simpa using h)
theorem c176 : ∀ x : Row, x.sized → PC 158 [x.enc] x.enc
  | .mk hd c, hs => by
    rw [Row.sized] at hs
    exact c176_of (.mk hd c) hs.1 hs.2.1 (c249L c hs.2.2)
theorem c176L : ∀ l : List Row, Row.sizedL l → ∀ (i : Nat) (h : i < l.length), PC 158 [(l[i]).enc] (l[i]).enc
  | [], _, i, h => by simp at h
  | x :: l, hs, 0, _ => by rw [Row.sizedL] at hs; exact c176 x hs.1
  | x :: l, hs, i + 1, h => by rw [Row.sizedL] at hs; exact c176L l hs.2 i (by simpa using h)
theorem c249 : ∀ x : Cell, x.sized → PC 205 [x.enc] x.enc
  | .mk i hd f, hs => by
    rw [Cell.sized] at hs
    exact c249_of (.mk i hd f) hs.1 (c110_of f hs.2.1 (c175L f hs.2.2))
theorem c249L : ∀ l : List Cell, Cell.sizedL l → ∀ (i : Nat) (h : i < l.length), PC 205 [(l[i]).enc] (l[i]).enc
  | [], _, i, h => by simp at h
  | x :: l, hs, 0, _ => by rw [Cell.sizedL] at hs; exact c249 x hs.1
  | x :: l, hs, i + 1, h => by rw [Cell.sizedL] at hs; exact c249L l hs.2 i (by simpa using h)
end
theorem c110 (l : List Item) (hl : l.length ≤ 1048576) (hs : Item.sizedL l) : PC 96 [itemsE l] (itemsE l) := c110_of l hl (c175L l hs)
def Item.units (x : Item) : Int := if x.kind = 1 then (if cpValid x.text then cpHeads x.text x.text.size else 0) else 1
def Item.uerr (x : Item) : Int := if x.kind = 1 then (if cpValid x.text then 0 else 12) else 0
def unitsL : List Item → Int
  | [] => 0
  | x :: l => x.units + unitsL l
def uerrL (l : List Item) : Bool := l.any fun x => decide (x.uerr ≠ 0)
def runLen (l : List Item) : Int × Int := if uerrL l then (0, 12) else (unitsL l, 0)
def Item.addText (y : Item) (t : ByteArray) : Item := .mk y.kind y.code y.id (y.text ++ t) y.head y.flow y.rows
def dropped (x : Item) : Prop := (x.kind = 7 ∧ x.rows = []) ∨ (x.kind = 1 ∧ x.text.size = 0)
instance (x : Item) : Decidable (dropped x) := by unfold dropped; cases h : x.rows <;> simp <;> infer_instance
def normStep (out : List Item) (x : Item) : List Item :=
  if dropped x then out else match out.getLast? with
    | some y => if x.kind = 1 ∧ y.kind = 1 ∧ y.head = x.head then out.dropLast ++ [y.addText x.text] else out ++ [x]
    | none => out ++ [x]
def foldN (l : List Item) : List Item := l.foldl normStep []
mutual
def Item.nrm : Item → Item
  | .mk k c i t h f r => .mk k c i t h (foldN (Item.nrmL f)) ((Row.nrmL r).filter fun r => !decide (r.cells.length = 0))
def Item.nrmL : List Item → List Item
  | [] => []
  | x :: l => Item.nrm x :: Item.nrmL l
def Row.nrm : Row → Row
  | .mk h c => .mk h (Cell.nrmL c)
def Row.nrmL : List Row → List Row
  | [] => []
  | x :: l => Row.nrm x :: Row.nrmL l
def Cell.nrm : Cell → Cell
  | .mk i h f => .mk i h (foldN (Item.nrmL f))
def Cell.nrmL : List Cell → List Cell
  | [] => []
  | x :: l => Cell.nrm x :: Cell.nrmL l
end
def runNormal (l : List Item) : List Item := foldN (Item.nrmL l)
theorem sized_parts {x : Item} (h : x.sized) : x.head.sized ∧ x.text.size ≤ 1048576 ∧ x.rows.length ≤ 1048576 := by cases x; rw [Item.sized] at h; exact ⟨h.2.1, h.1, h.2.2.2.1⟩
def NI (x : Item) : Prop := PC 102 [itemsE x.flow] (itemsE (runNormal x.flow)) ∧ ∀ (i : Nat) (h : i < x.rows.length), PC 163 [(x.rows[i]).enc] (Row.nrm x.rows[i]).enc
end Go.Proofs.YthinbkgpjmjfeaaGreatDoor.Sh
