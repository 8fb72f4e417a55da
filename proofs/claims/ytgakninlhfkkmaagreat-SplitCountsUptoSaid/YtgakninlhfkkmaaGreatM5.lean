/- A part of the proof (part 5 of 13). -/
import Derived.Test.YtgakninlhfkkmaaGreatM4
namespace Go.Proofs.YtgakninlhfkkmaaGreat.Sh
open Proofs
set_option maxRecDepth 10000
theorem l185 (l : List Prp) (hl : l.length ≤ 1048576) : LC 185 [.imm 2 (l.map Prp.enc) false] 2 (l.map Prp.enc) := by
  intro h n
  refine go Tryz.func185 rfl (by kernel_rfl) (by kernel_rfl) (by simp [go_sem]) fun ho => ?_
  simp [go_sem]
  refine sem_sliceNil rfl (by kernel_rfl) rfl (fun e => ?_) ?_
  · simp [go_sem]
    have : l = [] := by simpa using e
    subst this
    exact .inl ⟨Nat.le_refl _, look_same, .inl ⟨rfl, _, _, rfl⟩⟩
  · simp [go_sem]
    refine sem_build0 (z := 2) rfl rfl (by kernel_rfl) ?_
    cases l with
    | nil =>
      simp [go_sem]
      exact .inl ⟨Nat.le_refl _, look_same, .inl ⟨rfl, _, _, rfl⟩⟩
    | cons a l =>
      have hap := app_ii (P := Tryz.prog) (h := h) (n := n) (t := 23) (t2 := 23) (el := 193) (z := 2) (es := (a :: l).map Prp.enc) (full := false) (by simp [go_sem]) (by simp [go_sem]) (by simp [go_sem]) (by simp) (by simp [go_sem]) (by simp [go_sem]) (by simp [go_sem]) (by simp) (by simp at hl ⊢; omega)
      simp only [List.map_cons] at hap
      simp [go_sem, hap]
      refine .inl ⟨Nat.le_succ n, hset_old ho (Nat.le_refl _) look_same, .inr ⟨n, false, Nat.le_refl _, Nat.lt_succ_self n, ?_, ?_⟩⟩
      · simp
      · simp [hset_at]; rfl
theorem c185 (l : List Prp) (hl : l.length ≤ 1048576) : PC 185 [.imm 2 (l.map Prp.enc) false] (.imm 2 (l.map Prp.enc) false) := (l185 l hl).pc (Prp.E.size l) fun n => Prp.E.closedL n l
theorem l186 (l : List Del) (hl : l.length ≤ 1048576) : LC 186 [.imm 2 (l.map Del.enc) false] 2 (l.map Del.enc) := by
  intro h n
  refine go Tryz.func186 rfl (by kernel_rfl) (by kernel_rfl) (by simp [go_sem]) fun ho => ?_
  simp [go_sem]
  refine sem_sliceNil rfl (by kernel_rfl) rfl (fun e => ?_) ?_
  · simp [go_sem]
    have : l = [] := by simpa using e
    subst this
    exact .inl ⟨Nat.le_refl _, look_same, .inl ⟨rfl, _, _, rfl⟩⟩
  · simp [go_sem]
    refine sem_build0 (z := 2) rfl rfl (by kernel_rfl) ?_
    cases l with
    | nil =>
      simp [go_sem]
      exact .inl ⟨Nat.le_refl _, look_same, .inl ⟨rfl, _, _, rfl⟩⟩
    | cons a l =>
      have hap := app_ii (P := Tryz.prog) (h := h) (n := n) (t := 24) (t2 := 24) (el := 166) (z := 2) (es := (a :: l).map Del.enc) (full := false) (by simp [go_sem]) (by simp [go_sem]) (by simp [go_sem]) (by simp) (by simp [go_sem]) (by simp [go_sem]) (by simp [go_sem]) (by simp) (by simp at hl ⊢; omega)
      simp only [List.map_cons] at hap
      simp [go_sem, hap]
      refine .inl ⟨Nat.le_succ n, hset_old ho (Nat.le_refl _) look_same, .inr ⟨n, false, Nat.le_refl _, Nat.lt_succ_self n, ?_, ?_⟩⟩
      · simp
      · simp [hset_at]; rfl
theorem c186 (l : List Del) (hl : l.length ≤ 1048576) : PC 186 [.imm 2 (l.map Del.enc) false] (.imm 2 (l.map Del.enc) false) := (l186 l hl).pc (Del.E.size l) fun n => Del.E.closedL n l
theorem l187 (l : List Layer) (hl : l.length ≤ 1048576) : LC 187 [.imm 4 (l.map Layer.enc) false] 4 (l.map Layer.enc) := by
  intro h n
  refine go Tryz.func187 rfl (by kernel_rfl) (by kernel_rfl) (by simp [go_sem]) fun ho => ?_
  simp [go_sem]
  refine sem_sliceNil rfl (by kernel_rfl) rfl (fun e => ?_) ?_
  · simp [go_sem]
    have : l = [] := by simpa using e
    subst this
    exact .inl ⟨Nat.le_refl _, look_same, .inl ⟨rfl, _, _, rfl⟩⟩
  · simp [go_sem]
    refine sem_build0 (z := 4) rfl rfl (by kernel_rfl) ?_
    cases l with
    | nil =>
      simp [go_sem]
      exact .inl ⟨Nat.le_refl _, look_same, .inl ⟨rfl, _, _, rfl⟩⟩
    | cons a l =>
      have hap := app_ii (P := Tryz.prog) (h := h) (n := n) (t := 25) (t2 := 25) (el := 164) (z := 4) (es := (a :: l).map Layer.enc) (full := false) (by simp [go_sem]) (by simp [go_sem]) (by simp [go_sem]) (by simp) (by simp [go_sem]) (by simp [go_sem]) (by simp [go_sem]) (by simp) (by simp at hl ⊢; omega)
      simp only [List.map_cons] at hap
      simp [go_sem, hap]
      refine .inl ⟨Nat.le_succ n, hset_old ho (Nat.le_refl _) look_same, .inr ⟨n, false, Nat.le_refl _, Nat.lt_succ_self n, ?_, ?_⟩⟩
      · simp
      · simp [hset_at]; rfl
theorem c187 (l : List Layer) (hl : l.length ≤ 1048576) : PC 187 [.imm 4 (l.map Layer.enc) false] (.imm 4 (l.map Layer.enc) false) := (l187 l hl).pc (Layer.E.size l) fun n => Layer.E.closedL n l
theorem l76 (l : List Rev) (hl : l.length ≤ 1048576) : LC 76 [.imm 3 (l.map Rev.enc) false] 3 (l.map Rev.enc) := by
  intro h n
  refine go Tryz.func76 rfl (by kernel_rfl) (by kernel_rfl) (by simp [go_sem]) fun ho => ?_
  simp [go_sem]
  refine sem_sliceNil rfl (by kernel_rfl) rfl (fun e => ?_) ?_
  · simp [go_sem]
    have : l = [] := by simpa using e
    subst this
    exact .inl ⟨Nat.le_refl _, look_same, .inl ⟨rfl, _, _, rfl⟩⟩
  · simp [go_sem]
    refine sem_build0 (z := 3) rfl rfl (by kernel_rfl) ?_
    cases l with
    | nil =>
      simp [go_sem]
      exact .inl ⟨Nat.le_refl _, look_same, .inl ⟨rfl, _, _, rfl⟩⟩
    | cons a l =>
      have hap := app_ii (P := Tryz.prog) (h := h) (n := n) (t := 30) (t2 := 30) (el := 42) (z := 3) (es := (a :: l).map Rev.enc) (full := false) (by simp [go_sem]) (by simp [go_sem]) (by simp [go_sem]) (by simp) (by simp [go_sem]) (by simp [go_sem]) (by simp [go_sem]) (by simp) (by simp at hl ⊢; omega)
      simp only [List.map_cons] at hap
      simp [go_sem, hap]
      refine .inl ⟨Nat.le_succ n, hset_old ho (Nat.le_refl _) look_same, .inr ⟨n, false, Nat.le_refl _, Nat.lt_succ_self n, ?_, ?_⟩⟩
      · simp
      · simp [hset_at]; rfl
theorem c76 (l : List Rev) (hl : l.length ≤ 1048576) : PC 76 [.imm 3 (l.map Rev.enc) false] (.imm 3 (l.map Rev.enc) false) := (l76 l hl).pc (Rev.E.size l) fun n => Rev.E.closedL n l
theorem l199 (l : List Style) (hl : l.length ≤ 1048576) : LC 199 [.imm 6 (l.map Style.enc) false] 6 (l.map Style.enc) := by
  intro h n
  refine go Tryz.func199 rfl (by kernel_rfl) (by kernel_rfl) (by simp [go_sem]) fun ho => ?_
  simp [go_sem]
  refine sem_sliceNil rfl (by kernel_rfl) rfl (fun e => ?_) ?_
  · simp [go_sem]
    have : l = [] := by simpa using e
    subst this
    exact .inl ⟨Nat.le_refl _, look_same, .inl ⟨rfl, _, _, rfl⟩⟩
  · simp [go_sem]
    refine sem_build0 (z := 6) rfl rfl (by kernel_rfl) ?_
    cases l with
    | nil =>
      simp [go_sem]
      exact .inl ⟨Nat.le_refl _, look_same, .inl ⟨rfl, _, _, rfl⟩⟩
    | cons a l =>
      have hap := app_ii (P := Tryz.prog) (h := h) (n := n) (t := 31) (t2 := 31) (el := 198) (z := 6) (es := (a :: l).map Style.enc) (full := false) (by simp [go_sem]) (by simp [go_sem]) (by simp [go_sem]) (by simp) (by simp [go_sem]) (by simp [go_sem]) (by simp [go_sem]) (by simp) (by simp at hl ⊢; omega)
      simp only [List.map_cons] at hap
      simp [go_sem, hap]
      refine .inl ⟨Nat.le_succ n, hset_old ho (Nat.le_refl _) look_same, .inr ⟨n, false, Nat.le_refl _, Nat.lt_succ_self n, ?_, ?_⟩⟩
      · simp
      · simp [hset_at]; rfl
theorem l200 (l : List Lst) (hl : l.length ≤ 1048576) : LC 200 [.imm 2 (l.map Lst.enc) false] 2 (l.map Lst.enc) := by
  intro h n
  refine go Tryz.func200 rfl (by kernel_rfl) (by kernel_rfl) (by simp [go_sem]) fun ho => ?_
  simp [go_sem]
  refine sem_sliceNil rfl (by kernel_rfl) rfl (fun e => ?_) ?_
  · simp [go_sem]
    have : l = [] := by simpa using e
    subst this
    exact .inl ⟨Nat.le_refl _, look_same, .inl ⟨rfl, _, _, rfl⟩⟩
  · simp [go_sem]
    refine sem_build0 (z := 2) rfl rfl (by kernel_rfl) ?_
    cases l with
    | nil =>
      simp [go_sem]
      exact .inl ⟨Nat.le_refl _, look_same, .inl ⟨rfl, _, _, rfl⟩⟩
    | cons a l =>
      have hap := app_ii (P := Tryz.prog) (h := h) (n := n) (t := 32) (t2 := 32) (el := 103) (z := 2) (es := (a :: l).map Lst.enc) (full := false) (by simp [go_sem]) (by simp [go_sem]) (by simp [go_sem]) (by simp) (by simp [go_sem]) (by simp [go_sem]) (by simp [go_sem]) (by simp) (by simp at hl ⊢; omega)
      simp only [List.map_cons] at hap
      simp [go_sem, hap]
      refine .inl ⟨Nat.le_succ n, hset_old ho (Nat.le_refl _) look_same, .inr ⟨n, false, Nat.le_refl _, Nat.lt_succ_self n, ?_, ?_⟩⟩
      · simp
      · simp [hset_at]; rfl
theorem l201 (l : List Comment) (hl : l.length ≤ 1048576) : LC 201 [.imm 6 (l.map Comment.enc) false] 6 (l.map Comment.enc) := by
  intro h n
  refine go Tryz.func201 rfl (by kernel_rfl) (by kernel_rfl) (by simp [go_sem]) fun ho => ?_
  simp [go_sem]
  refine sem_sliceNil rfl (by kernel_rfl) rfl (fun e => ?_) ?_
  · simp [go_sem]
    have : l = [] := by simpa using e
    subst this
    exact .inl ⟨Nat.le_refl _, look_same, .inl ⟨rfl, _, _, rfl⟩⟩
  · simp [go_sem]
    refine sem_build0 (z := 6) rfl rfl (by kernel_rfl) ?_
    cases l with
    | nil =>
      simp [go_sem]
      exact .inl ⟨Nat.le_refl _, look_same, .inl ⟨rfl, _, _, rfl⟩⟩
    | cons a l =>
      have hap := app_ii (P := Tryz.prog) (h := h) (n := n) (t := 33) (t2 := 33) (el := 115) (z := 6) (es := (a :: l).map Comment.enc) (full := false) (by simp [go_sem]) (by simp [go_sem]) (by simp [go_sem]) (by simp) (by simp [go_sem]) (by simp [go_sem]) (by simp [go_sem]) (by simp) (by simp at hl ⊢; omega)
      simp only [List.map_cons] at hap
      simp [go_sem, hap]
      refine .inl ⟨Nat.le_succ n, hset_old ho (Nat.le_refl _) look_same, .inr ⟨n, false, Nat.le_refl _, Nat.lt_succ_self n, ?_, ?_⟩⟩
      · simp
      · simp [hset_at]; rfl
theorem c201 (l : List Comment) (hl : l.length ≤ 1048576) : PC 201 [.imm 6 (l.map Comment.enc) false] (.imm 6 (l.map Comment.enc) false) := (l201 l hl).pc (Comment.E.size l) fun n => Comment.E.closedL n l
theorem l202 (l : List Var) (hl : l.length ≤ 1048576) : LC 202 [.imm 2 (l.map Var.enc) false] 2 (l.map Var.enc) := by
  intro h n
  refine go Tryz.func202 rfl (by kernel_rfl) (by kernel_rfl) (by simp [go_sem]) fun ho => ?_
  simp [go_sem]
  refine sem_sliceNil rfl (by kernel_rfl) rfl (fun e => ?_) ?_
  · simp [go_sem]
    have : l = [] := by simpa using e
    subst this
    exact .inl ⟨Nat.le_refl _, look_same, .inl ⟨rfl, _, _, rfl⟩⟩
  · simp [go_sem]
    refine sem_build0 (z := 2) rfl rfl (by kernel_rfl) ?_
    cases l with
    | nil =>
      simp [go_sem]
      exact .inl ⟨Nat.le_refl _, look_same, .inl ⟨rfl, _, _, rfl⟩⟩
    | cons a l =>
      have hap := app_ii (P := Tryz.prog) (h := h) (n := n) (t := 34) (t2 := 34) (el := 118) (z := 2) (es := (a :: l).map Var.enc) (full := false) (by simp [go_sem]) (by simp [go_sem]) (by simp [go_sem]) (by simp) (by simp [go_sem]) (by simp [go_sem]) (by simp [go_sem]) (by simp) (by simp at hl ⊢; omega)
      simp only [List.map_cons] at hap
      simp [go_sem, hap]
      refine .inl ⟨Nat.le_succ n, hset_old ho (Nat.le_refl _) look_same, .inr ⟨n, false, Nat.le_refl _, Nat.lt_succ_self n, ?_, ?_⟩⟩
      · simp
      · simp [hset_at]; rfl
theorem c202 (l : List Var) (hl : l.length ≤ 1048576) : PC 202 [.imm 2 (l.map Var.enc) false] (.imm 2 (l.map Var.enc) false) := (l202 l hl).pc (Var.E.size l) fun n => Var.E.closedL n l
theorem l203 (l : List Level) (hl : l.length ≤ 1048576) : LC 203 [.imm 4 (l.map Level.enc) false] 4 (l.map Level.enc) := by
  intro h n
  refine go Tryz.func203 rfl (by kernel_rfl) (by kernel_rfl) (by simp [go_sem]) fun ho => ?_
  simp [go_sem]
  refine sem_sliceNil rfl (by kernel_rfl) rfl (fun e => ?_) ?_
  · simp [go_sem]
    have : l = [] := by simpa using e
    subst this
    exact .inl ⟨Nat.le_refl _, look_same, .inl ⟨rfl, _, _, rfl⟩⟩
  · simp [go_sem]
    refine sem_build0 (z := 4) rfl rfl (by kernel_rfl) ?_
    cases l with
    | nil =>
      simp [go_sem]
      exact .inl ⟨Nat.le_refl _, look_same, .inl ⟨rfl, _, _, rfl⟩⟩
    | cons a l =>
      have hap := app_ii (P := Tryz.prog) (h := h) (n := n) (t := 101) (t2 := 101) (el := 106) (z := 4) (es := (a :: l).map Level.enc) (full := false) (by simp [go_sem]) (by simp [go_sem]) (by simp [go_sem]) (by simp) (by simp [go_sem]) (by simp [go_sem]) (by simp [go_sem]) (by simp) (by simp at hl ⊢; omega)
      simp only [List.map_cons] at hap
      simp [go_sem, hap]
      refine .inl ⟨Nat.le_succ n, hset_old ho (Nat.le_refl _) look_same, .inr ⟨n, false, Nat.le_refl _, Nat.lt_succ_self n, ?_, ?_⟩⟩
      · simp
      · simp [hset_at]; rfl
theorem c203 (l : List Level) (hl : l.length ≤ 1048576) : PC 203 [.imm 4 (l.map Level.enc) false] (.imm 4 (l.map Level.enc) false) := (l203 l hl).pc (Level.E.size l) fun n => Level.E.closedL n l
theorem c118 (h0 : Head) (hs : h0.sized) : PC 118 [h0.enc] h0.enc := by
  intro h n
  refine go Tryz.func118 rfl (by kernel_rfl) (by kernel_rfl) (by simp [go_sem]) fun ho => ?_
  simp [go_sem, Head.enc, Head.flat, hset_at, hset_ne]
  refine (c185 _ hs.props).use ?_
  simp [go_sem, hset_at, hset_ne]
  repeat first | refine nd (by kernel_rfl) ?_ | refine sd (by kernel_rfl) ?_ | refine And.intro (by omega) ?_
  refine CallD.pure _ _ _ _ _ _ (c186 _ hs.dels) ?_
  simp [go_sem, hset_at]
  repeat first | refine nd (by kernel_rfl) ?_ | refine sd (by kernel_rfl) ?_ | refine And.intro (by omega) ?_
  refine CallD.pure _ _ _ _ _ _ (c187 _ hs.layers) ?_
  simp [go_sem, hset_at, hset_ne]
  repeat first | refine nd (by kernel_rfl) ?_ | refine sd (by kernel_rfl) ?_ | refine And.intro (by omega) ?_
  exact retIs ho (by repeat (first | exact look_same | refine hset_old ho (by omega) ?_)) rfl (Head.E.cl n h0)
theorem l174 (l : List Item) (hl : l.length ≤ 1048576) (g : FuncId) (a b : List SV) (f : Item → Item) (hf : ∀ (i : Nat) (h : i < l.length), PC g (a ++ [Item.enc l[i]] ++ b) (Item.enc (f l[i]))) : LC 174 [.imm 11 (l.map Item.enc) false, .fn (.func g) a b] 11 ((l.map f).map Item.enc) := by
  intro h n
  generalize hR : (l.map f).map Item.enc = R
  refine go Tryz.func174 rfl (by kernel_rfl) (by kernel_rfl) (by simp [go_sem]) fun ho => ?_
  simp [go_sem]
  refine goloop 1 (α := Nat × Option Nat) (fun q => [(1, .fn (.func g) a b), (5, AccV 11 q.2 (((l.take q.1).map f).map Item.enc)), (8, .imm 11 (l.map Item.enc) false), (9, intE l.length), (10, intE q.1)]) (fun q => AccH q.2 (((l.take q.1).map f).map Item.enc) h)
    (fun q m => q.1 ≤ l.length ∧ n ≤ m ∧ AccI n m 11 q.2 (((l.take q.1).map f).map Item.enc)) (fun q => l.length - q.1) (0, none) ?_ ?_ look_same ?_
  · simp; exact AccI.nil _ _ _
  · simp [look, AccV]
  rintro ⟨k, o⟩ m ⟨hk, hnm, hA⟩
  dsimp only at hk hA ⊢
  have hlen : (((l.take k).map f).map Item.enc).length = k := by simp; omega
  by_cases hlt : k < l.length
  · have w1 : IntKind.i64.wrap ((k : Int) + 1) = ((k + 1 : Nat) : Int) := by rw [wr64] <;> omega
    obtain ⟨x, hx⟩ : ∃ x, l[k] = x := ⟨_, rfl⟩
    have H := hf k hlt
    rw [hx] at H
    simp only [List.append_assoc, List.cons_append, List.nil_append] at H
    have hgx : (l.map Item.enc)[k]? = some x.enc := by simp [hlt, hx]
    have htk : ((l.take (k + 1)).map f).map Item.enc = ((l.take k).map f).map Item.enc ++ [(f x).enc] := by rw [List.take_succ_eq_append_getElem hlt, hx]; simp
    have hpush := hA.push (j := m + 1 + 1) (m' := m + 1 + 1 + 1) (e := (f x).enc) (Item.E.st _) (Item.E.len _) (by omega) (by omega)
    rw [← htk] at hpush
    generalize hes : ((l.take k).map f).map Item.enc = es at hA htk hlen ⊢
    simp only [List.getElem?_map] at hgx
    simp [go_sem, hlt, hx, Item.enc_eq, hset_at, -List.map_map, -List.map_take]
    refine PC.use (by simpa [Item.enc_eq] using H) ?_
    simp [go_sem, -List.map_map, -List.map_take]
    rw [app1g (es := es) (e := (f x).enc) (o := o) (t := 22) (t2 := 22) (el := 70) (z := 11) (by simp [go_sem]) (by simp [go_sem]) (by simp [go_sem]) (by simp) (by simp [go_sem]) (by simp [go_sem]) (by simp [go_sem]) (by omega) hA (Item.E.len _) ?a1 ?a2]
    case a1 => simp [hset_at, Item.enc_eq, SV.cells]
    case a2 =>
      intro j e
      have := (hA.lt j e).2
      rw [hset_ne _ _ (by omega), hset_ne _ _ (by omega), hset_ne _ _ (by omega)]; exact acc_at j e
    simp [go_sem, w1, -Int.natCast_add, -List.map_map, -List.map_take]
    refine ⟨k + 1, by omega, some (m + 1 + 1), ⟨by omega, by omega, hpush⟩, ⟨?_, Fz.same⟩, ?_⟩
    · rw [htk]; simp [AccV, Fz.same]
    · rw [htk]
      have := acc_live (p := m + 1 + 1) (v := .sl (m + 1 + 1) 0 11 (es.length + 1) false) (e := (f x).enc) ho (by omega) hA (H := hset (hset (hset (AccH o es h) m (some (.cells [.int .i64 0, .int .i64 0, .int .i64 0, .str .empty, .imm 0 [] true, .int .i64 0, .int .i64 0, .imm 0 [] true, .imm 0 [] true, .imm 0 [] true, .imm 0 [] true]))) m (some (.cells x.enc.cells))) (m + 1) (some (.cells (f x).enc.cells)))
        (hset_old ho (by omega) (hset_old ho (by omega) (hset_old ho (by omega) (AccH.old ho hA))))
      simpa [Item.enc_eq, SV.cells, Out.app] using this
  · have : k = l.length := by omega
    subst this
    simp only [List.take_length, hR] at hA ⊢
    simp [go_sem, -List.map_map, -List.map_take]
    exact .inl (acc_new ho hA look_same hnm (Nat.le_refl _))
theorem l134 (l : List Row) (hl : l.length ≤ 1048576) (g : FuncId) (a b : List SV) (f : Row → Row) (hf : ∀ (i : Nat) (h : i < l.length), PC g (a ++ [Row.enc l[i]] ++ b) (Row.enc (f l[i]))) : LC 134 [.imm 6 (l.map Row.enc) false, .fn (.func g) a b] 6 ((l.map f).map Row.enc) := by
  intro h n
  generalize hR : (l.map f).map Row.enc = R
  refine go Tryz.func134 rfl (by kernel_rfl) (by kernel_rfl) (by simp [go_sem]) fun ho => ?_
  simp [go_sem]
  refine goloop 1 (α := Nat × Option Nat) (fun q => [(1, .fn (.func g) a b), (5, AccV 6 q.2 (((l.take q.1).map f).map Row.enc)), (8, .imm 6 (l.map Row.enc) false), (9, intE l.length), (10, intE q.1)]) (fun q => AccH q.2 (((l.take q.1).map f).map Row.enc) h)
    (fun q m => q.1 ≤ l.length ∧ n ≤ m ∧ AccI n m 6 q.2 (((l.take q.1).map f).map Row.enc)) (fun q => l.length - q.1) (0, none) ?_ ?_ look_same ?_
  · simp; exact AccI.nil _ _ _
  · simp [look, AccV]
  rintro ⟨k, o⟩ m ⟨hk, hnm, hA⟩
  dsimp only at hk hA ⊢
  have hlen : (((l.take k).map f).map Row.enc).length = k := by simp; omega
  by_cases hlt : k < l.length
  · have w1 : IntKind.i64.wrap ((k : Int) + 1) = ((k + 1 : Nat) : Int) := by rw [wr64] <;> omega
    obtain ⟨x, hx⟩ : ∃ x, l[k] = x := ⟨_, rfl⟩
    have H := hf k hlt
    rw [hx] at H
    simp only [List.append_assoc, List.cons_append, List.nil_append] at H
    have hgx : (l.map Row.enc)[k]? = some x.enc := by simp [hlt, hx]
    have htk : ((l.take (k + 1)).map f).map Row.enc = ((l.take k).map f).map Row.enc ++ [(f x).enc] := by rw [List.take_succ_eq_append_getElem hlt, hx]; simp
    have hpush := hA.push (j := m + 1 + 1) (m' := m + 1 + 1 + 1) (e := (f x).enc) (Row.E.st _) (Row.E.len _) (by omega) (by omega)
    rw [← htk] at hpush
    generalize hes : ((l.take k).map f).map Row.enc = es at hA htk hlen ⊢
    simp only [List.getElem?_map] at hgx
    simp [go_sem, hlt, hx, Row.enc_eq, hset_at, -List.map_map, -List.map_take]
    refine PC.use (by simpa [Row.enc_eq] using H) ?_
    simp [go_sem, -List.map_map, -List.map_take]
    rw [app1g (es := es) (e := (f x).enc) (o := o) (t := 68) (t2 := 68) (el := 169) (z := 6) (by simp [go_sem]) (by simp [go_sem]) (by simp [go_sem]) (by simp) (by simp [go_sem]) (by simp [go_sem]) (by simp [go_sem]) (by omega) hA (Row.E.len _) ?a1 ?a2]
    case a1 => simp [hset_at, Row.enc_eq, SV.cells]
    case a2 =>
      intro j e
      have := (hA.lt j e).2
      rw [hset_ne _ _ (by omega), hset_ne _ _ (by omega), hset_ne _ _ (by omega)]; exact acc_at j e
    simp [go_sem, w1, -Int.natCast_add, -List.map_map, -List.map_take]
    refine ⟨k + 1, by omega, some (m + 1 + 1), ⟨by omega, by omega, hpush⟩, ⟨?_, Fz.same⟩, ?_⟩
    · rw [htk]; simp [AccV, Fz.same]
    · rw [htk]
      have := acc_live (p := m + 1 + 1) (v := .sl (m + 1 + 1) 0 6 (es.length + 1) false) (e := (f x).enc) ho (by omega) hA (H := hset (hset (hset (AccH o es h) m (some (.cells [.imm 0 [] true, .int .i64 0, .int .i64 0, .imm 0 [] true, .imm 0 [] true, .imm 0 [] true]))) m (some (.cells x.enc.cells))) (m + 1) (some (.cells (f x).enc.cells)))
        (hset_old ho (by omega) (hset_old ho (by omega) (hset_old ho (by omega) (AccH.old ho hA))))
      simpa [Row.enc_eq, SV.cells, Out.app] using this
  · have : k = l.length := by omega
    subst this
    simp only [List.take_length, hR] at hA ⊢
    simp [go_sem, -List.map_map, -List.map_take]
    exact .inl (acc_new ho hA look_same hnm (Nat.le_refl _))
theorem l194 (l : List Cell) (hl : l.length ≤ 1048576) (g : FuncId) (a b : List SV) (f : Cell → Cell) (hf : ∀ (i : Nat) (h : i < l.length), PC g (a ++ [Cell.enc l[i]] ++ b) (Cell.enc (f l[i]))) : LC 194 [.imm 7 (l.map Cell.enc) false, .fn (.func g) a b] 7 ((l.map f).map Cell.enc) := by
  intro h n
  generalize hR : (l.map f).map Cell.enc = R
  refine go Tryz.func194 rfl (by kernel_rfl) (by kernel_rfl) (by simp [go_sem]) fun ho => ?_
  simp [go_sem]
  refine goloop 1 (α := Nat × Option Nat) (fun q => [(1, .fn (.func g) a b), (5, AccV 7 q.2 (((l.take q.1).map f).map Cell.enc)), (8, .imm 7 (l.map Cell.enc) false), (9, intE l.length), (10, intE q.1)]) (fun q => AccH q.2 (((l.take q.1).map f).map Cell.enc) h)
    (fun q m => q.1 ≤ l.length ∧ n ≤ m ∧ AccI n m 7 q.2 (((l.take q.1).map f).map Cell.enc)) (fun q => l.length - q.1) (0, none) ?_ ?_ look_same ?_
  · simp; exact AccI.nil _ _ _
  · simp [look, AccV]
  rintro ⟨k, o⟩ m ⟨hk, hnm, hA⟩
  dsimp only at hk hA ⊢
  have hlen : (((l.take k).map f).map Cell.enc).length = k := by simp; omega
  by_cases hlt : k < l.length
  · have w1 : IntKind.i64.wrap ((k : Int) + 1) = ((k + 1 : Nat) : Int) := by rw [wr64] <;> omega
    obtain ⟨x, hx⟩ : ∃ x, l[k] = x := ⟨_, rfl⟩
    have H := hf k hlt
    rw [hx] at H
    simp only [List.append_assoc, List.cons_append, List.nil_append] at H
    have hgx : (l.map Cell.enc)[k]? = some x.enc := by simp [hlt, hx]
    have htk : ((l.take (k + 1)).map f).map Cell.enc = ((l.take k).map f).map Cell.enc ++ [(f x).enc] := by rw [List.take_succ_eq_append_getElem hlt, hx]; simp
    have hpush := hA.push (j := m + 1 + 1) (m' := m + 1 + 1 + 1) (e := (f x).enc) (Cell.E.st _) (Cell.E.len _) (by omega) (by omega)
    rw [← htk] at hpush
    generalize hes : ((l.take k).map f).map Cell.enc = es at hA htk hlen ⊢
    simp only [List.getElem?_map] at hgx
    simp [go_sem, hlt, hx, Cell.enc_eq, hset_at, -List.map_map, -List.map_take]
    refine PC.use (by simpa [Cell.enc_eq] using H) ?_
    simp [go_sem, -List.map_map, -List.map_take]
    rw [app1g (es := es) (e := (f x).enc) (o := o) (t := 167) (t2 := 167) (el := 171) (z := 7) (by simp [go_sem]) (by simp [go_sem]) (by simp [go_sem]) (by simp) (by simp [go_sem]) (by simp [go_sem]) (by simp [go_sem]) (by omega) hA (Cell.E.len _) ?a1 ?a2]
    case a1 => simp [hset_at, Cell.enc_eq, SV.cells]
    case a2 =>
      intro j e
      have := (hA.lt j e).2
      rw [hset_ne _ _ (by omega), hset_ne _ _ (by omega), hset_ne _ _ (by omega)]; exact acc_at j e
    simp [go_sem, w1, -Int.natCast_add, -List.map_map, -List.map_take]
    refine ⟨k + 1, by omega, some (m + 1 + 1), ⟨by omega, by omega, hpush⟩, ⟨?_, Fz.same⟩, ?_⟩
    · rw [htk]; simp [AccV, Fz.same]
    · rw [htk]
      have := acc_live (p := m + 1 + 1) (v := .sl (m + 1 + 1) 0 7 (es.length + 1) false) (e := (f x).enc) ho (by omega) hA (H := hset (hset (hset (AccH o es h) m (some (.cells [.int .i64 0, .imm 0 [] true, .int .i64 0, .int .i64 0, .imm 0 [] true, .imm 0 [] true, .imm 0 [] true]))) m (some (.cells x.enc.cells))) (m + 1) (some (.cells (f x).enc.cells)))
        (hset_old ho (by omega) (hset_old ho (by omega) (hset_old ho (by omega) (AccH.old ho hA))))
      simpa [Cell.enc_eq, SV.cells, Out.app] using this
  · have : k = l.length := by omega
    subst this
    simp only [List.take_length, hR] at hA ⊢
    simp [go_sem, -List.map_map, -List.map_take]
    exact .inl (acc_new ho hA look_same hnm (Nat.le_refl _))
theorem c110_of (l : List Item) (hl : l.length ≤ 1048576) (H : ∀ (i : Nat) (h : i < l.length), PC 175 [(l[i]).enc] (l[i]).enc) : PC 110 [itemsE l] (itemsE l) := by
  intro h n
  refine go Tryz.func110 rfl (by kernel_rfl) (by kernel_rfl) (by simp [go_sem]) fun ho => ?_
  simp [go_sem]
  have h1 := (l174 l hl 175 [] [] id (fun i hi => H i hi)).pc (by rw [List.map_id]; exact Item.E.size l) (fun n => by rw [List.map_id]; exact Item.E.closedL n l)
  rw [List.map_id] at h1
  refine h1.use ?_
  simp [go_sem]
  exact ret0 ho (Item.E.imm _ _ _ _) rfl
theorem c249_of (x : Cell) (hs : x.head.sized) (H : PC 110 [itemsE x.flow] (itemsE x.flow)) : PC 249 [x.enc] x.enc := by
  intro h n
  refine go Tryz.func249 rfl (by kernel_rfl) (by kernel_rfl) (by simp [go_sem]) fun ho => ?_
  simp [go_sem, Cell.enc_eq, hset_at, hset_ne]
  repeat first | refine nd (by kernel_rfl) ?_ | refine sd (by kernel_rfl) ?_ | refine And.intro (by omega) ?_
  refine CallD.pure _ _ _ _ _ _ (by simpa [Head.enc, Head.flat] using c118 x.head hs) ?_
  simp [go_sem, hset_at, hset_ne]
  repeat first | refine nd (by kernel_rfl) ?_ | refine sd (by kernel_rfl) ?_ | refine And.intro (by omega) ?_
  refine CallD.pure _ _ _ _ _ _ H ?_
  simp [go_sem, hset_at]
  repeat first | refine nd (by kernel_rfl) ?_ | refine sd (by kernel_rfl) ?_ | refine And.intro (by omega) ?_
  exact retIs ho (by repeat (first | exact look_same | refine hset_old ho (by omega) ?_)) rfl (by rw [← Cell.enc_eq]; exact Cell.cl n x)
theorem c176_of (x : Row) (hs : x.head.sized) (hc : x.cells.length ≤ 1048576) (H : ∀ (i : Nat) (h : i < x.cells.length), PC 249 [(x.cells[i]).enc] (x.cells[i]).enc) : PC 176 [x.enc] x.enc := by
  intro h n
  refine go Tryz.func176 rfl (by kernel_rfl) (by kernel_rfl) (by simp [go_sem]) fun ho => ?_
  have h1 := (l194 x.cells hc 249 [] [] id (fun i hi => H i hi)).pc (by rw [List.map_id]; exact Cell.E.size _) (fun n => by rw [List.map_id]; exact Cell.E.closedL n _)
  rw [List.map_id] at h1
  simp [go_sem, Row.enc_eq, hset_at, hset_ne]
  repeat first | refine nd (by kernel_rfl) ?_ | refine sd (by kernel_rfl) ?_ | refine And.intro (by omega) ?_
  refine CallD.pure _ _ _ _ _ _ (by simpa [Head.enc, Head.flat] using c118 x.head hs) ?_
  simp [go_sem, hset_at, hset_ne]
  repeat first | refine nd (by kernel_rfl) ?_ | refine sd (by kernel_rfl) ?_ | refine And.intro (by omega) ?_
  refine CallD.pure _ _ _ _ _ _ h1 ?_
  simp [go_sem, hset_at]
  repeat first | refine nd (by kernel_rfl) ?_ | refine sd (by kernel_rfl) ?_ | refine And.intro (by omega) ?_
  exact retIs ho (by repeat (first | exact look_same | refine hset_old ho (by omega) ?_)) rfl (by rw [← Row.enc_eq]; exact Row.cl n x)
theorem c175_of (x : Item) (hs : x.head.sized) (hr : x.rows.length ≤ 1048576) (H : PC 110 [itemsE x.flow] (itemsE x.flow)) (H2 : ∀ (i : Nat) (h : i < x.rows.length), PC 176 [(x.rows[i]).enc] (x.rows[i]).enc) : PC 175 [x.enc] x.enc := by
  intro h n
  refine go Tryz.func175 rfl (by kernel_rfl) (by kernel_rfl) (by simp [go_sem]) fun ho => ?_
  have h1 := (l134 x.rows hr 176 [] [] id (fun i hi => H2 i hi)).pc (by rw [List.map_id]; exact Row.E.size _) (fun n => by rw [List.map_id]; exact Row.E.closedL n _)
  rw [List.map_id] at h1
  simp [go_sem, Item.enc_eq, hset_at, hset_ne]
  repeat first | refine nd (by kernel_rfl) ?_ | refine sd (by kernel_rfl) ?_ | refine And.intro (by omega) ?_
  refine CallD.pure _ _ _ _ _ _ (by simpa [Head.enc, Head.flat] using c118 x.head hs) ?_
  simp [go_sem, hset_at, hset_ne]
  repeat first | refine nd (by kernel_rfl) ?_ | refine sd (by kernel_rfl) ?_ | refine And.intro (by omega) ?_
  refine CallD.pure _ _ _ _ _ _ H ?_
  simp [go_sem, hset_at, hset_ne]
  repeat first | refine nd (by kernel_rfl) ?_ | refine sd (by kernel_rfl) ?_ | refine And.intro (by omega) ?_
  refine CallD.pure _ _ _ _ _ _ h1 ?_
  simp [go_sem, hset_at, hset_ne]
  repeat first | refine nd (by kernel_rfl) ?_ | refine sd (by kernel_rfl) ?_ | refine And.intro (by omega) ?_
  exact retIs ho (by repeat (first | exact look_same | refine hset_old ho (by omega) ?_)) rfl (by rw [← Item.enc_eq]; exact Item.cl n x)
mutual
theorem c175 : ∀ x : Item, x.sized → PC 175 [x.enc] x.enc
  | .mk k c i t hd f r, hs => by
    rw [Item.sized] at hs
    exact c175_of (.mk k c i t hd f r) hs.2.1 hs.2.2.2.1 (c110_of f hs.2.2.1 (c175L f hs.2.2.2.2.1)) (c176L r hs.2.2.2.2.2)
theorem c175L : ∀ l : List Item, Item.sizedL l → ∀ (i : Nat) (h : i < l.length), PC 175 [(l[i]).enc] (l[i]).enc
  | [], _, i, h => by simp at h
  | x :: l, hs, 0, _ => by rw [Item.sizedL] at hs; exact c175 x hs.1
  | x :: l, hs, i + 1, h => by rw [Item.sizedL] at hs; exact c175L l hs.2 i (by simpa using h)
theorem c176 : ∀ x : Row, x.sized → PC 176 [x.enc] x.enc
  | .mk hd c, hs => by
    rw [Row.sized] at hs
    exact c176_of (.mk hd c) hs.1 hs.2.1 (c249L c hs.2.2)
theorem c176L : ∀ l : List Row, Row.sizedL l → ∀ (i : Nat) (h : i < l.length), PC 176 [(l[i]).enc] (l[i]).enc
  | [], _, i, h => by simp at h
  | x :: l, hs, 0, _ => by rw [Row.sizedL] at hs; exact c176 x hs.1
  | x :: l, hs, i + 1, h => by rw [Row.sizedL] at hs; exact c176L l hs.2 i (by simpa using h)
theorem c249 : ∀ x : Cell, x.sized → PC 249 [x.enc] x.enc
  | .mk i hd f, hs => by
    rw [Cell.sized] at hs
    exact c249_of (.mk i hd f) hs.1 (c110_of f hs.2.1 (c175L f hs.2.2))
theorem c249L : ∀ l : List Cell, Cell.sizedL l → ∀ (i : Nat) (h : i < l.length), PC 249 [(l[i]).enc] (l[i]).enc
  | [], _, i, h => by simp at h
  | x :: l, hs, 0, _ => by rw [Cell.sizedL] at hs; exact c249 x hs.1
  | x :: l, hs, i + 1, h => by rw [Cell.sizedL] at hs; exact c249L l hs.2 i (by simpa using h)
end
theorem c110 (l : List Item) (hl : l.length ≤ 1048576) (hs : Item.sizedL l) : PC 110 [itemsE l] (itemsE l) := c110_of l hl (c175L l hs)
def Item.units (x : Item) : Int := if x.kind = 1 then (if cpValid x.text then cpHeads x.text x.text.size else 0) else 1
def Item.uerr (x : Item) : Int := if x.kind = 1 then (if cpValid x.text then 0 else 12) else 0
theorem Item.units_le (x : Item) (h : x.text.size ≤ 1048576) : 0 ≤ x.units ∧ x.units ≤ 1048576 := by
  unfold Item.units
  have := cpHeads_le x.text x.text.size
  split <;> (try split) <;> omega
theorem c111 (x : Item) (hs : x.text.size ≤ 1048576) : PC 111 [x.enc] (.tup [intE x.units, intE x.uerr]) := by
  intro h n
  refine go Tryz.func111 rfl (by kernel_rfl) (by kernel_rfl) (by simp [go_sem]) fun ho => ?_
  by_cases h1 : x.kind = 1
  · simp [go_sem, Item.enc_eq, hset_at, h1]
    refine (c177 x.text (by omega)).use ?_
    simp [go_sem]
    exact retIs ho (hset_old ho (Nat.le_refl _) look_same) (by simp [Item.units, Item.uerr, h1]) rfl
  · simp [go_sem, Item.enc_eq, hset_at, h1]
    exact retIs ho (hset_old ho (Nat.le_refl _) look_same) (by simp [Item.units, Item.uerr, h1]) rfl
def unitsL : List Item → Int
  | [] => 0
  | x :: l => x.units + unitsL l
def uerrL (l : List Item) : Bool := l.any fun x => decide (x.uerr ≠ 0)
theorem unitsL_append : ∀ (a b : List Item), unitsL (a ++ b) = unitsL a + unitsL b
  | [], b => by simp [unitsL]
  | x :: a, b => by simp [unitsL, unitsL_append a b]; omega
theorem unitsL_le : ∀ (l : List Item), (∀ x ∈ l, x.text.size ≤ 1048576) → 0 ≤ unitsL l ∧ unitsL l ≤ l.length * 1048576
  | [], _ => by simp [unitsL]
  | x :: l, h => by
    have h1 := unitsL_le l fun y hy => h y (by simp [hy])
    have h2 := x.units_le (h x (by simp))
    simp only [unitsL, List.length_cons]
    omega
def runLen (l : List Item) : Int × Int := if uerrL l then (0, 12) else (unitsL l, 0)
theorem c35 (l : List Item) (hl : l.length ≤ 1048576) (hs : ∀ x ∈ l, x.text.size ≤ 1048576) : PC 35 [itemsE l] (.tup [intE (runLen l).1, intE (runLen l).2]) := by
  intro h n
  refine go Tryz.func35 rfl (by kernel_rfl) (by kernel_rfl) (by simp [go_sem]) fun ho => ?_
  simp [go_sem]
  refine goloop 1 (α := Nat) (fun k => [(4, intE (unitsL (l.take k))), (9, itemsE l), (10, intE l.length), (11, intE k)]) (fun _ => h) (fun k m => k ≤ l.length ∧ n ≤ m ∧ uerrL (l.take k) = false) (fun k => l.length - k) 0 ?_ ?_ look_same ?_
  · simp [uerrL]
  · simp [look, unitsL]
  rintro k m ⟨hk, hnm, hf⟩
  by_cases hlt : k < l.length
  · have w1 : IntKind.i64.wrap ((k : Int) + 1) = ((k + 1 : Nat) : Int) := by rw [wr64] <;> omega
    obtain ⟨x, hx⟩ : ∃ x, l[k] = x := ⟨_, rfl⟩
    have hxm : x ∈ l := by rw [← hx]; exact List.getElem_mem hlt
    have hxs := hs x hxm
    have htk : l.take (k + 1) = l.take k ++ [x] := by rw [List.take_succ_eq_append_getElem hlt, hx]
    have hb1 := unitsL_le (l.take k) fun y hy => hs y (List.mem_of_mem_take hy)
    have hb2 := x.units_le hxs
    have hlk : ((l.take k).length : Int) ≤ 1048576 := by simp; omega
    have w2 : IntKind.i64.wrap (unitsL (l.take k) + x.units) = unitsL (l.take (k + 1)) := by
      rw [wr64, htk, unitsL_append]
      · simp [unitsL]
      · omega
      · have : ((l.take k).length : Int) * 1048576 ≤ 1048576 * 1048576 := by omega
        omega
    simp [go_sem, hlt, hx, Item.enc_eq, hset_at]
    refine PC.use (by simpa [Item.enc_eq] using c111 x hxs) ?_
    by_cases he : x.uerr = 0
    · simp [go_sem, he, w1, w2, -Int.natCast_add]
      refine ⟨k + 1, by omega, ⟨by omega, by omega, ?_⟩, ⟨Fz.same, Fz.same⟩, by repeat (first | exact look_same | refine hset_old ho (by omega) ?_)⟩
      rw [htk]; simp only [uerrL, List.any_append] at hf ⊢; rw [hf]; simp [he]
    · simp [go_sem, he]
      have : uerrL l = true := by simp only [uerrL, List.any_eq_true]; exact ⟨x, hxm, by simpa using he⟩
      exact retIs ho (by repeat (first | exact look_same | refine hset_old ho (by omega) ?_)) (by simp [runLen, this]) rfl
  · simp [go_sem, hlt]
    have : k = l.length := by omega
    subst this
    rw [List.take_length] at hf ⊢
    exact ret0 ho rfl (by simp [runLen, hf])
def runCheck (l : List Item) (a b : Int) : Int := if (runLen l).2 = 0 then if a < 0 ∨ b < a ∨ (runLen l).1 < b then 2 else 0 else (runLen l).2
theorem c250 (l : List Item) (a b : Int) (hl : l.length ≤ 1048576) (hs : ∀ x ∈ l, x.text.size ≤ 1048576) : PC 250 [itemsE l, intE a, intE b] (intE (runCheck l a b)) := by
  intro h n
  refine go Tryz.func250 rfl (by kernel_rfl) (by kernel_rfl) (by simp [go_sem]) fun ho => ?_
  simp [go_sem]
  refine (c35 l hl hs).use ?_
  by_cases h0 : (runLen l).2 = 0
  · by_cases h1 : a < 0
    · simp [go_sem, h0, h1]; exact ret0 ho rfl (by simp [runCheck, h0, h1])
    · by_cases h2 : b < a
      · simp [go_sem, h0, h1, h2]; exact ret0 ho rfl (by simp [runCheck, h0, h2])
      · by_cases h3 : (runLen l).1 < b <;> simp [go_sem, h0, h1, h2, h3] <;> exact ret0 ho rfl (by simp [runCheck, h0, h1, h2, h3])
  · simp [go_sem, h0]; exact ret0 ho rfl (by simp [runCheck, h0])
theorem fo193 : (fieldsOfT Tryz.prog 193).map (fun f => (f.name == "_", f.type, f.offset)) = [(false, 3, 0), (false, 3, 1)] := by kernel_rfl
theorem fo166 : (fieldsOfT Tryz.prog 166).map (fun f => (f.name == "_", f.type, f.offset)) = [(false, 3, 0), (false, 3, 1)] := by kernel_rfl
theorem fo164 : (fieldsOfT Tryz.prog 164).map (fun f => (f.name == "_", f.type, f.offset)) = [(false, 3, 0), (false, 3, 1), (false, 3, 2), (false, 4, 3)] := by kernel_rfl
theorem eq193 (a b : Prp) : fieldsEq Tryz.prog [intE a.key, intE a.value] [intE b.key, intE b.value] (fieldsOfT Tryz.prog 193) = some (decide (a = b)) := by
  rw [fieldsEq_map, fo193]
  cases a; cases b
  rename_i a1 a2 b1 b2
  by_cases h1 : a1 = b1 <;> by_cases h2 : a2 = b2 <;> simp [fieldsEq', cellEq, go_sem, h1, h2]
theorem eq166 (a b : Del) : fieldsEq Tryz.prog [intE a.rev, intE a.move] [intE b.rev, intE b.move] (fieldsOfT Tryz.prog 166) = some (decide (a = b)) := by
  rw [fieldsEq_map, fo166]
  cases a; cases b
  rename_i a1 a2 b1 b2
  by_cases h1 : a1 = b1 <;> by_cases h2 : a2 = b2 <;> simp [fieldsEq', cellEq, go_sem, h1, h2]
theorem eq164 (a b : Layer) : fieldsEq Tryz.prog [intE a.rev, intE a.key, intE a.before, .bool a.had] [intE b.rev, intE b.key, intE b.before, .bool b.had] (fieldsOfT Tryz.prog 164) = some (decide (a = b)) := by
  rw [fieldsEq_map, fo164]
  cases a; cases b
  rename_i a1 a2 a3 a4 b1 b2 b3 b4
  by_cases h1 : a1 = b1 <;> by_cases h2 : a2 = b2 <;> by_cases h3 : a3 = b3 <;> by_cases h4 : a4 = b4 <;> simp [fieldsEq', cellEq, go_sem, h1, h2, h3, h4]
theorem c125 (a b : List Prp) (ha : a.length ≤ 1048576) (hb : b.length ≤ 1048576) : PC 125 [.imm 2 (a.map Prp.enc) false, .imm 2 (b.map Prp.enc) false] (.bool (decide (a = b))) := by
  intro h n
  refine go Tryz.func125 rfl (by kernel_rfl) (by kernel_rfl) (by simp [go_sem]) fun ho => ?_
  by_cases hlen : (a.length : Int) = b.length
  · have hlen' : a.length = b.length := by omega
    simp [go_sem, hlen]
    refine goloop 1 (α := Nat) (fun k => [(0, .imm 2 (a.map Prp.enc) false), (1, .imm 2 (b.map Prp.enc) false), (12, intE a.length), (13, intE k)]) (fun _ => h) (fun k m => k ≤ a.length ∧ n ≤ m ∧ a.take k = b.take k) (fun k => a.length - k) 0 ?_ ?_ look_same ?_
    · simp
    · simp [look, hlen]
    rintro k m ⟨hk, hnm, hf⟩
    by_cases hlt : k < a.length
    · have w1 : IntKind.i64.wrap ((k : Int) + 1) = ((k + 1 : Nat) : Int) := by rw [wr64] <;> omega
      have hlt2 : k < b.length := by omega
      obtain ⟨x, hx⟩ : ∃ x, a[k] = x := ⟨_, rfl⟩
      obtain ⟨y, hy⟩ : ∃ y, b[k] = y := ⟨_, rfl⟩
      simp [go_sem, hlt, hlt2, hx, hy, Prp.enc]
      repeat first | refine nd (by kernel_rfl) ?_ | refine sd (by kernel_rfl) ?_ | refine And.intro (by omega) ?_
      refine ⟨_, sem_structEq rfl (.inr rfl) (by kernel_rfl) (by kernel_rfl) (by kernel_rfl) rfl rfl (eq193 x y), ?_⟩
      simp [go_sem]
      repeat first | refine nd (by kernel_rfl) ?_ | refine sd (by kernel_rfl) ?_ | refine And.intro (by omega) ?_
      by_cases he : x = y
      · simp [go_sem, he, w1, -Int.natCast_add]
        exact ⟨k + 1, by omega, ⟨by omega, hnm, by rw [List.take_succ_eq_append_getElem hlt, List.take_succ_eq_append_getElem hlt2, hx, hy, hf, he]⟩, Fz.same⟩
      · simp [go_sem, he]
        have : a ≠ b := by rintro rfl; exact he (by rw [← hx, ← hy])
        exact ret0 ho rfl (by simp [this])
    · simp [go_sem, hlt]
      have : a = b := by rw [List.take_of_length_le (by omega), List.take_of_length_le (by omega)] at hf; exact hf
      exact ret0 ho rfl (by simp [this])
  · simp [go_sem, hlen]
    have : a ≠ b := by rintro rfl; exact hlen rfl
    exact ret0 ho rfl (by simp [this])
theorem c126 (a b : List Del) (ha : a.length ≤ 1048576) (hb : b.length ≤ 1048576) : PC 126 [.imm 2 (a.map Del.enc) false, .imm 2 (b.map Del.enc) false] (.bool (decide (a = b))) := by
  intro h n
  refine go Tryz.func126 rfl (by kernel_rfl) (by kernel_rfl) (by simp [go_sem]) fun ho => ?_
  by_cases hlen : (a.length : Int) = b.length
  · have hlen' : a.length = b.length := by omega
    simp [go_sem, hlen]
    refine goloop 1 (α := Nat) (fun k => [(0, .imm 2 (a.map Del.enc) false), (1, .imm 2 (b.map Del.enc) false), (12, intE a.length), (13, intE k)]) (fun _ => h) (fun k m => k ≤ a.length ∧ n ≤ m ∧ a.take k = b.take k) (fun k => a.length - k) 0 ?_ ?_ look_same ?_
    · simp
    · simp [look, hlen]
    rintro k m ⟨hk, hnm, hf⟩
    by_cases hlt : k < a.length
    · have w1 : IntKind.i64.wrap ((k : Int) + 1) = ((k + 1 : Nat) : Int) := by rw [wr64] <;> omega
      have hlt2 : k < b.length := by omega
      obtain ⟨x, hx⟩ : ∃ x, a[k] = x := ⟨_, rfl⟩
      obtain ⟨y, hy⟩ : ∃ y, b[k] = y := ⟨_, rfl⟩
      simp [go_sem, hlt, hlt2, hx, hy, Del.enc]
      repeat first | refine nd (by kernel_rfl) ?_ | refine sd (by kernel_rfl) ?_ | refine And.intro (by omega) ?_
      refine ⟨_, sem_structEq rfl (.inr rfl) (by kernel_rfl) (by kernel_rfl) (by kernel_rfl) rfl rfl (eq166 x y), ?_⟩
      simp [go_sem]
      repeat first | refine nd (by kernel_rfl) ?_ | refine sd (by kernel_rfl) ?_ | refine And.intro (by omega) ?_
      by_cases he : x = y
      · simp [go_sem, he, w1, -Int.natCast_add]
        exact ⟨k + 1, by omega, ⟨by omega, hnm, by rw [List.take_succ_eq_append_getElem hlt, List.take_succ_eq_append_getElem hlt2, hx, hy, hf, he]⟩, Fz.same⟩
      · simp [go_sem, he]
        have : a ≠ b := by rintro rfl; exact he (by rw [← hx, ← hy])
        exact ret0 ho rfl (by simp [this])
    · simp [go_sem, hlt]
      have : a = b := by rw [List.take_of_length_le (by omega), List.take_of_length_le (by omega)] at hf; exact hf
      exact ret0 ho rfl (by simp [this])
  · simp [go_sem, hlen]
    have : a ≠ b := by rintro rfl; exact hlen rfl
    exact ret0 ho rfl (by simp [this])
theorem c127 (a b : List Layer) (ha : a.length ≤ 1048576) (hb : b.length ≤ 1048576) : PC 127 [.imm 4 (a.map Layer.enc) false, .imm 4 (b.map Layer.enc) false] (.bool (decide (a = b))) := by
  intro h n
  refine go Tryz.func127 rfl (by kernel_rfl) (by kernel_rfl) (by simp [go_sem]) fun ho => ?_
  by_cases hlen : (a.length : Int) = b.length
  · have hlen' : a.length = b.length := by omega
    simp [go_sem, hlen]
    refine goloop 1 (α := Nat) (fun k => [(0, .imm 4 (a.map Layer.enc) false), (1, .imm 4 (b.map Layer.enc) false), (12, intE a.length), (13, intE k)]) (fun _ => h) (fun k m => k ≤ a.length ∧ n ≤ m ∧ a.take k = b.take k) (fun k => a.length - k) 0 ?_ ?_ look_same ?_
    · simp
    · simp [look, hlen]
    rintro k m ⟨hk, hnm, hf⟩
    by_cases hlt : k < a.length
    · have w1 : IntKind.i64.wrap ((k : Int) + 1) = ((k + 1 : Nat) : Int) := by rw [wr64] <;> omega
      have hlt2 : k < b.length := by omega
      obtain ⟨x, hx⟩ : ∃ x, a[k] = x := ⟨_, rfl⟩
      obtain ⟨y, hy⟩ : ∃ y, b[k] = y := ⟨_, rfl⟩
      simp [go_sem, hlt, hlt2, hx, hy, Layer.enc]
      repeat first | refine nd (by kernel_rfl) ?_ | refine sd (by kernel_rfl) ?_ | refine And.intro (by omega) ?_
      refine ⟨_, sem_structEq rfl (.inr rfl) (by kernel_rfl) (by kernel_rfl) (by kernel_rfl) rfl rfl (eq164 x y), ?_⟩
      simp [go_sem]
      repeat first | refine nd (by kernel_rfl) ?_ | refine sd (by kernel_rfl) ?_ | refine And.intro (by omega) ?_
      by_cases he : x = y
      · simp [go_sem, he, w1, -Int.natCast_add]
        exact ⟨k + 1, by omega, ⟨by omega, hnm, by rw [List.take_succ_eq_append_getElem hlt, List.take_succ_eq_append_getElem hlt2, hx, hy, hf, he]⟩, Fz.same⟩
      · simp [go_sem, he]
        have : a ≠ b := by rintro rfl; exact he (by rw [← hx, ← hy])
        exact ret0 ho rfl (by simp [this])
    · simp [go_sem, hlt]
      have : a = b := by rw [List.take_of_length_le (by omega), List.take_of_length_le (by omega)] at hf; exact hf
      exact ret0 ho rfl (by simp [this])
  · simp [go_sem, hlen]
    have : a ≠ b := by rintro rfl; exact hlen rfl
    exact ret0 ho rfl (by simp [this])
theorem c58 (a b : Head) (ha : a.sized) (hb : b.sized) : PC 58 [a.enc, b.enc] (.bool (decide (a = b))) := by
  intro h n
  refine go Tryz.func58 rfl (by kernel_rfl) (by kernel_rfl) (by simp [go_sem]) fun ho => ?_
  have hh : ∀ y z, ∀ o x, h o = some x → hset (hset h n y) (n + 1) z o = some x := fun y z => by repeat (first | exact look_same | refine hset_old ho (by omega) ?_)
  simp [go_sem, Head.enc, Head.flat, hset_at, hset_ne]
  refine (c125 _ _ ha.props hb.props).use ?_
  by_cases h1 : a.props = b.props
  · by_cases h2 : a.ins = b.ins
    · by_cases h3 : a.move = b.move
      · simp [go_sem, h1, h2, h3, hset_at, hset_ne]
        refine (c126 _ _ ha.dels hb.dels).use ?_
        by_cases h4 : a.dels = b.dels
        · simp [go_sem, h4, hset_at, hset_ne]
          refine (c127 _ _ ha.layers hb.layers).use ?_
          simp [go_sem]
          refine retIs ho (hh _ _) ?_ rfl
          cases a; cases b; simp at h1 h2 h3 h4; simp [h1, h2, h3, h4]
        · simp [go_sem, h4]
          refine retIs ho (hh _ _) ?_ rfl
          have : a ≠ b := by rintro rfl; exact h4 rfl
          simp [this]
      · simp [go_sem, h1, h2, h3, hset_at, hset_ne]
        refine retIs ho (hh _ _) ?_ rfl
        have : a ≠ b := by rintro rfl; exact h3 rfl
        simp [this]
    · simp [go_sem, h1, h2, hset_at, hset_ne]
      refine retIs ho (hh _ _) ?_ rfl
      have : a ≠ b := by rintro rfl; exact h2 rfl
      simp [this]
  · simp [go_sem, h1]
    refine retIs ho (hh _ _) ?_ rfl
    have : a ≠ b := by rintro rfl; exact h1 rfl
    simp [this]
theorem indexP_none {p : Nat → Bool} {n k : Nat} (e : indexP p n k = -1) : ∀ i, k ≤ i → i < n → p i = false := by
  intro i hk hi
  rw [indexP] at e
  rw [dif_pos (by omega)] at e
  by_cases hp : p k = true
  · rw [if_pos hp] at e; omega
  · rw [if_neg hp] at e
    by_cases h : i = k
    · subst h; simpa using hp
    · exact indexP_none e i (by omega) hi
termination_by n - k
theorem indexP_some {p : Nat → Bool} {n k i0 : Nat} (e : indexP p n k = i0) : ∀ i, k ≤ i → i < i0 → p i = false := by
  intro i hk hi
  rw [indexP] at e
  split at e
  · by_cases hp : p k = true
    · rw [if_pos hp] at e; omega
    · rw [if_neg hp] at e
      by_cases h : i = k
      · subst h; simpa using hp
      · exact indexP_some e i (by omega) hi
  · omega
termination_by n - k
def keepL {α : Type} (p : α → Bool) (l : List α) (i : Nat) : List α := ((l.take i).filter fun x => !p x) ++ l.drop ((l.take i).filter fun x => !p x).length
theorem d133 (l : List Row) (hl : l.length ≤ 1048576) (g : FuncId) (a b : List SV) (p : Row → Bool) (hp : ∀ x ∈ l, PC g (a ++ [x.enc] ++ b) (.bool (p x))) {H : Hp} {n o : Nat} {full : Bool} (hH : H o = some (.cells ((l.map Row.enc).flatMap SV.cells))) :
    SCall Tryz.prog 133 [.sl o 0 6 l.length full, .fn (.func g) a b] H n (fun v h' n' => v = .imm 6 ((l.filter fun x => !p x).map Row.enc) false ∧ h' = hset H o none ∧ n' = n) := by
  refine go Tryz.func133 rfl (by kernel_rfl) (by kernel_rfl) (by simp [go_sem]) fun ho => ?_
  have hon : o < n := (ho o _ hH).1
  have hI := c193 l hl g a b (fun i => match l[i]? with | some x => p x | none => false) (fun i hi => by simpa [hi] using hp l[i] (List.getElem_mem hi))
  have fin : ∀ (kp : List Row) (h' : Hp) (n' : Nat) (cs : List SV) (f2 : Bool), (l.filter fun x => !p x) = kp → (∀ j y, j ≠ o → H j = some y → h' j = some y) → h' o = some (.cells cs) → kp.length * 6 ≤ cs.length → cs.take (kp.length * 6) = (kp.map Row.enc).flatMap SV.cells →
      RetS n h' n' (.sl o 0 6 kp.length f2) (fun v h' n' => v = .imm 6 ((l.filter fun x => !p x).map Row.enc) false ∧ h' = hset H o none ∧ n' = n) := fun kp h' n' cs f2 hk hh hc h1 h2 => by
    refine .inr ⟨1, .imm 6 (kp.map Row.enc) false, hset H o none, .inr ⟨hset_at _ _ _, by simp, by simp, rfl, cs, (kp.map Row.enc).flatMap SV.cells, hc, by simp [takeN, h1, h2], Row.E.size kp, ?_⟩, Row.E.imm _ _ _ _, fun j y e => ?_, by rw [hk], rfl, rfl⟩
    · have : ∀ l : List SV, All2 (Fz h' (hset H o none) 0) l l := by
        intro l; induction l with
        | nil => trivial
        | cons a l ih => exact ⟨Fz.same, ih⟩
      exact this _
    · by_cases e1 : j = o
      · subst e1; rw [hset_at] at e; cases e
      · rw [hset_ne _ _ e1] at e; exact ⟨hh j y e1 e, ho j y e⟩
  simp [go_sem]
  refine hI.lend 2 rfl ⟨?_, Fz.same, trivial⟩ ?_
  · have := sl_fz (h' := H) (h := fun _ => none) (k := 1) (z := 6) (es := l.map Row.enc) (full := full) (full' := false) (o := o) rfl (by simp) hH (Row.E.size l)
    rw [List.length_map] at this; exact this
  rcases indexP_range (fun i => match l[i]? with | some x => p x | none => false) l.length 0 with e | ⟨i0, _, hi0, e, hpi⟩
  · simp [go_sem, e]
    have hall : (l.filter fun x => !p x) = l := List.filter_eq_self.2 fun x hx => by
      obtain ⟨i, hi, rfl⟩ := List.getElem_of_mem hx
      have := indexP_none e i (Nat.zero_le _) hi
      simpa [hi] using this
    exact fin l H n _ full hall (fun j y _ e => e) hH (by rw [flat_len (Row.E.size l), List.length_map]; exact Nat.le_refl _) (List.take_of_length_le (by rw [flat_len (Row.E.size l), List.length_map]; exact Nat.le_refl _))
  · have w0 : IntKind.i64.wrap ((i0 : Int) + 1) = ((i0 + 1 : Nat) : Int) := by rw [wr64] <;> omega
    have ne1 : ¬ ((i0 : Int) = -1) := by omega
    simp [go_sem, e, w0, ne1, -Int.natCast_add]
    have hpi' : p l[i0] = true := by simpa [hi0] using hpi
    have hbefore : (l.take i0).filter (fun x => !p x) = l.take i0 := List.filter_eq_self.2 fun x hx => by
      obtain ⟨i, hi, rfl⟩ := List.getElem_of_mem hx
      have hi2 : i < i0 := by simp at hi; omega
      have := indexP_some e i (Nat.zero_le _) hi2
      simpa [show i < l.length by omega] using this
    refine goloop 1 (α := Nat) (fun i => [(0, .sl o 0 6 l.length full), (1, .fn (.func g) a b), (5, intE ((l.take i).filter fun x => !p x).length), (6, intE i)]) (fun i => hset H o (some (.cells (((keepL p l i).map Row.enc).flatMap SV.cells))))
      (fun i m => i0 < i ∧ i ≤ l.length ∧ n ≤ m) (fun i => l.length - i) (i0 + 1) ?_ ?_ ?_ ?_
    · exact ⟨Nat.lt_succ_self _, hi0, Nat.le_refl _⟩
    · have : ((l.take (i0 + 1)).filter fun x => !p x).length = i0 := by
        rw [List.take_succ_eq_append_getElem hi0, List.filter_append, hbefore]; simp [hpi']; omega
      simp [look, this, -Int.natCast_add]
    · have : keepL p l (i0 + 1) = l := by
        unfold keepL
        rw [List.take_succ_eq_append_getElem hi0, List.filter_append, hbefore]; simp [hpi', Nat.min_eq_left (Nat.le_of_lt hi0)]
      rw [this]
      intro j y e
      simp only [hset] at e
      split at e
      · rename_i h; subst h; rw [hH]; exact e
      · exact e
    rintro i m ⟨hi1, hi2, hnm⟩
    have hkl : ((l.take i).filter fun x => !p x).length < i := by
      have h1 : l.take i = l.take (i0 + 1) ++ (l.drop (i0 + 1)).take (i - (i0 + 1)) := by
        rw [← List.take_add]; congr 1; omega
      have h2 : ((l.take (i0 + 1)).filter fun x => !p x).length = i0 := by
        rw [List.take_succ_eq_append_getElem hi0, List.filter_append, hbefore]; simp [hpi']; omega
      rw [h1, List.filter_append, List.length_append, h2]
      have := List.length_filter_le (fun x => !p x) ((l.drop (i0 + 1)).take (i - (i0 + 1)))
      simp at this ⊢; omega
    have hkeep : (keepL p l i).length = l.length := by unfold keepL; simp; omega
    generalize hkp : (l.take i).filter (fun x => !p x) = kp at hkl ⊢
    have hne : o ≠ m := by omega
    have hsz := Row.E.size (keepL p l i)
    by_cases hlt : i < l.length
    · have w1 : IntKind.i64.wrap ((i : Int) + 1) = ((i + 1 : Nat) : Int) := by rw [wr64] <;> omega
      have w2 : IntKind.i64.wrap ((kp.length : Int) + 1) = ((kp.length + 1 : Nat) : Int) := by rw [wr64] <;> omega
      obtain ⟨x, hx⟩ : ∃ x, l[i] = x := ⟨_, rfl⟩
      have hget : (keepL p l i)[i]? = some x := by
        unfold keepL; rw [hkp, List.getElem?_append_right (by omega), List.getElem?_drop]
        have : kp.length + (i - kp.length) = i := by omega
        rw [this, List.getElem?_eq_getElem hlt, hx]
      obtain ⟨g1, g2⟩ := flat_get hsz (i := i) (e := x.enc) (by simp [hget])
      have hset' := flat_set hsz (j := kp.length) (e := x.enc) (by simp [hkeep]; omega)
      have g3 : kp.length * 6 + 6 ≤ (((keepL p l i).map Row.enc).flatMap SV.cells).length := by
        rw [flat_len hsz, List.length_map, hkeep]; omega
      have hcl := Row.E.len x
      generalize hF : ((keepL p l i).map Row.enc).flatMap SV.cells = F at g1 g2 g3 hset' ⊢
      have H1 := hp x (by rw [← hx]; exact List.getElem_mem hlt)
      simp only [List.append_assoc, List.cons_append, List.nil_append] at H1
      have hpre := Row.E.st x
      simp [Row.enc_eq, SV.cells] at g2
      simp [go_sem, hlt, hset_at, g1, g2]
      refine PC.use (by simpa [Row.enc_eq] using H1) ?_
      by_cases hpx : p x = true
      · simp [go_sem, hpx, w1, -Int.natCast_add]
        have hk1 : (l.take (i + 1)).filter (fun x => !p x) = kp := by rw [List.take_succ_eq_append_getElem hlt, List.filter_append, hkp, hx]; simp [hpx]
        have hk2 : keepL p l (i + 1) = keepL p l i := by unfold keepL; rw [hk1, hkp]
        refine ⟨i + 1, by omega, ⟨by omega, by omega, by omega⟩, ⟨by rw [hk1]; exact Fz.same, Fz.same⟩, fun j y e => ?_⟩
        rw [hk2, hF] at e
        by_cases e1 : j = o
        · subst e1; rw [hset_at] at e; rw [hset_ne _ _ hne, hset_ne _ _ hne, hset_at]; exact e
        · rw [hset_ne _ _ e1] at e; have := (ho j y e).1; rw [hset_ne _ _ (by omega), hset_ne _ _ (by omega), hset_ne _ _ e1]; exact e
      · have hpx' : p x = false := by simpa using hpx
        have hkl' : (kp.length : Int) < l.length := by omega
        simp [Row.enc_eq, SV.cells] at hset'
        simp [go_sem, hpx', hset_at, hset_ne, hne, hkl', g3, hset', w1, w2, -Int.natCast_add]
        have hk1 : (l.take (i + 1)).filter (fun x => !p x) = kp ++ [x] := by rw [List.take_succ_eq_append_getElem hlt, List.filter_append, hkp, hx]; simp [hpx']
        have hk2 : (keepL p l (i + 1)).map Row.enc = ((keepL p l i).map Row.enc).set kp.length x.enc := by
          have : keepL p l (i + 1) = (keepL p l i).set kp.length x := by
            unfold keepL; rw [hk1, hkp, List.set_append_right _ _ (Nat.le_refl _), Nat.sub_self]
            simp
            rw [List.drop_eq_getElem_cons (show kp.length < l.length by omega), List.set_cons_zero]
          rw [this, List.map_set]
        rw [Row.enc_eq] at hk2
        refine ⟨i + 1, by omega, ⟨by omega, by omega, by omega⟩, ⟨by rw [hk1, List.length_append]; exact Fz.same, Fz.same⟩, fun j y e => ?_⟩
        rw [hk2] at e
        by_cases e1 : j = o
        · subst e1; rw [hset_at] at e ⊢; exact e
        · rw [hset_ne _ _ e1] at e ⊢; have := (ho j y e).1; rw [hset_ne _ _ (by omega), hset_ne _ _ (by omega), hset_ne _ _ e1]; exact e
    · have : i = l.length := by omega
      subst this
      have q1 : kp.length ≤ l.length := by omega
      have q2 : ¬ ((kp.length : Int) = l.length) := by omega
      have q3 : ¬ (l.length - kp.length = 0) := by omega
      rw [List.take_length] at hkp
      have hF : ((keepL p l l.length).map Row.enc).flatMap SV.cells = (kp.map Row.enc).flatMap SV.cells ++ ((l.drop kp.length).map Row.enc).flatMap SV.cells := by unfold keepL; rw [List.take_length, hkp]; simp
      have hlk : ((kp.map Row.enc).flatMap SV.cells).length = kp.length * 6 := by rw [flat_len (Row.E.size kp), List.length_map]
      have hFl : (((keepL p l l.length).map Row.enc).flatMap SV.cells).length = l.length * 6 := by rw [flat_len hsz, List.length_map, hkeep]
      have q4 : kp.length * 6 + (l.length - kp.length) * 6 ≤ (((keepL p l l.length).map Row.enc).flatMap SV.cells).length := by rw [hFl, ← Nat.add_mul]; apply Nat.mul_le_mul_right; omega
      have htk : (((keepL p l l.length).map Row.enc).flatMap SV.cells).take (kp.length * 6) = (kp.map Row.enc).flatMap SV.cells := by rw [hF, ← hlk, List.take_left]
      generalize ((keepL p l l.length).map Row.enc).flatMap SV.cells = F at q4 htk ⊢
      simp [go_sem, hset_at, q1, q2, q3, q4]
      refine fin kp _ _ _ _ hkp (fun j y hj e => by rw [hset_ne _ _ hj, hset_ne _ _ hj]; exact e) (hset_at _ _ _) ?_ ?_
      · rw [htk, List.length_append, hlk]; omega
      · rw [htk, ← hlk, List.take_left]
theorem d75 (l : List Rev) (hl : l.length ≤ 1048576) (g : FuncId) (a b : List SV) (p : Rev → Bool) (hp : ∀ x ∈ l, PC g (a ++ [x.enc] ++ b) (.bool (p x))) {H : Hp} {n o : Nat} {full : Bool} (hH : H o = some (.cells ((l.map Rev.enc).flatMap SV.cells))) :
    SCall Tryz.prog 75 [.sl o 0 3 l.length full, .fn (.func g) a b] H n (fun v h' n' => v = .imm 3 ((l.filter fun x => !p x).map Rev.enc) false ∧ h' = hset H o none ∧ n' = n) := by
  refine go Tryz.func75 rfl (by kernel_rfl) (by kernel_rfl) (by simp [go_sem]) fun ho => ?_
  have hon : o < n := (ho o _ hH).1
  have hI := c141 l hl g a b (fun i => match l[i]? with | some x => p x | none => false) (fun i hi => by simpa [hi] using hp l[i] (List.getElem_mem hi))
  have fin : ∀ (kp : List Rev) (h' : Hp) (n' : Nat) (cs : List SV) (f2 : Bool), (l.filter fun x => !p x) = kp → (∀ j y, j ≠ o → H j = some y → h' j = some y) → h' o = some (.cells cs) → kp.length * 3 ≤ cs.length → cs.take (kp.length * 3) = (kp.map Rev.enc).flatMap SV.cells →
      RetS n h' n' (.sl o 0 3 kp.length f2) (fun v h' n' => v = .imm 3 ((l.filter fun x => !p x).map Rev.enc) false ∧ h' = hset H o none ∧ n' = n) := fun kp h' n' cs f2 hk hh hc h1 h2 => by
    refine .inr ⟨1, .imm 3 (kp.map Rev.enc) false, hset H o none, .inr ⟨hset_at _ _ _, by simp, by simp, rfl, cs, (kp.map Rev.enc).flatMap SV.cells, hc, by simp [takeN, h1, h2], Rev.E.size kp, ?_⟩, Rev.E.imm _ _ _ _, fun j y e => ?_, by rw [hk], rfl, rfl⟩
    · have : ∀ l : List SV, All2 (Fz h' (hset H o none) 0) l l := by
        intro l; induction l with
        | nil => trivial
        | cons a l ih => exact ⟨Fz.same, ih⟩
      exact this _
    · by_cases e1 : j = o
      · subst e1; rw [hset_at] at e; cases e
      · rw [hset_ne _ _ e1] at e; exact ⟨hh j y e1 e, ho j y e⟩
  simp [go_sem]
  refine hI.lend 2 rfl ⟨?_, Fz.same, trivial⟩ ?_
  · have := sl_fz (h' := H) (h := fun _ => none) (k := 1) (z := 3) (es := l.map Rev.enc) (full := full) (full' := false) (o := o) rfl (by simp) hH (Rev.E.size l)
    rw [List.length_map] at this; exact this
  rcases indexP_range (fun i => match l[i]? with | some x => p x | none => false) l.length 0 with e | ⟨i0, _, hi0, e, hpi⟩
  · simp [go_sem, e]
    have hall : (l.filter fun x => !p x) = l := List.filter_eq_self.2 fun x hx => by
      obtain ⟨i, hi, rfl⟩ := List.getElem_of_mem hx
      have := indexP_none e i (Nat.zero_le _) hi
      simpa [hi] using this
    exact fin l H n _ full hall (fun j y _ e => e) hH (by rw [flat_len (Rev.E.size l), List.length_map]; exact Nat.le_refl _) (List.take_of_length_le (by rw [flat_len (Rev.E.size l), List.length_map]; exact Nat.le_refl _))
  · have w0 : IntKind.i64.wrap ((i0 : Int) + 1) = ((i0 + 1 : Nat) : Int) := by rw [wr64] <;> omega
    have ne1 : ¬ ((i0 : Int) = -1) := by omega
    simp [go_sem, e, w0, ne1, -Int.natCast_add]
    have hpi' : p l[i0] = true := by simpa [hi0] using hpi
    have hbefore : (l.take i0).filter (fun x => !p x) = l.take i0 := List.filter_eq_self.2 fun x hx => by
      obtain ⟨i, hi, rfl⟩ := List.getElem_of_mem hx
      have hi2 : i < i0 := by simp at hi; omega
      have := indexP_some e i (Nat.zero_le _) hi2
      simpa [show i < l.length by omega] using this
    refine goloop 1 (α := Nat) (fun i => [(0, .sl o 0 3 l.length full), (1, .fn (.func g) a b), (5, intE ((l.take i).filter fun x => !p x).length), (6, intE i)]) (fun i => hset H o (some (.cells (((keepL p l i).map Rev.enc).flatMap SV.cells))))
      (fun i m => i0 < i ∧ i ≤ l.length ∧ n ≤ m) (fun i => l.length - i) (i0 + 1) ?_ ?_ ?_ ?_
    · exact ⟨Nat.lt_succ_self _, hi0, Nat.le_refl _⟩
    · have : ((l.take (i0 + 1)).filter fun x => !p x).length = i0 := by
        rw [List.take_succ_eq_append_getElem hi0, List.filter_append, hbefore]; simp [hpi']; omega
      simp [look, this, -Int.natCast_add]
    · have : keepL p l (i0 + 1) = l := by
        unfold keepL
        rw [List.take_succ_eq_append_getElem hi0, List.filter_append, hbefore]; simp [hpi', Nat.min_eq_left (Nat.le_of_lt hi0)]
      rw [this]
      intro j y e
      simp only [hset] at e
      split at e
      · rename_i h; subst h; rw [hH]; exact e
      · exact e
    rintro i m ⟨hi1, hi2, hnm⟩
    have hkl : ((l.take i).filter fun x => !p x).length < i := by
      have h1 : l.take i = l.take (i0 + 1) ++ (l.drop (i0 + 1)).take (i - (i0 + 1)) := by
        rw [← List.take_add]; congr 1; omega
      have h2 : ((l.take (i0 + 1)).filter fun x => !p x).length = i0 := by
        rw [List.take_succ_eq_append_getElem hi0, List.filter_append, hbefore]; simp [hpi']; omega
      rw [h1, List.filter_append, List.length_append, h2]
      have := List.length_filter_le (fun x => !p x) ((l.drop (i0 + 1)).take (i - (i0 + 1)))
      simp at this ⊢; omega
    have hkeep : (keepL p l i).length = l.length := by unfold keepL; simp; omega
    generalize hkp : (l.take i).filter (fun x => !p x) = kp at hkl ⊢
    have hne : o ≠ m := by omega
    have hsz := Rev.E.size (keepL p l i)
    by_cases hlt : i < l.length
    · have w1 : IntKind.i64.wrap ((i : Int) + 1) = ((i + 1 : Nat) : Int) := by rw [wr64] <;> omega
      have w2 : IntKind.i64.wrap ((kp.length : Int) + 1) = ((kp.length + 1 : Nat) : Int) := by rw [wr64] <;> omega
      obtain ⟨x, hx⟩ : ∃ x, l[i] = x := ⟨_, rfl⟩
      have hget : (keepL p l i)[i]? = some x := by
        unfold keepL; rw [hkp, List.getElem?_append_right (by omega), List.getElem?_drop]
        have : kp.length + (i - kp.length) = i := by omega
        rw [this, List.getElem?_eq_getElem hlt, hx]
      obtain ⟨g1, g2⟩ := flat_get hsz (i := i) (e := x.enc) (by simp [hget])
      have hset' := flat_set hsz (j := kp.length) (e := x.enc) (by simp [hkeep]; omega)
      have g3 : kp.length * 3 + 3 ≤ (((keepL p l i).map Rev.enc).flatMap SV.cells).length := by
        rw [flat_len hsz, List.length_map, hkeep]; omega
      have hcl := Rev.E.len x
      generalize hF : ((keepL p l i).map Rev.enc).flatMap SV.cells = F at g1 g2 g3 hset' ⊢
      have H1 := hp x (by rw [← hx]; exact List.getElem_mem hlt)
      simp only [List.append_assoc, List.cons_append, List.nil_append] at H1
      have hpre := Rev.E.st x
      simp [Rev.enc, SV.cells] at g2
      simp [go_sem, hlt, hset_at, g1, g2]
      refine PC.use (by simpa [Rev.enc] using H1) ?_
      by_cases hpx : p x = true
      · simp [go_sem, hpx, w1, -Int.natCast_add]
        have hk1 : (l.take (i + 1)).filter (fun x => !p x) = kp := by rw [List.take_succ_eq_append_getElem hlt, List.filter_append, hkp, hx]; simp [hpx]
        have hk2 : keepL p l (i + 1) = keepL p l i := by unfold keepL; rw [hk1, hkp]
        refine ⟨i + 1, by omega, ⟨by omega, by omega, by omega⟩, ⟨by rw [hk1]; exact Fz.same, Fz.same⟩, fun j y e => ?_⟩
        rw [hk2, hF] at e
        by_cases e1 : j = o
        · subst e1; rw [hset_at] at e; rw [hset_ne _ _ hne, hset_ne _ _ hne, hset_at]; exact e
        · rw [hset_ne _ _ e1] at e; have := (ho j y e).1; rw [hset_ne _ _ (by omega), hset_ne _ _ (by omega), hset_ne _ _ e1]; exact e
      · have hpx' : p x = false := by simpa using hpx
        have hkl' : (kp.length : Int) < l.length := by omega
        simp [Rev.enc, SV.cells] at hset'
        simp [go_sem, hpx', hset_at, hset_ne, hne, hkl', g3, hset', w1, w2, -Int.natCast_add]
        have hk1 : (l.take (i + 1)).filter (fun x => !p x) = kp ++ [x] := by rw [List.take_succ_eq_append_getElem hlt, List.filter_append, hkp, hx]; simp [hpx']
        have hk2 : (keepL p l (i + 1)).map Rev.enc = ((keepL p l i).map Rev.enc).set kp.length x.enc := by
          have : keepL p l (i + 1) = (keepL p l i).set kp.length x := by
            unfold keepL; rw [hk1, hkp, List.set_append_right _ _ (Nat.le_refl _), Nat.sub_self]
            simp
            rw [List.drop_eq_getElem_cons (show kp.length < l.length by omega), List.set_cons_zero]
          rw [this, List.map_set]
        rw [Rev.enc] at hk2
        refine ⟨i + 1, by omega, ⟨by omega, by omega, by omega⟩, ⟨by rw [hk1, List.length_append]; exact Fz.same, Fz.same⟩, fun j y e => ?_⟩
        rw [hk2] at e
        by_cases e1 : j = o
        · subst e1; rw [hset_at] at e ⊢; exact e
        · rw [hset_ne _ _ e1] at e ⊢; have := (ho j y e).1; rw [hset_ne _ _ (by omega), hset_ne _ _ (by omega), hset_ne _ _ e1]; exact e
    · have : i = l.length := by omega
      subst this
      have q1 : kp.length ≤ l.length := by omega
      have q2 : ¬ ((kp.length : Int) = l.length) := by omega
      have q3 : ¬ (l.length - kp.length = 0) := by omega
      rw [List.take_length] at hkp
      have hF : ((keepL p l l.length).map Rev.enc).flatMap SV.cells = (kp.map Rev.enc).flatMap SV.cells ++ ((l.drop kp.length).map Rev.enc).flatMap SV.cells := by unfold keepL; rw [List.take_length, hkp]; simp
      have hlk : ((kp.map Rev.enc).flatMap SV.cells).length = kp.length * 3 := by rw [flat_len (Rev.E.size kp), List.length_map]
      have hFl : (((keepL p l l.length).map Rev.enc).flatMap SV.cells).length = l.length * 3 := by rw [flat_len hsz, List.length_map, hkeep]
      have q4 : kp.length * 3 + (l.length - kp.length) * 3 ≤ (((keepL p l l.length).map Rev.enc).flatMap SV.cells).length := by rw [hFl, ← Nat.add_mul]; apply Nat.mul_le_mul_right; omega
      have htk : (((keepL p l l.length).map Rev.enc).flatMap SV.cells).take (kp.length * 3) = (kp.map Rev.enc).flatMap SV.cells := by rw [hF, ← hlk, List.take_left]
      generalize ((keepL p l l.length).map Rev.enc).flatMap SV.cells = F at q4 htk ⊢
      simp [go_sem, hset_at, q1, q2, q3, q4]
      refine fin kp _ _ _ _ hkp (fun j y hj e => by rw [hset_ne _ _ hj, hset_ne _ _ hj]; exact e) (hset_at _ _ _) ?_ ?_
      · rw [htk, List.length_append, hlk]; omega
      · rw [htk, ← hlk, List.take_left]
def Item.addText (y : Item) (t : ByteArray) : Item := .mk y.kind y.code y.id (y.text ++ t) y.head y.flow y.rows
def dropped (x : Item) : Prop := (x.kind = 7 ∧ x.rows = []) ∨ (x.kind = 1 ∧ x.text.size = 0)
instance (x : Item) : Decidable (dropped x) := by unfold dropped; cases h : x.rows <;> simp <;> infer_instance
def normStep (out : List Item) (x : Item) : List Item :=
  if dropped x then out else match out.getLast? with
    | some y => if x.kind = 1 ∧ y.kind = 1 ∧ y.head = x.head then out.dropLast ++ [y.addText x.text] else out ++ [x]
    | none => out ++ [x]
def foldN (l : List Item) : List Item := l.foldl normStep []
mutual
def Item.nrm : Item → Item
  | .mk k c i t h f r => .mk k c i t h (foldN (Item.nrmL f)) ((Row.nrmL r).filter fun r => !decide (r.cells.length = 0))
def Item.nrmL : List Item → List Item
  | [] => []
  | x :: l => Item.nrm x :: Item.nrmL l
def Row.nrm : Row → Row
  | .mk h c => .mk h (Cell.nrmL c)
def Row.nrmL : List Row → List Row
  | [] => []
  | x :: l => Row.nrm x :: Row.nrmL l
def Cell.nrm : Cell → Cell
  | .mk i h f => .mk i h (foldN (Item.nrmL f))
def Cell.nrmL : List Cell → List Cell
  | [] => []
  | x :: l => Cell.nrm x :: Cell.nrmL l
end
theorem Item.nrmL_eq : ∀ l : List Item, Item.nrmL l = l.map Item.nrm
  | [] => by rw [Item.nrmL]; rfl
  | x :: l => by rw [Item.nrmL, Item.nrmL_eq l]; rfl
theorem Row.nrmL_eq : ∀ l : List Row, Row.nrmL l = l.map Row.nrm
  | [] => by rw [Row.nrmL]; rfl
  | x :: l => by rw [Row.nrmL, Row.nrmL_eq l]; rfl
theorem Cell.nrmL_eq : ∀ l : List Cell, Cell.nrmL l = l.map Cell.nrm
  | [] => by rw [Cell.nrmL]; rfl
  | x :: l => by rw [Cell.nrmL, Cell.nrmL_eq l]; rfl
def runNormal (l : List Item) : List Item := foldN (Item.nrmL l)
theorem c133n (z : Nat) (full : Bool) : PC 133 [.imm z [] full, .fn (.func 136) [] []] (.imm 6 [] false) := by
  intro h n
  refine go Tryz.func133 rfl (by kernel_rfl) (by kernel_rfl) (by simp [go_sem]) fun ho => ?_
  simp [go_sem]
  have hI := (c193 [] (by simp) 136 [] [] (fun _ => false) (by simp)).wk (us := [.imm z [] full, .fn (.func 136) [] []]) 1 ⟨imm_fz (by simp), Fz.same, trivial⟩
  refine PC.use hI ?_
  have e : indexP (fun _ => false) 0 0 = -1 := by rw [indexP]; simp
  simp [go_sem, e]
  exact ret_nil ho look_same (by simp) rfl
theorem c136 (r : Row) : PC 136 [r.enc] (.bool (decide (r.cells.length = 0))) := by
  intro h n
  refine go Tryz.func136 rfl (by kernel_rfl) (by kernel_rfl) (by simp [go_sem]) fun ho => ?_
  simp [go_sem, Row.enc_eq, hset_at]
  exact retIs ho (hset_old ho (Nat.le_refl _) look_same) (by cases r.cells <;> simp; omega) rfl
theorem rows_sem {E : Env} (l : List Row) (hl : l.length ≤ 1048576) (H : ∀ (i : Nat) (h : i < l.length), PC 135 [(l[i]).enc] (Row.nrm l[i]).enc) {h : Hp} {n : Nat} {K : SV → Hp → Nat → Prop}
    (hk : ∀ v h' n', n ≤ n' → (∀ o x, h o = some x → h' o = some x) → SCallE E Tryz.prog 133 [v, .fn (.func 136) [] []] h' n' (fun v2 h2 n2 => (∀ o x, o < n → h o = some x → h2 o = some x) ∧ n ≤ n2 ∧ v2 = .imm 6 (((l.map Row.nrm).filter fun r => !decide (r.cells.length = 0)).map Row.enc) false) → K v h' n') :
    SCallE E Tryz.prog 134 [rowsE l, .fn (.func 135) [] []] h n K := by
  refine (l134 l hl 135 [] [] Row.nrm (fun i hi => H i hi)).use fun v h' n' ⟨hn, hh, hv⟩ => hk v h' n' hn hh ?_
  rcases hv with ⟨he, z', full, rfl⟩ | ⟨o, full, h1, h2, rfl, h3⟩
  · refine PC.use (c133n z' full) ⟨fun o x _ e => hh o x e, hn, ?_⟩
    have : l.map Row.nrm = [] := by simpa using he
    rw [this]; rfl
  · rw [List.length_map]
    refine SCallE.lift ((d133 (l.map Row.nrm) (by simpa using hl) 136 [] [] (fun r => decide (r.cells.length = 0)) (fun r _ => c136 r) (n := n') (full := full) h3).mono ?_)
    rintro v2 h2 n2 ⟨rfl, rfl, rfl⟩
    exact ⟨fun j x g e => by rw [hset_ne _ _ (by omega)]; exact hh j x e, hn, rfl⟩
theorem Item.nrm_fields (x : Item) : x.nrm.kind = x.kind ∧ x.nrm.code = x.code ∧ x.nrm.id = x.id ∧ x.nrm.text = x.text ∧ x.nrm.head = x.head ∧ x.nrm.flow = runNormal x.flow ∧ x.nrm.rows = (x.rows.map Row.nrm).filter fun r => !decide (r.cells.length = 0) := by
  cases x; rw [Item.nrm]; simp [Item.kind, Item.code, Item.id, Item.text, Item.head, Item.flow, Item.rows, runNormal, Row.nrmL_eq]
theorem foldN_take (l : List Item) (k : Nat) (h : k < l.length) : foldN (Item.nrmL (l.take (k + 1))) = normStep (foldN (Item.nrmL (l.take k))) l[k].nrm := by
  rw [List.take_succ_eq_append_getElem h, Item.nrmL_eq, List.map_append, foldN, List.foldl_append, Item.nrmL_eq]; rfl
theorem normStep_len (out : List Item) (x : Item) : (normStep out x).length ≤ out.length + 1 := by
  unfold normStep
  split
  · omega
  · split
    · split <;> simp
    · simp
theorem foldN_len (l : List Item) : ∀ k, k ≤ l.length → (foldN (Item.nrmL (l.take k))).length ≤ k
  | 0, _ => by simp [Item.nrmL, foldN]
  | k + 1, h => by
    rw [foldN_take l k h]
    have := normStep_len (foldN (Item.nrmL (l.take k))) l[k].nrm
    have := foldN_len l k (by omega)
    omega
theorem normStep_mem {out : List Item} {x y : Item} (h : y ∈ normStep out x) : y ∈ out ∨ y = x ∨ ∃ z ∈ out, y = z.addText x.text := by
  unfold normStep at h
  split at h
  · exact .inl h
  · split at h
    · rename_i z hz
      split at h
      · rcases List.mem_append.1 h with h | h
        · exact .inl ((List.dropLast_sublist out).subset h)
        · exact .inr (.inr ⟨z, List.mem_of_getLast? hz, List.mem_singleton.1 h⟩)
      · rcases List.mem_append.1 h with h | h
        · exact .inl h
        · exact .inr (.inl (List.mem_singleton.1 h))
    · rcases List.mem_append.1 h with h | h
      · exact .inl h
      · exact .inr (.inl (List.mem_singleton.1 h))
theorem foldN_mem (l : List Item) (hs : ∀ x ∈ l, x.head.sized ∧ x.text.size ≤ 1048576) : ∀ k, k ≤ l.length → ∀ y ∈ foldN (Item.nrmL (l.take k)), y.head.sized ∧ y.text.size ≤ k * 1048576
  | 0, _, y, hy => by simp [Item.nrmL, foldN] at hy
  | k + 1, h, y, hy => by
    rw [foldN_take l k h] at hy
    have hx := hs l[k] (List.getElem_mem h)
    obtain ⟨_, _, _, f4, f5, _, _⟩ := (l[k]).nrm_fields
    rcases normStep_mem hy with h1 | rfl | ⟨z, hz, rfl⟩
    · have := foldN_mem l hs k (by omega) y h1
      exact ⟨this.1, by omega⟩
    · rw [f4, f5]; exact ⟨hx.1, by omega⟩
    · have := foldN_mem l hs k (by omega) z hz
      refine ⟨by simpa [Item.addText, Item.head] using this.1, ?_⟩
      have e : (z.addText (l[k]).nrm.text).text.size = z.text.size + (l[k]).text.size := by show (z.text ++ (l[k]).nrm.text).size = _; rw [ByteArray.size_append, f4]
      omega
theorem ba_empty (s : ByteArray) : (s.toList == ByteArray.empty.toList) = decide (s.size = 0) := by
  rw [← beq_toListBytes]
  by_cases h : s.size = 0
  · have : s = ByteArray.empty := by
      obtain ⟨⟨l⟩⟩ := s
      cases l with
      | nil => rfl
      | cons a l => simp [ByteArray.size] at h
    subst this; rfl
  · have : s ≠ ByteArray.empty := by rintro rfl; exact h rfl
    have e : (s == ByteArray.empty) = false := by
      rw [Bool.eq_false_iff]; intro e; exact this ((ba_beq _ _).1 e)
    rw [e]; simp [h]
theorem ba_nil (s : ByteArray) : s.toList = [] ↔ s.size = 0 := by
  have h := ba_empty s
  have e : ByteArray.empty.toList = [] := by
    have := ba_empty ByteArray.empty
    rw [ByteArray.toList_eq]; rfl
  rw [e] at h
  constructor
  · intro g; rw [g] at h; simpa using h.symm
  · intro g; rw [decide_eq_true g] at h; simpa using h
set_option maxHeartbeats 4000000 in
theorem c73_of (l : List Item) (hl : l.length ≤ 1048576) (hs : ∀ x ∈ l, x.head.sized ∧ x.text.size ≤ 1048576 ∧ x.rows.length ≤ 1048576)
    (H1 : ∀ x ∈ l, PC 73 [itemsE x.flow] (itemsE (runNormal x.flow))) (H2 : ∀ x ∈ l, ∀ (i : Nat) (h : i < x.rows.length), PC 135 [(x.rows[i]).enc] (Row.nrm x.rows[i]).enc) : LC 73 [itemsE l] 11 ((runNormal l).map Item.enc) := by
  intro h n
  refine go Tryz.func73 rfl (by kernel_rfl) (by kernel_rfl) (by simp [go_sem]) fun ho => ?_
  simp [go_sem]
  refine goloop 2 (α := Nat × Option Nat) (fun q => [(3, AccV 11 q.2 ((foldN (Item.nrmL (l.take q.1))).map Item.enc)), (7, itemsE l), (8, intE l.length), (9, intE q.1)]) (fun q => AccH q.2 ((foldN (Item.nrmL (l.take q.1))).map Item.enc) h)
    (fun q m => q.1 ≤ l.length ∧ n ≤ m ∧ AccI n m 11 q.2 ((foldN (Item.nrmL (l.take q.1))).map Item.enc)) (fun q => l.length - q.1) (0, none) ?_ ?_ look_same ?_
  · exact ⟨Nat.zero_le _, Nat.le_refl _, by simp [Item.nrmL, foldN]; exact AccI.nil _ _ _⟩
  · simp [look, AccV]
  rintro ⟨k, o⟩ m ⟨hk, hnm, hA⟩
  dsimp only at hk hA ⊢
  by_cases hlt : k < l.length
  · have w1 : IntKind.i64.wrap ((k : Int) + 1) = ((k + 1 : Nat) : Int) := by rw [wr64] <;> omega
    obtain ⟨x, hx⟩ : ∃ x, l[k] = x := ⟨_, rfl⟩
    have hxm : x ∈ l := by rw [← hx]; exact List.getElem_mem hlt
    obtain ⟨hxh, hxt, hxr⟩ := hs x hxm
    have hft := foldN_take l k hlt
    rw [hx] at hft
    obtain ⟨f1, f2, f3, f4, f5, f6, f7⟩ := x.nrm_fields
    have hfl := foldN_len l k hk
    generalize hys : foldN (Item.nrmL (l.take k)) = ys at hA hft hfl ⊢
    have hlo : ∀ j, o = some j → j < m := fun j e => (hA.lt j e).2
    simp [go_sem, hlt, hx, Item.enc_eq, hset_at]
    refine PC.use (by simpa [Head.enc, Head.flat] using c118 x.head hxh) ?_
    simp [go_sem, hset_at]
    refine (H1 x hxm).use ?_
    simp [go_sem, hset_at]
    refine rows_sem x.rows hxr (fun i hi => H2 x hxm i hi) fun v h1 m1 hm1 hh1 hcall => ?_
    simp [go_sem]
    refine SCallE.mono hcall ?_
    rintro v2 h2 m2 ⟨hh2, hm2, rfl⟩
    rw [← f7]
    generalize hR : x.nrm.rows = R at f7 ⊢
    have em0 := hh2 m _ (Nat.lt_succ_self m) (hset_at _ _ _)
    have ho2 : ∀ j, o = some j → h2 j = some (.cells ((ys.map Item.enc).flatMap SV.cells)) := fun j e => by
      have := hlo j e
      exact hh2 j _ (by omega) (by rw [hset_ne _ _ (by omega), hset_ne _ _ (by omega), hset_ne _ _ (by omega), hset_ne _ _ (by omega)]; exact acc_at j e)
    have hacc : ∀ j y, AccH o (ys.map Item.enc) h j = some y → j < m ∧ h2 j = some y := fun j y e => by
      have hjm : j < m := by
        cases o with
        | none => have := (ho j y e).1; omega
        | some i =>
          simp only [AccH, hset] at e
          split at e
          · rename_i h; subst h; exact hlo _ rfl
          · have := (ho j y e).1; omega
      exact ⟨hjm, hh2 j _ (by omega) (by rw [hset_ne _ _ (by omega), hset_ne _ _ (by omega), hset_ne _ _ (by omega), hset_ne _ _ (by omega)]; exact e)⟩
    have hold : ∀ j y, h j = some y → h2 j = some y := fun j y e => (hacc j y (AccH.old ho hA j y e)).2
    clear hcall hh1 hh2
    rcases o with _ | j
    · have hys0 : ys = [] := by simpa using hA.none rfl
      subst hys0
      have happ : ¬ dropped x.nrm → normStep [] x.nrm = [] ++ [x.nrm] := fun hd => by rw [normStep, if_neg hd]; rfl
      by_cases k7 : x.kind = 7
      · by_cases hR0 : R = []
        · have hd : dropped x.nrm := .inl ⟨by rw [f1, k7], by rw [hR, hR0]⟩
          simp [go_sem, AccV, em0, hset_at, k7, hR0, w1, -Int.natCast_add]
          rw [normStep, if_pos hd] at hft
          refine ⟨k + 1, by omega, none, ⟨by omega, by omega, by rw [hft]; exact hA.mono (by omega)⟩, ⟨by rw [hft]; first | exact Fz.same | (simp [AccV, Fz.same]), Fz.same⟩, fun i y e => ?_⟩
          rw [hft] at e
          obtain ⟨g1, g2⟩ := hacc i y e
          rw [hset_ne _ _ (by omega)]; exact g2
        · have hd : ¬ dropped x.nrm := by rintro (⟨_, g⟩ | ⟨g, _⟩); exact hR0 (by rw [← hR, g]); rw [f1, k7] at g; exact absurd g (by decide)
          rw [happ hd] at hft
          simp [go_sem, AccV, em0, hset_at, k7, hR0]
          repeat first | refine nd (by kernel_rfl) ?_ | refine sd (by kernel_rfl) ?_ | refine And.intro (by omega) ?_
          rw [app_nil (e := x.nrm.enc) (t := 22) (t2 := 22) (el := 70) (z := 11) (by simp [go_sem]) (by simp [go_sem]) (by simp [go_sem]) (by simp) (by simp [go_sem]) (by simp [go_sem]) (by simp [go_sem]) (Item.E.len _) ?a1]
          case a1 => simp [hset_at, Item.enc_eq, SV.cells, f1, f2, f3, f4, f5, f6, hR, k7]
          simp [go_sem, w1, -Int.natCast_add]
          refine ⟨k + 1, by omega, some (m2 + 1), ⟨by omega, by omega, by rw [hft, List.map_append]; exact hA.push (Item.E.st _) (Item.E.len _) (by omega) (by omega)⟩, ⟨by rw [hft]; simp [Fz.same], Fz.same⟩, ?_⟩
          rw [hft, List.map_append]
          have := acc_live (p := m2 + 1) (v := .sl (m2 + 1) 0 11 (1) false) (e := x.nrm.enc) ho (by omega) hA (H := hset (hset h2 m (some (.cells x.nrm.enc.cells))) m2 (some (.cells x.nrm.enc.cells))) (hset_old ho (by omega) (hset_old ho (by omega) hold))
          simpa [Item.enc_eq, SV.cells, Out.app, f1, f2, f3, f4, f5, f6, hR, k7] using this
      · by_cases k1 : x.kind = 1
        · by_cases ht : x.text.size = 0
          · have hd : dropped x.nrm := .inr ⟨by rw [f1, k1], by rw [f4, ht]⟩
            simp [go_sem, AccV, em0, hset_at, k1, (ba_nil _).2 ht, w1, -Int.natCast_add]
            rw [normStep, if_pos hd] at hft
            refine ⟨k + 1, by omega, none, ⟨by omega, by omega, by rw [hft]; exact hA.mono (by omega)⟩, ⟨by rw [hft]; first | exact Fz.same | (simp [AccV, Fz.same]), Fz.same⟩, fun i y e => ?_⟩
            rw [hft] at e
            obtain ⟨g1, g2⟩ := hacc i y e
            rw [hset_ne _ _ (by omega)]; exact g2
          · have hd : ¬ dropped x.nrm := by rintro (⟨g, _⟩ | ⟨_, g⟩); rw [f1, k1] at g; exact absurd g (by decide); exact ht (by rw [← f4, g])
            rw [happ hd] at hft
            simp [go_sem, AccV, em0, hset_at, k1, mt (ba_nil _).1 ht]
            repeat first | refine nd (by kernel_rfl) ?_ | refine sd (by kernel_rfl) ?_ | refine And.intro (by omega) ?_
            rw [app_nil (e := x.nrm.enc) (t := 22) (t2 := 22) (el := 70) (z := 11) (by simp [go_sem]) (by simp [go_sem]) (by simp [go_sem]) (by simp) (by simp [go_sem]) (by simp [go_sem]) (by simp [go_sem]) (Item.E.len _) ?a1]
            case a1 => simp [hset_at, Item.enc_eq, SV.cells, f1, f2, f3, f4, f5, f6, hR, k1]
            simp [go_sem, w1, -Int.natCast_add]
            refine ⟨k + 1, by omega, some (m2 + 1), ⟨by omega, by omega, by rw [hft, List.map_append]; exact hA.push (Item.E.st _) (Item.E.len _) (by omega) (by omega)⟩, ⟨by rw [hft]; simp [Fz.same], Fz.same⟩, ?_⟩
            rw [hft, List.map_append]
            have := acc_live (p := m2 + 1) (v := .sl (m2 + 1) 0 11 (1) false) (e := x.nrm.enc) ho (by omega) hA (H := hset (hset h2 m (some (.cells x.nrm.enc.cells))) m2 (some (.cells x.nrm.enc.cells))) (hset_old ho (by omega) (hset_old ho (by omega) hold))
            simpa [Item.enc_eq, SV.cells, Out.app, f1, f2, f3, f4, f5, f6, hR, k1] using this
        · have hd : ¬ dropped x.nrm := by rintro (⟨g, _⟩ | ⟨g, _⟩); rw [f1] at g; exact k7 g; rw [f1] at g; exact k1 g
          rw [happ hd] at hft
          simp [go_sem, AccV, em0, hset_at, k1, k7]
          repeat first | refine nd (by kernel_rfl) ?_ | refine sd (by kernel_rfl) ?_ | refine And.intro (by omega) ?_
          rw [app_nil (e := x.nrm.enc) (t := 22) (t2 := 22) (el := 70) (z := 11) (by simp [go_sem]) (by simp [go_sem]) (by simp [go_sem]) (by simp) (by simp [go_sem]) (by simp [go_sem]) (by simp [go_sem]) (Item.E.len _) ?a1]
          case a1 => simp [hset_at, Item.enc_eq, SV.cells, f1, f2, f3, f4, f5, f6, hR]
          simp [go_sem, w1, -Int.natCast_add]
          refine ⟨k + 1, by omega, some (m2 + 1), ⟨by omega, by omega, by rw [hft, List.map_append]; exact hA.push (Item.E.st _) (Item.E.len _) (by omega) (by omega)⟩, ⟨by rw [hft]; simp [Fz.same], Fz.same⟩, ?_⟩
          rw [hft, List.map_append]
          have := acc_live (p := m2 + 1) (v := .sl (m2 + 1) 0 11 (1) false) (e := x.nrm.enc) ho (by omega) hA (H := hset (hset h2 m (some (.cells x.nrm.enc.cells))) m2 (some (.cells x.nrm.enc.cells))) (hset_old ho (by omega) (hset_old ho (by omega) hold))
          simpa [Item.enc_eq, SV.cells, Out.app, f1, f2, f3, f4, f5, f6, hR, k1] using this
    · have hj : j < m := hlo j rfl
      have hjm : j ≠ m := by omega
      have ho2 := ho2 j rfl
      have happ : ¬ dropped x.nrm → x.kind ≠ 1 → normStep ys x.nrm = ys ++ [x.nrm] := fun hd hk => by
        rw [normStep, if_neg hd]; split
        · rw [if_neg (by rw [f1]; exact fun g => hk g.1)]
        · rfl
      by_cases k7 : x.kind = 7
      · by_cases hR0 : R = []
        · have hd : dropped x.nrm := .inl ⟨by rw [f1, k7], by rw [hR, hR0]⟩
          simp [go_sem, AccV, em0, hset_at, k7, hR0, w1, -Int.natCast_add]
          rw [normStep, if_pos hd] at hft
          refine ⟨k + 1, by omega, some j, ⟨by omega, by omega, by rw [hft]; exact hA.mono (by omega)⟩, ⟨by rw [hft]; first | exact Fz.same | (simp [AccV, Fz.same]), Fz.same⟩, fun i y e => ?_⟩
          rw [hft] at e
          obtain ⟨g1, g2⟩ := hacc i y e
          rw [hset_ne _ _ (by omega)]; exact g2
        · have hd : ¬ dropped x.nrm := by rintro (⟨_, g⟩ | ⟨g, _⟩); exact hR0 (by rw [← hR, g]); rw [f1, k7] at g; exact absurd g (by decide)
          rw [happ hd (by omega)] at hft
          simp [go_sem, AccV, em0, hset_at, k7, hR0]
          repeat first | refine nd (by kernel_rfl) ?_ | refine sd (by kernel_rfl) ?_ | refine And.intro (by omega) ?_
          rw [app_sl (es := ys.map Item.enc) (e := x.nrm.enc) (t := 22) (t2 := 22) (el := 70) (z := 11) (by simp [go_sem]) (by simp [go_sem]) (by simp [go_sem]) (by simp) (by simp [go_sem]) (by simp [go_sem]) (by simp [go_sem]) (by simp; omega) hA (Item.E.len _) ?a1 ?a2 _ (by simp)]
          case a1 => simp [hset_at, Item.enc_eq, SV.cells, f1, f2, f3, f4, f5, f6, hR, k7]
          case a2 => rw [hset_ne _ _ (by omega), hset_ne _ _ (by omega)]; exact ho2
          simp [go_sem, w1, -Int.natCast_add]
          refine ⟨k + 1, by omega, some (m2 + 1), ⟨by omega, by omega, by rw [hft, List.map_append]; exact hA.push (Item.E.st _) (Item.E.len _) (by omega) (by omega)⟩, ⟨by rw [hft]; simp [Fz.same], Fz.same⟩, ?_⟩
          rw [hft, List.map_append]
          have := acc_live (p := m2 + 1) (v := .sl (m2 + 1) 0 11 ((ys.map Item.enc).length + 1) false) (e := x.nrm.enc) ho (by omega) hA (H := hset (hset h2 m (some (.cells x.nrm.enc.cells))) m2 (some (.cells x.nrm.enc.cells))) (hset_old ho (by omega) (hset_old ho (by omega) hold))
          simpa [Item.enc_eq, SV.cells, Out.app, f1, f2, f3, f4, f5, f6, hR, k7] using this
      · by_cases k1 : x.kind = 1
        · by_cases ht : x.text.size = 0
          · have hd : dropped x.nrm := .inr ⟨by rw [f1, k1], by rw [f4, ht]⟩
            simp [go_sem, AccV, em0, hset_at, k1, (ba_nil _).2 ht, w1, -Int.natCast_add]
            rw [normStep, if_pos hd] at hft
            refine ⟨k + 1, by omega, some j, ⟨by omega, by omega, by rw [hft]; exact hA.mono (by omega)⟩, ⟨by rw [hft]; first | exact Fz.same | (simp [AccV, Fz.same]), Fz.same⟩, fun i y e => ?_⟩
            rw [hft] at e
            obtain ⟨g1, g2⟩ := hacc i y e
            rw [hset_ne _ _ (by omega)]; exact g2
          · have hd : ¬ dropped x.nrm := by rintro (⟨g, _⟩ | ⟨_, g⟩); rw [f1, k1] at g; exact absurd g (by decide); exact ht (by rw [← f4, g])
            rcases List.eq_nil_or_concat ys with rfl | ⟨ys', y, rfl⟩
            · have hft' : normStep [] x.nrm = [] ++ [x.nrm] := by rw [normStep, if_neg hd]; rfl
              rw [hft'] at hft
              simp [go_sem, AccV, em0, hset_at, k1, mt (ba_nil _).1 ht]
              repeat first | refine nd (by kernel_rfl) ?_ | refine sd (by kernel_rfl) ?_ | refine And.intro (by omega) ?_
              rw [app_sl (es := [].map Item.enc) (e := x.nrm.enc) (t := 22) (t2 := 22) (el := 70) (z := 11) (by simp [go_sem]) (by simp [go_sem]) (by simp [go_sem]) (by simp) (by simp [go_sem]) (by simp [go_sem]) (by simp [go_sem]) (by simp) hA (Item.E.len _) ?a1 ?a2 _ (by simp)]
              case a1 => simp [hset_at, Item.enc_eq, SV.cells, f1, f2, f3, f4, f5, f6, hR, k1]
              case a2 => rw [hset_ne _ _ (by omega), hset_ne _ _ (by omega)]; exact ho2
              simp [go_sem, w1, -Int.natCast_add]
              refine ⟨k + 1, by omega, some (m2 + 1), ⟨by omega, by omega, by rw [hft, List.map_append]; exact hA.push (Item.E.st _) (Item.E.len _) (by omega) (by omega)⟩, ⟨by rw [hft]; simp [Fz.same], Fz.same⟩, ?_⟩
              rw [hft, List.map_append]
              have := acc_live (p := m2 + 1) (v := .sl (m2 + 1) 0 11 1 false) (e := x.nrm.enc) ho (by omega) hA (H := hset (hset h2 m (some (.cells x.nrm.enc.cells))) m2 (some (.cells x.nrm.enc.cells))) (hset_old ho (by omega) (hset_old ho (by omega) hold))
              simpa [Item.enc_eq, SV.cells, Out.app, f1, f2, f3, f4, f5, f6, hR, k1] using this
            · rw [List.concat_eq_append] at *
              have hym := foldN_mem l (fun x hx => ⟨(hs x hx).1, (hs x hx).2.1⟩) k hk y (by rw [hys]; simp)
              have hl' : (ys' ++ [y]).length = ys'.length + 1 := by simp
              have w2 : IntKind.i64.wrap (ys'.length : Int) = (ys'.length : Int) := by rw [wr64] <;> omega
              have hpos : (0 : Int) < (ys'.length : Int) + 1 := by omega
              have hpos2 : (ys'.length : Int) < (ys'.length : Int) + 1 := by omega
              have hAl : ((ys'.map Item.enc).flatMap SV.cells).length = ys'.length * 11 := by rw [flat_len (Item.E.size ys'), List.length_map]
              have ho3 : h2 j = some (.cells ((ys'.map Item.enc).flatMap SV.cells ++ y.enc.cells)) := by rw [ho2]; simp
              rw [Item.enc_eq y] at ho3
              simp only [SV.cells] at ho3
              generalize hA' : (ys'.map Item.enc).flatMap SV.cells = A at hAl ho3
              by_cases hy1 : y.kind = 1
              · simp [go_sem, AccV, em0, hset_at, hset_ne, hjm, k1, mt (ba_nil _).1 ht, ho3, w2, hpos, hpos2, ← hAl, hy1, List.drop_length_add_append]
                repeat first | refine nd (by kernel_rfl) ?_ | refine sd (by kernel_rfl) ?_ | refine And.intro (by omega) ?_
                refine CallD.pure _ _ _ _ _ _ (by simpa [Head.enc, Head.flat] using c58 y.head x.head hym.1 hxh) ?_
                by_cases hhd : y.head = x.head
                · have hcat : y.text.size + x.text.size ≤ 9223372036854775807 := by have := hym.2; omega
                  have hft' : normStep (ys' ++ [y]) x.nrm = ys' ++ [y.addText x.text] := by
                    rw [normStep, if_neg hd, List.getLast?_concat]
                    simp only
                    rw [if_pos ⟨by rw [f1, k1], hy1, by rw [hhd, f5]⟩, List.dropLast_concat, f4]
                  rw [hft'] at hft
                  simp [go_sem, hhd, hset_at, hset_ne, hjm, ho3, w1, w2, ← hAl, hcat, List.drop_length_add_append, List.take_length_add_append, -Int.natCast_add]
                  repeat first | refine nd (by kernel_rfl) ?_ | refine sd (by kernel_rfl) ?_ | refine And.intro (by omega) ?_
                  refine ⟨k + 1, by omega, some j, ⟨by omega, by omega, ?_⟩, ⟨by rw [hft]; simp [Fz.same], Fz.same⟩, fun i y' e => ?_⟩
                  · rw [hft]; exact ⟨by simp, fun i e => ⟨(hA.lt i e).1, by have := (hA.lt i e).2; omega⟩, Item.E.size _⟩
                  · rw [hft] at e
                    simp only [AccH] at e
                    by_cases e1 : i = j
                    · subst e1
                      rw [hset_at] at e ⊢
                      rw [← e]
                      have ec : (y.addText x.text).enc.cells = [intE y.kind, intE y.code, intE y.id, .str (y.text ++ x.text), propsE y.head.props, intE y.head.ins, intE y.head.move, delsE y.head.dels, layersE y.head.layers, itemsE y.flow, rowsE y.rows] := by rw [Item.enc_eq]; rfl
                      rw [List.map_append, List.flatMap_append, hA', List.map_singleton, List.flatMap_singleton, ec, hhd]
                      simp [Nat.add_assoc, List.drop_length_add_append]
                    · rw [hset_ne _ _ e1] at e
                      obtain ⟨g1, g2⟩ := hacc i y' (by simp only [AccH]; rw [hset_ne _ _ e1]; exact e)
                      rw [hset_ne _ _ e1, hset_ne _ _ (by omega)]; exact g2
                · have hft' : normStep (ys' ++ [y]) x.nrm = (ys' ++ [y]) ++ [x.nrm] := by
                    rw [normStep, if_neg hd, List.getLast?_concat]
                    simp only
                    rw [if_neg (by rw [f5]; exact fun g => hhd g.2.2)]
                  rw [hft'] at hft
                  simp [go_sem, hhd, hset_at]
                  repeat first | refine nd (by kernel_rfl) ?_ | refine sd (by kernel_rfl) ?_ | refine And.intro (by omega) ?_
                  rw [app_sl (es := (ys' ++ [y]).map Item.enc) (e := x.nrm.enc) (t := 22) (t2 := 22) (el := 70) (z := 11) (by simp [go_sem]) (by simp [go_sem]) (by simp [go_sem]) (by simp) (by simp [go_sem]) (by simp [go_sem]) (by simp [go_sem]) (by simp; omega) hA (Item.E.len _) ?a1 ?a2 _ (by simp)]
                  case a1 => simp [hset_at, Item.enc_eq, SV.cells, f1, f2, f3, f4, f5, f6, hR, k1]
                  case a2 => rw [hset_ne _ _ (by omega), hset_ne _ _ (by omega)]; exact ho2
                  simp [go_sem, w1, -Int.natCast_add]
                  refine ⟨k + 1, by omega, some (m2 + 1), ⟨by omega, by omega, by rw [hft, List.map_append]; exact hA.push (Item.E.st _) (Item.E.len _) (by omega) (by omega)⟩, ⟨by rw [hft]; simp [Fz.same], Fz.same⟩, ?_⟩
                  rw [hft, List.map_append]
                  have := acc_live (p := m2 + 1) (v := .sl (m2 + 1) 0 11 (((ys' ++ [y]).map Item.enc).length + 1) false) (e := x.nrm.enc) ho (by omega) hA (H := hset (hset h2 m (some (.cells x.nrm.enc.cells))) m2 (some (.cells x.nrm.enc.cells))) (hset_old ho (by omega) (hset_old ho (by omega) hold))
                  simpa [Item.enc_eq, SV.cells, Out.app, f1, f2, f3, f4, f5, f6, hR, k1] using this
              · simp [go_sem, AccV, em0, hset_at, hset_ne, hjm, k1, mt (ba_nil _).1 ht, ho3, w2, hpos, hpos2, ← hAl, hy1]
                repeat first | refine nd (by kernel_rfl) ?_ | refine sd (by kernel_rfl) ?_ | refine And.intro (by omega) ?_
                have hft' : normStep (ys' ++ [y]) x.nrm = (ys' ++ [y]) ++ [x.nrm] := by
                  rw [normStep, if_neg hd, List.getLast?_concat]
                  simp only
                  rw [if_neg (fun g => hy1 g.2.1)]
                rw [hft'] at hft
                rw [app_sl (es := (ys' ++ [y]).map Item.enc) (e := x.nrm.enc) (t := 22) (t2 := 22) (el := 70) (z := 11) (by simp [go_sem]) (by simp [go_sem]) (by simp [go_sem]) (by simp) (by simp [go_sem]) (by simp [go_sem]) (by simp [go_sem]) (by simp; omega) hA (Item.E.len _) ?a1 ?a2 _ (by simp)]
                case a1 => simp [hset_at, Item.enc_eq, SV.cells, f1, f2, f3, f4, f5, f6, hR, k1]
                case a2 => rw [hset_ne _ _ (by omega), hset_ne _ _ (by omega)]; exact ho2
                simp [go_sem, w1, -Int.natCast_add]
                refine ⟨k + 1, by omega, some (m2 + 1), ⟨by omega, by omega, by rw [hft, List.map_append]; exact hA.push (Item.E.st _) (Item.E.len _) (by omega) (by omega)⟩, ⟨by rw [hft]; simp [Fz.same], Fz.same⟩, ?_⟩
                rw [hft, List.map_append]
                have := acc_live (p := m2 + 1) (v := .sl (m2 + 1) 0 11 (((ys' ++ [y]).map Item.enc).length + 1) false) (e := x.nrm.enc) ho (by omega) hA (H := hset (hset h2 m (some (.cells x.nrm.enc.cells))) m2 (some (.cells x.nrm.enc.cells))) (hset_old ho (by omega) (hset_old ho (by omega) hold))
                simpa [Item.enc_eq, SV.cells, Out.app, f1, f2, f3, f4, f5, f6, hR, k1] using this
        · have hd : ¬ dropped x.nrm := by rintro (⟨g, _⟩ | ⟨g, _⟩); rw [f1] at g; exact k7 g; rw [f1] at g; exact k1 g
          rw [happ hd k1] at hft
          simp [go_sem, AccV, em0, hset_at, k1, k7]
          repeat first | refine nd (by kernel_rfl) ?_ | refine sd (by kernel_rfl) ?_ | refine And.intro (by omega) ?_
          rw [app_sl (es := ys.map Item.enc) (e := x.nrm.enc) (t := 22) (t2 := 22) (el := 70) (z := 11) (by simp [go_sem]) (by simp [go_sem]) (by simp [go_sem]) (by simp) (by simp [go_sem]) (by simp [go_sem]) (by simp [go_sem]) (by simp; omega) hA (Item.E.len _) ?a1 ?a2 _ (by simp)]
          case a1 => simp [hset_at, Item.enc_eq, SV.cells, f1, f2, f3, f4, f5, f6, hR]
          case a2 => rw [hset_ne _ _ (by omega), hset_ne _ _ (by omega)]; exact ho2
          simp [go_sem, w1, -Int.natCast_add]
          refine ⟨k + 1, by omega, some (m2 + 1), ⟨by omega, by omega, by rw [hft, List.map_append]; exact hA.push (Item.E.st _) (Item.E.len _) (by omega) (by omega)⟩, ⟨by rw [hft]; simp [Fz.same], Fz.same⟩, ?_⟩
          rw [hft, List.map_append]
          have := acc_live (p := m2 + 1) (v := .sl (m2 + 1) 0 11 ((ys.map Item.enc).length + 1) false) (e := x.nrm.enc) ho (by omega) hA (H := hset (hset h2 m (some (.cells x.nrm.enc.cells))) m2 (some (.cells x.nrm.enc.cells))) (hset_old ho (by omega) (hset_old ho (by omega) hold))
          simpa [Item.enc_eq, SV.cells, Out.app, f1, f2, f3, f4, f5, f6, hR, k1] using this
  · have : k = l.length := by omega
    subst this
    rw [List.take_length] at hA ⊢
    simp [go_sem]
    exact .inl (acc_new ho hA look_same hnm (Nat.le_refl _))
theorem c195_of (x : Cell) (hs : x.head.sized) (H : PC 73 [itemsE x.flow] (itemsE (runNormal x.flow))) : PC 195 [x.enc] (Cell.nrm x).enc := by
  intro h n
  refine go Tryz.func195 rfl (by kernel_rfl) (by kernel_rfl) (by simp [go_sem]) fun ho => ?_
  have e : (Cell.nrm x).enc = .agg [intE x.id, propsE x.head.props, intE x.head.ins, intE x.head.move, delsE x.head.dels, layersE x.head.layers, itemsE (runNormal x.flow)] := by cases x; rw [Cell.nrm, Cell.enc_eq]; rfl
  rw [e]
  simp [go_sem, Cell.enc_eq, hset_at, hset_ne]
  repeat first | refine nd (by kernel_rfl) ?_ | refine sd (by kernel_rfl) ?_ | refine And.intro (by omega) ?_
  refine CallD.pure _ _ _ _ _ _ (by simpa [Head.enc, Head.flat] using c118 x.head hs) ?_
  simp [go_sem, hset_at, hset_ne]
  repeat first | refine nd (by kernel_rfl) ?_ | refine sd (by kernel_rfl) ?_ | refine And.intro (by omega) ?_
  refine CallD.pure _ _ _ _ _ _ H ?_
  simp [go_sem, hset_at]
  repeat first | refine nd (by kernel_rfl) ?_ | refine sd (by kernel_rfl) ?_ | refine And.intro (by omega) ?_
  exact retIs ho (by repeat (first | exact look_same | refine hset_old ho (by omega) ?_)) rfl (by rw [← e]; exact Cell.cl n _)
theorem c135_of (x : Row) (hs : x.head.sized) (hc : x.cells.length ≤ 1048576) (H : ∀ (i : Nat) (h : i < x.cells.length), PC 195 [(x.cells[i]).enc] (Cell.nrm x.cells[i]).enc) : PC 135 [x.enc] (Row.nrm x).enc := by
  intro h n
  refine go Tryz.func135 rfl (by kernel_rfl) (by kernel_rfl) (by simp [go_sem]) fun ho => ?_
  have h1 := (l194 x.cells hc 195 [] [] Cell.nrm (fun i hi => H i hi)).pc (Cell.E.size _) (fun n => Cell.E.closedL n _)
  have e : (Row.nrm x).enc = .agg [propsE x.head.props, intE x.head.ins, intE x.head.move, delsE x.head.dels, layersE x.head.layers, cellsE (x.cells.map Cell.nrm)] := by cases x; rw [Row.nrm, Row.enc_eq, Cell.nrmL_eq]; rfl
  rw [e]
  simp [go_sem, Row.enc_eq, hset_at, hset_ne, -List.map_map]
  repeat first | refine nd (by kernel_rfl) ?_ | refine sd (by kernel_rfl) ?_ | refine And.intro (by omega) ?_
  refine CallD.pure _ _ _ _ _ _ (by simpa [Head.enc, Head.flat] using c118 x.head hs) ?_
  simp [go_sem, hset_at, hset_ne, -List.map_map]
  repeat first | refine nd (by kernel_rfl) ?_ | refine sd (by kernel_rfl) ?_ | refine And.intro (by omega) ?_
  refine CallD.pure _ _ _ _ _ _ h1 ?_
  simp [go_sem, hset_at, -List.map_map]
  repeat first | refine nd (by kernel_rfl) ?_ | refine sd (by kernel_rfl) ?_ | refine And.intro (by omega) ?_
  exact retIs ho (by repeat (first | exact look_same | refine hset_old ho (by omega) ?_)) rfl (by rw [← e]; exact Row.cl n _)
theorem lc73 {l : List Item} (H : LC 73 [itemsE l] 11 ((runNormal l).map Item.enc)) : PC 73 [itemsE l] (itemsE (runNormal l)) := H.pc (Item.E.size _) fun n => Item.E.closedL n _
theorem sized_parts {x : Item} (h : x.sized) : x.head.sized ∧ x.text.size ≤ 1048576 ∧ x.rows.length ≤ 1048576 := by cases x; rw [Item.sized] at h; exact ⟨h.2.1, h.1, h.2.2.2.1⟩
def NI (x : Item) : Prop := PC 73 [itemsE x.flow] (itemsE (runNormal x.flow)) ∧ ∀ (i : Nat) (h : i < x.rows.length), PC 135 [(x.rows[i]).enc] (Row.nrm x.rows[i]).enc
mutual
theorem cNI : ∀ x : Item, x.sized → NI x
  | .mk k c i t hd f r, hs => by
    rw [Item.sized] at hs
    refine ⟨lc73 (c73_of f hs.2.2.1 (fun x hx => sized_parts (Item.sizedL_mem hs.2.2.2.2.1 x hx)) (fun x hx => (cNIL f hs.2.2.2.2.1 x hx).1) fun x hx => (cNIL f hs.2.2.2.2.1 x hx).2), ?_⟩
    exact c135L r hs.2.2.2.2.2
theorem cNIL : ∀ l : List Item, Item.sizedL l → ∀ x ∈ l, NI x
  | [], _, x, h => by simp at h
  | y :: l, hs, x, h => by
    rw [Item.sizedL] at hs
    rcases List.mem_cons.1 h with h | h
    · rw [h]; exact cNI y hs.1
    · exact cNIL l hs.2 x h
theorem c135 : ∀ x : Row, x.sized → PC 135 [x.enc] (Row.nrm x).enc
  | .mk hd c, hs => by
    rw [Row.sized] at hs
    exact c135_of (.mk hd c) hs.1 hs.2.1 (c195L c hs.2.2)
theorem c135L : ∀ l : List Row, Row.sizedL l → ∀ (i : Nat) (h : i < l.length), PC 135 [(l[i]).enc] (Row.nrm l[i]).enc
  | [], _, i, h => by simp at h
  | x :: l, hs, 0, _ => by rw [Row.sizedL] at hs; exact c135 x hs.1
  | x :: l, hs, i + 1, h => by rw [Row.sizedL] at hs; exact c135L l hs.2 i (by simpa using h)
theorem c195 : ∀ x : Cell, x.sized → PC 195 [x.enc] (Cell.nrm x).enc
  | .mk i hd f, hs => by
    rw [Cell.sized] at hs
    exact c195_of (.mk i hd f) hs.1 (lc73 (c73_of f hs.2.1 (fun x hx => sized_parts (Item.sizedL_mem hs.2.2 x hx)) (fun x hx => (cNIL f hs.2.2 x hx).1) fun x hx => (cNIL f hs.2.2 x hx).2))
theorem c195L : ∀ l : List Cell, Cell.sizedL l → ∀ (i : Nat) (h : i < l.length), PC 195 [(l[i]).enc] (Cell.nrm l[i]).enc
  | [], _, i, h => by simp at h
  | x :: l, hs, 0, _ => by rw [Cell.sizedL] at hs; exact c195 x hs.1
  | x :: l, hs, i + 1, h => by rw [Cell.sizedL] at hs; exact c195L l hs.2 i (by simpa using h)
end
theorem l73 (l : List Item) (hl : l.length ≤ 1048576) (hs : Item.sizedL l) : LC 73 [itemsE l] 11 ((runNormal l).map Item.enc) :=
  c73_of l hl (fun x hx => sized_parts (Item.sizedL_mem hs x hx)) (fun x hx => (cNIL l hs x hx).1) fun x hx => (cNIL l hs x hx).2
theorem c73 (l : List Item) (hl : l.length ≤ 1048576) (hs : Item.sizedL l) : PC 73 [itemsE l] (itemsE (runNormal l)) := lc73 (l73 l hl hs)
def rvErr (r : Rev) : Int :=
  if r.id < 1 ∨ 1073741824 < r.id then 18 else if r.author.size = 0 then 11 else if 40 < r.author.size then 10 else if cpValid r.author = false then 12 else if r.time < 0 ∨ 1099511627776 < r.time then 40 else 0
theorem c42 (r : Rev) : PC 42 [r.enc] (intE (rvErr r)) := by
  intro h n
  refine go Tryz.func42 rfl (by kernel_rfl) (by kernel_rfl) (by simp [go_sem]) fun ho => ?_
  have hh : ∀ y, ∀ o x, h o = some x → hset h n y o = some x := fun y => hset_old ho (Nat.le_refl _) look_same
  by_cases a1 : r.id < 1
  · simp [go_sem, Rev.enc, hset_at, a1]
    exact retIs ho (hh _) (by simp [rvErr, a1]) rfl
  by_cases a2 : 1073741824 < r.id
  · simp [go_sem, Rev.enc, hset_at, a1, a2]
    exact retIs ho (hh _) (by simp [rvErr, a2]) rfl
  by_cases a3 : r.author.size = 0
  · simp [go_sem, Rev.enc, hset_at, a1, a2, ba_nil, a3]
    exact retIs ho (hh _) (by simp [rvErr, a1, a2, a3]) rfl
  by_cases a4 : 40 < r.author.size
  · have a4' : (40 : Int) < r.author.size := by omega
    simp [go_sem, Rev.enc, hset_at, a1, a2, ba_nil, a3, a4']
    exact retIs ho (hh _) (by simp [rvErr, a1, a2, a3, a4]) rfl
  have a4' : ¬ (40 : Int) < r.author.size := by omega
  simp [go_sem, Rev.enc, hset_at, a1, a2, ba_nil, a3, a4']
  refine (c116 r.author (by omega)).use ?_
  cases a5 : cpValid r.author
  · simp [go_sem]
    exact retIs ho (hh _) (by simp [rvErr, a1, a2, a3, a4, a5]) rfl
  by_cases a6 : r.time < 0
  · simp [go_sem, hset_at, a6]
    exact retIs ho (hh _) (by simp [rvErr, a1, a2, a3, a4, a5, a6]) rfl
  by_cases a7 : 1099511627776 < r.time
  · simp [go_sem, hset_at, a6, a7]
    exact retIs ho (hh _) (by simp [rvErr, a1, a2, a3, a4, a5, a7]) rfl
  simp [go_sem, hset_at, a6, a7]
  exact retIs ho (hh _) (by simp [rvErr, a1, a2, a3, a4, a5, a6, a7]) rfl
def rvStep (l : List Rev) (i : Nat) : Int := match l[i]? with
  | some r => if rvErr r = 0 then if i = 0 then 0 else match l[i - 1]? with | some q => if cmpI r.id q.id = 0 then 7 else if cmpI r.id q.id = -1 then 6 else 0 | none => 0 else rvErr r
  | none => 0
def rvCheck (l : List Rev) : Int := if 256 < l.length then 9 else allE (rvStep l) l.length
theorem c71 (l : List Rev) (hl : l.length ≤ 1048576) : PC 71 [revsE l] (intE (rvCheck l)) := by
  intro h n
  refine go Tryz.func71 rfl (by kernel_rfl) (by kernel_rfl) (by simp [go_sem]) fun ho => ?_
  by_cases a0 : 256 < l.length
  · have a0' : (256 : Int) < l.length := by omega
    simp [go_sem, a0']
    exact ret0 ho rfl (by simp [rvCheck, a0])
  have a0' : ¬ (256 : Int) < l.length := by omega
  simp [go_sem, a0']
  refine goloop 1 (α := Nat) (fun k => [(0, revsE l), (9, revsE l), (10, intE l.length), (11, intE k)]) (fun _ => h) (fun k m => k ≤ l.length ∧ n ≤ m ∧ allE (rvStep l) k = 0) (fun k => l.length - k) 0 ?_ ?_ look_same ?_
  · exact ⟨Nat.zero_le _, Nat.le_refl _, rfl⟩
  · simp [look]
  rintro k m ⟨hk, hnm, hf⟩
  have hh : ∀ y, ∀ o x, h o = some x → hset h m y o = some x := fun y => hset_old ho hnm look_same
  by_cases hlt : k < l.length
  · have w1 : IntKind.i64.wrap ((k : Int) + 1) = ((k + 1 : Nat) : Int) := by rw [wr64] <;> omega
    obtain ⟨r, hr⟩ : ∃ r, l[k] = r := ⟨_, rfl⟩
    have hr' : l[k]? = some r := by simp [hlt, hr]
    have bad : ∀ e, rvStep l k = e → e ≠ 0 → rvCheck l = e := fun e h1 h2 => by rw [rvCheck, if_neg a0, allE_first _ hlt hf (by rw [h1]; exact h2), h1]
    have good : rvStep l k = 0 → allE (rvStep l) (k + 1) = 0 := fun e => by rw [allE, hf, if_pos rfl, e]
    simp [go_sem, hlt, hr, Rev.enc, hset_at, hset_two]
    refine PC.use (by simpa [Rev.enc] using c42 r) ?_
    by_cases e0 : rvErr r = 0
    · by_cases k0 : k = 0
      · subst k0
        simp [go_sem, e0]
        exact ⟨1, by omega, ⟨by omega, by omega, good (by simp [rvStep, hr', e0])⟩, Fz.same, hh _⟩
      · have w2 : IntKind.i64.wrap ((k : Int) - 1) = ((k - 1 : Nat) : Int) := by rw [wr64] <;> omega
        obtain ⟨q, hq⟩ : ∃ q, l[k - 1]? = some q := ⟨l[k - 1], by simp [show k - 1 < l.length by omega]⟩
        have hq2 : l[k - 1] = q := by have := (List.getElem?_eq_some_iff.1 hq).2; exact this
        simp [go_sem, e0, k0, hset_at, w2, hq, Rev.enc]
        repeat refine ⟨by kernel_rfl, ?_⟩
        refine CallD.pure _ _ _ _ _ _ (c100 r.id q.id) ?_
        by_cases c0 : cmpI r.id q.id = 0
        · simp [go_sem, c0]
          repeat refine ⟨by kernel_rfl, ?_⟩
          exact retIs ho (hh _) (by rw [bad 7 (by simp [rvStep, hr', e0, k0, hq, c0]) (by simp)]) rfl
        · by_cases c1 : cmpI r.id q.id = -1
          · simp [go_sem, c1]
            repeat refine ⟨by kernel_rfl, ?_⟩
            exact retIs ho (hh _) (by rw [bad 6 (by simp [rvStep, hr', e0, k0, hq, c1]) (by simp)]) rfl
          · simp [go_sem, c0, c1, w1, -Int.natCast_add]
            repeat refine ⟨by kernel_rfl, ?_⟩
            exact ⟨k + 1, by omega, ⟨by omega, by omega, good (by simp [rvStep, hr', e0, k0, hq, c0, c1])⟩, Fz.same, hh _⟩
    · simp [go_sem, e0]
      exact retIs ho (hh _) (by rw [bad (rvErr r) (by simp [rvStep, hr', e0]) e0]) rfl
  · have : k = l.length := by omega
    subst this
    simp [go_sem]
    exact ret0 ho rfl (by simp [rvCheck, a0, hf])
theorem c132 (r : Rev) (id : Int) : PC 132 [r.enc, intE id] (intE (cmpI r.id id)) := by
  intro h n
  refine go Tryz.func132 rfl (by kernel_rfl) (by kernel_rfl) (by simp [go_sem]) fun ho => ?_
  simp [go_sem, Rev.enc, hset_at]
  refine (c100 r.id id).use ?_
  simp [go_sem]
  exact retIs ho (hset_old ho (Nat.le_refl _) look_same) rfl rfl
def rvAt (l : List Rev) (id : Int) (i : Nat) : Int := match l[i]? with | some r => cmpI r.id id | none => 0
theorem c72 (l : List Rev) (hl : l.length ≤ 1048576) (id : Int) : PC 72 [revsE l, intE id] (.tup [intE (bsearch (rvAt l id) l.length).1, .bool (bsearch (rvAt l id) l.length).2]) := by
  intro h n
  refine go Tryz.func72 rfl (by kernel_rfl) (by kernel_rfl) (by simp [go_sem]) fun ho => ?_
  simp [go_sem]
  refine (c131 l hl (intE id) 132 [] [] (rvAt l id) fun i hi => by simpa [rvAt, hi] using c132 l[i] id).use ?_
  simp [go_sem]
  exact ret0 ho rfl rfl
def rvZero : Rev := ⟨0, ⟨#[]⟩, 0⟩
def rvFrom (id : Int) : List Rev → Rev × Bool
  | [] => (rvZero, false)
  | r :: l => if r.id = id then (r, true) else rvFrom id l
def rvFind (l : List Rev) (id : Int) : Rev × Bool := if rvCheck l = 0 then (if (bsearch (rvAt l id) l.length).2 = true then ((l[(bsearch (rvAt l id) l.length).1]?).getD rvZero, true) else (rvZero, false)) else rvFrom id l
theorem bsearch_lt (c : Nat → Int) (n : Nat) (h : (bsearch c n).2 = true) : (bsearch c n).1 < n := by
  simp only [bsearch, decide_eq_true_eq] at h ⊢; exact h.1
theorem c20 (l : List Rev) (hl : l.length ≤ 1048576) (id : Int) : PC 20 [revsE l, intE id] (.tup [(rvFind l id).1.enc, .bool (rvFind l id).2]) := by
  intro h n
  refine go Tryz.func20 rfl (by kernel_rfl) (by kernel_rfl) (by simp [go_sem]) fun ho => ?_
  have hh : ∀ y z, ∀ o x, h o = some x → hset (hset h n y) n z o = some x := fun y z => hset_old ho (Nat.le_refl _) (hset_old ho (Nat.le_refl _) look_same)
  have hcl : ∀ (r : Rev) b, closed n (.tup [r.enc, .bool b]) = true := fun r b => by simp [closed, closedL, Rev.E.cl]
  simp [go_sem]
  refine (c71 l hl).use ?_
  by_cases e0 : rvCheck l = 0
  · simp [go_sem, e0]
    refine (c72 l hl id).use ?_
    cases e1 : (bsearch (rvAt l id) l.length).2
    · simp [go_sem, hset_at]
      exact retIs ho (hh _ _) (by simp [rvFind, e0, e1]; rfl) (hcl _ _)
    · have hlt := bsearch_lt _ _ e1
      simp [go_sem, hlt, hset_at, Rev.enc]
      exact retIs ho (hh _ _) (by simp [rvFind, e0, e1, hlt]) (hcl _ _)
  · simp [go_sem, e0]
    have hF : rvFind l id = rvFrom id l := by simp [rvFind, e0]
    rw [hF]
    refine goloop 1 (α := Nat) (fun k => [(1, intE id), (4, .ptr n 0), (25, revsE l), (26, intE l.length), (27, intE k)]) (fun _ => hset h n (some (.cells rvZero.enc.cells))) (fun k m => k ≤ l.length ∧ n < m ∧ rvFrom id l = rvFrom id (l.drop k)) (fun k => l.length - k) 0 ?_ ?_ look_same ?_
    · exact ⟨Nat.zero_le _, Nat.lt_succ_self n, rfl⟩
    · simp [look]
    rintro k m ⟨hk, hnm, hf⟩
    have hne : n ≠ m := by omega
    have h2 : ∀ a b c, ∀ o x, h o = some x → hset (hset (hset h n a) m b) m c o = some x := fun a b c => hset_old ho (by omega) (hset_old ho (by omega) (hset_old ho (Nat.le_refl _) look_same))
    by_cases hlt : k < l.length
    · have w1 : IntKind.i64.wrap ((k : Int) + 1) = ((k + 1 : Nat) : Int) := by rw [wr64] <;> omega
      obtain ⟨r, hr⟩ : ∃ r, l[k] = r := ⟨_, rfl⟩
      rw [List.drop_eq_getElem_cons hlt, hr, rvFrom] at hf
      by_cases e1 : r.id = id
      · simp [go_sem, hlt, hr, Rev.enc, hset_at, hset_ne, hne, e1, rvZero]
        rw [if_pos e1] at hf
        rw [hf]
        exact retIs ho (hset_old ho (Nat.le_refl _) (h2 _ _ _)) (by simp [e1]) (hcl _ _)
      · simp [go_sem, hlt, hr, Rev.enc, hset_at, e1, w1, -Int.natCast_add, rvZero]
        rw [if_neg e1] at hf
        refine ⟨k + 1, by omega, ⟨by omega, by omega, hf⟩, Fz.same, fun o y e => ?_⟩
        by_cases en : o = n
        · subst en
          simp only [hset_at, hset_ne _ _ hne] at e ⊢
          exact e
        · simp only [hset_ne _ _ en] at e
          exact h2 _ _ _ o y e
    · have : k = l.length := by omega
      subst this
      simp [go_sem, hset_at, rvZero, Rev.enc]
      rw [List.drop_length] at hf
      rw [hf]
      exact retIs ho (hh _ _) rfl (hcl _ _)
end Go.Proofs.YtgakninlhfkkmaaGreat.Sh
