/- A part of the proof (part 5 of 11). -/
import Derived.Test.YthinbkgpjmjfeaaGreatDoorM4
import Derived.OrdersHeld
import Derived.OrdersIn
import Derived.Shelf.SortM.Plain
import Derived.Shelf.SortM.SortNone
import Derived.Test.YthinbkgpjmjfeaaGreatDoorProg
namespace Go.Proofs.YthinbkgpjmjfeaaGreatDoor.Sh
open Proofs
set_option maxRecDepth 10000
theorem fo193 : (fieldsOfT Tryz.prog 164).map (fun f => (f.name == "_", f.type, f.offset)) = [(false, 3, 0), (false, 3, 1)] := by kernel_rfl
theorem fo166 : (fieldsOfT Tryz.prog 74).map (fun f => (f.name == "_", f.type, f.offset)) = [(false, 3, 0), (false, 3, 1)] := by kernel_rfl
theorem fo164 : (fieldsOfT Tryz.prog 76).map (fun f => (f.name == "_", f.type, f.offset)) = [(false, 3, 0), (false, 3, 1), (false, 3, 2), (false, 4, 3)] := by kernel_rfl
theorem eq193 (a b : Prp) : fieldsEq Tryz.prog [intE a.key, intE a.value] [intE b.key, intE b.value] (fieldsOfT Tryz.prog 164) = some (decide (a = b)) := by
  rw [fieldsEq_map, fo193]
  cases a; cases b
  rename_i a1 a2 b1 b2
  by_cases h1 : a1 = b1 <;> by_cases h2 : a2 = b2 <;> simp [fieldsEq', cellEq, go_sem, h1, h2]
theorem eq166 (a b : Del) : fieldsEq Tryz.prog [intE a.rev, intE a.move] [intE b.rev, intE b.move] (fieldsOfT Tryz.prog 74) = some (decide (a = b)) := by
  rw [fieldsEq_map, fo166]
  cases a; cases b
  rename_i a1 a2 b1 b2
  by_cases h1 : a1 = b1 <;> by_cases h2 : a2 = b2 <;> simp [fieldsEq', cellEq, go_sem, h1, h2]
theorem eq164 (a b : Layer) : fieldsEq Tryz.prog [intE a.rev, intE a.key, intE a.before, .bool a.had] [intE b.rev, intE b.key, intE b.before, .bool b.had] (fieldsOfT Tryz.prog 76) = some (decide (a = b)) := by
  rw [fieldsEq_map, fo164]
  cases a; cases b
  rename_i a1 a2 a3 a4 b1 b2 b3 b4
  by_cases h1 : a1 = b1 <;> by_cases h2 : a2 = b2 <;> by_cases h3 : a3 = b3 <;> by_cases h4 : a4 = b4 <;> simp [fieldsEq', cellEq, go_sem, h1, h2, h3, h4]
theorem c125 (a b : List Prp) (ha : a.length ≤ 1048576) (hb : b.length ≤ 1048576) : PC 126 [.imm 2 (a.map Prp.enc) false, .imm 2 (b.map Prp.enc) false] (.bool (decide (a = b))) := by
  intro h n
  refine go Tryz.func126 rfl (by kernel_rfl) (by kernel_rfl) (by simp [go_sem]) fun ho => ?_
  by_cases hlen : (a.length : Int) = b.length
  · have hlen' : a.length = b.length := by omega
    simp [go_sem, hlen]
    refine goloop 1 (α := Nat) (fun k => [(0, .imm 2 (a.map Prp.enc) false), (1, .imm 2 (b.map Prp.enc) false), (12, intE a.length), (13, intE k)]) (fun _ => h) (fun k m => k ≤ a.length ∧ n ≤ m ∧ a.take k = b.take k) (fun k => a.length - k) 0 ?_ ?_ look_same ?_
    · simp
    · simp [look, hlen]
    rintro k m ⟨hk, hnm, hf⟩
    by_cases hlt : k < a.length
    · have w1 : IntKind.i64.wrap ((k : Int) + 1) = ((k + 1 : Nat) : Int) := by rw [wr64] <;> omega
      have hlt2 : k < b.length := by omega
      obtain ⟨x, hx⟩ : ∃ x, a[k] = x := ⟨_, rfl⟩
      obtain ⟨y, hy⟩ : ∃ y, b[k] = y := ⟨_, rfl⟩
      simp [go_sem, hlt, hlt2, hx, hy, Prp.enc]
      repeat first | refine nd (by kernel_rfl) ?_ | refine sd (by kernel_rfl) ?_ | refine And.intro (by omega) ?_
      refine ⟨_, sem_structEq rfl (.inr rfl) (by kernel_rfl) (by kernel_rfl) (by kernel_rfl) rfl rfl (eq193 x y), ?_⟩
      simp [go_sem]
      repeat first | refine nd (by kernel_rfl) ?_ | refine sd (by kernel_rfl) ?_ | refine And.intro (by omega) ?_
      by_cases he : x = y
      · simp [go_sem, he, w1, -Int.natCast_add]
        exact ⟨k + 1, by omega, ⟨by omega, hnm, by rw [List.take_succ_eq_append_getElem hlt, List.take_succ_eq_append_getElem hlt2, hx, hy, hf, he]⟩, Fz.same⟩
      · simp [go_sem, he]
        have : a ≠ b := by rintro rfl; exact he (by rw [← hx, ← hy])
        exact ret0 ho rfl (by simp [this])
    · simp [go_sem, hlt]
      have : a = b := by rw [List.take_of_length_le (by omega), List.take_of_length_le (by omega)] at hf; exact hf
      exact ret0 ho rfl (by simp [this])
  · simp [go_sem, hlen]
    have : a ≠ b := by rintro rfl; exact hlen rfl
    exact ret0 ho rfl (by simp [this])
theorem c126 (a b : List Del) (ha : a.length ≤ 1048576) (hb : b.length ≤ 1048576) : PC 127 [.imm 2 (a.map Del.enc) false, .imm 2 (b.map Del.enc) false] (.bool (decide (a = b))) := by
  intro h n
  refine go Tryz.func127 rfl (by kernel_rfl) (by kernel_rfl) (by simp [go_sem]) fun ho => ?_
  by_cases hlen : (a.length : Int) = b.length
  · have hlen' : a.length = b.length := by omega
    simp [go_sem, hlen]
    refine goloop 1 (α := Nat) (fun k => [(0, .imm 2 (a.map Del.enc) false), (1, .imm 2 (b.map Del.enc) false), (12, intE a.length), (13, intE k)]) (fun _ => h) (fun k m => k ≤ a.length ∧ n ≤ m ∧ a.take k = b.take k) (fun k => a.length - k) 0 ?_ ?_ look_same ?_
    · simp
    · simp [look, hlen]
    rintro k m ⟨hk, hnm, hf⟩
    by_cases hlt : k < a.length
    · have w1 : IntKind.i64.wrap ((k : Int) + 1) = ((k + 1 : Nat) : Int) := by rw [wr64] <;> omega
      have hlt2 : k < b.length := by omega
      obtain ⟨x, hx⟩ : ∃ x, a[k] = x := ⟨_, rfl⟩
      obtain ⟨y, hy⟩ : ∃ y, b[k] = y := ⟨_, rfl⟩
      simp [go_sem, hlt, hlt2, hx, hy, Del.enc]
      repeat first | refine nd (by kernel_rfl) ?_ | refine sd (by kernel_rfl) ?_ | refine And.intro (by omega) ?_
      refine ⟨_, sem_structEq rfl (.inr rfl) (by kernel_rfl) (by kernel_rfl) (by kernel_rfl) rfl rfl (eq166 x y), ?_⟩
      simp [go_sem]
      repeat first | refine nd (by kernel_rfl) ?_ | refine sd (by kernel_rfl) ?_ | refine And.intro (by omega) ?_
      by_cases he : x = y
      · simp [go_sem, he, w1, -Int.natCast_add]
        exact ⟨k + 1, by omega, ⟨by omega, hnm, by rw [List.take_succ_eq_append_getElem hlt, List.take_succ_eq_append_getElem hlt2, hx, hy, hf, he]⟩, Fz.same⟩
      · simp [go_sem, he]
        have : a ≠ b := by rintro rfl; exact he (by rw [← hx, ← hy])
        exact ret0 ho rfl (by simp [this])
    · simp [go_sem, hlt]
      have : a = b := by rw [List.take_of_length_le (by omega), List.take_of_length_le (by omega)] at hf; exact hf
      exact ret0 ho rfl (by simp [this])
  · simp [go_sem, hlen]
    have : a ≠ b := by rintro rfl; exact hlen rfl
    exact ret0 ho rfl (by simp [this])
theorem c127 (a b : List Layer) (ha : a.length ≤ 1048576) (hb : b.length ≤ 1048576) : PC 128 [.imm 4 (a.map Layer.enc) false, .imm 4 (b.map Layer.enc) false] (.bool (decide (a = b))) := by
  intro h n
  refine go Tryz.func128 rfl (by kernel_rfl) (by kernel_rfl) (by simp [go_sem]) fun ho => ?_
  by_cases hlen : (a.length : Int) = b.length
  · have hlen' : a.length = b.length := by omega
    simp [go_sem, hlen]
    refine goloop 1 (α := Nat) (fun k => [(0, .imm 4 (a.map Layer.enc) false), (1, .imm 4 (b.map Layer.enc) false), (12, intE a.length), (13, intE k)]) (fun _ => h) (fun k m => k ≤ a.length ∧ n ≤ m ∧ a.take k = b.take k) (fun k => a.length - k) 0 ?_ ?_ look_same ?_
    · simp
    · simp [look, hlen]
    rintro k m ⟨hk, hnm, hf⟩
    by_cases hlt : k < a.length
    · have w1 : IntKind.i64.wrap ((k : Int) + 1) = ((k + 1 : Nat) : Int) := by rw [wr64] <;> omega
      have hlt2 : k < b.length := by omega
      obtain ⟨x, hx⟩ : ∃ x, a[k] = x := ⟨_, rfl⟩
      obtain ⟨y, hy⟩ : ∃ y, b[k] = y := ⟨_, rfl⟩
      simp [go_sem, hlt, hlt2, hx, hy, Layer.enc]
      repeat first | refine nd (by kernel_rfl) ?_ | refine sd (by kernel_rfl) ?_ | refine And.intro (by omega) ?_
      refine ⟨_, sem_structEq rfl (.inr rfl) (by kernel_rfl) (by kernel_rfl) (by kernel_rfl) rfl rfl (eq164 x y), ?_⟩
      simp [go_sem]
      repeat first | refine nd (by kernel_rfl) ?_ | refine sd (by kernel_rfl) ?_ | refine And.intro (by omega) ?_
      by_cases he : x = y
      · simp [go_sem, he, w1, -Int.natCast_add]
        exact ⟨k + 1, by omega, ⟨by omega, hnm, by rw [List.take_succ_eq_append_getElem hlt, List.take_succ_eq_append_getElem hlt2, hx, hy, hf, he]⟩, Fz.same⟩
      · simp [go_sem, he]
        have : a ≠ b := by rintro rfl; exact he (by rw [← hx, ← hy])
        exact ret0 ho rfl (by simp [this])
    · simp [go_sem, hlt]
      have : a = b := by rw [List.take_of_length_le (by omega), List.take_of_length_le (by omega)] at hf; exact hf
      exact ret0 ho rfl (by simp [this])
  · simp [go_sem, hlen]
    have : a ≠ b := by rintro rfl; exact hlen rfl
    exact ret0 ho rfl (by simp [this])
theorem c58 (a b : Head) (ha : a.sized) (hb : b.sized) : PC 68 [a.enc, b.enc] (.bool (decide (a = b))) := by
  intro h n
  refine go Tryz.func68 rfl (by kernel_rfl) (by kernel_rfl) (by simp [go_sem]) fun ho => ?_
  have hh : ∀ y z, ∀ o x, h o = some x → hset (hset h n y) (n + 1) z o = some x := fun y z => by repeat (first | exact look_same | refine hset_old ho (by omega) ?_)
  simp [go_sem, Head.enc, Head.flat, hset_at, hset_ne]
  refine (c125 _ _ ha.props hb.props).use ?_
  by_cases h1 : a.props = b.props
  · by_cases h2 : a.ins = b.ins
    · by_cases h3 : a.move = b.move
      · simp [go_sem, h1, h2, h3, hset_at, hset_ne]
        refine (c126 _ _ ha.dels hb.dels).use ?_
        by_cases h4 : a.dels = b.dels
        · simp [go_sem, h4, hset_at, hset_ne]
          refine (c127 _ _ ha.layers hb.layers).use ?_
          simp [go_sem]
          refine retIs ho (hh _ _) ?_ rfl
          cases a; cases b; simp at h1 h2 h3 h4; simp [h1, h2, h3, h4]
        · simp [go_sem, h4]
          refine retIs ho (hh _ _) ?_ rfl
          have : a ≠ b := by rintro rfl; exact h4 rfl
          simp [this]
      · simp [go_sem, h1, h2, h3, hset_at, hset_ne]
        refine retIs ho (hh _ _) ?_ rfl
        have : a ≠ b := by rintro rfl; exact h3 rfl
        simp [this]
    · simp [go_sem, h1, h2, hset_at, hset_ne]
      refine retIs ho (hh _ _) ?_ rfl
      have : a ≠ b := by rintro rfl; exact h2 rfl
      simp [this]
  · simp [go_sem, h1]
    refine retIs ho (hh _ _) ?_ rfl
    have : a ≠ b := by rintro rfl; exact h1 rfl
    simp [this]
theorem indexP_none {p : Nat → Bool} {n k : Nat} (e : indexP p n k = -1) : ∀ i, k ≤ i → i < n → p i = false := by
  intro i hk hi
  rw [indexP] at e
  rw [dif_pos (by omega)] at e
  by_cases hp : p k = true
  · rw [if_pos hp] at e; omega
  · rw [if_neg hp] at e
    by_cases h : i = k
    · subst h; simpa using hp
    · exact indexP_none e i (by omega) hi
termination_by n - k
theorem indexP_some {p : Nat → Bool} {n k i0 : Nat} (e : indexP p n k = i0) : ∀ i, k ≤ i → i < i0 → p i = false := by
  intro i hk hi
  rw [indexP] at e
  split at e
  · by_cases hp : p k = true
    · rw [if_pos hp] at e; omega
    · rw [if_neg hp] at e
      by_cases h : i = k
      · subst h; simpa using hp
      · exact indexP_some e i (by omega) hi
  · omega
termination_by n - k
def keepL {α : Type} (p : α → Bool) (l : List α) (i : Nat) : List α := ((l.take i).filter fun x => !p x) ++ l.drop ((l.take i).filter fun x => !p x).length
theorem d133 (l : List Row) (hl : l.length ≤ 1048576) (g : FuncId) (a b : List SV) (p : Row → Bool) (hp : ∀ x ∈ l, PC g (a ++ [x.enc] ++ b) (.bool (p x))) {H : Hp} {n o : Nat} {full : Bool} (hH : H o = some (.cells ((l.map Row.enc).flatMap SV.cells))) :
    SCall Tryz.prog 162 [.sl o 0 6 l.length full, .fn (.func g) a b] H n (fun v h' n' => v = .imm 6 ((l.filter fun x => !p x).map Row.enc) false ∧ h' = hset H o none ∧ n' = n) := by
  refine go Tryz.func162 rfl (by kernel_rfl) (by kernel_rfl) (by simp [go_sem]) fun ho => ?_
  have hon : o < n := (ho o _ hH).1
  have hI := c193 l hl g a b (fun i => match l[i]? with | some x => p x | none => false) (fun i hi => by simpa [hi] using hp l[i] (List.getElem_mem hi))
  have fin : ∀ (kp : List Row) (h' : Hp) (n' : Nat) (cs : List SV) (f2 : Bool), (l.filter fun x => !p x) = kp → (∀ j y, j ≠ o → H j = some y → h' j = some y) → h' o = some (.cells cs) → kp.length * 6 ≤ cs.length → cs.take (kp.length * 6) = (kp.map Row.enc).flatMap SV.cells →
      RetS n h' n' (.sl o 0 6 kp.length f2) (fun v h' n' => v = .imm 6 ((l.filter fun x => !p x).map Row.enc) false ∧ h' = hset H o none ∧ n' = n) := fun kp h' n' cs f2 hk hh hc h1 h2 => by
    refine .inr ⟨1, .imm 6 (kp.map Row.enc) false, hset H o none, .inr ⟨hset_at _ _ _, by simp, by simp, rfl, cs, (kp.map Row.enc).flatMap SV.cells, hc, by simp [takeN, h1, h2], Row.E.size kp, ?_⟩, Row.E.imm _ _ _ _, fun j y e => ?_, by rw [hk], rfl, rfl⟩
    · have : ∀ l : List SV, All2 (Fz h' (hset H o none) 0) l l := by
        intro l; induction l with
        | nil => trivial
        | cons a l ih => exact ⟨Fz.same, ih⟩
      exact this _
    · by_cases e1 : j = o
      · subst e1; rw [hset_at] at e; cases e
      · rw [hset_ne _ _ e1] at e; exact ⟨hh j y e1 e, ho j y e⟩
  simp [go_sem]
  refine hI.lend 2 rfl ⟨?_, Fz.same, trivial⟩ ?_
  · have := sl_fz (h' := H) (h := fun _ => none) (k := 1) (z := 6) (es := l.map Row.enc) (full := full) (full' := false) (o := o) rfl (by simp) hH (Row.E.size l)
    rw [List.length_map] at this; exact this
  rcases indexP_range (fun i => match l[i]? with | some x => p x | none => false) l.length 0 with e | ⟨i0, _, hi0, e, hpi⟩
  · simp [go_sem, e]
    have hall : (l.filter fun x => !p x) = l := List.filter_eq_self.2 fun x hx => by
      obtain ⟨i, hi, rfl⟩ := List.getElem_of_mem hx
      have := indexP_none e i (Nat.zero_le _) hi
      simpa [hi] using this
    exact fin l H n _ full hall (fun j y _ e => e) hH (by rw [flat_len (Row.E.size l), List.length_map]; exact Nat.le_refl _) (List.take_of_length_le (by rw [flat_len (Row.E.size l), List.length_map]; exact Nat.le_refl _))
  · have w0 : IntKind.i64.wrap ((i0 : Int) + 1) = ((i0 + 1 : Nat) : Int) := by rw [wr64] <;> omega
    have ne1 : ¬ ((i0 : Int) = -1) := by omega
    simp [go_sem, e, w0, ne1, -Int.natCast_add]
    have hpi' : p l[i0] = true := by simpa [hi0] using hpi
    have hbefore : (l.take i0).filter (fun x => !p x) = l.take i0 := List.filter_eq_self.2 fun x hx => by
      obtain ⟨i, hi, rfl⟩ := List.getElem_of_mem hx
      have hi2 : i < i0 := by simp at hi; omega
      have := indexP_some e i (Nat.zero_le _) hi2
      simpa [show i < l.length by omega] using this
    refine goloop 1 (α := Nat) (fun i => [(0, .sl o 0 6 l.length full), (1, .fn (.func g) a b), (5, intE ((l.take i).filter fun x => !p x).length), (6, intE i)]) (fun i => hset H o (some (.cells (((keepL p l i).map Row.enc).flatMap SV.cells))))
      (fun i m => i0 < i ∧ i ≤ l.length ∧ n ≤ m) (fun i => l.length - i) (i0 + 1) ?_ ?_ ?_ ?_
    · exact ⟨Nat.lt_succ_self _, hi0, Nat.le_refl _⟩
    · have : ((l.take (i0 + 1)).filter fun x => !p x).length = i0 := by
        rw [List.take_succ_eq_append_getElem hi0, List.filter_append, hbefore]; simp [hpi']; omega
      simp [look, this, -Int.natCast_add]
    · have : keepL p l (i0 + 1) = l := by
        unfold keepL
        rw [List.take_succ_eq_append_getElem hi0, List.filter_append, hbefore]; simp [hpi', Nat.min_eq_left (Nat.le_of_lt hi0)]
      rw [this]
      intro j y e
      simp only [hset] at e
      split at e
      · rename_i h; subst h; rw [hH]; exact e
      · exact e
    rintro i m ⟨hi1, hi2, hnm⟩
    have hkl : ((l.take i).filter fun x => !p x).length < i := by
      have h1 : l.take i = l.take (i0 + 1) ++ (l.drop (i0 + 1)).take (i - (i0 + 1)) := by
        rw [← List.take_add]; congr 1; omega
      have h2 : ((l.take (i0 + 1)).filter fun x => !p x).length = i0 := by
        rw [List.take_succ_eq_append_getElem hi0, List.filter_append, hbefore]; simp [hpi']; omega
      rw [h1, List.filter_append, List.length_append, h2]
      have := List.length_filter_le (fun x => !p x) ((l.drop (i0 + 1)).take (i - (i0 + 1)))
      simp at this ⊢; omega
    have hkeep : (keepL p l i).length = l.length := by unfold keepL; simp; omega
    generalize hkp : (l.take i).filter (fun x => !p x) = kp at hkl ⊢
    have hne : o ≠ m := by omega
    have hsz := Row.E.size (keepL p l i)
    by_cases hlt : i < l.length
    · have w1 : IntKind.i64.wrap ((i : Int) + 1) = ((i + 1 : Nat) : Int) := by rw [wr64] <;> omega
      have w2 : IntKind.i64.wrap ((kp.length : Int) + 1) = ((kp.length + 1 : Nat) : Int) := by rw [wr64] <;> omega
      obtain ⟨x, hx⟩ : ∃ x, l[i] = x := ⟨_, rfl⟩
      have hget : (keepL p l i)[i]? = some x := by
        unfold keepL; rw [hkp, List.getElem?_append_right (by omega), List.getElem?_drop]
        have : kp.length + (i - kp.length) = i := by omega
        rw [this, List.getElem?_eq_getElem hlt, hx]
      obtain ⟨g1, g2⟩ := flat_get hsz (i := i) (e := x.enc) (by simp [hget])
      have hset' := flat_set hsz (j := kp.length) (e := x.enc) (by simp [hkeep]; omega)
      have g3 : kp.length * 6 + 6 ≤ (((keepL p l i).map Row.enc).flatMap SV.cells).length := by
        rw [flat_len hsz, List.length_map, hkeep]; omega
      have hcl := Row.E.len x
      generalize hF : ((keepL p l i).map Row.enc).flatMap SV.cells = F at g1 g2 g3 hset' ⊢
      have H1 := hp x (by rw [← hx]; exact List.getElem_mem hlt)
      simp only [List.append_assoc, List.cons_append, List.nil_append] at H1
      have hpre := Row.E.st x
      simp [Row.enc_eq, SV.cells] at g2
      simp [go_sem, hlt, hset_at, g1, g2]
      refine PC.use (by simpa [Row.enc_eq] using H1) ?_
      by_cases hpx : p x = true
      · simp [go_sem, hpx, w1, -Int.natCast_add]
        have hk1 : (l.take (i + 1)).filter (fun x => !p x) = kp := by rw [List.take_succ_eq_append_getElem hlt, List.filter_append, hkp, hx]; simp [hpx]
        have hk2 : keepL p l (i + 1) = keepL p l i := by unfold keepL; rw [hk1, hkp]
        refine ⟨i + 1, by omega, ⟨by omega, by omega, by omega⟩, ⟨by rw [hk1]; exact Fz.same, Fz.same⟩, fun j y e => ?_⟩
        rw [hk2, hF] at e
        by_cases e1 : j = o
        · subst e1; rw [hset_at] at e; rw [hset_ne _ _ hne, hset_ne _ _ hne, hset_at]; exact e
        · rw [hset_ne _ _ e1] at e; have := (ho j y e).1; rw [hset_ne _ _ (by omega), hset_ne _ _ (by omega), hset_ne _ _ e1]; exact e
      · have hpx' : p x = false := by simpa using hpx
        have hkl' : (kp.length : Int) < l.length := by omega
        simp [Row.enc_eq, SV.cells] at hset'
        simp [go_sem, hpx', hset_at, hset_ne, hne, hkl', g3, hset', w1, w2, -Int.natCast_add]
        have hk1 : (l.take (i + 1)).filter (fun x => !p x) = kp ++ [x] := by rw [List.take_succ_eq_append_getElem hlt, List.filter_append, hkp, hx]; simp [hpx']
        have hk2 : (keepL p l (i + 1)).map Row.enc = ((keepL p l i).map Row.enc).set kp.length x.enc := by
          have : keepL p l (i + 1) = (keepL p l i).set kp.length x := by
            unfold keepL; rw [hk1, hkp, List.set_append_right _ _ (Nat.le_refl _), Nat.sub_self]
            simp
            rw [List.drop_eq_getElem_cons (show kp.length < l.length by omega), List.set_cons_zero]
          rw [this, List.map_set]
        rw [Row.enc_eq] at hk2
        refine ⟨i + 1, by omega, ⟨by omega, by omega, by omega⟩, ⟨by rw [hk1, List.length_append]; exact Fz.same, Fz.same⟩, fun j y e => ?_⟩
        rw [hk2] at e
        by_cases e1 : j = o
        · subst e1; rw [hset_at] at e ⊢; exact e
        · rw [hset_ne _ _ e1] at e ⊢; have := (ho j y e).1; rw [hset_ne _ _ (by omega), hset_ne _ _ (by omega), hset_ne _ _ e1]; exact e
    · have : i = l.length := by omega
      subst this
      have q1 : kp.length ≤ l.length := by omega
      have q2 : ¬ ((kp.length : Int) = l.length) := by omega
      have q3 : ¬ (l.length - kp.length = 0) := by omega
      rw [List.take_length] at hkp
      have hF : ((keepL p l l.length).map Row.enc).flatMap SV.cells = (kp.map Row.enc).flatMap SV.cells ++ ((l.drop kp.length).map Row.enc).flatMap SV.cells := by unfold keepL; rw [List.take_length, hkp]; simp
      have hlk : ((kp.map Row.enc).flatMap SV.cells).length = kp.length * 6 := by rw [flat_len (Row.E.size kp), List.length_map]
      have hFl : (((keepL p l l.length).map Row.enc).flatMap SV.cells).length = l.length * 6 := by rw [flat_len hsz, List.length_map, hkeep]
      have q4 : kp.length * 6 + (l.length - kp.length) * 6 ≤ (((keepL p l l.length).map Row.enc).flatMap SV.cells).length := by rw [hFl, ← Nat.add_mul]; apply Nat.mul_le_mul_right; omega
      have htk : (((keepL p l l.length).map Row.enc).flatMap SV.cells).take (kp.length * 6) = (kp.map Row.enc).flatMap SV.cells := by rw [hF, ← hlk, List.take_left]
      generalize ((keepL p l l.length).map Row.enc).flatMap SV.cells = F at q4 htk ⊢
      simp [go_sem, hset_at, q1, q2, q3, q4]
      refine fin kp _ _ _ _ hkp (fun j y hj e => by rw [hset_ne _ _ hj, hset_ne _ _ hj]; exact e) (hset_at _ _ _) ?_ ?_
      · rw [htk, List.length_append, hlk]; omega
      · rw [htk, ← hlk, List.take_left]
def Item.addText (y : Item) (t : ByteArray) : Item := .mk y.kind y.code y.id (y.text ++ t) y.head y.flow y.rows
def dropped (x : Item) : Prop := (x.kind = 7 ∧ x.rows = []) ∨ (x.kind = 1 ∧ x.text.size = 0)
instance (x : Item) : Decidable (dropped x) := by unfold dropped; cases h : x.rows <;> simp <;> infer_instance
def normStep (out : List Item) (x : Item) : List Item :=
  if dropped x then out else match out.getLast? with
    | some y => if x.kind = 1 ∧ y.kind = 1 ∧ y.head = x.head then out.dropLast ++ [y.addText x.text] else out ++ [x]
    | none => out ++ [x]
def foldN (l : List Item) : List Item := l.foldl normStep []
mutual
def Item.nrm : Item → Item
  | .mk k c i t h f r => .mk k c i t h (foldN (Item.nrmL f)) ((Row.nrmL r).filter fun r => !decide (r.cells.length = 0))
def Item.nrmL : List Item → List Item
  | [] => []
  | x :: l => Item.nrm x :: Item.nrmL l
def Row.nrm : Row → Row
  | .mk h c => .mk h (Cell.nrmL c)
def Row.nrmL : List Row → List Row
  | [] => []
  | x :: l => Row.nrm x :: Row.nrmL l
def Cell.nrm : Cell → Cell
  | .mk i h f => .mk i h (foldN (Item.nrmL f))
def Cell.nrmL : List Cell → List Cell
  | [] => []
  | x :: l => Cell.nrm x :: Cell.nrmL l
end
theorem Item.nrmL_eq : ∀ l : List Item, Item.nrmL l = l.map Item.nrm
  | [] => by rw [Item.nrmL]; rfl
  | x :: l => by rw [Item.nrmL, Item.nrmL_eq l]; rfl
theorem Row.nrmL_eq : ∀ l : List Row, Row.nrmL l = l.map Row.nrm
  | [] => by rw [Row.nrmL]; rfl
  | x :: l => by rw [Row.nrmL, Row.nrmL_eq l]; rfl
theorem Cell.nrmL_eq : ∀ l : List Cell, Cell.nrmL l = l.map Cell.nrm
  | [] => by rw [Cell.nrmL]; rfl
  | x :: l => by rw [Cell.nrmL, Cell.nrmL_eq l]; rfl
def runNormal (l : List Item) : List Item := foldN (Item.nrmL l)
theorem c133n (z : Nat) (full : Bool) : PC 162 [.imm z [] full, .fn (.func 164) [] []] (.imm 6 [] false) := by
  intro h n
  refine go Tryz.func162 rfl (by kernel_rfl) (by kernel_rfl) (by simp [go_sem]) fun ho => ?_
  simp [go_sem]
  have hI := (c193 [] (by simp) 164 [] [] (fun _ => false) (by simp)).wk (us := [.imm z [] full, .fn (.func 164) [] []]) 1 ⟨imm_fz (by simp), Fz.same, trivial⟩
  refine PC.use hI ?_
  have e : indexP (fun _ => false) 0 0 = -1 := by rw [indexP]; simp
  simp [go_sem, e]
  exact ret_nil ho look_same (by simp) rfl
theorem c136 (r : Row) : PC 164 [r.enc] (.bool (decide (r.cells.length = 0))) := by
  intro h n
  refine go Tryz.func164 rfl (by kernel_rfl) (by kernel_rfl) (by simp [go_sem]) fun ho => ?_
  simp [go_sem, Row.enc_eq, hset_at]
  exact retIs ho (hset_old ho (Nat.le_refl _) look_same) (by cases r.cells <;> simp; omega) rfl
theorem rows_sem {E : Env} (l : List Row) (hl : l.length ≤ 1048576) (H : ∀ (i : Nat) (h : i < l.length), PC 163 [(l[i]).enc] (Row.nrm l[i]).enc) {h : Hp} {n : Nat} {K : SV → Hp → Nat → Prop}
    (hk : ∀ v h' n', n ≤ n' → (∀ o x, h o = some x → h' o = some x) → SCallE E Tryz.prog 162 [v, .fn (.func 164) [] []] h' n' (fun v2 h2 n2 => (∀ o x, o < n → h o = some x → h2 o = some x) ∧ n ≤ n2 ∧ v2 = .imm 6 (((l.map Row.nrm).filter fun r => !decide (r.cells.length = 0)).map Row.enc) false) → K v h' n') :
    SCallE E Tryz.prog 157 [rowsE l, .fn (.func 163) [] []] h n K := by
  refine (l134 l hl 163 [] [] Row.nrm (fun i hi => H i hi)).use fun v h' n' ⟨hn, hh, hv⟩ => hk v h' n' hn hh ?_
  rcases hv with ⟨he, z', full, rfl⟩ | ⟨o, full, h1, h2, rfl, h3⟩
  · refine PC.use (c133n z' full) ⟨fun o x _ e => hh o x e, hn, ?_⟩
    have : l.map Row.nrm = [] := by simpa using he
    rw [this]; rfl
  · rw [List.length_map]
    refine SCallE.lift ((d133 (l.map Row.nrm) (by simpa using hl) 164 [] [] (fun r => decide (r.cells.length = 0)) (fun r _ => c136 r) (n := n') (full := full) h3).mono ?_)
    rintro v2 h2 n2 ⟨rfl, rfl, rfl⟩
    exact ⟨fun j x g e => by rw [hset_ne _ _ (by omega)]; exact hh j x e, hn, rfl⟩
theorem Item.nrm_fields (x : Item) : x.nrm.kind = x.kind ∧ x.nrm.code = x.code ∧ x.nrm.id = x.id ∧ x.nrm.text = x.text ∧ x.nrm.head = x.head ∧ x.nrm.flow = runNormal x.flow ∧ x.nrm.rows = (x.rows.map Row.nrm).filter fun r => !decide (r.cells.length = 0) := by
  cases x; rw [Item.nrm]; simp [Item.kind, Item.code, Item.id, Item.text, Item.head, Item.flow, Item.rows, runNormal, Row.nrmL_eq]
theorem foldN_take (l : List Item) (k : Nat) (h : k < l.length) : foldN (Item.nrmL (l.take (k + 1))) = normStep (foldN (Item.nrmL (l.take k))) l[k].nrm := by
  rw [List.take_succ_eq_append_getElem h, Item.nrmL_eq, List.map_append, foldN, List.foldl_append, Item.nrmL_eq]; rfl
theorem normStep_len (out : List Item) (x : Item) : (normStep out x).length ≤ out.length + 1 := by
  unfold normStep
  split
  · omega
  · split
    · split <;> simp
    · simp
theorem foldN_len (l : List Item) : ∀ k, k ≤ l.length → (foldN (Item.nrmL (l.take k))).length ≤ k
  | 0, _ => by simp [Item.nrmL, foldN]
  | k + 1, h => by
    rw [foldN_take l k h]
    have := normStep_len (foldN (Item.nrmL (l.take k))) l[k].nrm
    have := foldN_len l k (by omega)
    omega
theorem normStep_mem {out : List Item} {x y : Item} (h : y ∈ normStep out x) : y ∈ out ∨ y = x ∨ ∃ z ∈ out, y = z.addText x.text := by
  unfold normStep at h
  split at h
  · exact .inl h
  · split at h
    · rename_i z hz
      split at h
      · rcases List.mem_append.1 h with h | h
        · exact .inl ((List.dropLast_sublist out).subset h)
        · exact .inr (.inr ⟨z, List.mem_of_getLast? hz, List.mem_singleton.1 h⟩)
      · rcases List.mem_append.1 h with h | h
        · exact .inl h
        · exact .inr (.inl (List.mem_singleton.1 h))
    · rcases List.mem_append.1 h with h | h
      · exact .inl h
      · exact .inr (.inl (List.mem_singleton.1 h))
theorem foldN_mem (l : List Item) (hs : ∀ x ∈ l, x.head.sized ∧ x.text.size ≤ 1048576) : ∀ k, k ≤ l.length → ∀ y ∈ foldN (Item.nrmL (l.take k)), y.head.sized ∧ y.text.size ≤ k * 1048576
  | 0, _, y, hy => by simp [Item.nrmL, foldN] at hy
  | k + 1, h, y, hy => by
    rw [foldN_take l k h] at hy
    have hx := hs l[k] (List.getElem_mem h)
    obtain ⟨_, _, _, f4, f5, _, _⟩ := (l[k]).nrm_fields
    rcases normStep_mem hy with h1 | rfl | ⟨z, hz, rfl⟩
    · have := foldN_mem l hs k (by omega) y h1
      exact ⟨this.1, by omega⟩
    · rw [f4, f5]; exact ⟨hx.1, by omega⟩
    · have := foldN_mem l hs k (by omega) z hz
      refine ⟨by simpa [Item.addText, Item.head] using this.1, ?_⟩
      have e : (z.addText (l[k]).nrm.text).text.size = z.text.size + (l[k]).text.size := by show (z.text ++ (l[k]).nrm.text).size = _; rw [ByteArray.size_append, f4]
      omega
theorem ba_empty (s : ByteArray) : (s.toList == ByteArray.empty.toList) = decide (s.size = 0) := by
  rw [← beq_toListBytes]
  by_cases h : s.size = 0
  · have : s = ByteArray.empty := by
      obtain ⟨⟨l⟩⟩ := s
      cases l with
      | nil => rfl
      | cons a l => simp [ByteArray.size] at h
    subst this; rfl
  · have : s ≠ ByteArray.empty := by rintro rfl; exact h rfl
    have e : (s == ByteArray.empty) = false := by
      rw [Bool.eq_false_iff]; intro e; exact this ((ba_beq _ _).1 e)
    rw [e]; simp [h]
theorem ba_nil (s : ByteArray) : s.toList = [] ↔ s.size = 0 := by
  have h := ba_empty s
  have e : ByteArray.empty.toList = [] := by
    have := ba_empty ByteArray.empty
    rw [ByteArray.toList_eq]; rfl
  rw [e] at h
  constructor
  · intro g; rw [g] at h; simpa using h.symm
  · intro g; rw [decide_eq_true g] at h; simpa using h
set_option maxHeartbeats 4000000 in
theorem c73_of (l : List Item) (hl : l.length ≤ 1048576) (hs : ∀ x ∈ l, x.head.sized ∧ x.text.size ≤ 1048576 ∧ x.rows.length ≤ 1048576)
    (H1 : ∀ x ∈ l, PC 102 [itemsE x.flow] (itemsE (runNormal x.flow))) (H2 : ∀ x ∈ l, ∀ (i : Nat) (h : i < x.rows.length), PC 163 [(x.rows[i]).enc] (Row.nrm x.rows[i]).enc) : LC 102 [itemsE l] 11 ((runNormal l).map Item.enc) := by
  intro h n
  refine go Tryz.func102 rfl (by kernel_rfl) (by kernel_rfl) (by simp [go_sem]) fun ho => ?_
  simp [go_sem]
  refine goloop 2 (α := Nat × Option Nat) (fun q => [(3, AccV 11 q.2 ((foldN (Item.nrmL (l.take q.1))).map Item.enc)), (7, itemsE l), (8, intE l.length), (9, intE q.1)]) (fun q => AccH q.2 ((foldN (Item.nrmL (l.take q.1))).map Item.enc) h)
    (fun q m => q.1 ≤ l.length ∧ n ≤ m ∧ AccI n m 11 q.2 ((foldN (Item.nrmL (l.take q.1))).map Item.enc)) (fun q => l.length - q.1) (0, none) ?_ ?_ look_same ?_
  · exact ⟨Nat.zero_le _, Nat.le_refl _, by simp [Item.nrmL, foldN]; exact AccI.nil _ _ _⟩
  · simp [look, AccV]
  rintro ⟨k, o⟩ m ⟨hk, hnm, hA⟩
  dsimp only at hk hA ⊢
  by_cases hlt : k < l.length
  · have w1 : IntKind.i64.wrap ((k : Int) + 1) = ((k + 1 : Nat) : Int) := by rw [wr64] <;> omega
    obtain ⟨x, hx⟩ : ∃ x, l[k] = x := ⟨_, rfl⟩
    have hxm : x ∈ l := by rw [← hx]; exact List.getElem_mem hlt
    obtain ⟨hxh, hxt, hxr⟩ := hs x hxm
    have hft := foldN_take l k hlt
    rw [hx] at hft
    obtain ⟨f1, f2, f3, f4, f5, f6, f7⟩ := x.nrm_fields
    have hfl := foldN_len l k hk
    generalize hys : foldN (Item.nrmL (l.take k)) = ys at hA hft hfl ⊢
    have hlo : ∀ j, o = some j → j < m := fun j e => (hA.lt j e).2
    simp [go_sem, hlt, hx, Item.enc_eq, hset_at]
    refine PC.use (by simpa [Head.enc, Head.flat] using c118 x.head hxh) ?_
    simp [go_sem, hset_at]
    refine (H1 x hxm).use ?_
    simp [go_sem, hset_at]
    refine rows_sem x.rows hxr (fun i hi => H2 x hxm i hi) fun v h1 m1 hm1 hh1 hcall => ?_
    simp [go_sem]
    refine SCallE.mono hcall ?_
    rintro v2 h2 m2 ⟨hh2, hm2, rfl⟩
    rw [← f7]
    generalize hR : x.nrm.rows = R at f7 ⊢
    have em0 := hh2 m _ (Nat.lt_succ_self m) (hset_at _ _ _)
    have ho2 : ∀ j, o = some j → h2 j = some (.cells ((ys.map Item.enc).flatMap SV.cells)) := fun j e => by
      have := hlo j e
      exact hh2 j _ (by omega) (by rw [hset_ne _ _ (by omega), hset_ne _ _ (by omega), hset_ne _ _ (by omega), hset_ne _ _ (by omega)]; exact acc_at j e)
    have hacc : ∀ j y, AccH o (ys.map Item.enc) h j = some y → j < m ∧ h2 j = some y := fun j y e => by
      have hjm : j < m := by
        cases o with
        | none => have := (ho j y e).1; omega
        | some i =>
          simp only [AccH, hset] at e
          split at e
          · rename_i h; subst h; exact hlo _ rfl
          · have := (ho j y e).1; omega
      exact ⟨hjm, hh2 j _ (by omega) (by rw [hset_ne _ _ (by omega), hset_ne _ _ (by omega), hset_ne _ _ (by omega), hset_ne _ _ (by omega)]; exact e)⟩
    have hold : ∀ j y, h j = some y → h2 j = some y := fun j y e => (hacc j y (AccH.old ho hA j y e)).2
    clear hcall hh1 hh2
    rcases o with _ | j
    · have hys0 : ys = [] := by simpa using hA.none rfl
      subst hys0
      have happ : ¬ dropped x.nrm → normStep [] x.nrm = [] ++ [x.nrm] := fun hd => by rw [normStep, if_neg hd]; rfl
      by_cases k7 : x.kind = 7
      · by_cases hR0 : R = []
        · have hd : dropped x.nrm := .inl ⟨by rw [f1, k7], by rw [hR, hR0]⟩
          simp [go_sem, AccV, em0, hset_at, k7, hR0, w1, -Int.natCast_add]
          rw [normStep, if_pos hd] at hft
          refine ⟨k + 1, by omega, none, ⟨by omega, by omega, by rw [hft]; exact hA.mono (by omega)⟩, ⟨by rw [hft]; first | exact Fz.same | (simp [AccV, Fz.same]), Fz.same⟩, fun i y e => ?_⟩
          rw [hft] at e
          obtain ⟨g1, g2⟩ := hacc i y e
          rw [hset_ne _ _ (by omega)]; exact g2
        · have hd : ¬ dropped x.nrm := by rintro (⟨_, g⟩ | ⟨g, _⟩); exact hR0 (by rw [← hR, g]); rw [f1, k7] at g; exact absurd g (by decide)
          rw [happ hd] at hft
          simp [go_sem, AccV, em0, hset_at, k7, hR0]
          repeat first | refine nd (by kernel_rfl) ?_ | refine sd (by kernel_rfl) ?_ | refine And.intro (by omega) ?_
          rw [app_nil (e := x.nrm.enc) (t := 22) (t2 := 22) (el := 80) (z := 11) (by simp [go_sem]) (by simp [go_sem]) (by simp [go_sem]) (by simp) (by simp [go_sem]) (by simp [go_sem]) (by simp [go_sem]) (Item.E.len _) ?a1]
          case a1 => simp [hset_at, Item.enc_eq, SV.cells, f1, f2, f3, f4, f5, f6, hR, k7]
          simp [go_sem, w1, -Int.natCast_add]
          refine ⟨k + 1, by omega, some (m2 + 1), ⟨by omega, by omega, by rw [hft, List.map_append]; exact hA.push (Item.E.st _) (Item.E.len _) (by omega) (by omega)⟩, ⟨by rw [hft]; simp [Fz.same], Fz.same⟩, ?_⟩
          rw [hft, List.map_append]
          have := acc_live (p := m2 + 1) (v := .sl (m2 + 1) 0 11 (1) false) (e := x.nrm.enc) ho (by omega) hA (H := hset (hset h2 m (some (.cells x.nrm.enc.cells))) m2 (some (.cells x.nrm.enc.cells))) (hset_old ho (by omega) (hset_old ho (by omega) hold))
          simpa [Item.enc_eq, SV.cells, Out.app, f1, f2, f3, f4, f5, f6, hR, k7] using this
      · by_cases k1 : x.kind = 1
        · by_cases ht : x.text.size = 0
          · have hd : dropped x.nrm := .inr ⟨by rw [f1, k1], by rw [f4, ht]⟩
            simp [go_sem, AccV, em0, hset_at, k1, (ba_nil _).2 ht, w1, -Int.natCast_add]
            rw [normStep, if_pos hd] at hft
            refine ⟨k + 1, by omega, none, ⟨by omega, by omega, by rw [hft]; exact hA.mono (by omega)⟩, ⟨by rw [hft]; first | exact Fz.same | (simp [AccV, Fz.same]), Fz.same⟩, fun i y e => ?_⟩
            rw [hft] at e
            obtain ⟨g1, g2⟩ := hacc i y e
            rw [hset_ne _ _ (by omega)]; exact g2
          · have hd : ¬ dropped x.nrm := by rintro (⟨g, _⟩ | ⟨_, g⟩); rw [f1, k1] at g; exact absurd g (by decide); exact ht (by rw [← f4, g])
            rw [happ hd] at hft
            simp [go_sem, AccV, em0, hset_at, k1, mt (ba_nil _).1 ht]
            repeat first | refine nd (by kernel_rfl) ?_ | refine sd (by kernel_rfl) ?_ | refine And.intro (by omega) ?_
            rw [app_nil (e := x.nrm.enc) (t := 22) (t2 := 22) (el := 80) (z := 11) (by simp [go_sem]) (by simp [go_sem]) (by simp [go_sem]) (by simp) (by simp [go_sem]) (by simp [go_sem]) (by simp [go_sem]) (Item.E.len _) ?a1]
            case a1 => simp [hset_at, Item.enc_eq, SV.cells, f1, f2, f3, f4, f5, f6, hR, k1]
            simp [go_sem, w1, -Int.natCast_add]
            refine ⟨k + 1, by omega, some (m2 + 1), ⟨by omega, by omega, by rw [hft, List.map_append]; exact hA.push (Item.E.st _) (Item.E.len _) (by omega) (by omega)⟩, ⟨by rw [hft]; simp [Fz.same], Fz.same⟩, ?_⟩
            rw [hft, List.map_append]
            have := acc_live (p := m2 + 1) (v := .sl (m2 + 1) 0 11 (1) false) (e := x.nrm.enc) ho (by omega) hA (H := hset (hset h2 m (some (.cells x.nrm.enc.cells))) m2 (some (.cells x.nrm.enc.cells))) (hset_old ho (by omega) (hset_old ho (by omega) hold))
            simpa [Item.enc_eq, SV.cells, Out.app, f1, f2, f3, f4, f5, f6, hR, k1] using this
        · have hd : ¬ dropped x.nrm := by rintro (⟨g, _⟩ | ⟨g, _⟩); rw [f1] at g; exact k7 g; rw [f1] at g; exact k1 g
          rw [happ hd] at hft
          simp [go_sem, AccV, em0, hset_at, k1, k7]
          repeat first | refine nd (by kernel_rfl) ?_ | refine sd (by kernel_rfl) ?_ | refine And.intro (by omega) ?_
          rw [app_nil (e := x.nrm.enc) (t := 22) (t2 := 22) (el := 80) (z := 11) (by simp [go_sem]) (by simp [go_sem]) (by simp [go_sem]) (by simp) (by simp [go_sem]) (by simp [go_sem]) (by simp [go_sem]) (Item.E.len _) ?a1]
          case a1 => simp [hset_at, Item.enc_eq, SV.cells, f1, f2, f3, f4, f5, f6, hR]
          simp [go_sem, w1, -Int.natCast_add]
          refine ⟨k + 1, by omega, some (m2 + 1), ⟨by omega, by omega, by rw [hft, List.map_append]; exact hA.push (Item.E.st _) (Item.E.len _) (by omega) (by omega)⟩, ⟨by rw [hft]; simp [Fz.same], Fz.same⟩, ?_⟩
          rw [hft, List.map_append]
          have := acc_live (p := m2 + 1) (v := .sl (m2 + 1) 0 11 (1) false) (e := x.nrm.enc) ho (by omega) hA (H := hset (hset h2 m (some (.cells x.nrm.enc.cells))) m2 (some (.cells x.nrm.enc.cells))) (hset_old ho (by omega) (hset_old ho (by omega) hold))
          simpa [Item.enc_eq, SV.cells, Out.app, f1, f2, f3, f4, f5, f6, hR, k1] using this
    · have hj : j < m := hlo j rfl
      have hjm : j ≠ m := by omega
      have ho2 := ho2 j rfl
      have happ : ¬ dropped x.nrm → x.kind ≠ 1 → normStep ys x.nrm = ys ++ [x.nrm] := fun hd hk => by
        rw [normStep, if_neg hd]; split
        · rw [if_neg (by rw [f1]; exact fun g => hk g.1)]
        · rfl
      by_cases k7 : x.kind = 7
      · by_cases hR0 : R = []
        · have hd : dropped x.nrm := .inl ⟨by rw [f1, k7], by rw [hR, hR0]⟩
          simp [go_sem, AccV, em0, hset_at, k7, hR0, w1, -Int.natCast_add]
          rw [normStep, if_pos hd] at hft
          refine ⟨k + 1, by omega, some j, ⟨by omega, by omega, by rw [hft]; exact hA.mono (by omega)⟩, ⟨by rw [hft]; first | exact Fz.same | (simp [AccV, Fz.same]), Fz.same⟩, fun i y e => ?_⟩
          rw [hft] at e
          obtain ⟨g1, g2⟩ := hacc i y e
          rw [hset_ne _ _ (by omega)]; exact g2
        · have hd : ¬ dropped x.nrm := by rintro (⟨_, g⟩ | ⟨g, _⟩); exact hR0 (by rw [← hR, g]); rw [f1, k7] at g; exact absurd g (by decide)
          rw [happ hd (by omega)] at hft
          simp [go_sem, AccV, em0, hset_at, k7, hR0]
          repeat first | refine nd (by kernel_rfl) ?_ | refine sd (by kernel_rfl) ?_ | refine And.intro (by omega) ?_
          rw [app_sl (es := ys.map Item.enc) (e := x.nrm.enc) (t := 22) (t2 := 22) (el := 80) (z := 11) (by simp [go_sem]) (by simp [go_sem]) (by simp [go_sem]) (by simp) (by simp [go_sem]) (by simp [go_sem]) (by simp [go_sem]) (by simp; omega) hA (Item.E.len _) ?a1 ?a2 _ (by simp)]
          case a1 => simp [hset_at, Item.enc_eq, SV.cells, f1, f2, f3, f4, f5, f6, hR, k7]
          case a2 => rw [hset_ne _ _ (by omega), hset_ne _ _ (by omega)]; exact ho2
          simp [go_sem, w1, -Int.natCast_add]
          refine ⟨k + 1, by omega, some (m2 + 1), ⟨by omega, by omega, by rw [hft, List.map_append]; exact hA.push (Item.E.st _) (Item.E.len _) (by omega) (by omega)⟩, ⟨by rw [hft]; simp [Fz.same], Fz.same⟩, ?_⟩
          rw [hft, List.map_append]
          have := acc_live (p := m2 + 1) (v := .sl (m2 + 1) 0 11 ((ys.map Item.enc).length + 1) false) (e := x.nrm.enc) ho (by omega) hA (H := hset (hset h2 m (some (.cells x.nrm.enc.cells))) m2 (some (.cells x.nrm.enc.cells))) (hset_old ho (by omega) (hset_old ho (by omega) hold))
          simpa [Item.enc_eq, SV.cells, Out.app, f1, f2, f3, f4, f5, f6, hR, k7] using this
      · by_cases k1 : x.kind = 1
        · by_cases ht : x.text.size = 0
          · have hd : dropped x.nrm := .inr ⟨by rw [f1, k1], by rw [f4, ht]⟩
            simp [go_sem, AccV, em0, hset_at, k1, (ba_nil _).2 ht, w1, -Int.natCast_add]
            rw [normStep, if_pos hd] at hft
            refine ⟨k + 1, by omega, some j, ⟨by omega, by omega, by rw [hft]; exact hA.mono (by omega)⟩, ⟨by rw [hft]; first | exact Fz.same | (simp [AccV, Fz.same]), Fz.same⟩, fun i y e => ?_⟩
            rw [hft] at e
            obtain ⟨g1, g2⟩ := hacc i y e
            rw [hset_ne _ _ (by omega)]; exact g2
          · have hd : ¬ dropped x.nrm := by rintro (⟨g, _⟩ | ⟨_, g⟩); rw [f1, k1] at g; exact absurd g (by decide); exact ht (by rw [← f4, g])
            rcases List.eq_nil_or_concat ys with rfl | ⟨ys', y, rfl⟩
            · have hft' : normStep [] x.nrm = [] ++ [x.nrm] := by rw [normStep, if_neg hd]; rfl
              rw [hft'] at hft
              simp [go_sem, AccV, em0, hset_at, k1, mt (ba_nil _).1 ht]
              repeat first | refine nd (by kernel_rfl) ?_ | refine sd (by kernel_rfl) ?_ | refine And.intro (by omega) ?_
              rw [app_sl (es := [].map Item.enc) (e := x.nrm.enc) (t := 22) (t2 := 22) (el := 80) (z := 11) (by simp [go_sem]) (by simp [go_sem]) (by simp [go_sem]) (by simp) (by simp [go_sem]) (by simp [go_sem]) (by simp [go_sem]) (by simp) hA (Item.E.len _) ?a1 ?a2 _ (by simp)]
              case a1 => simp [hset_at, Item.enc_eq, SV.cells, f1, f2, f3, f4, f5, f6, hR, k1]
              case a2 => rw [hset_ne _ _ (by omega), hset_ne _ _ (by omega)]; exact ho2
              simp [go_sem, w1, -Int.natCast_add]
              refine ⟨k + 1, by omega, some (m2 + 1), ⟨by omega, by omega, by rw [hft, List.map_append]; exact hA.push (Item.E.st _) (Item.E.len _) (by omega) (by omega)⟩, ⟨by rw [hft]; simp [Fz.same], Fz.same⟩, ?_⟩
              rw [hft, List.map_append]
              have := acc_live (p := m2 + 1) (v := .sl (m2 + 1) 0 11 1 false) (e := x.nrm.enc) ho (by omega) hA (H := hset (hset h2 m (some (.cells x.nrm.enc.cells))) m2 (some (.cells x.nrm.enc.cells))) (hset_old ho (by omega) (hset_old ho (by omega) hold))
              simpa [Item.enc_eq, SV.cells, Out.app, f1, f2, f3, f4, f5, f6, hR, k1] using this
            · rw [List.concat_eq_append] at *
              have hym := foldN_mem l (fun x hx => ⟨(hs x hx).1, (hs x hx).2.1⟩) k hk y (by rw [hys]; simp)
              have hl' : (ys' ++ [y]).length = ys'.length + 1 := by simp
              have w2 : IntKind.i64.wrap (ys'.length : Int) = (ys'.length : Int) := by rw [wr64] <;> omega
              have hpos : (0 : Int) < (ys'.length : Int) + 1 := by omega
              have hpos2 : (ys'.length : Int) < (ys'.length : Int) + 1 := by omega
              have hAl : ((ys'.map Item.enc).flatMap SV.cells).length = ys'.length * 11 := by rw [flat_len (Item.E.size ys'), List.length_map]
              have ho3 : h2 j = some (.cells ((ys'.map Item.enc).flatMap SV.cells ++ y.enc.cells)) := by rw [ho2]; simp
              rw [Item.enc_eq y] at ho3
              simp only [SV.cells] at ho3
              generalize hA' : (ys'.map Item.enc).flatMap SV.cells = A at hAl ho3
              by_cases hy1 : y.kind = 1
              · simp [go_sem, AccV, em0, hset_at, hset_ne, hjm, k1, mt (ba_nil _).1 ht, ho3, w2, hpos, hpos2, ← hAl, hy1, List.drop_length_add_append]
                repeat first | refine nd (by kernel_rfl) ?_ | refine sd (by kernel_rfl) ?_ | refine And.intro (by omega) ?_
                refine CallD.pure _ _ _ _ _ _ (by simpa [Head.enc, Head.flat] using c58 y.head x.head hym.1 hxh) ?_
                by_cases hhd : y.head = x.head
                · have hcat : y.text.size + x.text.size ≤ 9223372036854775807 := by have := hym.2; omega
                  have hft' : normStep (ys' ++ [y]) x.nrm = ys' ++ [y.addText x.text] := by
                    rw [normStep, if_neg hd, List.getLast?_concat]
                    simp only
                    rw [if_pos ⟨by rw [f1, k1], hy1, by rw [hhd, f5]⟩, List.dropLast_concat, f4]
                  rw [hft'] at hft
                  simp [go_sem, hhd, hset_at, hset_ne, hjm, ho3, w1, w2, ← hAl, hcat, List.drop_length_add_append, List.take_length_add_append, -Int.natCast_add]
                  repeat first | refine nd (by kernel_rfl) ?_ | refine sd (by kernel_rfl) ?_ | refine And.intro (by omega) ?_
                  refine ⟨k + 1, by omega, some j, ⟨by omega, by omega, ?_⟩, ⟨by rw [hft]; simp [Fz.same], Fz.same⟩, fun i y' e => ?_⟩
                  · rw [hft]; exact ⟨by simp, fun i e => ⟨(hA.lt i e).1, by have := (hA.lt i e).2; omega⟩, Item.E.size _⟩
                  · rw [hft] at e
                    simp only [AccH] at e
                    by_cases e1 : i = j
                    · subst e1
                      rw [hset_at] at e ⊢
                      rw [← e]
                      have ec : (y.addText x.text).enc.cells = [intE y.kind, intE y.code, intE y.id, .str (y.text ++ x.text), propsE y.head.props, intE y.head.ins, intE y.head.move, delsE y.head.dels, layersE y.head.layers, itemsE y.flow, rowsE y.rows] := by rw [Item.enc_eq]; rfl
                      rw [List.map_append, List.flatMap_append, hA', List.map_singleton, List.flatMap_singleton, ec, hhd]
                      simp [Nat.add_assoc, List.drop_length_add_append]
                    · rw [hset_ne _ _ e1] at e
                      obtain ⟨g1, g2⟩ := hacc i y' (by simp only [AccH]; rw [hset_ne _ _ e1]; exact e)
                      rw [hset_ne _ _ e1, hset_ne _ _ (by omega)]; exact g2
                · have hft' : normStep (ys' ++ [y]) x.nrm = (ys' ++ [y]) ++ [x.nrm] := by
                    rw [normStep, if_neg hd, List.getLast?_concat]
                    simp only
                    rw [if_neg (by rw [f5]; exact fun g => hhd g.2.2)]
                  rw [hft'] at hft
                  simp [go_sem, hhd, hset_at]
                  repeat first | refine nd (by kernel_rfl) ?_ | refine sd (by kernel_rfl) ?_ | refine And.intro (by omega) ?_
                  rw [app_sl (es := (ys' ++ [y]).map Item.enc) (e := x.nrm.enc) (t := 22) (t2 := 22) (el := 80) (z := 11) (by simp [go_sem]) (by simp [go_sem]) (by simp [go_sem]) (by simp) (by simp [go_sem]) (by simp [go_sem]) (by simp [go_sem]) (by simp; omega) hA (Item.E.len _) ?a1 ?a2 _ (by simp)]
                  case a1 => simp [hset_at, Item.enc_eq, SV.cells, f1, f2, f3, f4, f5, f6, hR, k1]
                  case a2 => rw [hset_ne _ _ (by omega), hset_ne _ _ (by omega)]; exact ho2
                  simp [go_sem, w1, -Int.natCast_add]
                  refine ⟨k + 1, by omega, some (m2 + 1), ⟨by omega, by omega, by rw [hft, List.map_append]; exact hA.push (Item.E.st _) (Item.E.len _) (by omega) (by omega)⟩, ⟨by rw [hft]; simp [Fz.same], Fz.same⟩, ?_⟩
                  rw [hft, List.map_append]
                  have := acc_live (p := m2 + 1) (v := .sl (m2 + 1) 0 11 (((ys' ++ [y]).map Item.enc).length + 1) false) (e := x.nrm.enc) ho (by omega) hA (H := hset (hset h2 m (some (.cells x.nrm.enc.cells))) m2 (some (.cells x.nrm.enc.cells))) (hset_old ho (by omega) (hset_old ho (by omega) hold))
                  simpa [Item.enc_eq, SV.cells, Out.app, f1, f2, f3, f4, f5, f6, hR, k1] using this
              · simp [go_sem, AccV, em0, hset_at, hset_ne, hjm, k1, mt (ba_nil _).1 ht, ho3, w2, hpos, hpos2, ← hAl, hy1]
                repeat first | refine nd (by kernel_rfl) ?_ | refine sd (by kernel_rfl) ?_ | refine And.intro (by omega) ?_
                have hft' : normStep (ys' ++ [y]) x.nrm = (ys' ++ [y]) ++ [x.nrm] := by
                  rw [normStep, if_neg hd, List.getLast?_concat]
                  simp only
                  rw [if_neg (fun g => hy1 g.2.1)]
                rw [hft'] at hft
                rw [app_sl (es := (ys' ++ [y]).map Item.enc) (e := x.nrm.enc) (t := 22) (t2 := 22) (el := 80) (z := 11) (by simp [go_sem]) (by simp [go_sem]) (by simp [go_sem]) (by simp) (by simp [go_sem]) (by simp [go_sem]) (by simp [go_sem]) (by simp; omega) hA (Item.E.len _) ?a1 ?a2 _ (by simp)]
                case a1 => simp [hset_at, Item.enc_eq, SV.cells, f1, f2, f3, f4, f5, f6, hR, k1]
                case a2 => rw [hset_ne _ _ (by omega), hset_ne _ _ (by omega)]; exact ho2
                simp [go_sem, w1, -Int.natCast_add]
                refine ⟨k + 1, by omega, some (m2 + 1), ⟨by omega, by omega, by rw [hft, List.map_append]; exact hA.push (Item.E.st _) (Item.E.len _) (by omega) (by omega)⟩, ⟨by rw [hft]; simp [Fz.same], Fz.same⟩, ?_⟩
                rw [hft, List.map_append]
                have := acc_live (p := m2 + 1) (v := .sl (m2 + 1) 0 11 (((ys' ++ [y]).map Item.enc).length + 1) false) (e := x.nrm.enc) ho (by omega) hA (H := hset (hset h2 m (some (.cells x.nrm.enc.cells))) m2 (some (.cells x.nrm.enc.cells))) (hset_old ho (by omega) (hset_old ho (by omega) hold))
                simpa [Item.enc_eq, SV.cells, Out.app, f1, f2, f3, f4, f5, f6, hR, k1] using this
        · have hd : ¬ dropped x.nrm := by rintro (⟨g, _⟩ | ⟨g, _⟩); rw [f1] at g; exact k7 g; rw [f1] at g; exact k1 g
          rw [happ hd k1] at hft
          simp [go_sem, AccV, em0, hset_at, k1, k7]
          repeat first | refine nd (by kernel_rfl) ?_ | refine sd (by kernel_rfl) ?_ | refine And.intro (by omega) ?_
          rw [app_sl (es := ys.map Item.enc) (e := x.nrm.enc) (t := 22) (t2 := 22) (el := 80) (z := 11) (by simp [go_sem]) (by simp [go_sem]) (by simp [go_sem]) (by simp) (by simp [go_sem]) (by simp [go_sem]) (by simp [go_sem]) (by simp; omega) hA (Item.E.len _) ?a1 ?a2 _ (by simp)]
          case a1 => simp [hset_at, Item.enc_eq, SV.cells, f1, f2, f3, f4, f5, f6, hR]
          case a2 => rw [hset_ne _ _ (by omega), hset_ne _ _ (by omega)]; exact ho2
          simp [go_sem, w1, -Int.natCast_add]
          refine ⟨k + 1, by omega, some (m2 + 1), ⟨by omega, by omega, by rw [hft, List.map_append]; exact hA.push (Item.E.st _) (Item.E.len _) (by omega) (by omega)⟩, ⟨by rw [hft]; simp [Fz.same], Fz.same⟩, ?_⟩
          rw [hft, List.map_append]
          have := acc_live (p := m2 + 1) (v := .sl (m2 + 1) 0 11 ((ys.map Item.enc).length + 1) false) (e := x.nrm.enc) ho (by omega) hA (H := hset (hset h2 m (some (.cells x.nrm.enc.cells))) m2 (some (.cells x.nrm.enc.cells))) (hset_old ho (by omega) (hset_old ho (by omega) hold))
          simpa [Item.enc_eq, SV.cells, Out.app, f1, f2, f3, f4, f5, f6, hR, k1] using this
  · have : k = l.length := by omega
    subst this
    rw [List.take_length] at hA ⊢
    simp [go_sem]
    exact .inl (acc_new ho hA look_same hnm (Nat.le_refl _))
theorem c195_of (x : Cell) (hs : x.head.sized) (H : PC 102 [itemsE x.flow] (itemsE (runNormal x.flow))) : PC 213 [x.enc] (Cell.nrm x).enc := by
  intro h n
  refine go Tryz.func213 rfl (by kernel_rfl) (by kernel_rfl) (by simp [go_sem]) fun ho => ?_
  have e : (Cell.nrm x).enc = .agg [intE x.id, propsE x.head.props, intE x.head.ins, intE x.head.move, delsE x.head.dels, layersE x.head.layers, itemsE (runNormal x.flow)] := by cases x; rw [Cell.nrm, Cell.enc_eq]; rfl
  rw [e]
  simp [go_sem, Cell.enc_eq, hset_at, hset_ne]
  repeat first | refine nd (by kernel_rfl) ?_ | refine sd (by kernel_rfl) ?_ | refine And.intro (by omega) ?_
  refine CallD.pure _ _ _ _ _ _ (by simpa [Head.enc, Head.flat] using c118 x.head hs) ?_
  simp [go_sem, hset_at, hset_ne]
  repeat first | refine nd (by kernel_rfl) ?_ | refine sd (by kernel_rfl) ?_ | refine And.intro (by omega) ?_
  refine CallD.pure _ _ _ _ _ _ H ?_
  simp [go_sem, hset_at]
  repeat first | refine nd (by kernel_rfl) ?_ | refine sd (by kernel_rfl) ?_ | refine And.intro (by omega) ?_
  exact retIs ho (by repeat (first | exact look_same | refine hset_old ho (by omega) ?_)) rfl (by rw [← e]; exact Cell.cl n _)
theorem c135_of (x : Row) (hs : x.head.sized) (hc : x.cells.length ≤ 1048576) (H : ∀ (i : Nat) (h : i < x.cells.length), PC 213 [(x.cells[i]).enc] (Cell.nrm x.cells[i]).enc) : PC 163 [x.enc] (Row.nrm x).enc := by
  intro h n
  refine go Tryz.func163 rfl (by kernel_rfl) (by kernel_rfl) (by simp [go_sem]) fun ho => ?_
  have h1 := (l194 x.cells hc 213 [] [] Cell.nrm (fun i hi => H i hi)).pc (Cell.E.size _) (fun n => Cell.E.closedL n _)
  have e : (Row.nrm x).enc = .agg [propsE x.head.props, intE x.head.ins, intE x.head.move, delsE x.head.dels, layersE x.head.layers, cellsE (x.cells.map Cell.nrm)] := by cases x; rw [Row.nrm, Row.enc_eq, Cell.nrmL_eq]; rfl
  rw [e]
  simp [go_sem, Row.enc_eq, hset_at, hset_ne, -List.map_map]
  repeat first | refine nd (by kernel_rfl) ?_ | refine sd (by kernel_rfl) ?_ | refine And.intro (by omega) ?_
  refine CallD.pure _ _ _ _ _ _ (by simpa [Head.enc, Head.flat] using c118 x.head hs) ?_
  simp [go_sem, hset_at, hset_ne, -List.map_map]
  repeat first | refine nd (by kernel_rfl) ?_ | refine sd (by kernel_rfl) ?_ | refine And.intro (by omega) ?_
  refine CallD.pure _ _ _ _ _ _ h1 ?_
  simp [go_sem, hset_at, -List.map_map]
  repeat first | refine nd (by kernel_rfl) ?_ | refine sd (by kernel_rfl) ?_ | refine And.intro (by omega) ?_
  exact retIs ho (by repeat (first | exact look_same | refine hset_old ho (by omega) ?_)) rfl (by rw [← e]; exact Row.cl n _)
theorem lc73 {l : List Item} (H : LC 102 [itemsE l] 11 ((runNormal l).map Item.enc)) : PC 102 [itemsE l] (itemsE (runNormal l)) := H.pc (Item.E.size _) fun n => Item.E.closedL n _
theorem sized_parts {x : Item} (h : x.sized) : x.head.sized ∧ x.text.size ≤ 1048576 ∧ x.rows.length ≤ 1048576 := by cases x; rw [Item.sized] at h; exact ⟨h.2.1, h.1, h.2.2.2.1⟩
def NI (x : Item) : Prop := PC 102 [itemsE x.flow] (itemsE (runNormal x.flow)) ∧ ∀ (i : Nat) (h : i < x.rows.length), PC 163 [(x.rows[i]).enc] (Row.nrm x.rows[i]).enc
mutual
theorem cNI : ∀ x : Item, x.sized → NI x
  | .mk k c i t hd f r, hs => by
    rw [Item.sized] at hs
    refine ⟨lc73 (c73_of f hs.2.2.1 (fun x hx => sized_parts (Item.sizedL_mem hs.2.2.2.2.1 x hx)) (fun x hx => (cNIL f hs.2.2.2.2.1 x hx).1) fun x hx => (cNIL f hs.2.2.2.2.1 x hx).2), ?_⟩
    exact c135L r hs.2.2.2.2.2
theorem cNIL : ∀ l : List Item, Item.sizedL l → ∀ x ∈ l, NI x
  | [], _, x, h => by simp at h
  | y :: l, hs, x, h => by
    rw [Item.sizedL] at hs
    rcases List.mem_cons.1 h with h | h
    · rw [h]; exact cNI y hs.1
    · exact cNIL l hs.2 x h
theorem c135 : ∀ x : Row, x.sized → PC 163 [x.enc] (Row.nrm x).enc
  | .mk hd c, hs => by
    rw [Row.sized] at hs
    exact c135_of (.mk hd c) hs.1 hs.2.1 (c195L c hs.2.2)
theorem c135L : ∀ l : List Row, Row.sizedL l → ∀ (i : Nat) (h : i < l.length), PC 163 [(l[i]).enc] (Row.nrm l[i]).enc
  | [], _, i, h => by simp at h
  | x :: l, hs, 0, _ => by rw [Row.sizedL] at hs; exact c135 x hs.1
  | x :: l, hs, i + 1, h => by rw [Row.sizedL] at hs; exact c135L l hs.2 i (by simpa using h)
theorem c195 : ∀ x : Cell, x.sized → PC 213 [x.enc] (Cell.nrm x).enc
  | .mk i hd f, hs => by
    rw [Cell.sized] at hs
    exact c195_of (.mk i hd f) hs.1 (lc73 (c73_of f hs.2.1 (fun x hx => sized_parts (Item.sizedL_mem hs.2.2 x hx)) (fun x hx => (cNIL f hs.2.2 x hx).1) fun x hx => (cNIL f hs.2.2 x hx).2))
theorem c195L : ∀ l : List Cell, Cell.sizedL l → ∀ (i : Nat) (h : i < l.length), PC 213 [(l[i]).enc] (Cell.nrm l[i]).enc
  | [], _, i, h => by simp at h
  | x :: l, hs, 0, _ => by rw [Cell.sizedL] at hs; exact c195 x hs.1
  | x :: l, hs, i + 1, h => by rw [Cell.sizedL] at hs; exact c195L l hs.2 i (by simpa using h)
end
section
variable {F : Fence} {n : Nat} {P : Program} {ops : Array Oper} {Q : Exit → Act → World → Prop} {S : World → Prop} {md : Region.Mode}
def YieldsS (P : Program) (ops : Array Oper) (S : World → Prop) (o : Oper) (v : Value) (a : Act) : Prop := YieldsIf P ops S o v a ∧ ∀ w, o.about P w a.eval = none
theorem YieldsS.wpOpIn {i : Nat} {o : Oper} {v : Value} {a : Act} (hro : F.round = none) (hi : ops[i]? = some o) (hy : YieldsS P ops S o v a)
    {K : Act → World → Prop} {w : World} (hS : S w) (h : K (a.put o.dst v) w) : wpOpIn F n P ops Q i K a w := by
  unfold Go.wpOpIn
  simp only [hi]
  have hab : ∀ f, o.about P w a.eval = some f → F.fn f := fun f hf => by rw [hy.2 w] at hf; cases hf
  rcases hy.1 with ⟨hw, hv⟩ | ⟨hw, rfl⟩
  · simp only [hw, if_true, Oper.wpIn, hro, Oper.semAt_none, hv w hS, Oper.uponIn]; exact ⟨hab, h⟩
  · simp only [hw, Bool.false_eq_true, if_false]; exact ⟨hab, h⟩
theorem YieldsS.of_same {o : Oper} {v : Value} {a a' : Act} (hy : YieldsS P ops S o v a) (he : execOp a'.eval o = execOp a.eval o)
    (hw : Region.wanted o (yielded ops a'.tmps) = Region.wanted o (yielded ops a.tmps)) (hb : ∀ w, o.about P w a'.eval = o.about P w a.eval) : YieldsS P ops S o v a' :=
  ⟨hy.1.of_same he hw, fun w => by rw [hb w]; exact hy.2 w⟩
theorem wpOpIn_putS {j : Nat} {oi oj : Oper} {v : Value} (hro : F.round = none) (hj : ops[j]? = some oj) (hap : oi.apart ops oj = true)
    (hsi : ∀ cs b, oi.op ≠ .select cs b) (hsj : ∀ cs b, oj.op ≠ .select cs b)
    (hQ : ∀ c a w, Q (.panic c) (a.put oi.dst v) w → Q (.panic c) a w) {K : Act → World → Prop} {a : Act} {w : World}
    (hy : YieldsS P ops S oi v a) (h : wpOpIn F n P ops Q j K (a.put oi.dst v) w) :
    wpOpIn F n P ops Q j (fun a' w' => YieldsS P ops S oi v a' ∧ K (a'.put oi.dst v) w') a w := by
  obtain ⟨h1, h2, h3⟩ := Oper.apart_spec hap
  have keep : ∀ (a : Act), YieldsS P ops S oi v a → ∀ u, YieldsS P ops S oi v (a.put oj.dst u) := fun a hy u =>
    hy.of_same (execOp_put oi hsi a oj.dst u h3) (wanted_put oi a oj.dst u h3) (fun w => about_put oi w a oj.dst u h3)
  have keepD : ∀ d, YieldsS P ops S oi v { a with defers := d :: a.defers } := fun d => hy.of_same rfl rfl (fun _ => rfl)
  unfold wpOpIn at *
  simp only [hj] at *
  rw [wanted_put oj a oi.dst v h1, about_put oj w a oi.dst v h1] at h
  split
  · rename_i hw
    simp only [hw, if_true] at h
    unfold Oper.wpIn at *
    rw [about_put oj w a oi.dst v h1] at h
    refine ⟨h.1, ?_⟩
    have h := h.2
    rw [hro, Oper.semAt_none, execOp_put oj hsj a oi.dst v h1] at h
    rw [hro, Oper.semAt_none]
    generalize (execOp a.eval oj).run P w = r at *
    cases r with
    | ok x w' =>
      cases x <;> simp only [Oper.uponIn] at h ⊢
      case value u => exact ⟨keep a hy u, by rw [← Act.put_comm a v u h2]; exact h⟩
      case skip => exact ⟨keep a hy _, by rw [← Act.put_comm a v undef h2]; exact h⟩
      case defer d =>
        refine ⟨keep _ (keepD d) _, ?_⟩
        rw [← Act.put_comm _ v undef h2, ← Act.put_defers]
        exact h
      case enter f args =>
        refine ⟨h.1, CallsIn.mono h.2 fun e w'' he => ?_⟩
        cases e with
        | returned u => exact ⟨keep a hy u, by rw [← Act.put_comm a v u h2]; exact he⟩
        | panicked c => exact hQ _ _ _ he
        | outgrown => exact he
      case row row args => exact ⟨h.1, RowsIn.mono h.2 fun u w'' he => ⟨keep a hy u, by rw [← Act.put_comm a v u h2]; exact he⟩⟩
      case round l f tmps assign body =>
        refine ⟨h.1, RoundIn.mono h.2 fun e w'' he => ?_⟩
        cases e with
        | returned u => exact ⟨keep a hy u, by rw [← Act.put_comm a v u h2]; exact he⟩
        | panicked c => exact hQ _ _ _ he
        | outgrown => exact he
    | halt x w' =>
      cases x <;> simp only [Oper.uponIn] at h ⊢
      case panic u => exact hQ _ _ _ h
  · rename_i hw
    simp only [hw] at h
    exact ⟨h.1, keep a hy _, by rw [← Act.put_comm a v undef h2]; exact h.2⟩
def wpAnyS (F : Fence) (n : Nat) (P : Program) (md : Region.Mode) (ops : Array Oper) (Q : Exit → Act → World → Prop) (S : World → Prop) : Nat → Array Bool → Act → World → Prop
  | 0, listed, a, w => Region.ready md ops listed = [] ∧ Q .normal a w
  | fuel + 1, listed, a, w =>
    (Region.ready md ops listed = [] → Q .normal a w) ∧
    ∀ i ∈ Region.ready md ops listed, wpOpIn F n P ops Q i (fun a' w' => S w' ∧ wpAnyS F n P md ops Q S fuel (listed.setIfInBounds i true) a' w') a w
theorem wpAnyIn_of_S : ∀ (fuel : Nat) (listed : Array Bool) (a : Act) (w : World), wpAnyS F n P md ops Q S fuel listed a w → wpAnyIn F n P md ops Q fuel listed a w
  | 0, _, _, _, h => h
  | fuel + 1, _, _, _, h => ⟨h.1, fun i hi => wpOpIn_mono (fun a' w' h' => wpAnyIn_of_S fuel _ a' w' h'.2) (h.2 i hi)⟩
theorem wpAnyS_first {i : Nat} {oi : Oper} {v : Value} (hro : F.round = none) (hi : ops[i]? = some oi) (hsel : ∀ (j : Nat) (o : Oper) cs b, ops[j]? = some o → o.op ≠ .select cs b)
    (hQ : ∀ c a w, Q (.panic c) (a.put oi.dst v) w → Q (.panic c) a w) :
    ∀ (fuel : Nat) (listed : Array Bool) (a : Act) (w : World),
      (∀ j oj, ops[j]? = some oj → j ≠ i → listed.getD j true = false → (∀ e ∈ oj.after, Region.binds md e = true → e.on ≠ i) → oi.apart ops oj = true) →
      i ∈ Region.ready md ops listed → YieldsS P ops S oi v a → S w →
      wpAnyS F n P md ops Q S fuel (listed.setIfInBounds i true) (a.put oi.dst v) w → wpAnyS F n P md ops Q S (fuel + 1) listed a w := by
  intro fuel
  induction fuel with
  | zero =>
    intro listed a w _ hr hy hS H
    refine ⟨fun h => (by rw [h] at hr; cases hr), fun j hj => ?_⟩
    by_cases hji : j = i
    · subst hji; exact hy.wpOpIn hro hi hS ⟨hS, H⟩
    · have := ready_mono hj hji
      rw [H.1] at this
      cases this
  | succ fuel ih =>
    intro listed a w hfree hr hy hS H
    refine ⟨fun h => (by rw [h] at hr; cases hr), fun j hj => ?_⟩
    by_cases hji : j = i
    · subst hji; exact hy.wpOpIn hro hi hS ⟨hS, H⟩
    · have h1 := H.2 j (ready_mono hj hji)
      obtain ⟨hjun, oj, hoj, hall⟩ := mem_ready.1 hj
      have hnot : ∀ e ∈ oj.after, Region.binds md e = true → e.on ≠ i := fun e he hb heq => by
        have h1 := hall e he hb
        have h0 := (mem_ready.1 hr).1
        rw [heq] at h1
        rcases Nat.lt_or_ge i listed.size with h' | h'
        · simp [h'] at h0 h1; rw [h0] at h1; cases h1
        · simp [Array.getElem?_eq_none h'] at h1
      have h2 := wpOpIn_putS hro hoj (hfree j oj hoj hji hjun hnot) (fun cs b => hsel i oi cs b hi) (fun cs b => hsel j oj cs b hoj) hQ hy h1
      have hfree' : ∀ k ok, ops[k]? = some ok → k ≠ i → (listed.setIfInBounds j true).getD k true = false →
          (∀ e ∈ ok.after, Region.binds md e = true → e.on ≠ i) → oi.apart ops ok = true := fun k ok hk hki hun hno => by
        refine hfree k ok hk hki ?_ hno
        by_cases hjk : j = k
        · subst hjk; exact hjun
        · rw [getD_set_ne true hjk] at hun; exact hun
      refine wpOpIn_mono (fun a' w' h3 => ⟨h3.2.1, ih (listed.setIfInBounds j true) a' w' hfree' (ready_mono hr (Ne.symm hji)) h3.1 h3.2.1 ?_⟩) h2
      rw [Array.setIfInBounds_comm _ _ hji]
      exact h3.2.2
end
def pureS (P : Program) (st : Bool) (ev : Operand → SV) : Op → Option SV
  | .move x | .assign x => some (ev x)
  | .fieldAddr t x i => fieldPtr P t (ev x) i
  | .load t a => match st, ev a with | true, .iptr cs => (takeN cs 0 (tsz P t)).bind (asm (tagg P t)) | _, _ => none
  | .indexAddr t x i => match ev x, ev i with | .imm z es f, .int _ n => if (tslice P t).isSome then indexPtr P t (.imm z es f) n else none | _, _ => none
  | .slice t x lo hi mx => match ev x with | .imm z es f => sliceS P t (.imm z es f) (lo.map ev) (hi.map ev) (mx.map ev) | _ => none
  | .extract x i => match ev x with | .tup vs => vs[i]? | _ => none
  | .unOp op _ x => match op, ev x with | .not, .bool b => some (.bool !b) | _, _ => none
  | .pick x a b => match ev x with | .bool t => some (if t then ev a else ev b) | _ => none
  | .makeFunc f a b => some (.fn f (a.toList.map ev) (b.toList.map ev))
  | .nilCheck x => match ev x with | .ptr o a => some (.ptr o a) | .iptr cs => some (.iptr cs) | _ => none
  | .call { callee := .builtin .min, args, .. } => match args.toList with | [x, y] => (match ev x, ev y with | .int k a, .int k' b => if k = k' then some (.int k (if b < a then b else a)) else none | _, _ => none) | _ => none
  | .call { callee := .builtin .max, args, .. } => match args.toList with | [x, y] => (match ev x, ev y with | .int k a, .int k' b => if k = k' then some (.int k (if b > a then b else a)) else none | _, _ => none) | _ => none
  | .binOp op _ x y _ => match ev x, ev y with | .int k a, .int k' b => if op ≠ .shl ∧ op ≠ .shr ∧ k = k' then (intBin op k a b) else none | _, _ => none
  | .call { callee := .builtin .len, args, argTypes } => match argTypes.toList, args.toList with | [t], [x] => (match ev x with | .imm _ es _ => if (tslice P t).isSome then some (.int .i64 es.length) else none | _ => none) | _, _ => none
  | _ => none
def Same (P : Program) (ev : Operand → Value) (o : Oper) (c : Cx) (v : SV) (W : World → Prop) : Prop := ∃ u, V c v u ∧ ∀ w, W w → (execOp ev o).run P w = .ok (.value u) w
section
variable {P : Program} {ev : Operand → Value} {o : Oper} {c : Cx} {evs : Operand → SV}
theorem pure_load {t : TypeId} {x : Operand} {v : SV} {cs : List SV} (ho : o.op = .load t x) (hx : evs x = .iptr cs) (hs : (takeN cs 0 (tsz P t)).bind (asm (tagg P t)) = some v) (hv : V c (evs x) (ev x)) :
    Same P ev o c v fun w => ∃ c', c'.w = w ∧ Ext c c' := by
  rw [hx, V] at hv
  obtain ⟨a, vs, hu, hst, hc, hsp⟩ := hv
  rw [VL_iff] at hc
  cases ht : takeN cs 0 (tsz P t) with
  | none => simp [ht] at hs
  | some r =>
    simp only [ht, Option.bind_some] at hs
    obtain ⟨hle, rfl⟩ := takeN_some ht
    simp only [List.drop_zero] at hs
    have hc' := hc.take (tsz P t)
    have h1' : ∀ x ∈ vs.take (tsz P t), x.oneCell' = true := fun x hx => hst.one x (List.mem_of_mem_take hx)
    have hlen : (vs.take (tsz P t)).length = tsz P t := by have := hc.length; simp; omega
    have hcell' : ∀ c' : Cx, Ext c c' → ∀ i x, (vs.take (tsz P t))[i]? = some x → c'.w.cell? ⟨a.block, a.off + i, none⟩ = some x := fun c' X i x hx => by
      rw [List.getElem?_take] at hx
      split at hx
      · exact (hst.mono X).cell _ _ hx
      · cases hx
    rcases asm_rel hs hc' h1' with ⟨hag, hv⟩ | ⟨hag, x, hx, hv⟩
    · refine ⟨_, hv, ?_⟩
      rintro w ⟨c', rfl, X⟩
      simp [execOp, ho, hu, Instr.loadAt, Instr.sureAddr, (run_loadVar' hsp hag hlen (hcell' c' X)).1 rfl]
    · refine ⟨_, hv, ?_⟩
      rintro w ⟨c', rfl, X⟩
      simp [execOp, ho, hu, Instr.loadAt, Instr.sureAddr, (run_loadVar' hsp hag hlen (hcell' c' X)).2 rfl x hx]
theorem pure_field {t : TypeId} {x : Operand} {i : Nat} {v : SV} (ho : o.op = .fieldAddr t x i) (hs : fieldPtr P t (evs x) i = some v) (hx : V c (evs x) (ev x)) : Same P ev o c v fun _ => True := by
  simp only [fieldPtr] at hs
  cases hf : tfield P t i with
  | none => simp [hf] at hs
  | some q =>
    obtain ⟨off, ft⟩ := q
    simp only [hf] at hs
    by_cases hz : tsz P ft = 0
    · simp [hz] at hs
    · simp only [hz, if_false] at hs
      obtain ⟨fs, f, hu, hfi, rfl, rfl⟩ : ∃ fs f, P.underlying t = some (.struct fs) ∧ fs[i]? = some f ∧ f.offset = off ∧ f.type = ft := by
        unfold tfield at hf
        cases hu : P.underlying t with
        | none => simp [hu] at hf
        | some d =>
          cases d <;> simp only [hu] at hf <;> try cases hf
          rename_i fs
          simp only [Option.map_eq_some_iff] at hf
          obtain ⟨f, hfi, he⟩ := hf
          cases he
          exact ⟨fs, f, rfl, hfi, rfl, rfl⟩
      obtain ⟨ii, hi, hsz⟩ : ∃ ii, P.info? f.type = some ii ∧ tsz P f.type = ii.size := by
        cases hi : P.info? f.type with
        | none => simp [tsz, Program.cellsOf, hi] at hz
        | some ii => exact ⟨ii, rfl, by simp [tsz, Program.cellsOf, hi]⟩
      have hfp : ∀ (a : Addr) (w : World), (fieldPlace a f).run P w = .ok (a.add f.offset) w := fun a w => by
        simp [fieldPlace, sizeOf, typeInfo, hi, show ¬ ii.size = 0 by omega]
      have hrun : ∀ (a : Addr) (w : World), ev x = .pointer (some a) → (execOp ev o).run P w = .ok (.value (.pointer (some (a.add f.offset)))) w := fun a w ha => by
        simp [execOp, ho, Instr.fieldAt, run_underlying' hu, hfi, ha, Instr.sureAddr, hfp]
      split at hs <;> try (simp at hs; done)
      · rename_i j a hj
        cases hs
        rw [hj, V] at hx
        obtain ⟨b, st, hρ, hxx⟩ := hx
        refine ⟨_, ?_, fun w _ => hrun _ w hxx⟩
        rw [addr_add, V]
        exact ⟨b, st, hρ, by rw [Nat.add_assoc]⟩
      · rename_i cs hj
        cases hs
        rw [hj, V] at hx
        obtain ⟨a, vs, hxx, hst, hc, hsp⟩ := hx
        refine ⟨_, ?_, fun w _ => hrun _ w hxx⟩
        rw [addr_add' hsp, V]
        refine ⟨_, vs.drop f.offset, rfl, ⟨fun _ => rfl, fun hv => hst.free (by rintro rfl; simp at hv), fun j x hj => ?_, fun x hx => hst.one x (List.mem_of_mem_drop hx)⟩, VL_iff.2 ((VL_iff.1 hc).drop _), rfl⟩
        rw [List.getElem?_drop] at hj
        simp only [Nat.add_assoc]
        exact hst.cell _ _ hj
theorem pure_index {t : TypeId} {x y : Operand} {z' : Nat} {es : List SV} {full : Bool} {kk : IntKind} {n : Int} {v : SV} (ho : o.op = .indexAddr t x y) (hj : evs x = .imm z' es full) (hn : evs y = .int kk n) (hsl0 : (tslice P t).isSome = true)
    (hs : indexPtr P t (.imm z' es full) n = some v) (hx : V c (evs x) (ev x)) (hy : V c (evs y) (ev y)) : Same P ev o c v fun _ => True := by
  rw [hn] at hy
  have hy' := vint hy
  obtain ⟨e, hsl⟩ := Option.isSome_iff_exists.1 hsl0
  have hu := tslice_some hsl
  simp only [indexPtr, hsl] at hs
  by_cases hz : tsz P e = 0
  · simp [hz] at hs
  obtain ⟨ii, hi, hsz⟩ := tsz_pos hz
  simp only [hz, if_false] at hs
  by_cases hc : z' = tsz P e ∧ 0 ≤ n
  · simp only [hc, and_self, if_true] at hs
    obtain ⟨hc1, hc2⟩ := hc
    cases he : es[n.toNat]? with
    | none => simp [he] at hs
    | some v =>
      simp only [he, Option.map_some, Option.some.injEq] at hs
      subst hs
      rw [hj, V] at hx
      rcases hx with ⟨hx, _⟩ | ⟨a, cap, vs, hxx, _, _, hst, hE⟩
      · subst hx; simp at he
      · subst hc1
        have hspot : a.spot = none := hst.spot (fun e0 => by have h1 := VE_len hE; have h2 := (List.getElem?_eq_some_iff.1 he).1; rw [e0, List.length_nil] at h1; have h3 : 0 < es.length * tsz P e := Nat.mul_pos (by omega) (by omega); omega)
        obtain ⟨u, g1, g2, g3, g4, g5⟩ := imm_elem hE he
        have hlt : n < es.length := by have := (List.getElem?_eq_some_iff.1 he).1; omega
        refine ⟨.pointer (some ⟨a.block, a.off + n.toNat * tsz P e, none⟩), ?_, fun w _ => ?_⟩
        · rw [V]
          exact ⟨_, u.cells.toList, rfl, by rw [← g4]; exact hst.sub _ _, VL_iff.2 (g1.cells g2).1, rfl⟩
        · simp [execOp, ho, Instr.indexAt, hy', asIntOf, run_underlying' hu, hxx, hc2, hlt, sizeOf, typeInfo, hi, addr_add' hspot, hsz]
  · simp [hc] at hs
theorem pure_slice {t : TypeId} {x : Operand} {lo hi mx : Option Operand} {z : Nat} {es : List SV} {full : Bool} {v : SV} (ho : o.op = .slice t x lo hi mx) (e1 : evs x = .imm z es full) (hb : sliceS P t (.imm z es full) (lo.map evs) (hi.map evs) (mx.map evs) = some v)
    (H : ∀ y ∈ o.op.operands, V c (evs y) (ev y)) : Same P ev o c v fun _ => True := by
  rw [ho] at H
  have hx := H x (by simp [Op.operands])
  have hlo := optmap_rel (c := c) (ev := ev) (evs := evs) lo fun y e => H y (by subst e; simp [Op.operands])
  have hhi := optmap_rel (c := c) (ev := ev) (evs := evs) hi fun y e => H y (by subst e; simp [Op.operands])
  have hmx := optmap_rel (c := c) (ev := ev) (evs := evs) mx fun y e => H y (by subst e; simp [Op.operands])
  suffices hgoal : ∃ r, (∀ w, (Instr.sliceAt t (ev x) (lo.map ev) (hi.map ev) (mx.map ev)).run P w = .ok r w) ∧ V c v r by
    obtain ⟨r, hr, hv⟩ := hgoal
    exact ⟨r, hv, fun w _ => by simp [execOp, ho, hr w]⟩
  have cvt : ∀ {s : Option SV} {vv : Option Value} {d : Option Int} {n : Int} {N : Nat}, bnd s d = some n → 0 ≤ n → ((∀ x, s = some x → ∃ u, vv = some u ∧ V c x u) ∧ (s = none → vv = none)) → d = some (N : Int) →
      (vv = none ∧ n.toNat = N) ∨ ∃ i, vv = some (.int i n.toNat) := fun hb h0 hv hd => by
    rcases bnd_some hb hv.1 hv.2 with ⟨_, e, e2⟩ | ⟨i, e⟩
    · rw [hd] at e2; cases e2; exact .inl ⟨e, by simp⟩
    · exact .inr ⟨i, by rw [e]; congr 2; omega⟩
  unfold sliceS at hb
  rw [e1] at hx
  dsimp only at hb
  cases hsl' : tslice P t with
  | none => simp [hsl'] at hb
  | some e =>
    have hu := tslice_some hsl'
    simp only [hsl', Option.any_some] at hb
    split at hb <;> try cases hb
    rename_i hz
    simp only [Bool.not_eq_true', Bool.not_eq_false, Bool.and_eq_true, bne_iff_ne, ne_eq, Bool.or_eq_true, beq_iff_eq, List.isEmpty_iff] at hz
    obtain ⟨hz0, hz⟩ := hz
    obtain ⟨ii, hi', hsz⟩ := tsz_pos hz0
    split at hb <;> try cases hb
    rename_i l m hl hm
    split at hb <;> try cases hb
    rename_i hc2
    have hlo' := cvt hl hc2.1 hlo (by rfl : some (0 : Int) = some ((0 : Nat) : Int))
    have hhi' := cvt hm (by omega) hhi rfl
    cases mx with
    | none =>
      simp only [Option.map_none, Option.some.injEq] at hb
      subst hb
      refine slice_imm hu hx ⟨ii, hi', hsz.symm⟩ hz (by omega) (by omega) fun cap h1 h2 => ⟨cap, by omega, Nat.le_refl _, fun hf => ?_, fun w => run_bounds2 hlo' hhi' (by omega) (by omega) h1 w⟩
      simp at hf; have := h2 hf.1; omega
    | some mo =>
      have hmo := hmx.1 _ rfl
      simp only [Option.map_some] at hb hmo
      split at hb <;> try cases hb
      · rename_i heq; cases heq
      · rename_i i x heq
        simp only [Option.some.injEq] at heq
        obtain ⟨uu, hu1, hu2⟩ := hmo
        cases hu1
        rw [heq] at hu2
        have hu3 := vint hu2
        split at hb <;> try cases hb
        rename_i hc3
        simp only [Bool.and_eq_true, decide_eq_true_eq] at hc3
        have hsome : ∃ i, Option.map ev hi = some (.int i m.toNat) := by
          rcases hhi' with ⟨e1, _⟩ | h
          · cases hi <;> simp at e1 hc3
          · exact h
        have hxx : (x : Int) = (x.toNat : Int) := by omega
        refine slice_imm hu hx ⟨ii, hi', hsz.symm⟩ hz (by omega) (by omega) fun cap h1 h2 => ⟨x.toNat, by omega, by omega, fun hf => ?_, fun w => ?_⟩
        · simp at hf; omega
        · rw [Option.map_some, hu3, hxx]; exact run_bounds3 hlo' hsome (by omega) (by omega) (by omega) w
theorem Same.mono {v : SV} {W W' : World → Prop} (H : Same P ev o c v W) (h : ∀ w, W' w → W w) : Same P ev o c v W' := let ⟨u, h1, h2⟩ := H; ⟨u, h1, fun w hw => h2 w (h w hw)⟩
theorem pure_any {st : Bool} {v : SV} (hs : pureS P st evs o.op = some v) (H : ∀ x ∈ o.op.operands, V c (evs x) (ev x)) {W : World → Prop} (hW : st = true → ∀ w, W w → ∃ c', c'.w = w ∧ Ext c c') : Same P ev o c v W := by
  unfold pureS at hs
  split at hs
  · rename_i x ho
    rw [ho] at H
    cases hs
    exact ⟨_, H x (by simp [Op.operands]), fun w _ => by simp [execOp, ho]⟩
  · rename_i x ho
    rw [ho] at H
    cases hs
    exact ⟨_, H x (by simp [Op.operands]), fun w _ => by simp [execOp, ho]⟩
  · rename_i t x i ho
    rw [ho] at H
    exact (pure_field ho hs (H x (by simp [Op.operands]))).mono fun _ _ => trivial
  · rename_i t a ho
    rw [ho] at H
    split at hs <;> try cases hs
    rename_i cs hx
    exact (pure_load ho hx hs (H a (by simp [Op.operands]))).mono (hW rfl)
  · rename_i t x i ho
    rw [ho] at H
    split at hs <;> try cases hs
    rename_i z es f k n hx hy
    split at hs <;> try cases hs
    rename_i hsl
    exact (pure_index ho hx hy hsl hs (H x (by simp [Op.operands])) (H i (by simp [Op.operands]))).mono fun _ _ => trivial
  · rename_i t x lo hi mx ho
    split at hs <;> try cases hs
    rename_i z es f hx
    exact (pure_slice ho hx hs H).mono fun _ _ => trivial
  · rename_i x i ho
    rw [ho] at H
    split at hs <;> try cases hs
    rename_i vs hx
    have hv := H x (by simp [Op.operands])
    rw [hx, V] at hv
    obtain ⟨us, hu, hl⟩ := hv
    obtain ⟨u, hu2, hvu⟩ := (VL_iff.1 hl).get hs
    exact ⟨u, hvu, fun w _ => by simp [execOp, ho, hu, Instr.extract, hu2]⟩
  · rename_i op t x ho
    rw [ho] at H
    have hx := H x (by simp [Op.operands])
    split at hs <;> try cases hs
    rename_i b e1
    rw [e1] at hx
    exact ⟨.bool !b, by rw [V], fun w _ => by simp [execOp, ho, vbool hx, Op.unary]⟩
  · rename_i x a b ho
    rw [ho] at H
    have hx := H x (by simp [Op.operands])
    split at hs <;> try cases hs
    rename_i t e1
    rw [e1] at hx
    have hx' := vbool hx
    cases t
    · exact ⟨ev b, by simpa using H b (by simp [Op.operands]), fun w _ => by simp [execOp, ho, hx', asBool]⟩
    · exact ⟨ev a, by simpa using H a (by simp [Op.operands]), fun w _ => by simp [execOp, ho, hx', asBool]⟩
  · rename_i f a b ho
    rw [ho] at H
    cases hs
    refine ⟨.func f (a.map ev) (b.map ev), ?_, fun w _ => by simp [execOp, ho, Instr.makeFunc]⟩
    rw [V]
    exact ⟨(a.map ev).toList, (b.map ev).toList, by rw [Array.toArray_toList, Array.toArray_toList], VL_iff.2 (map_rel a fun x hx => H x (by simp [Op.operands] at hx ⊢; exact .inl hx)), VL_iff.2 (map_rel b fun x hx => H x (by simp [Op.operands] at hx ⊢; exact .inr hx))⟩
  · rename_i x ho
    rw [ho] at H
    have hx := H x (by simp [Op.operands])
    split at hs <;> try cases hs
    · rename_i j off e1
      rw [e1] at hx
      have hx' := hx
      rw [V] at hx
      obtain ⟨b, st, _, hu⟩ := hx
      exact ⟨ev x, hx', fun w _ => by simp [execOp, ho, hu]⟩
    · rename_i cs e1
      rw [e1] at hx
      have hx' := hx
      rw [V] at hx
      obtain ⟨a, vs, hu, _⟩ := hx
      exact ⟨ev x, hx', fun w _ => by simp [execOp, ho, hu]⟩
  · rename_i args ts ho
    rw [ho] at H
    split at hs <;> try cases hs
    rename_i x y e1
    have ea := args2 e1
    subst ea
    have hx := H x (by simp [Op.operands, Call.operands])
    have hy := H y (by simp [Op.operands, Call.operands])
    split at hs <;> try cases hs
    rename_i k a k' b g1 g2
    split at hs <;> try cases hs
    rename_i hk
    subst hk
    rw [g1] at hx
    rw [g2] at hy
    exact ⟨.int k (if b < a then b else a), by rw [V], fun w _ => run_builtin (P := P) (ev := ev) ho w w _ fun cs => by simp [builtin, vint hx, vint hy, Builtin.min_, Builtin.min2]⟩
  · rename_i args ts ho
    rw [ho] at H
    split at hs <;> try cases hs
    rename_i x y e1
    have ea := args2 e1
    subst ea
    have hx := H x (by simp [Op.operands, Call.operands])
    have hy := H y (by simp [Op.operands, Call.operands])
    split at hs <;> try cases hs
    rename_i k a k' b g1 g2
    split at hs <;> try cases hs
    rename_i hk
    subst hk
    rw [g1] at hx
    rw [g2] at hy
    exact ⟨.int k (if b > a then b else a), by rw [V], fun w _ => run_builtin (P := P) (ev := ev) ho w w _ fun cs => by simp [builtin, vint hx, vint hy, Builtin.max_, Builtin.max2]⟩
  · rename_i op t x y t2 ho
    rw [ho] at H
    have hx := H x (by simp [Op.operands])
    have hy := H y (by simp [Op.operands])
    split at hs <;> try cases hs
    rename_i k a k' b e1 e2
    split at hs <;> try cases hs
    rename_i hc
    obtain ⟨n1, n2, rfl⟩ := hc
    rw [e1] at hx
    rw [e2] at hy
    have hrun : ∀ w, ∃ r, (execOp ev o).run P w = .ok (.value r) w ∧ V c v r := fun w => by
      obtain ⟨r, h1, h2⟩ := intBin_rel (c := c) (P := P) (t := t) hs n1 n2 w
      exact ⟨r, by simp [execOp, ho, vint hx, vint hy, run_eqGuard (P := P), h1], h2⟩
    obtain ⟨u, hu⟩ : ∃ u, ∀ r, V c v r → r = u := by
      cases op <;> simp only [intBin] at hs <;> (try split at hs) <;> (try cases hs) <;> first | exact ⟨_, fun r hr => vint hr⟩ | exact ⟨_, fun r hr => vbool hr⟩ | (exact absurd rfl n1) | (exact absurd rfl n2)
    obtain ⟨r0, h1, h2⟩ := hrun c.w
    have e0 := hu r0 h2
    subst e0
    refine ⟨_, h2, fun w _ => ?_⟩
    obtain ⟨r, h3, h4⟩ := hrun w
    rw [h3, hu r h4]
  · rename_i args ts ho
    rw [ho] at H
    split at hs <;> try cases hs
    rename_i t x e1 e2
    split at hs <;> try cases hs
    rename_i z es f e3
    split at hs <;> try cases hs
    rename_i hsl
    obtain ⟨e, he⟩ := tsome hsl
    have ea := args1 e2
    have et := args1 e1
    subst ea et
    have hv := H x (by simp [Op.operands, Call.operands])
    rw [e3, V] at hv
    refine ⟨.int .i64 es.length, by rw [V], fun w _ => run_builtin (P := P) (ev := ev) ho w w _ fun cs => ?_⟩
    rcases hv with ⟨rfl, hu⟩ | ⟨a, cap, vs, hu, _⟩
    · simp [builtin, hu, Builtin.len_, run_underlying' (tslice_some he), goInt]
    · simp [builtin, hu, Builtin.len_, run_underlying' (tslice_some he), goInt]
  · cases hs
theorem pure_about {st : Bool} {v : SV} (hs : pureS P st evs o.op = some v) (w : World) : o.about P w ev = none := by
  unfold Oper.about
  unfold pureS at hs
  split at hs <;> first | (rename_i ho; rw [ho]; done) | (rename_i _ ho; rw [ho]; done) | (rename_i _ _ ho; rw [ho]; done) | (rename_i _ _ _ ho; rw [ho]; done) | (rename_i _ _ _ _ _ ho; rw [ho]; done) | (rename_i ho; rw [ho]; simp [resolve, Target.leads]; done) | cases hs
def pureKind : Op → Bool
  | .move _ | .assign _ | .fieldAddr .. | .load .. | .indexAddr .. | .slice .. | .extract .. | .unOp .. | .pick .. | .binOp .. | .makeFunc .. | .nilCheck _ => true
  | .call { callee := .builtin .len, .. } | .call { callee := .builtin .min, .. } | .call { callee := .builtin .max, .. } => true
  | _ => false
theorem kind_about (hs : pureKind o.op = true) (w : World) : o.about P w ev = none := by
  unfold Oper.about
  cases ho : o.op <;> simp [ho, pureKind] at hs ⊢
  split at hs <;> first | (rename_i h; cases h; done) | skip
  all_goals first | (rename_i h; cases h; simp [resolve, Target.leads]; done) | (simp at hs; done) | trace_state
end
inductive Tr where
  | nil
  | pure (i : Nat) (t : Tr)
  | one (i : Nat) (t : Tr)
  | two (i j : Nat) (t u : Tr)
def trOk (ops : Array Oper) : Array Bool → Tr → Bool
  | listed, .nil => (Region.ready .any ops listed).isEmpty
  | listed, .pure i t => Region.free .any ops listed i && (Region.ready .any ops listed).contains i && trOk ops (listed.setIfInBounds i true) t
  | listed, .one i t => Region.ready .any ops listed == [i] && trOk ops (listed.setIfInBounds i true) t
  | listed, .two i j t u => Region.ready .any ops listed == [i, j] && trOk ops (listed.setIfInBounds i true) t && trOk ops (listed.setIfInBounds j true) u
section
variable (E : Env) (P : Program) (ops : Array Oper) (K : SA → Hp → Nat → Prop)
def stepG (o : Oper) (sa : SA) (h : Hp) (n : Nat) (T : SA → Hp → Nat → Prop) : Prop :=
  match guardS ops sa o with
  | some b => if b = true then stepE E P o sa h n fun v h' n' => T (putT sa o.dst v) h' n' else T (putT sa o.dst (.tup [])) h n
  | none => False
def pureG (st : Bool) (o : Oper) (sa : SA) (T : SA → Prop) : Prop :=
  match guardS ops sa o with
  | some b => if b = true then match pureS P st (evS sa) o.op with | some v => T (putT sa o.dst v) | none => False else pureKind o.op = true ∧ T (putT sa o.dst (.tup []))
  | none => False
def trW : Bool → Tr → SA → Hp → Nat → Prop
  | _, .nil, sa, h, n => K sa h n
  | st, .pure i t, sa, h, n => match ops[i]? with | some o => pureG P ops st o sa fun sa' => trW st t sa' h n | none => False
  | _, .one i t, sa, h, n => match ops[i]? with | some o => stepG E P ops o sa h n (trW false t) | none => False
  | _, .two i j t u, sa, h, n => match ops[i]?, ops[j]? with | some o, some q => stepG E P ops o sa h n (trW false t) ∧ stepG E P ops q sa h n (trW false u) | _, _ => False
end
section
variable {E : Env} {P : Program} {N : Nat} {ops : Array Oper} {K : SA → Hp → Nat → Prop}
def LiftN (E : Env) (N n : Nat) (c : Cx) (K : SA → Hp → Nat → Prop) : Exit → Act → World → Prop := fun e a' w' =>
  e = .normal ∧ ∃ sa' h' n' c', K sa' h' n' ∧ c'.w = w' ∧ Rel h' c' ∧ Fr n' c' ∧ FR E N sa' c' a' ∧ Adv n c n' c'
theorem stepG_sound {i : Nat} {o : Oper} {sa : SA} {h : Hp} {n : Nat} {T : SA → Hp → Nat → Prop} {c : Cx} {a : Act} {Kr : Act → World → Prop} {Qr : Exit → Act → World → Prop} (hi : ops[i]? = some o) (hd : ∀ d, o.dst = some d → d < N)
    (H : stepG E P ops o sa h n T) (I : E.inv c) (R : Rel h c) (F : Fr n c) (A : FR E N sa c a)
    (hK : ∀ sa' h' n' c' a', T sa' h' n' → Rel h' c' → Fr n' c' → FR E N sa' c' a' → Adv n c n' c' → Kr a' c'.w) : wpOpIn E.fc 0 P ops Qr i Kr a c.w := by
  unfold wpOpIn
  rw [hi]
  simp only
  unfold stepG at H
  split at H
  · rename_i b hg
    rw [guard_rel A hg]
    cases b
    · simp only [Bool.false_eq_true, if_false] at H ⊢
      exact ⟨fun _ _ => trivial, hK _ _ _ c _ H R F (A.put hd V_undef) (Adv.refl n c)⟩
    · simp only [if_true] at H ⊢
      exact stepE_sound H I R F A fun v h' n' c' u hk hv R' F' X' => hK _ _ _ c' _ hk R' F' ((A.ext X'.ext).put hd hv) X'
  · exact H.elim
theorem tr_sound (hro : E.ro = none) (hdst : ∀ (i : Nat) (o : Oper), ops[i]? = some o → ∀ d, o.dst = some d → d < N) (hsel : ∀ (j : Nat) (o : Oper) cs b, ops[j]? = some o → o.op ≠ .select cs b) {n0 : Nat} {c0 c1 : Cx} :
    ∀ (t : Tr) (st : Bool) (listed : Array Bool) (fuel : Nat) (sa : SA) (h : Hp) (n : Nat) (c : Cx) (a : Act), listed.size = ops.size → unl listed = fuel → trOk ops listed t = true → trW E P ops K st t sa h n →
      E.inv c → Rel h c → Fr n c → FR E N sa c a → Adv n0 c0 n c → Ext c1 c → (st = true → c = c1) →
      wpAnyS E.fc 0 P .any ops (LiftN E N n0 c0 K) (fun w => ∃ c', c'.w = w ∧ Ext c1 c') fuel listed a c.w := by
  have hfr : E.fc.round = none := hro
  intro t
  induction t with
  | nil =>
    intro st listed fuel sa h n c a _ _ hok H I R F A X _ _
    have hr : Region.ready .any ops listed = [] := by simpa [trOk] using hok
    have hq : LiftN E N n0 c0 K .normal a c.w := ⟨rfl, sa, h, n, c, H, rfl, R, F, A, X⟩
    cases fuel with
    | zero => exact ⟨hr, hq⟩
    | succ fuel => exact ⟨fun _ => hq, by rw [hr]; simp⟩
  | pure i t ih =>
    intro st listed fuel sa h n c a hs hu hok H I R F A X X1 hst
    simp only [trOk, Bool.and_eq_true] at hok
    obtain ⟨⟨hfree, hr⟩, hok⟩ := hok
    simp only [trW] at H
    split at H
    case h_2 => exact H.elim
    rename_i o ho
    have hmem : i ∈ Region.ready .any ops listed := by simpa using hr
    obtain ⟨hun, _, _, _⟩ := mem_ready.1 hmem
    have hlt := (Array.getElem?_eq_some_iff.1 ho).1
    have hF : listed.getD i false = false := by rw [getD_lt (by omega)] at hun ⊢; exact hun
    have hu2 := unl_set (by omega) hF
    obtain ⟨fuel, rfl⟩ : ∃ f, fuel = f + 1 := ⟨fuel - 1, by omega⟩
    unfold pureG at H
    split at H
    case h_2 => exact H.elim
    rename_i b hg
    have hw := guard_rel A hg
    cases b
    · simp only [Bool.false_eq_true, if_false] at H
      refine wpAnyS_first (v := undef) hfr ho hsel (fun _ _ _ e => by cases e.1) fuel listed a c.w (Region.free_spec ho hfree) hmem ⟨.inr ⟨hw, rfl⟩, fun w => kind_about H.1 w⟩ ⟨c, rfl, X1⟩ (ih st _ fuel _ h n c _ (by simp [hs]) (by omega) hok H.2 I R F (A.put (hdst i o ho) V_undef) X X1 hst)
    · simp only [if_true] at H
      split at H
      case h_2 => exact H.elim
      rename_i v hv
      obtain ⟨u, hvu, hrun⟩ := pure_any (c := c) (W := fun w => ∃ c', c'.w = w ∧ Ext c1 c') hv (fun x _ => A.ev x) (fun e w hw => by rw [hst e]; exact hw)
      refine wpAnyS_first (v := u) hfr ho hsel (fun _ _ _ e => by cases e.1) fuel listed a c.w (Region.free_spec ho hfree) hmem ⟨.inl ⟨hw, hrun⟩, fun w => pure_about hv w⟩ ⟨c, rfl, X1⟩
        (ih st _ fuel _ h n c _ (by simp [hs]) (by omega) hok H I R F (A.put (hdst i o ho) hvu) X X1 hst)
  | one i t ih =>
    intro st listed fuel sa h n c a hs hu hok H I R F A X X1 hst
    simp only [trOk, Bool.and_eq_true, beq_iff_eq] at hok
    obtain ⟨hr, hok⟩ := hok
    simp only [trW] at H
    split at H
    case h_2 => exact H.elim
    rename_i o ho
    have hmem : i ∈ Region.ready .any ops listed := by rw [hr]; simp
    obtain ⟨hun, _, _, _⟩ := mem_ready.1 hmem
    have hlt := (Array.getElem?_eq_some_iff.1 ho).1
    have hF : listed.getD i false = false := by rw [getD_lt (by omega)] at hun ⊢; exact hun
    have hu2 := unl_set (by omega) hF
    obtain ⟨fuel, rfl⟩ : ∃ f, fuel = f + 1 := ⟨fuel - 1, by omega⟩
    refine ⟨fun e => (by rw [e] at hr; cases hr), fun j hj => ?_⟩
    rw [hr] at hj
    obtain rfl := List.mem_singleton.1 hj
    exact stepG_sound ho (hdst j o ho) H I R F A fun sa' h' n' c' a' hT R' F' A' X' => ⟨⟨c', rfl, X1.trans X'.ext⟩, ih false _ fuel _ h' n' c' a' (by simp [hs]) (by omega) hok hT (E.ext X'.ext I) R' F' A' (X.trans X') (X1.trans X'.ext) (by simp)⟩
  | two i j t u iht ihu =>
    intro st listed fuel sa h n c a hs hu hok H I R F A X X1 hst
    simp only [trOk, Bool.and_eq_true, beq_iff_eq] at hok
    obtain ⟨⟨hr, hok1⟩, hok2⟩ := hok
    simp only [trW] at H
    split at H
    case h_2 => exact H.elim
    rename_i o q ho hq
    have hun : ∀ k, k ∈ Region.ready .any ops listed → unl (listed.setIfInBounds k true) + 1 = unl listed := fun k hk => by
      obtain ⟨hun, o', ho', _⟩ := mem_ready.1 hk
      have hlt := (Array.getElem?_eq_some_iff.1 ho').1
      have hF : listed.getD k false = false := by rw [getD_lt (by omega)] at hun ⊢; exact hun
      exact unl_set (by omega) hF
    have hui := hun i (by rw [hr]; simp)
    have huj := hun j (by rw [hr]; simp)
    obtain ⟨fuel, rfl⟩ : ∃ f, fuel = f + 1 := ⟨fuel - 1, by omega⟩
    refine ⟨fun e => (by rw [e] at hr; cases hr), fun k hk => ?_⟩
    rw [hr] at hk
    rcases List.mem_cons.1 hk with rfl | hk
    · exact stepG_sound ho (hdst _ o ho) H.1 I R F A fun sa' h' n' c' a' hT R' F' A' X' => ⟨⟨c', rfl, X1.trans X'.ext⟩, iht false _ fuel _ h' n' c' a' (by simp [hs]) (by omega) hok1 hT (E.ext X'.ext I) R' F' A' (X.trans X') (X1.trans X'.ext) (by simp)⟩
    · obtain rfl := List.mem_singleton.1 hk
      exact stepG_sound hq (hdst _ q hq) H.2 I R F A fun sa' h' n' c' a' hT R' F' A' X' => ⟨⟨c', rfl, X1.trans X'.ext⟩, ihu false _ fuel _ h' n' c' a' (by simp [hs]) (by omega) hok2 hT (E.ext X'.ext I) R' F' A' (X.trans X') (X1.trans X'.ext) (by simp)⟩
theorem SWE_tr (hro : E.ro = none) (hm : P.follows .mixedOrders = true) (t : Tr) {id : Nat} {Q : Post} {sa : SA} {h : Hp} {n : Nat} (hs : Region.noSelect ops = true) (hok : trOk ops (Array.replicate ops.size false) t = true)
    (H : trW E P ops (Q .normal) true t sa h n) : SWE E P N (.region id ops true) Q sa h n := by
  intro hd c a I R F A
  simp only [Code.dok, List.all_eq_true] at hd
  have hdd : ∀ (i : Nat) (o : Oper), ops[i]? = some o → ∀ d, o.dst = some d → d < N := fun i o ho d e => by
    have := hd o (by simpa using Array.mem_of_getElem? ho)
    rw [e] at this; simpa using this
  have := tr_sound (E := E) (P := P) (N := N) (K := Q .normal) (n0 := n) (c0 := c) (c1 := c.drew) hro hdd (Region.noSelect_spec hs) t true (Array.replicate ops.size false) ops.size sa h n c.drew a (by simp) (by simp [unl]) hok H
    (E.ext c.drew_ext I) R.drew (fun j hj => F j hj) (A.ext c.drew_ext) ⟨c.drew_ext, Nat.le_refl _, fun _ _ => rfl⟩ (Ext.refl _) (fun _ => rfl)
  refine wpIn_mono (wpIn_region_any hm (wpAnyIn_of_S (S := fun w => ∃ c', c'.w = w ∧ Ext c.drew c') _ _ _ _ this)) ?_
  rintro e a' w' ⟨rfl, sa', h', n', c', h1, h2, h3, h4, h5, h6⟩
  exact ⟨sa', h', n', c', h1, h2, h3, h4, h5, h6⟩
end
noncomputable def wtr : (E : Env) → (P : Program) → (ops : Array Oper) → (K : SA → Hp → Nat → Prop) → Bool → Tr → SA → Hp → Nat → Prop := Classical.choose (held trW)
theorem wtr_eq : wtr = trW := Classical.choose_spec (held trW)
noncomputable def ktr : (E : Env) → (P : Program) → (ops : Array Oper) → (K : SA → Hp → Nat → Prop) → Tr → SA → Option Tmp → SV → Hp → Nat → Prop :=
  Classical.choose (held fun E P ops K t sa dst v h n => wtr E P ops K false t (putT sa dst v) h n)
section
variable (E : Env) (P : Program) (ops : Array Oper) (K : SA → Hp → Nat → Prop) (st : Bool) (t u : Tr) (sa : SA) (h : Hp) (n i j : Nat)
@[go_sem] theorem ktr_at (dst : Option Tmp) (v : SV) : ktr E P ops K t sa dst v h n = wtr E P ops K false t (putT sa dst v) h n := by
  unfold ktr; rw [Classical.choose_spec (held fun E P ops K t sa dst v h n => wtr E P ops K false t (putT sa dst v) h n)]
theorem ktr_fun (o : Oper) : ktr E P ops K t sa o.dst = fun v h' n' => trW E P ops K false t (putT sa o.dst v) h' n' := by
  funext v h' n'; rw [ktr_at, wtr_eq]
@[go_sem] theorem wtr_nil : wtr E P ops K st .nil sa h n = K sa h n := by rw [wtr_eq]; simp only [trW]
@[go_sem] theorem wtr_pure : wtr E P ops K st (.pure i t) sa h n = match ops[i]? with
    | some o => (match guardS ops sa o with
      | some b => if b = true then (match pureS P st (evS sa) o.op with | some v => wtr E P ops K st t (putT sa o.dst v) h n | none => False) else pureKind o.op = true ∧ wtr E P ops K st t (putT sa o.dst (.tup [])) h n
      | none => False)
    | none => False := by
  rw [wtr_eq]; simp only [trW, pureG]
  all_goals
    cases ops[i]? with
    | none => rfl
    | some o =>
      simp only
      cases guardS ops sa o with
      | none => rfl
      | some b => cases b with
        | false => rfl
        | true => simp only [if_true]; cases pureS P st (evS sa) o.op <;> rfl
def stepT (o : Oper) : Prop :=
  match guardS ops sa o with
  | some b => if b = true then stepE E P o sa h n (ktr E P ops K t sa o.dst) else wtr E P ops K false t (putT sa o.dst (.tup [])) h n
  | none => False
theorem stepT_eq (o : Oper) : stepT E P ops K t sa h n o = stepG E P ops o sa h n (trW E P ops K false t) := by
  unfold stepT stepG
  rw [ktr_fun, wtr_eq]
  all_goals
    cases guardS ops sa o with
    | none => rfl
    | some b => cases b <;> rfl
@[go_sem] theorem wtr_one : wtr E P ops K st (.one i t) sa h n = match ops[i]? with | some o => stepT E P ops K t sa h n o | none => False := by
  rw [wtr_eq]; simp only [trW, stepT_eq] <;> cases ops[i]? <;> rfl
@[go_sem] theorem wtr_two : wtr E P ops K st (.two i j t u) sa h n = match ops[i]?, ops[j]? with | some o, some q => stepT E P ops K t sa h n o ∧ stepT E P ops K u sa h n q | _, _ => False := by
  rw [wtr_eq]; simp only [trW, stepT_eq] <;> cases ops[i]? <;> cases ops[j]? <;> rfl
end
attribute [go_sem] stepT pureS pureKind
theorem SP_tr {E : Env} {N id : Nat} {ops : Array Oper} {Q : Post} {sa : SA} {h : Hp} {n : Nat} (t : Tr) (hro : E.ro = none) (hs : Region.noSelect ops = true) (hok : trOk ops (Array.replicate ops.size false) t = true)
    (H : wtr E Tryz.prog ops (Q .normal) true t sa h n) : SP E N (.region id ops true) Q sa h n :=
  SWE_tr hro follows t hs hok (by rw [← wtr_eq]; exact H)
end Go.Proofs.YthinbkgpjmjfeaaGreatDoor.Sh
namespace Go.Proofs
open Go.Shelf
end Go.Proofs
namespace Go.Proofs.YthinbkgpjmjfeaaGreatDoor.Sh
open Proofs
section
variable {h : Hp} {c : Cx}
end
def sortI (l : List Int) : List Int := l.mergeSort fun x y => decide (x ≤ y)
set_option maxRecDepth 10000
def kvT (l : List Int) : List (SV × SV) := l.map fun x => (intE x, .bool true)
theorem findS_no {x : Int} : ∀ {l : List Int} (i : Nat), x ∉ l → findS (intE x) (kvT l) i = some none
  | [], i, _ => rfl
  | a :: l, i, h => by
    simp only [List.mem_cons, not_or] at h
    have : (x == a) = false := by simpa using h.1
    simp only [kvT, List.map_cons, findS, keyEq, if_true, this]
    exact findS_no (i + 1) h.2
theorem findS_yes {x : Int} : ∀ {l : List Int} (i : Nat), x ∈ l → ∃ j, findS (intE x) (kvT l) i = some (some (i + j, .bool true)) ∧ l[j]? = some x
  | a :: l, i, h => by
    by_cases e : x = a
    · subst e
      exact ⟨0, by simp [kvT, findS, keyEq], by simp⟩
    · have h' : x ∈ l := by rcases List.mem_cons.1 h with h | h; exact absurd h e; exact h
      obtain ⟨j, h1, h2⟩ := findS_yes (i + 1) h'
      have : (x == a) = false := by simpa using e
      refine ⟨j + 1, ?_, by simpa using h2⟩
      simp only [kvT, List.map_cons, findS, keyEq, if_true, this]
      rw [show i + (j + 1) = i + 1 + j by omega]
      exact h1
theorem setAt_same {x : Int} {l : List Int} {j : Nat} (h : l[j]? = some x) : setAt (kvT l) j (intE x) (.bool true) = kvT l := by
  unfold setAt kvT
  apply List.ext_getElem?
  intro i
  simp only [List.getElem?_modify, List.getElem?_map]
  by_cases e : j = i
  · subst e; simp [h]
  · cases l[i]? <;> simp [e]
theorem SC.use {E : Env} {f : FuncId} {args : List SV} {h : Hp} {n : Nat} {Q K : SV → Hp → Nat → Prop} (H : SCall Tryz.prog f args h n Q) (hk : ∀ v h' n', Q v h' n' → K v h' n') : SCallE E Tryz.prog f args h n K := SCallE.lift (H.mono hk)
theorem flat_int : ∀ l : List Int, (l.map intE).flatMap SV.cells = l.map intE
  | [] => rfl
  | a :: l => by simp [SV.cells, flat_int l]
theorem YCallE.mono {E : Env} {P : Program} {l : Nat} {args : List SV} {h : Hp} {n : Nat} {Q Q' : SV → Hp → Nat → Prop} (H : YCallE E P l args h n Q) (hq : ∀ v h' n', Q v h' n' → Q' v h' n') : YCallE E P l args h n Q' := fun c vs I R F A => by
  obtain ⟨a, b, c', d, e, g⟩ := H c vs I R F A
  exact ⟨a, b, c', d, e, g.mono fun _ _ ⟨u, v, h', n', c', e, q, r⟩ => ⟨u, v, h', n', c', e, hq _ _ _ q, r⟩⟩
def WalkQ (J : (Nat → Prop) → Hp → Nat → Prop) (Jx : (Nat → Prop) → Hp → Nat → Prop) (D : Nat → Prop) (h : Hp) (m : Nat) : SV → Hp → Nat → Prop := fun v h' m' =>
  m ≤ m' ∧ ∃ D', (∀ o, D' o → D o ∨ (m ≤ o ∧ o < m')) ∧ (∀ o, ¬ D o → o < m → h' o = h o) ∧ ((v = .bool true ∧ J D' h' m') ∨ (v = .bool false ∧ Jx D' h' m'))
structure YJ (E : Env) (l : Nat) {X : Type} (enc : X → List SV) (xs : List X) (J : Nat → (Nat → Prop) → Hp → Nat → Prop) (Jx : (Nat → Prop) → Hp → Nat → Prop) : Prop where
  step : ∀ k x D h m, xs[k]? = some x → J k D h m → YCallE E Tryz.prog l (enc x) h m (WalkQ (J (k + 1)) Jx D h m)
  keep : ∀ k D h m h' m', J k D h m → m ≤ m' → (∀ o, D o → h' o = h o) → J k D h' m'
  lt : ∀ k D h m, J k D h m → ∀ o, D o → o < m
def Seg {X : Type} (xs : List X) (k : Nat) (L : List X) : Prop := ∃ rest, xs.drop k = L ++ rest
theorem Seg.app {X : Type} {xs A B : List X} {k : Nat} (H : Seg xs k (A ++ B)) : Seg xs k A ∧ Seg xs (k + A.length) B := by
  obtain ⟨r, h⟩ := H
  refine ⟨⟨B ++ r, by rw [h, List.append_assoc]⟩, ⟨r, ?_⟩⟩
  rw [← List.drop_drop, h, List.append_assoc, List.drop_left]
theorem Seg.head {X : Type} {xs L : List X} {x : X} {k : Nat} (H : Seg xs k (x :: L)) : xs[k]? = some x ∧ Seg xs (k + 1) L := by
  obtain ⟨r, h⟩ := H
  have h1 : (xs.drop k)[0]? = some x := by rw [h]; rfl
  refine ⟨by simpa using h1, r, ?_⟩
  rw [← List.drop_drop, h]; rfl
section
variable {E : Env} {yl : Nat} {X : Type} {enc : X → List SV} {xs : List X} {J : Nat → (Nat → Prop) → Hp → Nat → Prop} {Jx : (Nat → Prop) → Hp → Nat → Prop}
structure Mid (J : Nat → (Nat → Prop) → Hp → Nat → Prop) (D : Nat → Prop) (h : Hp) (m : Nat) (own : List (Nat × SObj)) (cnt : Nat) (D2 : Nat → Prop) (h2 : Hp) (m2 : Nat) : Prop where
  lt : m ≤ m2
  j : J cnt D2 h2 m2
  own : ∀ p ∈ own, h2 p.1 = some p.2 ∧ m ≤ p.1 ∧ p.1 < m2 ∧ ¬ D2 p.1
  sub : ∀ o, D2 o → D o ∨ (m ≤ o ∧ o < m2)
  old : ∀ o, ¬ D o → o < m → h2 o = h o
theorem Mid.keep (Y : YJ E yl enc xs J Jx) {D : Nat → Prop} {h : Hp} {m : Nat} {own : List (Nat × SObj)} {cnt : Nat} {D2 : Nat → Prop} {h2 : Hp} {m2 : Nat} (M : Mid J D h m own cnt D2 h2 m2) {hb : Hp} {mb : Nat} (hm : m2 ≤ mb) (hh : ∀ o, o < m2 → hb o = h2 o) : J cnt D2 hb mb :=
  Y.keep _ _ _ _ _ _ M.j hm fun o g => hh o (Y.lt _ _ _ _ M.j o g)
theorem Mid.step {D : Nat → Prop} {h : Hp} {m : Nat} {own : List (Nat × SObj)} {cnt cnt' : Nat} {D2 : Nat → Prop} {h2 : Hp} {m2 : Nat} (M : Mid J D h m own cnt D2 h2 m2) {hb : Hp} {mb : Nat} (hm : m2 ≤ mb) (hh : ∀ o, o < m2 → hb o = h2 o)
    {v : SV} {h3 : Hp} {m3 : Nat} (W : WalkQ (J cnt') Jx D2 hb mb v h3 m3) : (v = .bool true ∧ ∃ D3, Mid J D h m own cnt' D3 h3 m3) ∨ (v = .bool false ∧ WalkQ (J cnt') Jx D h m v h3 m3) := by
  obtain ⟨hm3, D3, hDD, hold, hv⟩ := W
  have h1 : ∀ o, D3 o → D o ∨ (m ≤ o ∧ o < m3) := fun o g => by
    rcases hDD o g with g | g
    · rcases M.sub o g with g | g
      · exact .inl g
      · exact .inr (by omega)
    · have := M.lt; exact .inr (by omega)
  have h4 : ∀ o, ¬ D o → o < m → h3 o = h o := fun o g1 g2 => by
    have hn : ¬ D2 o := fun g => by rcases M.sub o g with g | g; exact g1 g; omega
    have := M.lt
    rw [hold o hn (by omega), hh o (by omega), M.old o g1 g2]
  have := M.lt
  rcases hv with ⟨rfl, hj⟩ | ⟨rfl, hj⟩
  · refine .inl ⟨rfl, D3, by omega, hj, fun p hp => ?_, h1, h4⟩
    obtain ⟨g1, g2, g3, g4⟩ := M.own p hp
    refine ⟨by rw [hold _ g4 (by omega), hh _ g3, g1], g2, by omega, fun g => ?_⟩
    rcases hDD _ g with g | g
    · exact g4 g
    · omega
  · exact .inr ⟨rfl, by omega, D3, h1, h4, .inr ⟨rfl, hj⟩⟩
theorem Mid.done {D : Nat → Prop} {h : Hp} {m : Nat} {own : List (Nat × SObj)} {cnt : Nat} {D2 : Nat → Prop} {h2 : Hp} {m2 : Nat} (M : Mid J D h m own cnt D2 h2 m2) : WalkQ (J cnt) Jx D h m (.bool true) h2 m2 :=
  ⟨M.lt, D2, M.sub, M.old, .inl ⟨rfl, M.j⟩⟩
theorem Mid.more (Y : YJ E yl enc xs J Jx) {D : Nat → Prop} {h : Hp} {m : Nat} {own : List (Nat × SObj)} {cnt : Nat} {D2 : Nat → Prop} {h2 : Hp} {m2 : Nat} (M : Mid J D h m own cnt D2 h2 m2) {hb : Hp} {mb : Nat} (hm : m2 ≤ mb) (hh : ∀ o, o < m2 → hb o = h2 o) : Mid J D h m own cnt D2 hb mb :=
  ⟨Nat.le_trans M.lt hm, M.keep Y hm hh, fun p hp => by obtain ⟨g1, g2, g3, g4⟩ := M.own p hp; exact ⟨by rw [hh _ g3, g1], g2, by omega, g4⟩, fun o g => by rcases M.sub o g with g | g; exact .inl g; exact .inr (by omega), fun o g1 g2 => by have := M.lt; rw [hh o (by omega), M.old o g1 g2]⟩
theorem Mid.add {D : Nat → Prop} {h : Hp} {m : Nat} {own : List (Nat × SObj)} {cnt : Nat} {D2 : Nat → Prop} {h2 : Hp} {m2 : Nat} (M : Mid J D h m own cnt D2 h2 m2) {j : Nat} {y : SObj} (h1 : h2 j = some y) (h3 : m ≤ j) (h4 : j < m2) (h5 : ¬ D2 j) : Mid J D h m ((j, y) :: own) cnt D2 h2 m2 :=
  ⟨M.lt, M.j, fun p hp => by rcases List.mem_cons.1 hp with rfl | hp; exact ⟨h1, h3, h4, h5⟩; exact M.own p hp, M.sub, M.old⟩
theorem Mid.drop {D : Nat → Prop} {h : Hp} {m : Nat} {own : List (Nat × SObj)} {p : Nat × SObj} {cnt : Nat} {D2 : Nat → Prop} {h2 : Hp} {m2 : Nat} (M : Mid J D h m (p :: own) cnt D2 h2 m2) : Mid J D h m own cnt D2 h2 m2 :=
  ⟨M.lt, M.j, fun q hq => M.own q (List.mem_cons_of_mem _ hq), M.sub, M.old⟩
theorem Mid.any {cnt cnt' : Nat} {D : Nat → Prop} {h : Hp} {m : Nat} {h2 : Hp} {m2 : Nat} (H : WalkQ (J cnt) Jx D h m (.bool false) h2 m2) : WalkQ (J cnt') Jx D h m (.bool false) h2 m2 := by
  obtain ⟨a, D', b, c, d | d⟩ := H
  · exact absurd d.1 (by simp)
  · exact ⟨a, D', b, c, .inr d⟩
end
structure Place where
  body : Bool
  note : Bool
  tables : Int
def Place.enc (p : Place) : SV := .agg [.bool p.body, .bool p.note, intE p.tables]
structure Fl where
  id : Int
  items : List Item
  at_ : Place
def Fl.enc (f : Fl) : List SV := [intE f.id, .agg [itemsE f.items, .bool f.at_.body, .bool f.at_.note, intE f.at_.tables]]
def Place.inNote (p : Place) : Place := ⟨false, true, p.tables⟩
def Place.inTable (p : Place) : Place := ⟨false, p.note, IntKind.i64.wrap (p.tables + 1)⟩
mutual
def Item.fl (p : Place) : Item → List Fl
  | .mk k _ i _ _ f r => if k = 6 then ⟨i, f, p.inNote⟩ :: Item.flL p.inNote f else if k = 7 then Row.flL p.inTable r else []
def Item.flL (p : Place) : List Item → List Fl
  | [] => []
  | x :: l => Item.fl p x ++ Item.flL p l
def Row.fl (p : Place) : Row → List Fl
  | .mk _ c => Cell.flL p c
def Row.flL (p : Place) : List Row → List Fl
  | [] => []
  | x :: l => Row.fl p x ++ Row.flL p l
def Cell.fl (p : Place) : Cell → List Fl
  | .mk i _ f => ⟨i, f, p⟩ :: Item.flL p f
def Cell.flL (p : Place) : List Cell → List Fl
  | [] => []
  | x :: l => Cell.fl p x ++ Cell.flL p l
end
def flowsOf (id : Int) (l : List Item) (p : Place) : List Fl := ⟨id, l, p⟩ :: Item.flL p l
theorem Item.flL_take (p : Place) : ∀ (l : List Item) (i : Nat) (h : i < l.length), ∃ r, Item.flL p l = Item.flL p (l.take i) ++ (Item.fl p l[i] ++ r) ∧ Item.flL p (l.take (i + 1)) = Item.flL p (l.take i) ++ Item.fl p l[i]
  | x :: l, 0, _ => ⟨Item.flL p l, by simp [Item.flL]⟩
  | x :: l, i + 1, h => by
    obtain ⟨r, h1, h2⟩ := Item.flL_take p l i (by simpa using h)
    exact ⟨r, by simp only [Item.flL, List.take_succ_cons, List.getElem_cons_succ]; rw [h1, h2]; simp⟩
theorem Row.flL_take (p : Place) : ∀ (l : List Row) (i : Nat) (h : i < l.length), ∃ r, Row.flL p l = Row.flL p (l.take i) ++ (Row.fl p l[i] ++ r) ∧ Row.flL p (l.take (i + 1)) = Row.flL p (l.take i) ++ Row.fl p l[i]
  | x :: l, 0, _ => ⟨Row.flL p l, by simp [Row.flL]⟩
  | x :: l, i + 1, h => by
    obtain ⟨r, h1, h2⟩ := Row.flL_take p l i (by simpa using h)
    exact ⟨r, by simp only [Row.flL, List.take_succ_cons, List.getElem_cons_succ]; rw [h1, h2]; simp⟩
theorem Cell.flL_take (p : Place) : ∀ (l : List Cell) (i : Nat) (h : i < l.length), ∃ r, Cell.flL p l = Cell.flL p (l.take i) ++ (Cell.fl p l[i] ++ r) ∧ Cell.flL p (l.take (i + 1)) = Cell.flL p (l.take i) ++ Cell.fl p l[i]
  | x :: l, 0, _ => ⟨Cell.flL p l, by simp [Cell.flL]⟩
  | x :: l, i + 1, h => by
    obtain ⟨r, h1, h2⟩ := Cell.flL_take p l i (by simpa using h)
    exact ⟨r, by simp only [Cell.flL, List.take_succ_cons, List.getElem_cons_succ]; rw [h1, h2]; simp⟩
theorem flow_size {l : List Item} {x : Item} (h : x ∈ l) : SizeOf.sizeOf x.flow < SizeOf.sizeOf l := by
  have := List.sizeOf_lt_of_mem h
  cases x; simp only [Item.flow, Item.mk.sizeOf_spec] at *; omega
theorem cell_size {l : List Item} {x : Item} {r : Row} {c : Cell} (h : x ∈ l) (hr : r ∈ x.rows) (hc : c ∈ r.cells) : SizeOf.sizeOf c.flow < SizeOf.sizeOf l := by
  have h1 := List.sizeOf_lt_of_mem h
  have h2 := List.sizeOf_lt_of_mem hr
  have h3 := List.sizeOf_lt_of_mem hc
  cases x; cases r; cases c
  simp only [Item.rows, Row.cells, Cell.flow, Item.mk.sizeOf_spec, Row.mk.sizeOf_spec, Cell.mk.sizeOf_spec] at *; omega
section
variable {E : Env} {yl : Nat} {xs : List Fl} {J : Nat → (Nat → Prop) → Hp → Nat → Prop} {Jx : (Nat → Prop) → Hp → Nat → Prop}
theorem c248 (Y : YJ E yl Fl.enc xs J Jx) : ∀ (N : Nat) (l : List Item), SizeOf.sizeOf l < N → l.length ≤ 1048576 → Item.sizedL l → ∀ (id : Int) (p : Place) (k : Nat) (D : Nat → Prop) (h : Hp) (m : Nat), J k D h m → Seg xs k (flowsOf id l p) →
    SCallE E Tryz.prog 207 [intE id, itemsE l, p.enc, .fn (.yield yl) [] []] h m (WalkQ (J (k + (flowsOf id l p).length)) Jx D h m) := by
  intro N
  induction N with
  | zero => intro l h; omega
  | succ N ih =>
  intro l hN hl hs id p k D h m hJ hseg
  obtain ⟨hx0, hseg'⟩ := hseg.head
  refine go Tryz.func207 rfl (by kernel_rfl) (by kernel_rfl) (by simp [go_sem]) fun ho => ?_
  simp [go_sem, Place.enc, hset_at]
  have hD : ∀ o, D o → o < m := Y.lt k D h m hJ
  have hJ1 : J k D (hset h m (some (.cells [.bool p.body, .bool p.note, intE p.tables]))) (m + 1) := Y.keep k D h m _ _ hJ (by omega) fun o hDo => hset_ne _ _ (by have := hD o hDo; omega)
  have M0 : Mid J D h m [(m, .cells [.bool p.body, .bool p.note, intE p.tables])] k D (hset h m (some (.cells [.bool p.body, .bool p.note, intE p.tables]))) (m + 1) :=
    ⟨by omega, hJ1, by simp [hset_at]; exact fun g => absurd (hD m g) (by omega), fun o g => .inl g, fun o _ g => hset_ne _ _ (by omega)⟩
  refine YCallE.mono (Y.step k _ D _ _ hx0 hJ1) ?_
  intro v h1 m1 W
  rcases M0.step (Nat.le_refl _) (fun _ _ => rfl) W with ⟨rfl, D1, M1⟩ | ⟨rfl, hX⟩
  · simp [go_sem]
    refine goloop 1 (α := Nat × (Nat → Prop) × Hp) (fun q => [(3, .fn (.yield yl) [] []), (6, .ptr m 0), (22, itemsE l), (23, intE l.length), (24, intE q.1)]) (fun q => q.2.2)
      (fun q m' => q.1 ≤ l.length ∧ Mid J D h m [(m, .cells [.bool p.body, .bool p.note, intE p.tables])] (k + 1 + (Item.flL p (l.take q.1)).length) q.2.1 q.2.2 m') (fun q => l.length - q.1) (0, D1, h1) ?_ ?_ look_same ?_
    · exact ⟨Nat.zero_le _, by simpa [Item.flL] using M1⟩
    · simp [look]
    rintro ⟨i, D2, h2⟩ m2 ⟨hi, M2⟩
    dsimp only at hi M2 ⊢
    obtain ⟨hp2, _, hne, _⟩ := M2.own _ (List.mem_singleton.2 rfl)
    dsimp only at hp2 hne
    have hne' : m ≠ m2 := by omega
    by_cases hlt : i < l.length
    · have w1 : IntKind.i64.wrap ((i : Int) + 1) = ((i + 1 : Nat) : Int) := by rw [wr64] <;> omega
      obtain ⟨x, hx⟩ : ∃ x, l[i] = x := ⟨_, rfl⟩
      have hxm : x ∈ l := by rw [← hx]; exact List.getElem_mem hlt
      have hxs := Item.sizedL_mem hs x hxm
      obtain ⟨r, hfl1, hfl2⟩ := Item.flL_take p l i hlt
      rw [hx] at hfl1 hfl2
      have hcnt : k + 1 + (Item.flL p (l.take (i + 1))).length = k + 1 + (Item.flL p (l.take i)).length + (Item.fl p x).length := by rw [hfl2]; simp; omega
      have hsegx : Seg xs (k + 1 + (Item.flL p (l.take i)).length) (Item.fl p x) := by rw [hfl1] at hseg'; exact (hseg'.app).2.app.1
      have hb2 : ∀ y z, ∀ o, o < m2 → (hset (hset h2 m2 y) m2 z) o = h2 o := fun y z o g => by rw [hset_ne _ _ (by omega), hset_ne _ _ (by omega)]
      by_cases k6 : x.kind = 6
      · have hfx : Item.fl p x = flowsOf x.id x.flow p.inNote := by cases x; simp only [Item.kind] at k6; simp [Item.fl, k6, flowsOf, Item.id, Item.flow]
        have hxf : x.flow.length ≤ 1048576 ∧ Item.sizedL x.flow := by cases x; rw [Item.sized] at hxs; exact ⟨hxs.2.2.1, hxs.2.2.2.2.1⟩
        simp [go_sem, hlt, hx, Item.enc_eq, hset_at, hset_ne, k6, hp2, hne']
        refine SCallE.mono (ih x.flow (by have := flow_size hxm; omega) hxf.1 hxf.2 x.id p.inNote _ D2 _ _ (M2.keep Y (Nat.le_succ m2) (hb2 _ _)) (by rw [← hfx]; exact hsegx)) ?_
        intro v h3 m3 W
        rcases M2.step (Nat.le_succ m2) (hb2 _ _) W with ⟨rfl, D3, M3⟩ | ⟨rfl, hX⟩
        · simp [go_sem, w1, -Int.natCast_add]
          exact ⟨i + 1, by omega, D3, h3, ⟨by omega, by rw [hcnt, hfx]; exact M3⟩, Fz.same, look_same⟩
        · simp [go_sem]
          exact .inl (Mid.any hX)
      · by_cases k7 : x.kind = 7
        · simp [go_sem, hlt, hx, Item.enc_eq, hset_at, k7]
          have hfx : Item.fl p x = Row.flL p.inTable x.rows := by cases x; simp only [Item.kind] at k6 k7; simp [Item.fl, k7, Item.rows]
          have hxr : x.rows.length ≤ 1048576 ∧ Row.sizedL x.rows := by cases x; rw [Item.sized] at hxs; exact ⟨hxs.2.2.2.1, hxs.2.2.2.2.2⟩
          rw [hfx] at hsegx hcnt
          generalize hk' : k + 1 + (Item.flL p (l.take i)).length = k' at hsegx hcnt M2
          refine goloop 1 (α := Nat × (Nat → Prop) × Hp) (fun q => [(3, .fn (.yield yl) [] []), (6, .ptr m 0), (22, itemsE l), (23, intE l.length), (24, intE i), (45, rowsE x.rows), (46, intE x.rows.length), (47, intE q.1)]) (fun q => q.2.2)
            (fun q m' => q.1 ≤ x.rows.length ∧ Mid J D h m [(m, .cells [.bool p.body, .bool p.note, intE p.tables])] (k' + (Row.flL p.inTable (x.rows.take q.1)).length) q.2.1 q.2.2 m') (fun q => x.rows.length - q.1) (0, D2, _) ?_ ?_ look_same ?_
          · exact ⟨Nat.zero_le _, by dsimp only; rw [List.take_zero, Row.flL]; exact M2.more Y (Nat.le_succ m2) (hb2 _ _)⟩
          · simp [look]
          clear hb2
          rintro ⟨j, D3, h3⟩ m3 ⟨hj, M3⟩
          dsimp only at hj M3 ⊢
          obtain ⟨hp3, _, hne3, _⟩ := M3.own _ (List.mem_singleton.2 rfl)
          dsimp only at hp3 hne3
          have hne3' : m ≠ m3 := by omega
          by_cases hjt : j < x.rows.length
          · have w2 : IntKind.i64.wrap ((j : Int) + 1) = ((j + 1 : Nat) : Int) := by rw [wr64] <;> omega
            obtain ⟨y, hy⟩ : ∃ y, x.rows[j] = y := ⟨_, rfl⟩
            have hym : y ∈ x.rows := by rw [← hy]; exact List.getElem_mem hjt
            have hys := Row.sizedL_mem hxr.2 y hym
            obtain ⟨r2, hr1, hr2⟩ := Row.flL_take p.inTable x.rows j hjt
            rw [hy] at hr1 hr2
            have hcnt2 : k' + (Row.flL p.inTable (x.rows.take (j + 1))).length = k' + (Row.flL p.inTable (x.rows.take j)).length + (Row.fl p.inTable y).length := by rw [hr2]; simp; omega
            have hsegy : Seg xs (k' + (Row.flL p.inTable (x.rows.take j)).length) (Row.fl p.inTable y) := by rw [hr1] at hsegx; exact (hsegx.app).2.app.1
            have hfy : Row.fl p.inTable y = Cell.flL p.inTable y.cells := by cases y; simp [Row.fl, Row.cells]
            have hyc : y.cells.length ≤ 1048576 ∧ Cell.sizedL y.cells := by cases y; rw [Row.sized] at hys; exact ⟨hys.2.1, hys.2.2⟩
            rw [hfy] at hsegy hcnt2
            have hb3 : ∀ y z, ∀ o, o < m3 → (hset (hset h3 m3 y) m3 z) o = h3 o := fun y z o g => by rw [hset_ne _ _ (by omega), hset_ne _ _ (by omega)]
            simp [go_sem, hjt, hy, Row.enc_eq, hset_at]
            generalize hk2 : k' + (Row.flL p.inTable (x.rows.take j)).length = k2 at hsegy hcnt2 M3
            refine goloop 1 (α := Nat × (Nat → Prop) × Hp) (fun q => [(3, .fn (.yield yl) [] []), (6, .ptr m 0), (22, itemsE l), (23, intE l.length), (24, intE i), (45, rowsE x.rows), (46, intE x.rows.length), (47, intE j), (52, cellsE y.cells), (53, intE y.cells.length), (54, intE q.1)]) (fun q => q.2.2)
              (fun q m' => q.1 ≤ y.cells.length ∧ Mid J D h m [(m, .cells [.bool p.body, .bool p.note, intE p.tables])] (k2 + (Cell.flL p.inTable (y.cells.take q.1)).length) q.2.1 q.2.2 m') (fun q => y.cells.length - q.1) (0, D3, _) ?_ ?_ look_same ?_
            · exact ⟨Nat.zero_le _, by dsimp only; rw [List.take_zero, Cell.flL]; exact M3.more Y (Nat.le_succ m3) (hb3 _ _)⟩
            · simp [look]
            clear hb3
            rintro ⟨q, D4, h4⟩ m4 ⟨hq, M4⟩
            dsimp only at hq M4 ⊢
            obtain ⟨hp4, _, hne4, _⟩ := M4.own _ (List.mem_singleton.2 rfl)
            dsimp only at hp4 hne4
            have hne4' : m ≠ m4 := by omega
            by_cases hqt : q < y.cells.length
            · have w3 : IntKind.i64.wrap ((q : Int) + 1) = ((q + 1 : Nat) : Int) := by rw [wr64] <;> omega
              obtain ⟨z, hz⟩ : ∃ z, y.cells[q] = z := ⟨_, rfl⟩
              have hzm : z ∈ y.cells := by rw [← hz]; exact List.getElem_mem hqt
              have hzs := Cell.sizedL_mem hyc.2 z hzm
              obtain ⟨r3, hc1, hc2⟩ := Cell.flL_take p.inTable y.cells q hqt
              rw [hz] at hc1 hc2
              have hfz : Cell.fl p.inTable z = flowsOf z.id z.flow p.inTable := by cases z; simp [Cell.fl, flowsOf, Cell.id, Cell.flow]
              have hcnt3 : k2 + (Cell.flL p.inTable (y.cells.take (q + 1))).length = k2 + (Cell.flL p.inTable (y.cells.take q)).length + (flowsOf z.id z.flow p.inTable).length := by rw [hc2, hfz]; simp; omega
              have hsegz : Seg xs (k2 + (Cell.flL p.inTable (y.cells.take q)).length) (flowsOf z.id z.flow p.inTable) := by rw [hc1, hfz] at hsegy; exact (hsegy.app).2.app.1
              have hzf : z.flow.length ≤ 1048576 ∧ Item.sizedL z.flow := by cases z; rw [Cell.sized] at hzs; exact ⟨hzs.2.1, hzs.2.2⟩
              have hb4 : ∀ y z, ∀ o, o < m4 → (hset (hset h4 m4 y) m4 z) o = h4 o := fun y z o g => by rw [hset_ne _ _ (by omega), hset_ne _ _ (by omega)]
              simp [go_sem, hqt, hz, Cell.enc_eq, hset_at, hset_ne, hp4, hne4']
              refine SCallE.mono (ih z.flow (by have := cell_size hxm hym hzm; omega) hzf.1 hzf.2 z.id p.inTable _ D4 _ _ (M4.keep Y (Nat.le_succ m4) (hb4 _ _)) hsegz) ?_
              intro v h5 m5 W
              rcases M4.step (Nat.le_succ m4) (hb4 _ _) W with ⟨rfl, D5, M5⟩ | ⟨rfl, hX⟩
              · simp [go_sem, w3, -Int.natCast_add]
                exact ⟨q + 1, by omega, D5, h5, ⟨by omega, by rw [hcnt3]; exact M5⟩, Fz.same, look_same⟩
              · simp [go_sem]
                exact .inl (Mid.any hX)
            · have : q = y.cells.length := by omega
              subst this
              rw [List.take_length] at M4
              simp [go_sem, w2, -Int.natCast_add]
              exact ⟨j + 1, by omega, D4, h4, ⟨by omega, by rw [hcnt2]; exact M4⟩, Fz.same, look_same⟩
          · have : j = x.rows.length := by omega
            subst this
            rw [List.take_length] at M3
            simp [go_sem, w1, -Int.natCast_add]
            exact ⟨i + 1, by omega, D3, h3, ⟨by omega, by rw [hcnt]; exact M3⟩, Fz.same, look_same⟩
        · have hfx : Item.fl p x = [] := by cases x; simp only [Item.kind] at k6 k7; simp [Item.fl, k6, k7]
          simp [go_sem, hlt, hx, Item.enc_eq, hset_at, k6, k7, w1, -Int.natCast_add]
          exact ⟨i + 1, by omega, D2, _, ⟨by omega, by rw [hcnt, hfx]; exact M2.more Y (Nat.le_succ m2) (hb2 _ _)⟩, Fz.same, look_same⟩
    · have : i = l.length := by omega
      subst this
      simp [go_sem]
      rw [List.take_length] at M2
      exact .inl (by have := M2.done (Jx := Jx); simpa [flowsOf, Nat.add_assoc, Nat.add_comm 1] using this)
  · simp [go_sem]
    exact .inl (Mid.any hX)
end
def Fl.ok (f : Fl) : Prop := f.items.length ≤ 1048576 ∧ Item.sizedL f.items
mutual
theorem Item.fl_ok (p : Place) : ∀ x : Item, x.sized → ∀ f ∈ Item.fl p x, f.ok
  | .mk k c i t hd f r, hs => by
    rw [Item.sized] at hs
    rw [Item.fl]
    split
    · intro g hg
      rcases List.mem_cons.1 hg with rfl | hg
      · exact ⟨hs.2.2.1, hs.2.2.2.2.1⟩
      · exact Item.flL_ok p.inNote f hs.2.2.2.2.1 g hg
    · split
      · exact Row.flL_ok p.inTable r hs.2.2.2.2.2
      · simp
theorem Item.flL_ok (p : Place) : ∀ l : List Item, Item.sizedL l → ∀ f ∈ Item.flL p l, f.ok
  | [], _ => by simp [Item.flL]
  | x :: l, hs => by
    rw [Item.sizedL] at hs
    intro g hg
    rw [Item.flL] at hg
    rcases List.mem_append.1 hg with hg | hg
    · exact Item.fl_ok p x hs.1 g hg
    · exact Item.flL_ok p l hs.2 g hg
theorem Row.fl_ok (p : Place) : ∀ x : Row, x.sized → ∀ f ∈ Row.fl p x, f.ok
  | .mk hd c, hs => by rw [Row.sized] at hs; rw [Row.fl]; exact Cell.flL_ok p c hs.2.2
theorem Row.flL_ok (p : Place) : ∀ l : List Row, Row.sizedL l → ∀ f ∈ Row.flL p l, f.ok
  | [], _ => by simp [Row.flL]
  | x :: l, hs => by
    rw [Row.sizedL] at hs
    intro g hg
    rw [Row.flL] at hg
    rcases List.mem_append.1 hg with hg | hg
    · exact Row.fl_ok p x hs.1 g hg
    · exact Row.flL_ok p l hs.2 g hg
theorem Cell.fl_ok (p : Place) : ∀ x : Cell, x.sized → ∀ f ∈ Cell.fl p x, f.ok
  | .mk i hd f, hs => by
    rw [Cell.sized] at hs
    rw [Cell.fl]
    intro g hg
    rcases List.mem_cons.1 hg with rfl | hg
    · exact ⟨hs.2.1, hs.2.2⟩
    · exact Item.flL_ok p f hs.2.2 g hg
theorem Cell.flL_ok (p : Place) : ∀ l : List Cell, Cell.sizedL l → ∀ f ∈ Cell.flL p l, f.ok
  | [], _ => by simp [Cell.flL]
  | x :: l, hs => by
    rw [Cell.sizedL] at hs
    intro g hg
    rw [Cell.flL] at hg
    rcases List.mem_append.1 hg with hg | hg
    · exact Cell.fl_ok p x hs.1 g hg
    · exact Cell.flL_ok p l hs.2 g hg
end
theorem flowsOf_ok {id : Int} {l : List Item} {p : Place} (hl : l.length ≤ 1048576) (hs : Item.sizedL l) : ∀ f ∈ flowsOf id l p, f.ok := by
  intro g hg
  rcases List.mem_cons.1 hg with rfl | hg
  · exact ⟨hl, hs⟩
  · exact Item.flL_ok p l hs g hg
section
variable {E : Env} {yl : Nat} {xs : List Fl} {J : Nat → (Nat → Prop) → Hp → Nat → Prop} {Jx : (Nat → Prop) → Hp → Nat → Prop}
theorem c247 (Y : YJ E yl Fl.enc xs J Jx) (l : List Item) (hl : l.length ≤ 1048576) (hs : Item.sizedL l) (id : Int) (p : Place) (k : Nat) (D : Nat → Prop) (h : Hp) (m : Nat) (hJ : J k D h m) (hseg : Seg xs k (flowsOf id l p)) :
    SCallE E Tryz.prog 206 [.fn (.yield yl) [] [], .iptr [intE id], .iptr [itemsE l], .iptr [.bool p.body, .bool p.note, intE p.tables]] h m (fun _ h' m' => ∃ v, WalkQ (J (k + (flowsOf id l p).length)) Jx D h m v h' m') := by
  refine go Tryz.func206 rfl (by kernel_rfl) (by kernel_rfl) (by simp [go_sem]) fun ho => ?_
  simp [go_sem]
  refine SCallE.mono (c248 Y (SizeOf.sizeOf l + 1) l (Nat.lt_succ_self _) hl hs id p k D h m hJ hseg) ?_
  intro v h' m' W
  simp [go_sem]
  exact .inl ⟨v, W⟩
end
theorem ptr_fz {h' h : Hp} {k o : Nat} {cs : List SV} (hn : h o = none) (hh : h' o = some (.cells cs)) : Fz h' h (k + 1) (.ptr o 0) (.iptr cs) := by
  refine .inr ⟨hn, cs, hh, by simp, ?_⟩
  have : ∀ l : List SV, All2 (Fz h' h k) l l := by
    intro l; induction l with
    | nil => trivial
    | cons a l ih => exact ⟨Fz.same, ih⟩
  simpa using this cs
theorem c173 (id : Int) (l : List Item) (p : Place) : PC 159 [intE id, itemsE l, p.enc] (.fn (.func 206) [] [.iptr [intE id], .iptr [itemsE l], .iptr [.bool p.body, .bool p.note, intE p.tables]]) := by
  intro h n
  refine go Tryz.func159 rfl (by kernel_rfl) (by kernel_rfl) (by simp [go_sem]) fun ho => ?_
  simp [go_sem, Place.enc]
  refine retFz 3 ho (by repeat (first | exact look_same | refine hset_old ho (by omega) ?_)) ?_ (by simp [closed, closedL, Item.E.closedL])
  have h0 := ho.none (Nat.le_refl n)
  have h1 := ho.none (Nat.le_succ n)
  have h2 := ho.none (show n ≤ n + 1 + 1 by omega)
  exact .inr ⟨rfl, trivial, ptr_fz h0 (by simp [hset, Nat.add_assoc]), ptr_fz h1 (by simp [hset, Nat.add_assoc]), ptr_fz h2 (by simp [hset, Nat.add_assoc]), trivial⟩
def docPlace : Place := ⟨true, false, 0⟩
theorem c109 (d : Document) : PC 98 [d.enc] (.fn (.func 206) [] [.iptr [intE 0], .iptr [itemsE d.flow], .iptr [.bool true, .bool false, intE 0]]) := by
  intro h n
  refine go Tryz.func98 rfl (by kernel_rfl) (by kernel_rfl) (by simp [go_sem]) fun ho => ?_
  simp [go_sem, Document.enc, Head.flat, Settings.flat, hset_at]
  refine (c173 0 d.flow docPlace).use ?_
  simp [go_sem]
  exact retIs ho (by repeat (first | exact look_same | refine hset_old ho (by omega) ?_)) rfl (by simp [closed, closedL, Item.E.closedL])
def docFlows (d : Document) : List Fl := flowsOf 0 d.flow docPlace
def docFlow (d : Document) (id : Int) : Option Fl := (docFlows d).find? fun f => decide (f.id = id)
theorem c34 (d : Document) (id : Int) (hl : d.flow.length ≤ 1048576) (hs : Item.sizedL d.flow) : PC 35 [d.enc, intE id] (.tup [itemsE (((docFlow d id).map Fl.items).getD []), .bool (docFlow d id).isSome]) := by
  intro h n
  refine goM Tryz.func35 rfl (by kernel_rfl) (by kernel_rfl) (by simp [go_sem]) fun ho B => ?_
  simp [go_sem, Document.enc, Head.flat, Settings.flat, hset_at, hset_ne, Nat.add_assoc]
  refine PC.use (by simpa [Document.enc, Head.flat, Settings.flat] using c109 d) ?_
  simp [go_sem]
  generalize hH : hset (hset (hset (hset h n _) (n + 1) _) (n + 2) _) (n + 3) _ = H
  refine SWE_rangeFunc rfl rfl rfl fun E1 l R hY => ?_
  have h1 : H (n + 1) = some (.cells [intE id]) := by rw [← hH]; simp [hset]
  have h2 : H (n + 2) = some (.cells [.imm 0 [] true]) := by rw [← hH]; simp [hset]
  have h3 : H (n + 3) = some (.cells [.bool false]) := by rw [← hH]; simp [hset]
  have hold : ∀ o, o < n → H o = h o := fun o g => by rw [← hH]; rw [hset_ne _ _ (by omega), hset_ne _ _ (by omega), hset_ne _ _ (by omega), hset_ne _ _ (by omega)]
  clear hH
  let D0 : Nat → Prop := fun o => n ≤ o ∧ o ≤ n + 4
  let J : Nat → (Nat → Prop) → Hp → Nat → Prop := fun k D hh m => D = D0 ∧ n + 4 < m ∧ hh (n + 1) = some (.cells [intE id]) ∧ hh (n + 2) = some (.cells [.imm 0 [] true]) ∧ hh (n + 3) = some (.cells [.bool false]) ∧ hh (n + 4) = some (.loop (R .ready none)) ∧ ∀ x ∈ (docFlows d).take k, x.id ≠ id
  let Jx : (Nat → Prop) → Hp → Nat → Prop := fun D hh m => D = D0 ∧ n + 4 < m ∧ ∃ x, docFlow d id = some x ∧ hh (n + 2) = some (.cells [itemsE x.items]) ∧ hh (n + 3) = some (.cells [.bool true]) ∧ hh (n + 4) = some (.loop (R .done (some .ret)))
  have Y : YJ E1 l Fl.enc (docFlows d) J Jx := by
    refine ⟨fun k x D hh m hx hJ => ?_, ?_, ?_⟩
    · obtain ⟨rfl, g0, g1, g2, g3, g4, g5⟩ := hJ
      refine hY _ _ _ _ g4 rfl (roundW_of ?_)
      have hxm : x ∈ docFlows d := List.mem_of_getElem? hx
      have hxo : x.ok := flowsOf_ok hl hs x hxm
      have e1 : n + 1 ≠ m := by omega
      have e2 : n + 2 ≠ m := by omega
      have e3 : n + 3 ≠ m := by omega
      have e4 : n + 4 ≠ m := by omega
      have e4' := e4.symm
      simp [go_sem, zipSA, Fl.enc, hset_at, hset_ne, g4, e4, g1, e1]
      by_cases hid : x.id = id
      · have hfind : docFlow d id = some x := by
          obtain ⟨hlt, hxx⟩ := List.getElem?_eq_some_iff.1 hx
          have hsplit : docFlows d = (docFlows d).take k ++ x :: (docFlows d).drop (k + 1) := by rw [← hxx, List.getElem_cons_drop, List.take_append_drop]
          rw [docFlow, hsplit, List.find?_append]
          have : ((docFlows d).take k).find? (fun f => decide (f.id = id)) = none := List.find?_eq_none.2 fun y hy => by simpa using g5 y hy
          rw [this]; simp [hid]
        simp [go_sem, hid, hset_at, hset_ne, e4']
        refine (c110 _ hxo.1 hxo.2).use ?_
        simp [go_sem, hset_at, hset_ne, g2, e2, g3, e3, roundQ]
        refine ⟨by omega, D0, fun o g => .inl g, fun o g1 g2 => ?_, .inr ⟨rfl, rfl, by omega, x, hfind, ?_⟩⟩
        · have : ¬ (n ≤ o ∧ o ≤ n + 4) := g1
          simp only [hset]
          rw [if_neg (by omega), if_neg (by omega), if_neg (by omega), if_neg (by omega), if_neg (by omega), if_neg (by omega)]
        · simp [hset]
      · simp [go_sem, hid, roundQ, hset_at]
        refine ⟨by omega, D0, fun o g => .inl g, fun o g1 g2 => ?_, .inl ⟨rfl, rfl, by omega, ?_, ?_, ?_, ?_, fun y hy => ?_⟩⟩
        · have : ¬ (n ≤ o ∧ o ≤ n + 4) := g1
          simp only [hset]
          rw [if_neg (by omega), if_neg (by omega), if_neg (by omega), if_neg (by omega)]
        · simp [hset, e1, g1]
        · simp [hset, e2, g2]
        · simp [hset, e3, g3]
        · simp [hset]
        · obtain ⟨hlt, hxx⟩ := List.getElem?_eq_some_iff.1 hx
          rw [List.take_succ_eq_append_getElem hlt, hxx] at hy
          rcases List.mem_append.1 hy with hy | hy
          · exact g5 y hy
          · rw [List.mem_singleton.1 hy]; exact hid
    · rintro k D hh m h' m' ⟨rfl, g0, g1, g2, g3, g4, g5⟩ hm hD
      exact ⟨rfl, by omega, by rw [hD _ ⟨by omega, by omega⟩]; exact g1, by rw [hD _ ⟨by omega, by omega⟩]; exact g2, by rw [hD _ ⟨by omega, by omega⟩]; exact g3, by rw [hD _ ⟨by omega, by omega⟩]; exact g4, g5⟩
    · rintro k D hh m ⟨rfl, g0, _⟩ o ⟨a, b⟩; omega
  refine SCallE.mono (c247 Y d.flow hl hs 0 docPlace 0 D0 _ _ ⟨rfl, by omega, ?_, ?_, ?_, ?_, by simp⟩ ⟨[], by simp [docFlows]⟩) ?_
  · rw [hset_ne _ _ (by omega)]; exact h1
  · rw [hset_ne _ _ (by omega)]; exact h2
  · rw [hset_ne _ _ (by omega)]; exact h3
  · exact hset_at _ _ _
  rintro _ h' m' ⟨v, hm, D', hDD, hh, hv⟩
  rcases hv with ⟨rfl, rfl, g0, g1, g2, g3, g4, g5⟩ | ⟨rfl, rfl, g0, x, hx, g2, g3, g4⟩
  · refine ⟨_, _, g4, by simp, ?_⟩
    simp [go_sem, hset_at, hset_ne, g2, g3]
    have hnone : docFlow d id = none := List.find?_eq_none.2 fun y hy => by simpa using g5 y (by simpa [docFlows, docPlace] using hy)
    refine retFz 2 ho (fun o y e => ?_) (by rw [hnone]; exact .inr ⟨imm_fz (by simp), Fz.same, trivial⟩) (by rw [hnone]; rfl)
    have g := (ho o y e).1
    rw [hset_ne _ _ (by omega), hset_ne _ _ (by omega), hset_ne _ _ (by omega), hh o (fun g' => by have : n ≤ o ∧ o ≤ n + 4 := g'; omega) (by omega), hset_ne _ _ (by omega), hold o g, e]
  · refine ⟨_, _, g4, by simp, ?_⟩
    simp [go_sem, hset_ne, g2, g3]
    refine retIs ho (fun o y e => ?_) (by rw [hx]; rfl) (by rw [hx]; simp [closed, closedL, Item.E.closedL])
    have g := (ho o y e).1
    rw [hset_ne _ _ (by omega), hh o (fun g' => by have : n ≤ o ∧ o ≤ n + 4 := g'; omega) (by omega), hset_ne _ _ (by omega), hold o g, e]
def itemsAt : Int → List Item → List (Int × Item)
  | _, [] => []
  | a, x :: l => (a, x) :: itemsAt (a + x.units) l
section
variable {E : Env} {yl : Nat} {J : Nat → (Nat → Prop) → Hp → Nat → Prop} {Jx : (Nat → Prop) → Hp → Nat → Prop}
end
def Item.setText (y : Item) (t : ByteArray) : Item := .mk y.kind y.code y.id t y.head y.flow y.rows
def divStep (cu : Int) (s : List Item × List Item) (p : Int × Item) : List Item × List Item :=
  if p.1 + p.2.units ≤ cu then (s.1 ++ [p.2], s.2) else if cu ≤ p.1 then (s.1, s.2 ++ [p.2]) else
    (s.1 ++ [p.2.setText (p.2.text.extract 0 (cpOffset p.2.text (cu - p.1)).1.toNat)], s.2 ++ [p.2.setText (p.2.text.extract (cpOffset p.2.text (cu - p.1)).1.toNat p.2.text.size)])
def divK (l : List Item) (cu : Int) (k : Nat) : List Item × List Item := ((itemsAt 0 l).take k).foldl (divStep cu) ([], [])
def runDivide (l : List Item) (cu : Int) : List Item × List Item := divK l cu l.length
theorem AccI.mv {n m m' z : Nat} {o : Option Nat} {es : List SV} (h : AccI n m z o es) (hm : m ≤ m') : AccI n m' z o es := h.mono hm
def runSlice (l : List Item) (a b : Int) : List Item × Int := if runCheck l a b = 0 then (runNormal (runDivide (runDivide l b).1 a).2, 0) else ([], runCheck l a b)
def Head.revs (h : Head) : List Int := (if h.ins = 0 then [] else [h.ins]) ++ h.dels.map (·.rev) ++ h.layers.map (·.rev)
theorem app_int {H : Hp} {n m k p : Nat} {es : List Int} {x : Int} {o : Option Nat} (hA : AccI n m 1 o (es.map intE)) (hl : es.length ≤ 1073741823) (h1 : H k = some (.cells [intE x])) (h2 : ∀ j, o = some j → H j = some (.cells (es.map intE))) :
    builtinS Tryz.prog H p .append [91, 91] [AccV 1 o (es.map intE), .sl k 0 1 1 true] = some { val := .sl p 0 1 (es.length + 1) false, upd := o.map fun j => (j, none), new := some (.cells (es.map intE ++ [intE x])) } := by
  have := app1g (P := Tryz.prog) (H := H) (t := 91) (t2 := 91) (el := 3) (by simp [go_sem]) (by simp [go_sem]) (by simp [go_sem]) (by simp) (by simp [go_sem]) (by simp [go_sem]) (by simp [go_sem]) (by simp; omega) hA (e := intE x) rfl h1 (fun j e => by rw [h2 j e, flat_int]) p
  rw [this, flat_int]; simp [SV.cells]
theorem AccH_int (o : Option Nat) (l : List Int) (h : Hp) : AccH o (l.map intE) h = match o with | none => h | some j => hset h j (some (.cells (l.map intE))) := by
  cases o <;> simp [AccH, flat_int]
def Head.uses (h : Head) (rev : Int) : Bool := decide (rev ∈ h.revs)
def insU (out : List Int) (x : Int) : List Int := if x ∈ out then out else out ++ [x]
def addU (out l : List Int) : List Int := l.foldl insU out
theorem addU_append (out a b : List Int) : addU out (a ++ b) = addU (addU out a) b := List.foldl_append
def Head.all (h : Head) : List Int := h.ins :: (h.dels.map (·.rev) ++ h.layers.map (·.rev))
mutual
def Item.us : Item → List Int
  | .mk k _ _ _ h f r => h.all ++ (if k = 6 then Item.usL f else if k = 7 then Row.usL r else [])
def Item.usL : List Item → List Int
  | [] => []
  | x :: l => x.us ++ Item.usL l
def Row.us : Row → List Int
  | .mk h c => h.all ++ Cell.usL c
def Row.usL : List Row → List Int
  | [] => []
  | x :: l => x.us ++ Row.usL l
def Cell.us : Cell → List Int
  | .mk _ h f => h.all ++ Item.usL f
def Cell.usL : List Cell → List Int
  | [] => []
  | x :: l => x.us ++ Cell.usL l
end
theorem kvT_closed (n : Nat) (out : List Int) : closedO n (.map (kvT out)) = true := by simp [closedO, kvT, closed]
end Go.Proofs.YthinbkgpjmjfeaaGreatDoor.Sh
