/- A part of the proof (part 8 of 11). -/
import Derived.Test.YthinbkgpjmjfeaaGreatDoorM7
import Derived.Lib.Overlaps
import Derived.Lib.AppendZerosOnto
import Derived.Test.YthinbkgpjmjfeaaGreatDoorRows
import Derived.WalkKit
import Derived.ProofKit
import Derived.OpenShut
import Derived.JoinedCond
import Derived.ReadAgain
import Derived.ChangeReads
namespace Go.Proofs.YthinbkgpjmjfeaaGreatDoor.Sh
open Proofs
set_option maxRecDepth 10000
def trO1 : Tr := .pure 0 (.pure 1 (.pure 2 (.pure 3 (.pure 4 (.pure 5 (.pure 6 (.pure 7 (.pure 8 (.pure 9 (.pure 10 (.pure 11 (.pure 12 (.pure 13 .nil)))))))))))))
def trO2 : Tr := .pure 0 (.pure 1 (.pure 3 (.pure 4 (.pure 5 (.pure 6 (.one 2 (.one 7 (.pure 8 (.pure 9 (.pure 10 (.pure 11 (.pure 12 .nil))))))))))))
def trO3 : Tr := .pure 0 (.pure 1 (.pure 3 (.pure 4 (.one 2 (.one 5 (.pure 6 .nil))))))
set_option maxHeartbeats 2000000 in
theorem t207 (l : List Style) (hl : l.length ≤ 1048576) (hs : ∀ x ∈ l, x.props.length ≤ 1048576) (i : Nat) (hi : i < l.length) : TC 186 [stylesE l, intE i] anyE := by
  intro h n
  refine goS Tryz.func186 rfl (by kernel_rfl) (by kernel_rfl) (by simp [go_sem]) fun ho => ?_
  have hHb : ∀ j y, h j = some y → j < n := fun j y e => (ho j y e).1
  obtain ⟨s, hx⟩ : ∃ s, l[i] = s := ⟨_, rfl⟩
  have hps := hs s (by rw [← hx]; exact List.getElem_mem hi)
  have out : ∀ (e : Int) (m : Nat), RetS n h m (intE e) (fun v h' n' => anyE v ∧ h' = h ∧ n' = n) := fun e m => retT ho look_same (by simp [closed]) ⟨e, rfl⟩
  obtain ⟨X, hX⟩ : ∃ X : SV, X = .iptr [intE s.id, intE s.kind, .str s.name, intE s.base, intE s.next, propsE s.props] := ⟨_, rfl⟩
  refine SP_mid 0 (α := Unit) (fun _ => [(0, stylesE l), (1, intE i)]) (fun _ => h) (fun _ m => n ≤ m) ?_ (fun _ m hm => ?_)
  · simp [go_sem, Fz.same]
  refine SP_mid 1 (α := Unit) (fun _ => [(0, stylesE l), (1, intE i), (5, X)]) (fun _ => h) (fun _ m => n ≤ m) ?_ (fun _ m hm => ?_)
  · have hHm : ∀ j y, h j = some y → j < m := fun j y e => by have := hHb j y e; omega
    rw [hX]
    simp [go_sem, Fz.same, hi, hx, Style.enc, hset_at]
    exact ⟨by omega, ptr_fz (lt_none hHm (Nat.le_refl _)) (hset_at _ _ _), set_keep hHm (set_keep hHm look_same)⟩
  have w1 : 0 < i → IntKind.i64.wrap ((i : Int) - 1) = ((i - 1 : Nat) : Int) := fun g => by rw [wr64] <;> omega
  refine SP_midS 0 (α := Unit) (fun _ => [(0, stylesE l), (1, intE i), (5, X)]) (fun _ => h) (fun _ m => n ≤ m) (SP_block ?_) (fun _ m hm => ?_)
  · refine SP_mid 0 (α := Bx) (fun b => [(0, stylesE l), (1, intE i), (5, X), (14, .bool b.b)]) (fun _ => h) (fun _ m => n ≤ m) ?_ (fun b m hm => ?_)
    · rw [hX]
      by_cases a1 : s.id < 1
      · simp [go_sem, Fz.same, a1, hm]; exact ⟨⟨_⟩, rfl⟩
      · simp [go_sem, Fz.same, a1, hm]; exact ⟨⟨_⟩, rfl⟩
    obtain ⟨b⟩ := b
    dsimp only
    cases b with
    | true => exact SP_of (by simp [go_sem]; exact out _ _)
    | false =>
    refine SWE_cond (b := false) (by simp [go_sem]) ?_
    simp only [Bool.false_eq_true, if_false]
    refine SP_midS 0 (α := Bx) (fun b => [(0, stylesE l), (1, intE i), (5, X), (23, .bool b.b)]) (fun _ => h) (fun _ m => n ≤ m) (SP_tr trO1 rfl (by kernel_rfl) (by kernel_rfl) ?_) (fun b m hm => ?_)
    · rw [hX]
      by_cases a1 : 0 < i
      · have hi1 : i - 1 < l.length := by omega
        simp [go_sem, trO1, Fz.same, a1, w1, hm, hi1, Style.enc]; exact ⟨⟨_⟩, rfl⟩
      · simp [go_sem, trO1, Fz.same, a1, hm]; exact ⟨⟨_⟩, rfl⟩
    obtain ⟨b⟩ := b
    dsimp only
    cases b with
    | true => exact SP_of (by simp [go_sem]; exact out _ _)
    | false =>
    refine SWE_cond (b := false) (by simp [go_sem]) ?_
    simp only [Bool.false_eq_true, if_false]
    refine SP_midS 0 (α := Bx) (fun b => [(0, stylesE l), (1, intE i), (5, X), (37, .bool b.b)]) (fun _ => h) (fun _ m => n ≤ m) (SP_tr trO1 rfl (by kernel_rfl) (by kernel_rfl) ?_) (fun b m hm => ?_)
    · rw [hX]
      by_cases a1 : 0 < i
      · have hi1 : i - 1 < l.length := by omega
        simp [go_sem, trO1, Fz.same, a1, w1, hm, hi1, Style.enc]; exact ⟨⟨_⟩, rfl⟩
      · simp [go_sem, trO1, Fz.same, a1, hm]; exact ⟨⟨_⟩, rfl⟩
    obtain ⟨b⟩ := b
    dsimp only
    cases b with
    | true => exact SP_of (by simp [go_sem]; exact out _ _)
    | false =>
    refine SWE_cond (b := false) (by simp [go_sem]) ?_
    simp only [Bool.false_eq_true, if_false]
    refine SP_mid 0 (α := Bx) (fun b => [(0, stylesE l), (1, intE i), (5, X), (51, .bool b.b)]) (fun _ => h) (fun _ m => n ≤ m) ?_ (fun b m hm => ?_)
    · rw [hX]
      by_cases a1 : s.kind = 1
      · simp [go_sem, Fz.same, a1, hm]; exact ⟨⟨_⟩, rfl⟩
      · have a2 : (s.kind != 1) = true := by simpa using a1
        simp [go_sem, Fz.same, a2, hm]; exact ⟨⟨_⟩, rfl⟩
    obtain ⟨b⟩ := b
    dsimp only
    cases b with
    | true => exact SP_of (by simp [go_sem]; exact out _ _)
    | false =>
    refine SWE_cond (b := false) (by simp [go_sem]) ?_
    simp only [Bool.false_eq_true, if_false]
    refine SP_mid 0 (α := Bx) (fun b => [(0, stylesE l), (1, intE i), (5, X), (60, .bool b.b)]) (fun _ => h) (fun _ m => n ≤ m) ?_ (fun b m hm => ?_)
    · rw [hX]
      simp [go_sem]
      refine (c266 s.name).use ?_
      simp [go_sem, Fz.same, hm]
      exact ⟨⟨_⟩, rfl⟩
    obtain ⟨b⟩ := b
    dsimp only
    cases b with
    | true => exact SP_of (by simp [go_sem]; exact out _ _)
    | false => exact SP_of (by simp [go_sem, Fz.same, hm])
  refine SP_midS 0 (α := Unit) (fun _ => [(0, stylesE l), (1, intE i), (5, X)]) (fun _ => h) (fun _ m => n ≤ m) ?_ (fun _ m hm => ?_)
  · refine SP_midS 0 (α := Bx) (fun b => [(0, stylesE l), (1, intE i), (5, X), (7, .bool b.b)]) (fun _ => h) (fun _ m => n ≤ m) (SP_tr trO2 rfl (by kernel_rfl) (by kernel_rfl) ?_) (fun b m hm => ?_)
    · have hle : i ≤ l.length := by omega
      have hc := c267 (l.take i) s.kind s.name (by simp; omega)
      generalize stFindName (l.take i) s.kind s.name = k at hc
      generalize (if 0 ≤ k then k else 0) = k1 at hc
      generalize decide (0 ≤ k) = k2 at hc
      simp only [stylesE, List.map_take] at hc
      rw [hX]
      simp [go_sem, trO2, hle, -List.map_take]
      refine PC.use hc ?_
      simp [go_sem, Fz.same, hm]
      exact ⟨⟨_⟩, rfl⟩
    obtain ⟨b⟩ := b
    dsimp only
    cases b with
    | true => exact SP_of (by simp [go_sem]; exact out _ _)
    | false => exact SP_of (by simp [go_sem, Fz.same, hm])
  refine SP_midS 0 (α := Unit) (fun _ => [(5, X)]) (fun _ => h) (fun _ m => n ≤ m) ?_ (fun _ m hm => ?_)
  · refine SP_mid 0 (α := Unit) (fun _ => [(5, X), (78, propsE s.props), (79, intE s.props.length), (80, intE 0)]) (fun _ => h) (fun _ m => n ≤ m) ?_ (fun _ m hm => ?_)
    · rw [hX]; simp [go_sem, Fz.same, hm]
    refine SP_block (goloopS 0 (α := Nat) (fun k => [(5, X), (78, propsE s.props), (79, intE s.props.length), (80, intE k)]) (fun _ => h) (fun k m => k ≤ s.props.length ∧ n ≤ m) (fun k => s.props.length - k) 0 ⟨Nat.zero_le _, hm⟩ ?_ look_same ?_)
    · simp [go_sem, look, Fz.same]
    rintro k m ⟨hk, hm⟩
    by_cases hlt : k < s.props.length
    · have w2 : IntKind.i64.wrap ((k : Int) + 1) = ((k + 1 : Nat) : Int) := by rw [wr64] <;> omega
      obtain ⟨p, hp⟩ : ∃ p, s.props[k] = p := ⟨_, rfl⟩
      refine SP_mid 0 (α := Unit) (fun _ => [(5, X), (78, propsE s.props), (79, intE s.props.length), (80, intE k), (81, .bool true)]) (fun _ => h) (fun _ m => n ≤ m) ?_ (fun _ m hm => ?_)
      · simp [go_sem, Fz.same, hm, hlt]
      refine SP_mid 0 (α := Unit) (fun _ => [(5, X), (78, propsE s.props), (79, intE s.props.length), (80, intE k)]) (fun _ => h) (fun _ m => n ≤ m) ?_ (fun _ m hm => ?_)
      · simp [go_sem, Fz.same, hm]
      refine SP_midS 0 (α := Unit) (fun _ => [(5, X), (78, propsE s.props), (79, intE s.props.length), (80, intE k)]) (fun _ => h) (fun _ m => n ≤ m) (SP_block ?_) (fun _ m hm => ?_)
      · refine SP_mid 1 (α := Unit) (fun _ => [(5, X), (78, propsE s.props), (79, intE s.props.length), (80, intE k), (9, .iptr [intE p.key, intE p.value])]) (fun _ => h) (fun _ m => n ≤ m) ?_ (fun _ m hm => ?_)
        · have hHm : ∀ j y, h j = some y → j < m := fun j y e => by have := hHb j y e; omega
          simp [go_sem, Fz.same, hlt, hp, Prp.enc, hset_at]
          exact ⟨by omega, ptr_fz (lt_none hHm (Nat.le_refl _)) (hset_at _ _ _), set_keep hHm (set_keep hHm look_same)⟩
        refine SP_of ?_
        by_cases a1 : p.key = 20
        · simp [go_sem, a1]; exact out _ _
        by_cases a2 : p.key = 1
        · simp [go_sem, a2]; exact out _ _
        have a3 : (p.key == 20) = false := by simpa using a1
        have a4 : (p.key == 1) = false := by simpa using a2
        simp [go_sem, a3, a4, Fz.same, hm]
      · refine SP_of ?_
        simp [go_sem, w2, Fz.same, -Int.natCast_add]
        exact ⟨k + 1, by omega, ⟨by omega, hm⟩, rfl⟩
    · refine SP_of ?_
      simp [go_sem, hlt, Fz.same, hm]
  refine SP_midS 0 (α := Int) (fun e => [(4, intE e)]) (fun _ => h) (fun _ m => n ≤ m) (SP_tr trO3 rfl (by kernel_rfl) (by kernel_rfl) ?_) (fun e m hm => ?_)
  · rw [hX]
    simp [go_sem, trO3]
    refine (c268 s.kind).use ?_
    generalize (if s.kind = 1 then (2 : Int) else 1) = el
    simp [go_sem]
    refine (c156 el s.props hps).use ?_
    simp [go_sem, hm]
    exact ⟨_, rfl⟩
  · refine SP_of ?_
    simp [go_sem]
    exact out _ _
def ChQ (l : List Style) (id : Int) (h : Hp) (n : Nat) : SV → Hp → Nat → Prop := fun v h' n' => ∃ k, v = .fn (.func 248) [] [.iptr [stylesE l], .ptr k 0] ∧ n ≤ k ∧ k < n' ∧ h' k = some (.cells [intE id]) ∧ ∀ o y, h o = some y → h' o = some y
theorem d209 (l : List Style) (id : Int) {h : Hp} {n : Nat} : SCall Tryz.prog 188 [stylesE l, intE id] h n (ChQ l id h n) := by
  refine goS Tryz.func188 rfl (by kernel_rfl) (by kernel_rfl) (by simp [go_sem]) fun ho => ?_
  have hHb : ∀ j y, h j = some y → j < n := fun j y e => (ho j y e).1
  refine SP_mid 1 (α := Unit) (fun _ => [(2, .iptr [stylesE l]), (3, .ptr (n + 1) 0)]) (fun _ => hset h (n + 1) (some (.cells [intE id]))) (fun _ m => n + 1 < m) ?_ (fun _ m hm => ?_)
  · simp [go_sem, Fz.same]
    refine ⟨ptr_fz (by simp [hset]; exact lt_none hHb (Nat.le_refl _)) (by simp [hset]), fun j y => ?_⟩
    have := hHb j y; simp only [hset]; grind
  refine SP_of ?_
  simp [go_sem]
  exact .inl ⟨n + 1, rfl, by omega, hm, hset_at _ _ _, set_keep (fun j z e => by have := hHb j z e; omega) look_same⟩
structure YS (E : Env) (yl : Nat) (N : Nat) (J : Nat → Hp → Nat → Prop) (Jx : Hp → Nat → Prop) (D : Nat → Prop) : Prop where
  step : ∀ c (x : Style) h m, J c h m → YCallE E Tryz.prog yl [x.enc] h m (fun v h' m' => m ≤ m' ∧ (∀ o, ¬ D o → o < m → h' o = h o) ∧ ((v = .bool true ∧ c + 1 ≤ N ∧ J (c + 1) h' m') ∨ (v = .bool false ∧ Jx h' m')))
  keep : ∀ c h m h' m', J c h m → m ≤ m' → (∀ o, D o → h' o = h o) → J c h' m'
  lt : ∀ c h m, J c h m → ∀ o, D o → o < m
theorem findS_intB {P : Int → Prop} (x : Int) : ∀ (l : List (Int × Int)) (i : Nat), (∀ p ∈ l, P p.2) → findS (intE x) (kvI l) i = some none ∨ ∃ j k, findS (intE x) (kvI l) i = some (some (j, intE k)) ∧ P k
  | [], i, _ => .inl rfl
  | a :: l, i, hP => by
    by_cases e : x = a.1
    · exact .inr ⟨i, a.2, by simp [kvI, findS, keyEq, e], hP a (by simp)⟩
    · have : (x == a.1) = false := by simpa using e
      rcases findS_intB x l (i + 1) (fun p hp => hP p (by simp [hp])) with h | ⟨j, k, h, hk⟩
      · left; simp only [kvI, List.map_cons, findS, keyEq, if_true, this]; exact h
      · right; refine ⟨j, k, ?_, hk⟩; simp only [kvI, List.map_cons, findS, keyEq, if_true, this]; exact h
theorem setAt_kvB {P : Int → Prop} (l : List (Int × Int)) (j : Nat) (x v : Int) (hl : ∀ p ∈ l, P p.2) (hv : P v) : ∃ l', setAt (kvI l) j (intE x) (intE v) = kvI l' ∧ ∀ p ∈ l', P p.2 := by
  refine ⟨l.modify j fun _ => (x, v), ?_, fun p hp => ?_⟩
  · unfold setAt kvI
    apply List.ext_getElem?; intro i; simp only [List.getElem?_modify, List.getElem?_map]; by_cases e : j = i <;> cases l[i]? <;> simp [e]
  · obtain ⟨i, hi⟩ := List.getElem?_of_mem hp
    rw [List.getElem?_modify] at hi
    cases hli : l[i]? with
    | none => simp [hli] at hi
    | some q =>
      by_cases e : j = i
      · simp [hli, e] at hi; rw [← hi]; exact hv
      · simp [hli, e] at hi; rw [← hi]; exact hl q (List.mem_of_getElem? hli)
section
variable {E : Env} {yl N : Nat} {J : Nat → Hp → Nat → Prop} {Jx : Hp → Nat → Prop} {D : Nat → Prop}
def InB (l : List Style) (a : List (Int × Int)) : Prop := ∀ p ∈ a, 0 ≤ p.2 ∧ p.2 < l.length
set_option maxHeartbeats 2000000 in
theorem d270 (Y : YS E yl N J Jx D) (l : List Style) (hl : l.length ≤ 1048576) {H : Hp} {n k : Nat} {id : Int} (hk : H k = some (.cells [intE id])) (hkD : ¬ D k) (hJ : J 0 H n) :
    SCallE E Tryz.prog 248 [.fn (.yield yl) [] [], .iptr [stylesE l], .ptr k 0] H n (fun _ h' m' => n ≤ m' ∧ (∀ o, ¬ D o → o ≠ k → o < n → h' o = H o) ∧ ((∃ c, J c h' m') ∨ Jx h' m')) := by
  refine goS Tryz.func248 rfl (by kernel_rfl) (by kernel_rfl) (by simp [go_sem]) fun ho => ?_
  have hHb : ∀ j y, H j = some y → j < n := fun j y e => (ho j y e).1
  have hkn : k < n := hHb k _ hk
  have hDn := Y.lt _ _ _ hJ
  have nk : k ≠ n := by omega
  refine SP_mid 0 (α := Unit) (fun _ => [(0, .fn (.yield yl) [] []), (1, .iptr [stylesE l]), (2, .ptr k 0), (4, .map n)]) (fun _ => hset H n (some (.map (kvI [])))) (fun _ m => n < m) ?_ (fun _ m hm => ?_)
  · simp [go_sem, Fz.same, kvI]
  refine SP_midS 0 (α := List (Int × Int)) (fun _ => [(0, .fn (.yield yl) [] []), (1, .iptr [stylesE l]), (2, .ptr k 0), (4, .map n)]) (fun a => hset H n (some (.map (kvI a)))) (fun a m => n < m ∧ InB l a) ?_ (fun a m hm => ?_)
  · refine SP_mid 0 (α := Unit) (fun _ => [(0, .fn (.yield yl) [] []), (1, .iptr [stylesE l]), (2, .ptr k 0), (4, .map n), (10, stylesE l), (11, intE l.length), (12, intE 0)]) (fun _ => hset H n (some (.map (kvI [])))) (fun _ m => n < m) ?_ (fun _ m hm => ?_)
    · simp [go_sem, Fz.same, hm]
    refine SP_block (goloopS 0 (α := Nat × List (Int × Int)) (fun q => [(0, .fn (.yield yl) [] []), (1, .iptr [stylesE l]), (2, .ptr k 0), (4, .map n), (10, stylesE l), (11, intE l.length), (12, intE q.1)]) (fun q => hset H n (some (.map (kvI q.2)))) (fun q m => q.1 ≤ l.length ∧ n < m ∧ InB l q.2) (fun q => l.length - q.1) (0, []) ⟨Nat.zero_le _, hm, by simp [InB]⟩ ?_ look_same ?_)
    · simp [go_sem, look, Fz.same]
    rintro ⟨i, a⟩ m ⟨hi, hm, ha⟩
    dsimp only at hi ha ⊢
    by_cases hlt : i < l.length
    · have w1 : IntKind.i64.wrap ((i : Int) + 1) = ((i + 1 : Nat) : Int) := by rw [wr64] <;> omega
      obtain ⟨x, hx⟩ : ∃ x, l[i] = x := ⟨_, rfl⟩
      refine SP_mid 0 (α := Unit) (fun _ => [(0, .fn (.yield yl) [] []), (1, .iptr [stylesE l]), (2, .ptr k 0), (4, .map n), (10, stylesE l), (11, intE l.length), (12, intE i), (13, .bool true)]) (fun _ => hset H n (some (.map (kvI a)))) (fun _ m => n < m) ?_ (fun _ m hm => ?_)
      · simp [go_sem, Fz.same, hm, hlt]
      refine SP_mid 0 (α := Unit) (fun _ => [(0, .fn (.yield yl) [] []), (1, .iptr [stylesE l]), (2, .ptr k 0), (4, .map n), (10, stylesE l), (11, intE l.length), (12, intE i)]) (fun _ => hset H n (some (.map (kvI a)))) (fun _ m => n < m) ?_ (fun _ m hm => ?_)
      · simp [go_sem, Fz.same, hm]
      refine SP_midS 0 (α := List (Int × Int)) (fun _ => [(0, .fn (.yield yl) [] []), (1, .iptr [stylesE l]), (2, .ptr k 0), (4, .map n), (10, stylesE l), (11, intE l.length), (12, intE i)]) (fun a => hset H n (some (.map (kvI a)))) (fun a m => n < m ∧ InB l a) (SP_block ?_) (fun a m hm => ?_)
      · refine SP_mid 1 (α := Unit) (fun _ => [(0, .fn (.yield yl) [] []), (1, .iptr [stylesE l]), (2, .ptr k 0), (4, .map n), (10, stylesE l), (11, intE l.length), (12, intE i), (5, intE i), (6, .iptr [intE x.id, intE x.kind, .str x.name, intE x.base, intE x.next, propsE x.props])]) (fun _ => hset H n (some (.map (kvI a)))) (fun _ m => n < m) ?_ (fun _ m hm => ?_)
        · have hHm : ∀ j y, hset H n (some (.map (kvI a))) j = some y → j < m := fun j y e => by
            simp only [hset] at e; split at e
            · omega
            · have := hHb j y e; omega
          simp [go_sem, Fz.same, hlt, hx, Style.enc, hset_at]
          exact ⟨by omega, ptr_fz (lt_none hHm (Nat.le_refl _)) (hset_at _ _ _), set_keep hHm (set_keep hHm look_same)⟩
        refine SP_of ?_
        have hB : ∀ v : Int, v = (i : Int) → 0 ≤ v ∧ v < l.length := fun v hv => by omega
        rcases findS_intB (P := fun v => 0 ≤ v ∧ v < l.length) x.id a 0 ha with hf | ⟨j, v, hf, _⟩
        · have hpush : kvI a ++ [(intE x.id, intE (i : Int))] = kvI (a ++ [(x.id, (i : Int))]) := by simp [kvI]
          simp [go_sem, hset_at, hf, keyOk, hpush, Fz.same, hset_two]
          refine ⟨a ++ [(x.id, (i : Int))], ⟨hm, fun p hp => ?_⟩, look_same⟩
          rcases List.mem_append.1 hp with hp | hp
          · exact ha p hp
          · rw [List.mem_singleton.1 hp]; exact hB _ rfl
        · obtain ⟨a', h1, h2⟩ := setAt_kvB (P := fun v => 0 ≤ v ∧ v < l.length) a j x.id i ha (hB _ rfl)
          have h1' : (kvI a).modify j (fun _ => (intE x.id, intE i)) = kvI a' := h1
          simp [go_sem, hset_at, hf, keyOk, h1', Fz.same, hset_two]
          exact ⟨a', ⟨hm, h2⟩, look_same⟩
      · obtain ⟨hm, ha⟩ := hm
        refine SP_of ?_
        simp [go_sem, w1, Fz.same, -Int.natCast_add]
        exact ⟨i + 1, by omega, a, ⟨by omega, hm, ha⟩, rfl, look_same⟩
    · refine SP_of ?_
      simp [go_sem, hlt, Fz.same, hm]
      exact ⟨a, ha, look_same⟩
  obtain ⟨hm, ha⟩ := hm
  have hnD : ¬ D n := fun g => by have := hDn n g; omega
  refine SP_of ?_
  simp [go_sem]
  refine goloop 0 (α := Nat × Int × Hp) (fun _ => [(0, .fn (.yield yl) [] []), (1, .iptr [stylesE l]), (2, .ptr k 0), (4, .map n)]) (fun q => q.2.2) (fun q m => n < m ∧ J q.1 q.2.2 m ∧ q.2.2 k = some (.cells [intE q.2.1]) ∧ q.2.2 n = some (.map (kvI a)) ∧ ∀ o, ¬ D o → o ≠ k → o < n → q.2.2 o = H o) (fun q => N - q.1)
    (0, id, hset H n (some (.map (kvI a)))) ⟨hm, Y.keep _ _ _ _ _ hJ (by omega) fun o g => hset_ne _ _ (by have := hDn o g; omega), (hset_ne _ _ nk).trans hk, hset_at _ _ _, fun o _ _ g => hset_ne _ _ (by omega)⟩ ?_ look_same ?_
  · simp [look, Fz.same]
  rintro ⟨c, id, G⟩ m ⟨hm, hJ, hGk, hGn, hold⟩
  dsimp only at hJ hGk hGn hold ⊢
  by_cases h0 : id = 0
  · simp [go_sem, hGk, h0]
    exact .inl ⟨by omega, hold, .inl ⟨c, hJ⟩⟩
  have h0' : (id != 0) = true := by simpa using h0
  rcases findS_intB (P := fun v => 0 ≤ v ∧ v < l.length) id a 0 ha with hf | ⟨j, v, hf, hv1, hv2⟩
  · simp [go_sem, hGk, hGn, h0', hf, keyOk]
    exact .inl ⟨by omega, hold, .inl ⟨c, hJ⟩⟩
  · have hvl : v.toNat < l.length := by omega
    obtain ⟨x, hx⟩ : ∃ x, l[v.toNat]'hvl = x := ⟨_, rfl⟩
    simp [go_sem, hGk, hGn, h0', hf, keyOk, hv1, hvl, hx, Style.enc]
    have hy := Y.step c x G m hJ
    simp only [Style.enc] at hy
    refine YCallE.mono hy ?_
    rintro w G3 m3 ⟨hm3, hfr, ⟨rfl, hcN, hj⟩ | ⟨rfl, hj⟩⟩
    · have g3k : G3 k = some (.cells [intE id]) := by rw [hfr k hkD (by omega)]; exact hGk
      have g3n : G3 n = some (.map (kvI a)) := by rw [hfr n hnD (by omega)]; exact hGn
      simp [go_sem, hv1, hvl, hx, Style.enc, g3k]
      refine ⟨c + 1, by omega, x.base, hset G3 k (some (.cells [intE x.base])), ⟨by omega, Y.keep _ _ _ _ _ hj (Nat.le_refl _) fun o g => hset_ne _ _ (by rintro rfl; exact hkD g), hset_at _ _ _, by rw [hset_ne _ _ (Ne.symm nk)]; exact g3n, fun o g1 g2 g3 => ?_⟩, look_same⟩
      rw [hset_ne _ _ g2, hfr o g1 (by omega)]; exact hold o g1 g2 g3
    · simp [go_sem]
      exact .inl ⟨by omega, fun o g1 g2 g3 => by rw [hfr o g1 (by omega)]; exact hold o g1 g2 g3, .inr hj⟩
end
theorem goMS {E : Env} {f : FuncId} {fn : Func} {code : Code} {args : List SV} {h : Hp} {n : Nat} {K : SV → Hp → Nat → Prop} (hf : Tryz.prog.funcs[f]? = some fn) (hb : fn.body = some code)
    (hn : (fn.name != "runtime.NumGoroutine") = true) (hd : Code.dok fn.ntmps code = true) (hl : args.length ≤ fn.ntmps)
    (H : Old h n → ∀ B, SP (E.call true B) fn.ntmps code (retQ Tryz.prog fn n K) (initSA 0 args) h n) : SCallE E Tryz.prog f args h n K :=
  SCallE_ofM hf hb hn hd hl fun _ ho B => H ho B
set_option maxHeartbeats 4000000 in
theorem t146 (l : List Style) (hl : l.length ≤ 1048576) (hs : ∀ x ∈ l, x.props.length ≤ 1048576) : TC 139 [stylesE l] anyE := by
  intro h n
  refine goMS Tryz.func139 rfl (by kernel_rfl) (by kernel_rfl) (by simp [go_sem]) fun ho B => ?_
  have hHb : ∀ j y, h j = some y → j < n := fun j y e => (ho j y e).1
  obtain ⟨G, hG⟩ : ∃ G : Int → Hp, ∀ e, G e = hset h (n + 1) (some (.cells [intE e])) := ⟨_, fun _ => rfl⟩
  have hGa : ∀ e, G e (n + 1) = some (.cells [intE e]) := fun e => by rw [hG, hset_at]
  have hGs : ∀ e e', hset (G e) (n + 1) (some (.cells [intE e'])) = G e' := fun e e' => by rw [hG, hG, hset_two]
  have hGk : ∀ e j y, h j = some y → G e j = some y := fun e j y g => by rw [hG, hset_ne _ _ (by have := hHb j y g; omega)]; exact g
  have hGb : ∀ e j y, G e j = some y → j < n + 2 := fun e j y g => by
    rw [hG] at g; simp only [hset] at g; split at g
    · omega
    · have := hHb j y g; omega
  have out : ∀ (e : Int) (m : Nat), RetS n (G e) m (intE e) (fun v h' n' => anyE v ∧ h' = h ∧ n' = n) := fun e m => retT ho (hGk e) (by simp [closed]) ⟨e, rfl⟩
  refine SP_mid 1 (α := Unit) (fun _ => [(1, .iptr [stylesE l]), (2, .ptr (n + 1) 0)]) (fun _ => G 0) (fun _ m => n + 1 < m) ?_ (fun _ m hm => ?_)
  · rw [hG]
    simp [go_sem, Fz.same]
    refine ⟨ptr_fz (by simp [hset]; exact lt_none hHb (Nat.le_refl _)) (by simp [hset]), fun j y => ?_⟩
    have := hHb j y; simp only [hset]; grind
  refine SP_midS 0 (α := Unit) (fun _ => [(1, .iptr [stylesE l]), (2, .ptr (n + 1) 0)]) (fun _ => G 0) (fun _ m => n + 1 < m) (SP_of ?_) (fun _ m hm => ?_)
  · by_cases a1 : (128 : Int) < l.length
    · simp [go_sem, a1, hGa, hGs]; exact out _ _
    · simp [go_sem, a1, Fz.same, hm]
  refine SP_midS 0 (α := Unit) (fun _ => [(1, .iptr [stylesE l]), (2, .ptr (n + 1) 0)]) (fun _ => G 0) (fun _ m => n + 1 < m) ?_ (fun _ m hm => ?_)
  · refine SP_mid 0 (α := Unit) (fun _ => [(1, .iptr [stylesE l]), (2, .ptr (n + 1) 0), (14, intE l.length), (15, intE 0)]) (fun _ => G 0) (fun _ m => n + 1 < m) ?_ (fun _ m hm => ?_)
    · simp [go_sem, Fz.same, hm]
    refine SP_block (goloopS 0 (α := Nat) (fun i => [(1, .iptr [stylesE l]), (2, .ptr (n + 1) 0), (14, intE l.length), (15, intE i)]) (fun _ => G 0) (fun i m => i ≤ l.length ∧ n + 1 < m) (fun i => l.length - i) 0 ⟨Nat.zero_le _, hm⟩ ?_ look_same ?_)
    · simp [go_sem, look, Fz.same]
    rintro i m ⟨hi, hm⟩
    by_cases hlt : i < l.length
    · have w1 : IntKind.i64.wrap ((i : Int) + 1) = ((i + 1 : Nat) : Int) := by rw [wr64] <;> omega
      refine SP_of ?_
      simp [go_sem, hlt]
      refine TC.use (t207 l hl hs i hlt) ?_
      rintro v ⟨e, rfl⟩
      by_cases e0 : e = 0
      · simp [go_sem, e0, w1, Fz.same, -Int.natCast_add]
        exact ⟨i + 1, by omega, ⟨by omega, hm⟩, rfl⟩
      · have e1 : (e != 0) = true := by simpa using e0
        simp [go_sem, e1, hGa, hGs]
        exact out _ _
    · refine SP_of ?_
      simp [go_sem, hlt, Fz.same, hm]
  refine SP_midS 0 (α := Unit) (fun _ => [(1, .iptr [stylesE l]), (2, .ptr (n + 1) 0)]) (fun _ => G 0) (fun _ m => n + 1 < m) ?_ (fun _ m hm => ?_)
  · refine SP_mid 0 (α := Unit) (fun _ => [(1, .iptr [stylesE l]), (2, .ptr (n + 1) 0), (25, stylesE l), (26, intE l.length), (27, intE 0)]) (fun _ => G 0) (fun _ m => n + 1 < m) ?_ (fun _ m hm => ?_)
    · simp [go_sem, Fz.same, hm]
    refine SP_block (goloopS 0 (α := Nat) (fun i => [(1, .iptr [stylesE l]), (2, .ptr (n + 1) 0), (25, stylesE l), (26, intE l.length), (27, intE i)]) (fun _ => G 0) (fun i m => i ≤ l.length ∧ n + 1 < m) (fun i => l.length - i) 0 ⟨Nat.zero_le _, hm⟩ ?_ look_same ?_)
    · simp [go_sem, look, Fz.same]
    rintro i m ⟨hi, hm⟩
    by_cases hlt : i < l.length
    · have w1 : IntKind.i64.wrap ((i : Int) + 1) = ((i + 1 : Nat) : Int) := by rw [wr64] <;> omega
      obtain ⟨x, hx⟩ : ∃ x, l[i] = x := ⟨_, rfl⟩
      obtain ⟨X, hX⟩ : ∃ X : SV, X = .iptr [intE x.id, intE x.kind, .str x.name, intE x.base, intE x.next, propsE x.props] := ⟨_, rfl⟩
      refine SP_mid 0 (α := Unit) (fun _ => [(1, .iptr [stylesE l]), (2, .ptr (n + 1) 0), (25, stylesE l), (26, intE l.length), (27, intE i), (28, .bool true)]) (fun _ => G 0) (fun _ m => n + 1 < m) ?_ (fun _ m hm => ?_)
      · simp [go_sem, Fz.same, hm, hlt]
      refine SP_mid 0 (α := Unit) (fun _ => [(1, .iptr [stylesE l]), (2, .ptr (n + 1) 0), (25, stylesE l), (26, intE l.length), (27, intE i)]) (fun _ => G 0) (fun _ m => n + 1 < m) ?_ (fun _ m hm => ?_)
      · simp [go_sem, Fz.same, hm]
      refine SP_midS 0 (α := Unit) (fun _ => [(1, .iptr [stylesE l]), (2, .ptr (n + 1) 0), (25, stylesE l), (26, intE l.length), (27, intE i)]) (fun _ => G 0) (fun _ m => n + 1 < m) (SP_block ?_) (fun _ m hm => ?_)
      · refine SP_mid 1 (α := Unit) (fun _ => [(1, .iptr [stylesE l]), (2, .ptr (n + 1) 0), (25, stylesE l), (26, intE l.length), (27, intE i), (6, X)]) (fun _ => G 0) (fun _ m => n + 1 < m) ?_ (fun _ m hm => ?_)
        · have hHm : ∀ j y, G 0 j = some y → j < m := fun j y e => by have := hGb 0 j y e; omega
          rw [hX]
          simp [go_sem, Fz.same, hlt, hx, Style.enc, hset_at]
          exact ⟨by omega, ptr_fz (lt_none hHm (Nat.le_refl _)) (hset_at _ _ _), set_keep hHm (set_keep hHm look_same)⟩
        refine SP_mid 0 (α := Bx) (fun b => [(1, .iptr [stylesE l]), (2, .ptr (n + 1) 0), (25, stylesE l), (26, intE l.length), (27, intE i), (59, .bool b.b)]) (fun _ => G 0) (fun _ m => n + 1 < m) ?_ (fun b m hm => ?_)
        · rw [hX]
          have e208 : ∀ (kd id : Int) {m : Nat} {K : SV → Hp → Nat → Prop}, (∀ b, K (.bool b) (G 0) m) → SCallE (Env.plain.call true B) Tryz.prog 187 [stylesE l, intE kd, intE id] (G 0) m K := fun kd id m K hK => PC.use (c208 l kd id hl) (hK _)
          have second : x.next = 0 ∨ (x.next ≠ 0 ∧ x.kind = 2) ∨ (x.next ≠ 0 ∧ x.kind ≠ 2) := by
            by_cases c1 : x.next = 0
            · exact .inl c1
            · by_cases c2 : x.kind = 2
              · exact .inr (.inl ⟨c1, c2⟩)
              · exact .inr (.inr ⟨c1, c2⟩)
          by_cases b0 : x.base = 0
          · rcases second with c1 | ⟨c1, c2⟩ | ⟨c1, c2⟩
            · simp [go_sem, b0, c1, Fz.same, hm]; exact ⟨⟨_⟩, rfl⟩
            · have c1' : (x.next != 0) = true := by simpa using c1
              simp [go_sem, b0, c1', c2, Fz.same, hm]; exact ⟨⟨_⟩, rfl⟩
            · have c1' : (x.next != 0) = true := by simpa using c1
              have c2' : (x.kind == 2) = false := by simpa using c2
              simp [go_sem, b0, c1', c2']
              refine e208 _ _ fun b => ?_
              cases b <;> simp [go_sem, Fz.same, hm] <;> exact ⟨⟨_⟩, rfl⟩
          · have b0' : (x.base != 0) = true := by simpa using b0
            simp [go_sem, b0']
            refine e208 _ _ fun b => ?_
            cases b with
            | false => simp [go_sem, Fz.same, hm]; exact ⟨⟨_⟩, rfl⟩
            | true =>
              rcases second with c1 | ⟨c1, c2⟩ | ⟨c1, c2⟩
              · simp [go_sem, c1, Fz.same, hm]; exact ⟨⟨_⟩, rfl⟩
              · have c1' : (x.next != 0) = true := by simpa using c1
                simp [go_sem, c1', c2, Fz.same, hm]; exact ⟨⟨_⟩, rfl⟩
              · have c1' : (x.next != 0) = true := by simpa using c1
                have c2' : (x.kind == 2) = false := by simpa using c2
                simp [go_sem, c1', c2']
                refine e208 _ _ fun b => ?_
                cases b <;> simp [go_sem, Fz.same, hm] <;> exact ⟨⟨_⟩, rfl⟩
        obtain ⟨b⟩ := b
        dsimp only
        refine SP_of ?_
        cases b with
        | true => simp [go_sem, hGa, hGs]; exact out _ _
        | false => simp [go_sem, Fz.same, hm]
      · refine SP_of ?_
        simp [go_sem, w1, Fz.same, -Int.natCast_add]
        exact ⟨i + 1, by omega, ⟨by omega, hm⟩, rfl⟩
    · refine SP_of ?_
      simp [go_sem, hlt, Fz.same, hm]
  refine SP_midS 0 (α := Unit) (fun _ => [(2, .ptr (n + 1) 0)]) (fun _ => G 0) (fun _ m => n + 1 < m) ?_ (fun _ m hm => ?_)
  · refine SP_mid 0 (α := Unit) (fun _ => [(1, .iptr [stylesE l]), (2, .ptr (n + 1) 0), (61, stylesE l), (62, intE l.length), (63, intE 0)]) (fun _ => G 0) (fun _ m => n + 1 < m) ?_ (fun _ m hm => ?_)
    · simp [go_sem, Fz.same, hm]
    refine SP_block (goloopS 0 (α := Nat) (fun i => [(1, .iptr [stylesE l]), (2, .ptr (n + 1) 0), (61, stylesE l), (62, intE l.length), (63, intE i)]) (fun _ => G 0) (fun i m => i ≤ l.length ∧ n + 1 < m) (fun i => l.length - i) 0 ⟨Nat.zero_le _, hm⟩ ?_ look_same ?_)
    · simp [go_sem, look, Fz.same]
    rintro i m ⟨hi, hm⟩
    by_cases hlt : i < l.length
    · have w1 : IntKind.i64.wrap ((i : Int) + 1) = ((i + 1 : Nat) : Int) := by rw [wr64] <;> omega
      obtain ⟨x, hx⟩ : ∃ x, l[i] = x := ⟨_, rfl⟩
      refine SP_mid 0 (α := Unit) (fun _ => [(1, .iptr [stylesE l]), (2, .ptr (n + 1) 0), (61, stylesE l), (62, intE l.length), (63, intE i), (64, .bool true)]) (fun _ => G 0) (fun _ m => n + 1 < m) ?_ (fun _ m hm => ?_)
      · simp [go_sem, Fz.same, hm, hlt]
      refine SP_mid 0 (α := Unit) (fun _ => [(1, .iptr [stylesE l]), (2, .ptr (n + 1) 0), (61, stylesE l), (62, intE l.length), (63, intE i)]) (fun _ => G 0) (fun _ m => n + 1 < m) ?_ (fun _ m hm => ?_)
      · simp [go_sem, Fz.same, hm]
      refine SP_midS 0 (α := Unit) (fun _ => [(1, .iptr [stylesE l]), (2, .ptr (n + 1) 0), (61, stylesE l), (62, intE l.length), (63, intE i)]) (fun _ => G 0) (fun _ m => n + 1 < m) (SP_block ?_) (fun _ m hm => ?_)
      · refine SP_mid 1 (α := Unit) (fun _ => [(1, .iptr [stylesE l]), (2, .ptr (n + 1) 0), (61, stylesE l), (62, intE l.length), (63, intE i), (8, .iptr [intE x.id, intE x.kind, .str x.name, intE x.base, intE x.next, propsE x.props])]) (fun _ => G 0) (fun _ m => n + 1 < m) ?_ (fun _ m hm => ?_)
        · have hHm : ∀ j y, G 0 j = some y → j < m := fun j y e => by have := hGb 0 j y e; omega
          simp [go_sem, Fz.same, hlt, hx, Style.enc, hset_at]
          exact ⟨by omega, ptr_fz (lt_none hHm (Nat.le_refl _)) (hset_at _ _ _), set_keep hHm (set_keep hHm look_same)⟩
        refine SP_mid 0 (α := Unit) (fun _ => [(1, .iptr [stylesE l]), (2, .ptr (n + 1) 0), (61, stylesE l), (62, intE l.length), (63, intE i), (8, .iptr [intE x.id, intE x.kind, .str x.name, intE x.base, intE x.next, propsE x.props]), (9, .ptr m 0)]) (fun _ => hset (G 0) m (some (.cells [intE 0]))) (fun _ m2 => m < m2) ?_ (fun _ m2 hm2 => ?_)
        · simp [go_sem, Fz.same, hset_at, hset_two]
        refine SP_mid 0 (α := Hp × Nat) (fun z => [(1, .iptr [stylesE l]), (2, .ptr (n + 1) 0), (61, stylesE l), (62, intE l.length), (63, intE i), (9, .ptr m 0), (70, .fn (.func 248) [] [.iptr [stylesE l], .ptr z.2 0])]) (fun z => z.1) (fun z m3 => m2 ≤ z.2 ∧ z.2 < m3 ∧ z.1 z.2 = some (.cells [intE x.id]) ∧ ∀ o y, hset (G 0) m (some (.cells [intE 0])) o = some y → z.1 o = some y) ?_ (fun z m3 hm3 => ?_)
        · simp [go_sem]
          refine SC.use (d209 l x.id) ?_
          rintro v H' n' ⟨k, rfl, g1, g2, g3, g4⟩
          simp [go_sem, Fz.same]
          exact ⟨H', k, ⟨g1, g2, g3, g4⟩, rfl, look_same⟩
        obtain ⟨z, k⟩ := z
        obtain ⟨k1, k2, k3, k4⟩ := hm3
        dsimp only at k1 k2 k3 k4 ⊢
        refine SP_block ?_
        refine SWE_rangeFunc rfl rfl rfl fun E1 yl R hY => ?_
        have za : z (n + 1) = some (.cells [intE 0]) := k4 _ _ (by rw [hset_ne _ _ (by omega)]; exact hGa 0)
        have zm : z m = some (.cells [intE 0]) := k4 _ _ (hset_at _ _ _)
        let D : Nat → Prop := fun o => o = n + 1 ∨ o = m ∨ o = m3
        let J : Nat → Hp → Nat → Prop := fun c hh mm => m3 < mm ∧ c ≤ l.length ∧ hh (n + 1) = some (.cells [intE 0]) ∧ hh m = some (.cells [intE c]) ∧ hh m3 = some (.loop (R .ready none))
        let Jx : Hp → Nat → Prop := fun hh mm => m3 < mm ∧ hh (n + 1) = some (.cells [intE 16]) ∧ hh m3 = some (.loop (R .done (some .ret)))
        have Y : YS E1 yl l.length J Jx D := by
          refine ⟨fun c y hh mm hJ => ?_, ?_, ?_⟩
          · obtain ⟨g0, gc, g1, g2, g3⟩ := hJ
            have q1 : n + 1 ≠ mm := by omega
            have q2 : m ≠ mm := by omega
            have q3 : m3 ≠ mm := by omega
            have q3' := q3.symm
            have q4 : m ≠ m3 := by omega
            have q5 : n + 1 ≠ m3 := by omega
            have q6 : n + 1 ≠ m := by omega
            have w2 : IntKind.i64.wrap ((c : Int) + 1) = ((c + 1 : Nat) : Int) := by rw [wr64] <;> omega
            refine hY _ _ _ _ g3 rfl (roundW_of ?_)
            by_cases hc : c + 1 ≤ l.length
            · have hc' : ¬ (((l.length : Nat) : Int) < ((c + 1 : Nat) : Int)) := by omega
              simp [go_sem, zipSA, Style.enc, hset_at, hset_ne, g2, g3, q4, w2, hc', roundQ, -Int.natCast_add]
              refine ⟨by rw [hset_ne _ _ q4.symm, hset_at], fun o g1 g2 => ?_, hc, ?_⟩
              · have e1 : o ≠ m := fun e => g1 (.inr (.inl e))
                have e2 : o ≠ m3 := fun e => g1 (.inr (.inr e))
                have e3 : o ≠ mm := by omega
                simp [hset, e1, e2]
              · exact ⟨by omega, hc, by simp [hset, q5, q6, g1], by simp [hset, q4], by simp [hset]⟩
            · have hc' : (((l.length : Nat) : Int) < ((c + 1 : Nat) : Int)) := by omega
              simp [go_sem, zipSA, Style.enc, hset_at, hset_ne, g1, g2, g3, q4, q5, q6, w2, hc', roundQ, -Int.natCast_add]
              refine ⟨by rw [hset_ne _ _ q5.symm, hset_ne _ _ q4.symm, hset_at], fun o g1 g2 => ?_, ?_⟩
              · have e0 : o ≠ n + 1 := fun e => g1 (.inl e)
                have e1 : o ≠ m := fun e => g1 (.inr (.inl e))
                have e2 : o ≠ m3 := fun e => g1 (.inr (.inr e))
                have e3 : o ≠ mm := by omega
                simp [hset, e0, e1, e2]
              · exact ⟨by omega, by simp [hset, q5], by simp [hset]⟩
          · rintro c hh mm h' m' ⟨g0, gc, g1, g2, g3⟩ hmm hD
            exact ⟨by omega, gc, by rw [hD _ (.inl rfl)]; exact g1, by rw [hD _ (.inr (.inl rfl))]; exact g2, by rw [hD _ (.inr (.inr rfl))]; exact g3⟩
          · rintro c hh mm ⟨g0, gc, g1, g2, g3⟩ o (rfl | rfl | rfl) <;> omega
        have hkm3 : k ≠ m3 := by omega
        refine SCallE.mono (d270 Y l hl (id := x.id) (k := k) (by rw [hset_ne _ _ hkm3]; exact k3) (by rintro (g | g | g) <;> omega) ⟨by omega, Nat.zero_le _, by rw [hset_ne _ _ (by omega)]; exact za, by rw [hset_ne _ _ (by omega)]; exact zm, hset_at _ _ _⟩) ?_
        rintro v h' m' ⟨hm', hfr, ⟨c, g0, gc, g1, g2, g3⟩ | ⟨g0, g1, g3⟩⟩
        · refine ⟨_, _, g3, by simp, ?_⟩
          simp [go_sem]
          refine ⟨by omega, fun o y e => ?_⟩
          have o1 : o < n + 2 := hGb 0 o y e
          by_cases o2 : o = n + 1
          · subst o2; rw [hset_ne _ _ (by omega), g1, ← e, hGa]
          · rw [hset_ne _ _ (by omega), hfr o (by rintro (g | g | g) <;> omega) (by omega) (by omega), hset_ne _ _ (by omega)]
            exact k4 _ _ ((hset_ne _ _ (by omega)).trans e)
        · refine ⟨_, _, g3, by simp, ?_⟩
          simp [go_sem]
          rw [hset_ne _ _ (by omega : n + 1 ≠ m3), g1]
          refine ⟨_, rfl, retT ho (fun o y e => ?_) (by simp [closed]) ⟨16, rfl⟩⟩
          have o1 : o < n := hHb o y e
          rw [hset_ne _ _ (by omega), hfr o (by rintro (g | g | g) <;> omega) (by omega) (by omega), hset_ne _ _ (by omega)]
          exact k4 _ _ ((hset_ne _ _ (by omega)).trans (hGk 0 _ _ e))
      · refine SP_of ?_
        simp [go_sem, w1, Fz.same, -Int.natCast_add]
        exact ⟨i + 1, by omega, ⟨by omega, hm⟩, rfl⟩
    · refine SP_of ?_
      simp [go_sem, hlt, Fz.same, hm]
  refine SP_of ?_
  simp [go_sem, hGa, hGs]
  exact out _ _
structure Settings.sizedT (s : Settings) : Prop extends Settings.sized s where
  tpl : ∀ x ∈ s.lists, ∀ y ∈ x.levels, y.template.size ≤ 1048576
  com : ∀ x ∈ s.comments, x.author.size ≤ 1048576 ∧ x.text.size ≤ 1048576
  var : ∀ x ∈ s.vars, x.name.size ≤ 1048576 ∧ x.value.size ≤ 1048576
theorem t83s (s : Settings) (hs : s.sizedT) : TC 79 [s.enc] anyE :=
  t83 s (t146 _ hs.styles hs.props)
    (t147 _ hs.lists fun i hi => t210 _ hs.lists i hi (t212 _ (hs.levels _ (List.getElem_mem hi)) fun x hx k => t271 x.template (hs.tpl _ (List.getElem_mem hi) x hx) k))
    (t148 _ hs.comments fun i hi => t213 _ hs.comments hs.com i hi)
    (t149 _ hs.vars fun i hi => t218 _ hs.vars hs.var i hi)
structure Document.sizedT (B N : Nat) (d : Document) : Prop where
  flow : lim Head.sized B N d.flow
  «end» : d.«end».sized
  revs : d.revs.length ≤ 1048576
  authors : ∀ r ∈ d.revs, r.author.size ≤ 1048576
  settings : d.settings.sizedT
theorem t12x_s (d : Document) {B N : Nat} (hB : B ≤ 1048576) (hd : d.sizedT B N) : TC 34 [d.enc] (smallX N d) :=
  t12x d hB hd.flow (t24 d hB hd.flow hd.end hd.settings.styles hd.settings.lists hd.revs hd.authors (t83s _ hd.settings))
def st0 : Unit → Nat → Option SObj := fun _ _ => none
section
variable {P : Program} {E : Env} {evs : Operand → SV} {o : Oper} {h : Hp} {n : Nat} {K : SV → Hp → Nat → Prop}
def findA (P : Program) (kt : TypeId) (cs : List SV) : List (SV × SV) → Nat → Option (Option (Nat × SV))
  | [], _ => some none
  | e :: es, i => match e.1 with
    | .agg ds => match fieldsEq P cs ds (fieldsOfT P kt) with
      | some true => some (some (i, e.2))
      | some false => findA P kt cs es (i + 1)
      | none => none
    | _ => none
structure KeyS (P : Program) (kt : TypeId) : Prop where
  ht : P.underlying kt = some (.struct (P.fieldsOf kt))
  hp : P.stoodInHeld kt = false
theorem equal_run {c : Cx} {kt : TypeId} (hk : KeyS P kt) {cs ds : List SV} {v u : Value} {b : Bool} (hv : V c (.agg cs) v) (hu : V c (.agg ds) u) (hb : fieldsEq P cs ds (fieldsOfT P kt) = some b) (w : World) : (Op.equal kt v u).run P w = .ok b w := by
  obtain ⟨vs, e1, h1, h2⟩ := agg_cells hv
  obtain ⟨us, e2, h3, h4⟩ := agg_cells hu
  have hr := fieldsEq_run h1 h3 h2 h4 9998 w _ _ hb
  rw [e1, e2]
  show (Op.equalIn 10000 kt _ _).run P w = _
  rw [run_equalIn_struct w 9999 kt _ _ hk.ht hk.hp]; exact hr
theorem findA_rel {c : Cx} {kt : TypeId} (hk : KeyS P kt) {cs : List SV} {v : Value} (hv : V c (.agg cs) v) (w : World) :
    ∀ (es : List (SV × SV)) (ents : List MapEntry) (i : Nat) (r : Option (Nat × SV)), All2 (fun (p : SV × SV) (e : MapEntry) => V c p.1 e.key ∧ V c p.2 e.val) es ents → findA P kt cs es i = some r →
      (r = none ∧ (Instr.findAsking kt v ents i).run P w = .ok none w) ∨ ∃ j x y e ds, r = some (i + j, x) ∧ (Instr.findAsking kt v ents i).run P w = .ok (some (i + j, y)) w ∧ V c x y ∧ ents[j]? = some e ∧ V c (.agg ds) e.key ∧ fieldsEq P cs ds (fieldsOfT P kt) = some true
  | [], ents, i, r, h, hf => by
    simp only [findA, Option.some.injEq] at hf
    subst hf
    rw [h.nil_left]
    exact .inl ⟨rfl, by simp [Instr.findAsking]⟩
  | p :: es, [], i, r, h, _ => h.elim
  | p :: es, e :: ents, i, r, h, hf => by
    obtain ⟨⟨h1, h2⟩, h3⟩ := h
    simp only [findA] at hf
    split at hf <;> try cases hf
    rename_i ds hds
    rw [hds] at h1
    split at hf
    · rename_i he
      cases hf
      have := equal_run hk hv h1 he w
      exact .inr ⟨0, p.2, e.val, e, ds, rfl, by simp [Instr.findAsking, this], h2, rfl, h1, he⟩
    · rename_i he
      have := equal_run hk hv h1 he w
      rcases findA_rel hk hv w es ents (i + 1) r h3 hf with ⟨rfl, hg⟩ | ⟨j, x, y, e', ds', rfl, hg, hxy, hj, hs⟩
      · exact .inl ⟨rfl, by simp [Instr.findAsking, this, hg]⟩
      · exact .inr ⟨j + 1, x, y, e', ds', by congr 2; omega, by rw [show i + (j + 1) = i + 1 + j by omega]; simp [Instr.findAsking, this, hg], hxy, by simpa using hj, hs⟩
    · cases hf
end
section
variable {E : Env} {evs : Operand → SV} {o : Oper} {h : Hp} {n : Nat} {K : SV → Hp → Nat → Prop}
end
section
variable {E : Env} {evs : Operand → SV} {o : Oper} {h : Hp} {n : Nat} {K : SV → Hp → Nat → Prop}
end
section
variable {E : Env} {evs : Operand → SV} {o : Oper} {h : Hp} {n : Nat} {K : SV → Hp → Nat → Prop}
end
section
variable {P : Program} {E : Env} {evs : Operand → SV} {o : Oper} {h : Hp} {n : Nat} {K : SV → Hp → Nat → Prop}
variable {N : Nat} {ops : Array Oper}
end
section
variable {E : Env} {evs : Operand → SV} {o : Oper} {h : Hp} {n : Nat} {K : SV → Hp → Nat → Prop}
end
theorem SCallE.cap {E : Env} {P : Program} {f : FuncId} {us : List SV} {o off z len : Nat} {full : Bool} {h : Hp} {n : Nat} {Q : SV → Hp → Nat → Prop} (H : ∀ cap, len ≤ cap → SCallE E P f (.slc o off z len cap :: us) h n Q) : SCallE E P f (.sl o off z len full :: us) h n Q := by
  refine ⟨(H len (Nat.le_refl _)).1, fun c vs I R F A => ?_⟩
  match vs, A with
  | v :: vs, A =>
    obtain ⟨hv, hA⟩ := A
    rw [V] at hv
    obtain ⟨b, st, cap, h1, h2, h3, _, h4⟩ := hv
    exact (H cap h3).2 c (v :: vs) I R F ⟨by rw [V]; exact ⟨b, st, h1, h2, h3, h4⟩, hA⟩
def zDel : Del := ⟨0, 0⟩
def dAt (l : List Del) (i : Nat) : Del := l.getD i zDel
def swapD (l : List Del) (j : Nat) : List Del := (l.set (j + 1) (dAt l j)).set j (dAt l (j + 1))
def sinkD (l : List Del) : Nat → List Del
  | 0 => l
  | j + 1 => if (dAt l (j + 1)).rev < (dAt l j).rev then sinkD (swapD l j) j else l
def sortD (l : List Del) : Nat → List Del
  | 0 => l
  | i + 1 => sinkD (sortD l i) i
def renI (p : Int → Bool) (id y : Int) : Int := if p y then id else y
def renDel (p : Int → Bool) (id : Int) (d : Del) : Del := { d with rev := renI p id d.rev }
def renLay (p : Int → Bool) (id : Int) (d : Layer) : Layer := { d with rev := renI p id d.rev }
def renIns (p : Int → Bool) (id y : Int) : Int := if y ≠ 0 ∧ p y = true then id else y
def renP (p : Int → Bool) (id : Int) (h : Head) : Head := { h with ins := renIns p id h.ins, dels := sortD (h.dels.map (renDel p id)) h.dels.length, layers := h.layers.map (renLay p id) }
section
variable {g : FuncId} {a b : List SV} {p : Int → Bool}
end
def renFg (a id : Int) (s : Unit) (p : SPart) : Head × Bool × Unit := (if p.mid then renP (fun y => y == a) id p.head else p.head, true, s)
def droppedB (x : Item) : Bool := (x.kind == 7 && (match x.rows with | [] => true | _ :: _ => false)) || (x.kind == 1 && x.text.size == 0)
theorem droppedB_iff (x : Item) : dropped x ↔ droppedB x = true := by
  unfold dropped droppedB
  cases h : x.rows <;> simp []
def nstepB (out : List Item) (x : Item) : List Item :=
  if droppedB x then out else match out.getLast? with
    | some y => if x.kind = 1 ∧ y.kind = 1 ∧ y.head = x.head then out.dropLast ++ [y.addText x.text] else out ++ [x]
    | none => out ++ [x]
theorem nstepB_eq : normStep = nstepB := by
  funext out x
  unfold normStep nstepB
  by_cases h : dropped x
  · rw [if_pos h, if_pos ((droppedB_iff x).1 h)]
  · rw [if_neg h, if_neg (fun e => h ((droppedB_iff x).2 e))]
    cases out.getLast? <;> rfl
theorem runNormal_B (l : List Item) : runNormal l = (Item.nrmL l).foldl nstepB [] := by rw [runNormal, foldN, nstepB_eq]
def exRev : Rev := ⟨3, ⟨#[65, 110]⟩, 0⟩
def exNew : Rev := ⟨4, ⟨#[65, 110]⟩, 0⟩
def z0 : Head := ⟨[], 0, 0, [], []⟩
def hI (i : Int) : Head := ⟨[], i, 0, [], []⟩
def exT (i : Int) (t : ByteArray) : Item := .mk 1 0 0 t (hI i) [] []
def exA : Item := exT 3 ⟨#[97, 98, 99, 100]⟩
def exB : Item := .mk 2 0 0 ⟨#[]⟩ z0 [] []
def set0 : Settings := ⟨[], [], [], []⟩
def exDoc : Document := ⟨[exA, exB], z0, [exRev], set0⟩
def exSc : Scope := ⟨0, 1, 3⟩
def exP (i : Int) : List Item := [exT 3 ⟨#[97]⟩, exT i ⟨#[98, 99]⟩, exT 3 ⟨#[100]⟩, exB]
theorem rsB (l : List Item) (a b : Int) (r : List Item) (h : runCheck l a b = 0) (hr : (Item.nrmL (runDivide (runDivide l b).1 a).2).foldl nstepB [] = r) : runSlice l a b = (r, 0) := by
  rw [runSlice, if_pos h, runNormal_B, hr]
theorem rs1 : runSlice [exA, exB] 0 1 = ([exT 3 ⟨#[97]⟩], 0) := rsB _ _ _ _ (by kernel_rfl) (by kernel_rfl)
theorem rs2 : runSlice [exA, exB] 1 3 = ([exT 3 ⟨#[98, 99]⟩], 0) := rsB _ _ _ _ (by kernel_rfl) (by kernel_rfl)
theorem rs3 : runSlice [exA, exB] 3 5 = ([exT 3 ⟨#[100]⟩, exB], 0) := rsB _ _ _ _ (by kernel_rfl) (by kernel_rfl)
theorem exLen : runLen [exA, exB] = (5, 0) := by kernel_rfl
section
variable {σ : Type}
theorem wEx (f : σ → SPart → Head × Bool × σ) (revs : List Rev) (s : σ) (r : List Item × σ) (h : ((partsG f (itemsG f exSc 1) false [exT 3 ⟨#[97]⟩] s).1 ++ (partsG f (itemsG f exSc 1) true [exT 3 ⟨#[98, 99]⟩] (partsG f (itemsG f exSc 1) false [exT 3 ⟨#[97]⟩] s).2).1 ++ (partsG f (itemsG f exSc 1) false [exT 3 ⟨#[100]⟩, exB] (partsG f (itemsG f exSc 1) true [exT 3 ⟨#[98, 99]⟩] (partsG f (itemsG f exSc 1) false [exT 3 ⟨#[97]⟩] s).2).2).1,
      (partsG f (itemsG f exSc 1) false [exT 3 ⟨#[100]⟩, exB] (partsG f (itemsG f exSc 1) true [exT 3 ⟨#[98, 99]⟩] (partsG f (itemsG f exSc 1) false [exT 3 ⟨#[97]⟩] s).2).2).2) = r) :
    whole0 f exSc 2 exDoc revs s = (⟨r.1, (f r.2 ⟨z0, false, 1⟩).1, revs, set0⟩, (f r.2 ⟨z0, false, 1⟩).2.2) := by
  have e : itemsG f exSc 2 0 exDoc.flow false s = r := by
    rw [← h]
    show itemsG f exSc 2 0 [exA, exB] false s = _
    rw [itemsG, if_pos (by kernel_rfl), exLen]
    show (_, _) = _
    rw [show exSc.a = 1 from rfl, show exSc.b = 3 from rfl, rs1, rs2, rs3]
  rw [whole0, e]; rfl
end
theorem w1 : whole0 (lookF (cntU 3)) exSc 2 exDoc [exRev] (0, 0) = (⟨exP 3, z0, [exRev], set0⟩, (2, 2)) := by
  rw [wEx _ _ _ (exP 3, (2, 2)) (by kernel_rfl)]; kernel_rfl
theorem w2 : whole0 (lookF fun (s : Unit) _ => s) exSc 2 exDoc [exRev] () = (⟨exP 3, z0, [exRev], set0⟩, ()) := by
  rw [wEx _ _ _ (exP 3, ()) (by kernel_rfl)]; kernel_rfl
theorem w3 : whole0 (renFg 3 4) exSc 2 exDoc [exRev, exNew] () = (⟨exP 4, z0, [exRev, exNew], set0⟩, ()) := by
  rw [wEx _ _ _ (exP 4, ()) (by kernel_rfl)]; kernel_rfl
theorem nP3 : runNormal (exP 3) = [exA, exB] := by rw [runNormal_B]; kernel_rfl
theorem nP4 : runNormal (exP 4) = exP 4 := by rw [runNormal_B]; kernel_rfl
theorem n3 : (⟨exP 3, z0, [exRev], set0⟩ : Document).normal = exDoc := by
  rw [Document.normal, Document.norm1, nP3]; kernel_rfl
theorem s34 : sortI [3, 4] = [3, 4] := by unfold sortI; first | exact List.mergeSort_of_sorted (by simp) | exact List.mergeSort_of_pairwise (by simp) | simp [List.mergeSort]
theorem u34 : usedL ⟨exP 4, z0, [exRev, exNew], set0⟩ = [3, 4] := by
  rw [usedL, show ((addU [] (Item.usL (exP 4) ++ z0.all)).filter fun x => decide (x ≠ 0)) = [3, 4] by kernel_rfl, s34]
theorem n4 : (⟨exP 4, z0, [exRev, exNew], set0⟩ : Document).normal = ⟨exP 4, z0, [exRev, exNew], set0⟩ := by
  rw [Document.normal, Document.norm1, nP4, u34]; kernel_rfl
theorem Document.cl (n : Nat) (E : Document) : closed n E.enc = true := by simp [Document.enc, Head.flat, Settings.flat, closed, closedL, Item.E.closedL, Prp.E.closedL, Del.E.closedL, Layer.E.closedL, Rev.E.closedL, Style.E.closedL, Lst.E.closedL, Comment.E.closedL, Var.E.closedL]
section
variable {σ : Type}
end
section
variable {σ : Type}
end
theorem fm_sub {α β γ : Type} {f : α → List β} {g : β → γ} {k : α → List γ} : ∀ {l : List α}, (∀ x ∈ l, ((f x).map g).Sublist (k x)) → ((l.flatMap f).map g).Sublist (l.flatMap k)
  | [], _ => by simp
  | a :: l, h => by
    rw [List.flatMap_cons, List.flatMap_cons, List.map_append]
    exact (h a (by simp)).append (fm_sub fun x hx => h x (by simp [hx]))
theorem flL_fm (p : Place) : ∀ l : List Item, Item.flL p l = l.flatMap (Item.fl p)
  | [] => by rw [Item.flL]; rfl
  | x :: l => by rw [Item.flL, flL_fm p l]; rfl
theorem flLR_fm (p : Place) : ∀ l : List Row, Row.flL p l = l.flatMap (Row.fl p)
  | [] => by rw [Row.flL]; rfl
  | x :: l => by rw [Row.flL, flLR_fm p l]; rfl
theorem flLC_fm (p : Place) : ∀ l : List Cell, Cell.flL p l = l.flatMap (Cell.fl p)
  | [] => by rw [Cell.flL]; rfl
  | x :: l => by rw [Cell.flL, flLC_fm p l]; rfl
theorem fl_ids {hp : Head → Prop} {K : Nat} : ∀ {N : Nat} {l : List Item} (p : Place), lim hp K N l → ((Item.flL p l).map Fl.id).Sublist (idsN N l)
  | N + 1, l, p, H => by
    rw [flL_fm, idsN_succ]
    refine fm_sub fun x hx => ?_
    obtain ⟨_, a, _, b⟩ := H.2.2 x hx
    cases x with
    | mk k c i t h f r =>
      have hI : idsI N (.mk k c i t h f r) = if k = 6 then i :: idsN N f else if k = 7 then i :: r.flatMap (idsR N) else [] := rfl
      have a' : lim hp K N f := a
      have b' : ∀ q ∈ r, hp q.head ∧ q.cells.length ≤ K ∧ ∀ c ∈ q.cells, hp c.head ∧ lim hp K N c.flow := b
      rw [Item.fl, hI]
      by_cases k6 : k = 6
      · rw [if_pos k6, if_pos k6]
        exact (fl_ids p.inNote a').cons_cons _
      · rw [if_neg k6, if_neg k6]
        by_cases k7 : k = 7
        · rw [if_pos k7, if_pos k7]
          refine List.Sublist.cons _ ?_
          rw [flLR_fm]
          refine fm_sub fun r hr => ?_
          cases r with
          | mk hd cs =>
            rw [Row.fl, flLC_fm]
            refine fm_sub (k := fun c : Cell => c.id :: idsN N c.flow) fun c hc => ?_
            have := ((b' _ hr).2.2 c hc).2
            cases c
            rw [Cell.fl]
            exact (fl_ids _ this).cons_cons _
        · rw [if_neg k7, if_neg k7]; exact List.nil_sublist _
theorem nodup_one {α β : Type} {g : α → β} : ∀ {l : List α}, (l.map g).Nodup → ∀ x ∈ l, ∀ y ∈ l, g x = g y → x = y
  | a :: l, h, x, hx, y, hy, e => by
    rw [List.map_cons, List.nodup_cons] at h
    rcases List.mem_cons.1 hx with h1 | h1
    · rcases List.mem_cons.1 hy with h2 | h2
      · rw [h1, h2]
      · exact absurd (by rw [← h1, e]; exact List.mem_map_of_mem h2) h.1
    · rcases List.mem_cons.1 hy with h2 | h2
      · exact absurd (by rw [← h2, ← e]; exact List.mem_map_of_mem h1) h.1
      · exact nodup_one h.2 x h1 y h2 e
section
variable {hp : Head → Prop} {σ : Type} {f : σ → SPart → Head × Bool × σ} {K N : Nat}
end
def cx0 (w : World) : Cx := ⟨fun _ => none, fun _ => False, w, fun _ => none⟩
def BB : Nat := 1048576
section
variable {H : Type} (enc : TypeId × Value → H) (P : Program) (w : World) (base : Nat) (spare : Nat → Bool) (held : Bool)
variable {α β : Type}
def Rd (k : Nat) (e : TypeId) (F : α → List SV) (z : Nat) (ok : α → Prop) (μ : α → Nat) : Prop :=
  ∀ cs x, DataW.trod enc P w base spare held k e cs = some x → Rows.uptoBulk x.1 ≤ BB → ∃ a, VL (cx0 w) (F a) cs ∧ cs.length = z ∧ (∀ v ∈ cs, v.oneCell' = true) ∧ ok a ∧ μ a + 1 ≤ Rows.uptoBulk x.1
def RdS (n : Nat) (L : Nat) (fs : List Field) (o : Nat) (F : α → List SV) (ok : α → Prop) (μ : α → Nat) : Prop :=
  ∀ (cs : List Value) (xs : List (DataW H × List MemPlace)), cs.length = L → xs.length = fs.length → (∀ (i : Nat) (f : Field), fs[i]? = some f → DataW.trod enc P w base spare held n f.type ((cs.drop f.offset).take (P.cellsOf f.type)) = xs[i]?) →
    Rows.uptoBulkAll (xs.map (·.1)) ≤ BB → ∃ b, VL (cx0 w) (F b) (cs.drop o) ∧ (∀ v ∈ cs.drop o, v.oneCell' = true) ∧ ok b ∧ μ b ≤ Rows.uptoBulkAll (xs.map (·.1))
variable {enc P w base spare held}
theorem VL_app {c : Cx} {a b : List SV} {x y : List Value} (h : VL c a x) (g : VL c b y) : VL c (a ++ b) (x ++ y) := VL_iff.2 (All2.append (VL_iff.1 h) (VL_iff.1 g))
theorem RdS.nil {n L : Nat} : RdS enc P w base spare held n L [] L (fun _ : Unit => []) (fun _ => True) (fun _ => 0) := fun cs xs h1 h2 _ _ => by
  have : cs.drop L = [] := List.drop_eq_nil_of_le (by omega)
  exact ⟨(), by rw [this, VL], by rw [this]; simp, trivial, Nat.zero_le _⟩
theorem RdS.cons {n L : Nat} {f : Field} {fs : List Field} {o z : Nat} {F1 : α → List SV} {F2 : β → List SV} {ok1 : α → Prop} {ok2 : β → Prop} {μ1 : α → Nat} {μ2 : β → Nat} (h1 : Rd enc P w base spare held n f.type F1 z ok1 μ1) (hz : P.cellsOf f.type = z) (ho : f.offset = o)
    (h2 : RdS enc P w base spare held n L fs (o + z) F2 ok2 μ2) : RdS enc P w base spare held n L (f :: fs) o (fun p : α × β => F1 p.1 ++ F2 p.2) (fun p => ok1 p.1 ∧ ok2 p.2) (fun p => μ1 p.1 + μ2 p.2) := fun cs xs g1 g2 g3 g4 => by
  cases xs with
  | nil => simp at g2
  | cons x xs =>
    simp only [List.map_cons, Rows.uptoBulkAll] at g4
    have e0 := g3 0 f rfl
    rw [ho, hz] at e0
    obtain ⟨a, a1, a2, a3, a4, a5⟩ := h1 _ x (by simpa using e0) (by omega)
    obtain ⟨b, b1, b2, b3, b4⟩ := h2 cs xs g1 (by simpa using g2) (fun i f' hf => by have := g3 (i + 1) f' (by simpa using hf); simpa using this) (by omega)
    have ed : cs.drop o = (cs.drop o).take z ++ cs.drop (o + z) := by rw [← List.drop_drop, List.take_append_drop]
    refine ⟨(a, b), ?_, ?_, ⟨a4, b3⟩, ?_⟩
    · rw [ed]; exact VL_app a1 b1
    · rw [ed]; intro v hv
      rcases List.mem_append.1 hv with hv | hv
      · exact a3 v hv
      · exact b2 v hv
    · simp only [List.map_cons, Rows.uptoBulkAll]; omega
theorem RdS.rd {n L : Nat} {T : TypeId} {fs : Array Field} {F : α → List SV} {ok : α → Prop} {μ : α → Nat} (ht : P.underlying T = some (.struct fs)) (hz : P.cellsOf T = L) (h : RdS enc P w base spare held n L fs.toList 0 F ok μ) : Rd enc P w base spare held (n + 1) T F L ok μ := fun cs x hx hb => by
  obtain ⟨xs, m, hm, rfl, hl, hlen, hf⟩ := DataW.trod_struct ht hx
  obtain rfl : n = m := by omega
  simp only [Rows.uptoBulk] at hb ⊢
  obtain ⟨b, b1, b2, b3, b4⟩ := h cs xs (by omega) (by simpa using hlen) (fun i f e => hf i f (by simpa using e)) (by omega)
  exact ⟨b, by simpa using b1, by omega, by simpa using b2, b3, by omega⟩
theorem Rd.map {k e z : Nat} {F : α → List SV} {ok : α → Prop} {μ : α → Nat} (h : Rd enc P w base spare held k e F z ok μ) (g : α → β) {F' : β → List SV} {ok' : β → Prop} {μ' : β → Nat} (hF : ∀ a, F' (g a) = F a) (hok : ∀ a, ok a → ok' (g a)) (hμ : ∀ a, μ' (g a) ≤ μ a) : Rd enc P w base spare held k e F' z ok' μ' := fun cs x hx hb => by
  obtain ⟨a, a1, a2, a3, a4, a5⟩ := h cs x hx hb
  exact ⟨g a, by rw [hF]; exact a1, a2, a3, hok a a4, by have := hμ a; omega⟩
theorem VL_one {c : Cx} {s : SV} {v : Value} (h : V c s v) : VL c [s] [v] := VL_iff.2 ⟨h, trivial⟩
theorem rd_int {k : Nat} {T : TypeId} (ht : P.underlying T = some (.int .i64)) : Rd enc P w base spare held k T (fun n : Int => [intE n]) 1 (fun _ => True) (fun _ => 0) := fun cs x hx _ => by
  obtain ⟨n, rfl, rfl, _⟩ := DataW.trod_int ht hx
  exact ⟨n, VL_one (by rw [V]), rfl, by simp [Value.oneCell'], trivial, by simp [Rows.uptoBulk]⟩
theorem rd_bool {k : Nat} {T : TypeId} (ht : P.underlying T = some .bool) : Rd enc P w base spare held k T (fun n : Bool => [.bool n]) 1 (fun _ => True) (fun _ => 0) := fun cs x hx _ => by
  obtain ⟨n, rfl, rfl⟩ := DataW.trod_bool ht hx
  exact ⟨n, VL_one (by rw [V]), rfl, by simp [Value.oneCell'], trivial, by simp [Rows.uptoBulk]⟩
theorem rd_str {k : Nat} {T : TypeId} (ht : P.underlying T = some .string) : Rd enc P w base spare held k T (fun s : ByteArray => [.str s]) 1 (fun s => s.size ≤ BB) (fun s => s.size) := fun cs x hx hb => by
  obtain ⟨s, rfl, rfl, _⟩ := DataW.trod_string ht hx
  have e : s.data.toList.length = s.size := by rw [Array.length_toList]; rfl
  simp only [Rows.uptoBulk] at hb ⊢
  exact ⟨s, VL_one (by rw [V]), rfl, by simp [Value.oneCell'], by omega, by omega⟩
def sumμ (μ : α → Nat) (l : List α) : Nat := (l.map fun a => μ a + 1).sum
theorem sumμ_len (μ : α → Nat) : ∀ l : List α, l.length ≤ sumμ μ l
  | [] => by simp
  | a :: l => by have := sumμ_len μ l; simp only [sumμ, List.map_cons, List.sum_cons, List.length_cons] at this ⊢; omega
theorem rd_list {k z : Nat} {e : TypeId} {F : α → List SV} {f : α → SV} {ok : α → Prop} {μ : α → Nat} (hf : ∀ a, f a = .agg (F a)) (hs : ∀ a, (f a).storable = true) (hR : Rd enc P w base spare held k e F z ok μ) (hz : P.cellsOf e = z) (hz0 : 0 < z) (a : Addr) :
    ∀ (ys : List (DataW H × List MemPlace)) (i : Nat), (∀ j, j < ys.length → (w.cells? base (a.add ((i + j) * P.cellsOf e)) (P.cellsOf e)).bind (DataW.trod enc P w base spare held k e) = ys[j]?) → Rows.uptoBulkAll (ys.map (·.1)) ≤ BB →
      ∃ l : List α, ∃ us : List Value, l.length = ys.length ∧ All2 (V (cx0 w)) (l.map f) us ∧ (∀ u ∈ us, u.cells.size = z) ∧ (∀ v ∈ us.flatMap (·.cells.toList), v.oneCell' = true) ∧ (∀ j v, (us.flatMap (·.cells.toList))[j]? = some v → w.cell? (a.add (i * z + j)) = some v) ∧ (∀ a ∈ l, ok a) ∧ sumμ μ l ≤ Rows.uptoBulkAll (ys.map (·.1))
  | [], i, _, _ => ⟨[], [], rfl, trivial, by simp, by simp, by simp, by simp, by simp [sumμ]⟩
  | y :: ys, i, hy, hb => by
    simp only [List.map_cons, Rows.uptoBulkAll] at hb
    have h0 := hy 0 (by simp)
    simp only [List.getElem?_cons_zero, Nat.add_zero] at h0
    obtain ⟨cs, hcs, hx⟩ := Option.bind_eq_some_iff.1 h0
    obtain ⟨_, hcl, hce⟩ := World.cells?_some hcs
    obtain ⟨b, b1, b2, b3, b4, b5⟩ := hR cs y hx (by omega)
    obtain ⟨l, us, l1, l2, l3, l4, l5, l6, l7⟩ := rd_list hf hs hR hz hz0 a ys (i + 1) (fun j hj => by have := hy (j + 1) (by simp; omega); rw [show i + 1 + j = i + (j + 1) by omega]; simpa using this) (by omega)
    have hc : (Value.agg cs.toArray).cells.toList = cs := by simp [Value.cells]
    refine ⟨b :: l, .agg cs.toArray :: us, by simp [l1], ⟨?_, l2⟩, ?_, ?_, ?_, ?_, ?_⟩
    · show V (cx0 w) (f b) (.agg cs.toArray)
      rw [hf, V]; exact ⟨cs, rfl, b1, b3⟩
    · intro u hu
      rcases List.mem_cons.1 hu with rfl | hu
      · simpa [Value.cells] using b2
      · exact l3 u hu
    · intro v hv
      rw [List.flatMap_cons, hc] at hv
      rcases List.mem_append.1 hv with hv | hv
      · exact b3 v hv
      · exact l4 v hv
    · intro j v hv
      rw [List.flatMap_cons, hc] at hv
      by_cases hj : j < z
      · rw [List.getElem?_append_left (by omega)] at hv
        have := hce j (by rw [hz]; exact hj)
        rw [hz, hv] at this
        have e : (a.add (i * z)).add j = a.add (i * z + j) := by
          unfold Addr.add
          by_cases e1 : i * z = 0
          · simp [e1]
          · by_cases e2 : j = 0
            · simp [e1, e2]
            · simp [e1, e2, Nat.add_assoc]
        rw [e] at this; exact this
      · rw [List.getElem?_append_right (by omega)] at hv
        have := l5 (j - cs.length) v hv
        rw [show (i + 1) * z + (j - cs.length) = i * z + j by rw [b2, Nat.add_mul, Nat.one_mul]; omega] at this
        exact this
    · intro q hq
      rcases List.mem_cons.1 hq with rfl | hq
      · exact b4
      · exact l6 q hq
    · simp only [List.map_cons, Rows.uptoBulkAll, sumμ, List.sum_cons] at l7 ⊢; omega
theorem rd_slice {k z : Nat} {e T : TypeId} {F : α → List SV} {f : α → SV} {ok : α → Prop} {μ : α → Nat} (hf : ∀ a, f a = .agg (F a)) (hs : ∀ a, (f a).storable = true) (ht : P.underlying T = some (.slice e)) (hz : P.cellsOf e = z) (hz0 : 0 < z) (hR : ∀ m, m + 1 = k → Rd enc P w base spare held m e F z ok μ) :
    Rd enc P w base spare held k T (fun l : List α => [.imm z (l.map f) false]) 1 (fun l => (∀ a ∈ l, ok a) ∧ sumμ μ l ≤ BB) (sumμ μ) := fun cs x hx hb => by
  rcases DataW.trod_slice ht hx with ⟨rfl, rfl⟩ | ⟨a, len, cap, elems, rest, n, hn, rfl, rfl, _, hlc, _, hel, he, _, _⟩
  · exact ⟨[], VL_one (by rw [V]; exact .inl ⟨rfl, rfl⟩), rfl, by simp [Value.oneCell'], ⟨by simp, by simp [sumμ]⟩, by simp [sumμ, Rows.uptoBulk]⟩
  · simp only [Rows.uptoBulk] at hb ⊢
    obtain ⟨l, us, l1, l2, l3, l4, l5, l6, l7⟩ := rd_list hf hs (hR n hn.symm) hz hz0 a elems 0 (fun j hj => by rw [Nat.zero_add]; exact he j (by omega)) (by omega)
    refine ⟨l, VL_one ?_, rfl, by simp [Value.oneCell'], ⟨l6, by omega⟩, by omega⟩
    rw [V]
    right
    refine ⟨a, cap, us.flatMap (·.cells.toList), by rw [List.length_map, l1, hel], by rw [List.length_map, l1, hel]; exact hlc, by simp, ?_, VE_iff.2 ⟨us, l2, l3, fun s hs' => ?_, rfl⟩⟩
    · have hsp : us.flatMap (·.cells.toList) ≠ [] → a.spot = none := fun hne => by
        obtain ⟨v, r, hv⟩ := List.exists_cons_of_ne_nil hne
        have := World.cell?_spot (l5 0 v (by rw [hv]; rfl))
        simpa [Addr.add] using this
      refine ⟨hsp, fun _ h => h, fun i v hv => ?_, l4⟩
      have h1 := l5 i v hv
      have h2 := hsp (by rintro e; rw [e] at hv; simp at hv)
      rw [Nat.zero_mul, Nat.zero_add] at h1
      have e : a.add i = ⟨a.block, a.off + i, none⟩ := by
        unfold Addr.add
        split
        · subst_vars; cases a; simp_all
        · rfl
      rw [e] at h1; exact h1
    · obtain ⟨q, _, rfl⟩ := List.mem_map.1 hs'
      exact hs q
end
section
variable {H : Type} {enc : TypeId × Value → H} {w : World} {base : Nat} {spare : Nat → Bool} {held : Bool} {α : Type}
theorem Rd.zero {e : TypeId} {F : α → List SV} {z : Nat} {ok : α → Prop} {μ : α → Nat} : Rd enc Tryz.prog w base spare held 0 e F z ok μ := fun cs x hx _ => by simp [DataW.trod] at hx
theorem rInt (k : Nat) : Rd enc Tryz.prog w base spare held k 3 (fun n : Int => [intE n]) 1 (fun _ => True) (fun _ => 0) := rd_int Tryz.underlying3
theorem rStr (k : Nat) : Rd enc Tryz.prog w base spare held k 9 (fun s : ByteArray => [.str s]) 1 (fun s => s.size ≤ BB) (fun s => s.size) := rd_str Tryz.underlying9
theorem rBool (k : Nat) : Rd enc Tryz.prog w base spare held k 4 (fun b : Bool => [.bool b]) 1 (fun _ => True) (fun _ => 0) := rd_bool Tryz.underlying4
def Prp.F (p : Prp) : List SV := [intE p.key, intE p.value]
theorem rPrp : ∀ k, Rd enc Tryz.prog w base spare held k 164 Prp.F 2 (fun _ => True) (fun _ => 0)
  | 0 => Rd.zero
  | k + 1 => (RdS.rd Tryz.underlying164 (by kernel_rfl) (RdS.cons (rInt k) (by kernel_rfl) rfl (RdS.cons (rInt k) (by kernel_rfl) rfl RdS.nil))).map (fun p => ⟨p.1, p.2.1⟩) (fun _ => rfl) (fun _ _ => trivial) (fun _ => Nat.zero_le _)
def Del.F (p : Del) : List SV := [intE p.rev, intE p.move]
theorem rDel : ∀ k, Rd enc Tryz.prog w base spare held k 74 Del.F 2 (fun _ => True) (fun _ => 0)
  | 0 => Rd.zero
  | k + 1 => (RdS.rd Tryz.underlying74 (by kernel_rfl) (RdS.cons (rInt k) (by kernel_rfl) rfl (RdS.cons (rInt k) (by kernel_rfl) rfl RdS.nil))).map (fun p => ⟨p.1, p.2.1⟩) (fun _ => rfl) (fun _ _ => trivial) (fun _ => Nat.zero_le _)
def Layer.F (p : Layer) : List SV := [intE p.rev, intE p.key, intE p.before, .bool p.had]
theorem rLayer : ∀ k, Rd enc Tryz.prog w base spare held k 76 Layer.F 4 (fun _ => True) (fun _ => 0)
  | 0 => Rd.zero
  | k + 1 => (RdS.rd Tryz.underlying76 (by kernel_rfl) (RdS.cons (rInt k) (by kernel_rfl) rfl (RdS.cons (rInt k) (by kernel_rfl) rfl (RdS.cons (rInt k) (by kernel_rfl) rfl (RdS.cons (rBool k) (by kernel_rfl) rfl RdS.nil))))).map (fun p => ⟨p.1, p.2.1, p.2.2.1, p.2.2.2.1⟩) (fun _ => rfl) (fun _ _ => trivial) (fun _ => Nat.zero_le _)
def Rev.F (p : Rev) : List SV := [intE p.id, .str p.author, intE p.time]
theorem rRev : ∀ k, Rd enc Tryz.prog w base spare held k 68 Rev.F 3 (fun r => r.author.size ≤ BB) (fun _ => 0)
  | 0 => Rd.zero
  | k + 1 => (RdS.rd Tryz.underlying68 (by kernel_rfl) (RdS.cons (rInt k) (by kernel_rfl) rfl (RdS.cons (rStr k) (by kernel_rfl) rfl (RdS.cons (rInt k) (by kernel_rfl) rfl RdS.nil)))).map (fun p => (⟨p.1, p.2.1, p.2.2.1⟩ : Rev)) (fun _ => rfl) (fun _ h => h.2.1) (fun _ => Nat.zero_le _)
theorem rProps (k : Nat) : Rd enc Tryz.prog w base spare held k 23 (fun l : List Prp => [propsE l]) 1 (fun l => l.length ≤ BB) (fun _ => 0) :=
  (rd_slice (f := Prp.enc) (F := Prp.F) (fun _ => rfl) Prp.E.st Tryz.underlying23 (by kernel_rfl) (by omega) (fun m _ => rPrp m)).map (fun l => l) (fun _ => rfl) (fun l h => by have := sumμ_len (fun _ => 0) l; have := h.2; omega) (fun _ => Nat.zero_le _)
theorem rDels (k : Nat) : Rd enc Tryz.prog w base spare held k 24 (fun l : List Del => [delsE l]) 1 (fun l => l.length ≤ BB) (fun _ => 0) :=
  (rd_slice (f := Del.enc) (F := Del.F) (fun _ => rfl) Del.E.st Tryz.underlying24 (by kernel_rfl) (by omega) (fun m _ => rDel m)).map (fun l => l) (fun _ => rfl) (fun l h => by have := sumμ_len (fun _ => 0) l; have := h.2; omega) (fun _ => Nat.zero_le _)
theorem rLayers (k : Nat) : Rd enc Tryz.prog w base spare held k 25 (fun l : List Layer => [layersE l]) 1 (fun l => l.length ≤ BB) (fun _ => 0) :=
  (rd_slice (f := Layer.enc) (F := Layer.F) (fun _ => rfl) Layer.E.st Tryz.underlying25 (by kernel_rfl) (by omega) (fun m _ => rLayer m)).map (fun l => l) (fun _ => rfl) (fun l h => by have := sumμ_len (fun _ => 0) l; have := h.2; omega) (fun _ => Nat.zero_le _)
theorem rRevs (k : Nat) : Rd enc Tryz.prog w base spare held k 30 (fun l : List Rev => [revsE l]) 1 (fun l => l.length ≤ BB ∧ ∀ r ∈ l, r.author.size ≤ BB) (fun _ => 0) :=
  (rd_slice (f := Rev.enc) (F := Rev.F) (fun _ => rfl) Rev.E.st Tryz.underlying30 (by kernel_rfl) (by omega) (fun m _ => rRev m)).map (fun l => l) (fun _ => rfl) (fun l h => ⟨by have := sumμ_len (fun _ => 0) l; have := h.2; omega, h.1⟩) (fun _ => Nat.zero_le _)
theorem rMarks : ∀ k, Rd enc Tryz.prog w base spare held k 27 (fun m : Int × Int × List Del × List Layer => [intE m.1, intE m.2.1, delsE m.2.2.1, layersE m.2.2.2]) 4 (fun m => m.2.2.1.length ≤ BB ∧ m.2.2.2.length ≤ BB) (fun _ => 0)
  | 0 => Rd.zero
  | k + 1 => (RdS.rd Tryz.underlying27 (by kernel_rfl) (RdS.cons (rInt k) (by kernel_rfl) rfl (RdS.cons (rInt k) (by kernel_rfl) rfl (RdS.cons (rDels k) (by kernel_rfl) rfl (RdS.cons (rLayers k) (by kernel_rfl) rfl RdS.nil))))).map (fun p => (p.1, p.2.1, p.2.2.1, p.2.2.2.1)) (fun _ => rfl) (fun _ h => ⟨h.2.2.1, h.2.2.2.1⟩) (fun _ => Nat.zero_le _)
theorem rHead : ∀ k, Rd enc Tryz.prog w base spare held k 29 Head.flat 5 Head.sized (fun _ => 0)
  | 0 => Rd.zero
  | k + 1 => (RdS.rd Tryz.underlying29 (by kernel_rfl) (RdS.cons (rProps k) (by kernel_rfl) rfl (RdS.cons (rMarks k) (by kernel_rfl) rfl RdS.nil))).map (fun p => (⟨p.1, p.2.1.1, p.2.1.2.1, p.2.1.2.2.1, p.2.1.2.2.2⟩ : Head)) (fun _ => rfl) (fun _ h => ⟨h.1, h.2.1.1, h.2.1.2⟩) (fun _ => Nat.zero_le _)
def Item.F (x : Item) : List SV := [intE x.kind, intE x.code, intE x.id, .str x.text, propsE x.head.props, intE x.head.ins, intE x.head.move, delsE x.head.dels, layersE x.head.layers, itemsE x.flow, rowsE x.rows]
def Row.F (x : Row) : List SV := [propsE x.head.props, intE x.head.ins, intE x.head.move, delsE x.head.dels, layersE x.head.layers, cellsE x.cells]
def Cell.F (x : Cell) : List SV := [intE x.id, propsE x.head.props, intE x.head.ins, intE x.head.move, delsE x.head.dels, layersE x.head.layers, itemsE x.flow]
def limC (N : Nat) (c : Cell) : Prop := c.head.sized ∧ lim Head.sized BB N c.flow
def limR (N : Nat) (r : Row) : Prop := r.head.sized ∧ r.cells.length ≤ BB ∧ ∀ c ∈ r.cells, limC N c
theorem texts_sum : ∀ l : List Item, textsL l ≤ sumμ (fun x => x.text.size) l
  | [] => by simp [textsL]
  | x :: l => by
    have := texts_sum l
    simp only [textsL, sumμ, List.map_cons, List.sum_cons] at this ⊢; omega
theorem rItems : ∀ k, Rd enc Tryz.prog w base spare held k 22 (fun l : List Item => [itemsE l]) 1 (fun l => ∀ N, k < N → lim Head.sized BB N l) (sumμ fun x => x.text.size) := fun k => by
  induction k using Nat.strongRecOn with
  | ind k ih =>
  have cell : ∀ m, m < k → Rd enc Tryz.prog w base spare held m 173 Cell.F 7 (fun c => ∀ N, m ≤ N → limC N c) (fun _ => 0) := fun m hm => by
    cases m with
    | zero => exact Rd.zero
    | succ m =>
      exact (RdS.rd Tryz.underlying173 (by kernel_rfl) (RdS.cons (rInt m) (by kernel_rfl) rfl (RdS.cons (rHead m) (by kernel_rfl) rfl (RdS.cons (ih m (by omega)) (by kernel_rfl) rfl RdS.nil)))).map (fun p => Cell.mk p.1 p.2.1 p.2.2.1) (fun _ => rfl) (fun _ h N hN => ⟨h.2.1, h.2.2.1 N (by omega)⟩) (fun _ => Nat.zero_le _)
  have cells : ∀ m, m < k → Rd enc Tryz.prog w base spare held m 169 (fun l : List Cell => [cellsE l]) 1 (fun l => l.length ≤ BB ∧ ∀ c ∈ l, ∀ N, m ≤ N → limC N c) (fun _ => 0) := fun m hm =>
    (rd_slice (f := Cell.enc) (F := Cell.F) (ok := fun c => ∀ N, m ≤ N → limC N c) (fun c => Cell.enc_eq c) Cell.E.st Tryz.underlying169 (by kernel_rfl) (by omega) (fun q hq => (cell q (by omega)).map (fun c => c) (fun _ => rfl) (fun _ h N hN => h N (by omega)) (fun _ => Nat.le_refl _))).map (fun l => l) (fun _ => rfl) (fun l h => ⟨by have := sumμ_len (fun _ => 0) l; have := h.2; omega, h.1⟩) (fun _ => Nat.zero_le _)
  have row : ∀ m, m < k → Rd enc Tryz.prog w base spare held m 171 Row.F 6 (fun r => ∀ N, m ≤ N → limR N r) (fun _ => 0) := fun m hm => by
    cases m with
    | zero => exact Rd.zero
    | succ m =>
      exact (RdS.rd Tryz.underlying171 (by kernel_rfl) (RdS.cons (rHead m) (by kernel_rfl) rfl (RdS.cons (cells m (by omega)) (by kernel_rfl) rfl RdS.nil))).map (fun p => Row.mk p.1 p.2.1) (fun _ => rfl) (fun _ h N hN => ⟨h.1, h.2.1.1, fun c hc => h.2.1.2 c hc N (by omega)⟩) (fun _ => Nat.zero_le _)
  have rows : ∀ m, m < k → Rd enc Tryz.prog w base spare held m 78 (fun l : List Row => [rowsE l]) 1 (fun l => l.length ≤ BB ∧ ∀ c ∈ l, ∀ N, m ≤ N → limR N c) (fun _ => 0) := fun m hm =>
    (rd_slice (f := Row.enc) (F := Row.F) (ok := fun c => ∀ N, m ≤ N → limR N c) (fun c => Row.enc_eq c) Row.E.st Tryz.underlying78 (by kernel_rfl) (by omega) (fun q hq => (row q (by omega)).map (fun c => c) (fun _ => rfl) (fun _ h N hN => h N (by omega)) (fun _ => Nat.le_refl _))).map (fun l => l) (fun _ => rfl) (fun l h => ⟨by have := sumμ_len (fun _ => 0) l; have := h.2; omega, h.1⟩) (fun _ => Nat.zero_le _)
  have item : ∀ m, m < k → Rd enc Tryz.prog w base spare held m 80 Item.F 11 (fun x => ∀ N, m ≤ N → limI Head.sized BB N x) (fun x => x.text.size) := fun m hm => by
    cases m with
    | zero => exact Rd.zero
    | succ m =>
      exact (RdS.rd Tryz.underlying80 (by kernel_rfl) (RdS.cons (rInt m) (by kernel_rfl) rfl (RdS.cons (rInt m) (by kernel_rfl) rfl (RdS.cons (rInt m) (by kernel_rfl) rfl (RdS.cons (rStr m) (by kernel_rfl) rfl (RdS.cons (rHead m) (by kernel_rfl) rfl (RdS.cons (ih m (by omega)) (by kernel_rfl) rfl (RdS.cons (rows m (by omega)) (by kernel_rfl) rfl RdS.nil)))))))).map (fun p => Item.mk p.1 p.2.1 p.2.2.1 p.2.2.2.1 p.2.2.2.2.1 p.2.2.2.2.2.1 p.2.2.2.2.2.2.1) (fun _ => rfl)
        (fun _ h N hN => ⟨h.2.2.2.2.1, h.2.2.2.2.2.1 N (by omega), h.2.2.2.2.2.2.1.1, fun r hr => h.2.2.2.2.2.2.1.2 r hr N (by omega)⟩) (fun p => by show p.2.2.2.1.size ≤ _; omega)
  exact (rd_slice (f := Item.enc) (F := Item.F) (ok := fun x => ∀ N, k ≤ N + 1 → limI Head.sized BB N x) (fun c => Item.enc_eq c) Item.E.st Tryz.underlying22 (by kernel_rfl) (by omega) (fun q hq => (item q (by omega)).map (fun c => c) (fun _ => rfl) (fun _ h N hN => h N (by omega)) (fun _ => Nat.le_refl _))).map (fun l => l) (fun _ => rfl) (fun l h N hN => by
    cases N with
    | zero => omega
    | succ N =>
      have h1 := sumμ_len (fun x : Item => x.text.size) l
      have h2 := texts_sum l
      have h3 := h.2
      exact lim_iff.2 ⟨by omega, by omega, fun x hx => h.1 x hx N (by omega)⟩) (fun _ => Nat.le_refl _)
end
section
variable {H : Type} {enc : TypeId × Value → H} {w : World} {base : Nat} {spare : Nat → Bool} {held : Bool} {α : Type}
def Style.F (s : Style) : List SV := [intE s.id, intE s.kind, .str s.name, intE s.base, intE s.next, propsE s.props]
theorem rStyle : ∀ k, Rd enc Tryz.prog w base spare held k 110 Style.F 6 (fun s => s.props.length ≤ BB) (fun _ => 0)
  | 0 => Rd.zero
  | k + 1 => (RdS.rd Tryz.underlying110 (by kernel_rfl) (RdS.cons (rInt k) (by kernel_rfl) rfl (RdS.cons (rInt k) (by kernel_rfl) rfl (RdS.cons (rStr k) (by kernel_rfl) rfl (RdS.cons (rInt k) (by kernel_rfl) rfl (RdS.cons (rInt k) (by kernel_rfl) rfl (RdS.cons (rProps k) (by kernel_rfl) rfl RdS.nil))))))).map
      (fun p => (⟨p.1, p.2.1, p.2.2.1, p.2.2.2.1, p.2.2.2.2.1, p.2.2.2.2.2.1⟩ : Style)) (fun _ => rfl) (fun _ h => h.2.2.2.2.2.1) (fun _ => Nat.zero_le _)
def Level.F (s : Level) : List SV := [intE s.format, intE s.start, .str s.template, intE s.restart]
theorem rLevel : ∀ k, Rd enc Tryz.prog w base spare held k 115 Level.F 4 (fun s => s.template.size ≤ BB) (fun _ => 0)
  | 0 => Rd.zero
  | k + 1 => (RdS.rd Tryz.underlying115 (by kernel_rfl) (RdS.cons (rInt k) (by kernel_rfl) rfl (RdS.cons (rInt k) (by kernel_rfl) rfl (RdS.cons (rStr k) (by kernel_rfl) rfl (RdS.cons (rInt k) (by kernel_rfl) rfl RdS.nil))))).map
      (fun p => (⟨p.1, p.2.1, p.2.2.1, p.2.2.2.1⟩ : Level)) (fun _ => rfl) (fun _ h => h.2.2.1) (fun _ => Nat.zero_le _)
theorem rLevels (k : Nat) : Rd enc Tryz.prog w base spare held k 111 (fun l : List Level => [levelsE l]) 1 (fun l => l.length ≤ BB ∧ ∀ r ∈ l, r.template.size ≤ BB) (fun _ => 0) :=
  (rd_slice (f := Level.enc) (F := Level.F) (fun _ => rfl) Level.E.st Tryz.underlying111 (by kernel_rfl) (by omega) (fun m _ => rLevel m)).map (fun l => l) (fun _ => rfl) (fun l h => ⟨by have := sumμ_len (fun _ => 0) l; have := h.2; omega, h.1⟩) (fun _ => Nat.zero_le _)
def Lst.F (s : Lst) : List SV := [intE s.id, levelsE s.levels]
theorem rLst : ∀ k, Rd enc Tryz.prog w base spare held k 113 Lst.F 2 (fun s => s.levels.length ≤ BB ∧ ∀ r ∈ s.levels, r.template.size ≤ BB) (fun _ => 0)
  | 0 => Rd.zero
  | k + 1 => (RdS.rd Tryz.underlying113 (by kernel_rfl) (RdS.cons (rInt k) (by kernel_rfl) rfl (RdS.cons (rLevels k) (by kernel_rfl) rfl RdS.nil))).map (fun p => (⟨p.1, p.2.1⟩ : Lst)) (fun _ => rfl) (fun _ h => h.2.1) (fun _ => Nat.zero_le _)
def Comment.F (c : Comment) : List SV := [intE c.id, intE c.parent, .str c.author, intE c.time, .str c.text, .bool c.done]
theorem rComment : ∀ k, Rd enc Tryz.prog w base spare held k 71 Comment.F 6 (fun s => s.author.size ≤ BB ∧ s.text.size ≤ BB) (fun _ => 0)
  | 0 => Rd.zero
  | k + 1 => (RdS.rd Tryz.underlying71 (by kernel_rfl) (RdS.cons (rInt k) (by kernel_rfl) rfl (RdS.cons (rInt k) (by kernel_rfl) rfl (RdS.cons (rStr k) (by kernel_rfl) rfl (RdS.cons (rInt k) (by kernel_rfl) rfl (RdS.cons (rStr k) (by kernel_rfl) rfl (RdS.cons (rBool k) (by kernel_rfl) rfl RdS.nil))))))).map
      (fun p => (⟨p.1, p.2.1, p.2.2.1, p.2.2.2.1, p.2.2.2.2.1, p.2.2.2.2.2.1⟩ : Comment)) (fun _ => rfl) (fun _ h => ⟨h.2.2.1, h.2.2.2.2.1⟩) (fun _ => Nat.zero_le _)
def Var.F (c : Var) : List SV := [.str c.name, .str c.value]
theorem rVar : ∀ k, Rd enc Tryz.prog w base spare held k 88 Var.F 2 (fun s => s.name.size ≤ BB ∧ s.value.size ≤ BB) (fun _ => 0)
  | 0 => Rd.zero
  | k + 1 => (RdS.rd Tryz.underlying88 (by kernel_rfl) (RdS.cons (rStr k) (by kernel_rfl) rfl (RdS.cons (rStr k) (by kernel_rfl) rfl RdS.nil))).map (fun p => (⟨p.1, p.2.1⟩ : Var)) (fun _ => rfl) (fun _ h => ⟨h.1, h.2.1⟩) (fun _ => Nat.zero_le _)
theorem rStyles (k : Nat) : Rd enc Tryz.prog w base spare held k 31 (fun l : List Style => [stylesE l]) 1 (fun l => l.length ≤ BB ∧ ∀ r ∈ l, r.props.length ≤ BB) (fun _ => 0) :=
  (rd_slice (f := Style.enc) (F := Style.F) (fun _ => rfl) Style.E.st Tryz.underlying31 (by kernel_rfl) (by omega) (fun m _ => rStyle m)).map (fun l => l) (fun _ => rfl) (fun l h => ⟨by have := sumμ_len (fun _ => 0) l; have := h.2; omega, h.1⟩) (fun _ => Nat.zero_le _)
theorem rLists (k : Nat) : Rd enc Tryz.prog w base spare held k 32 (fun l : List Lst => [listsE l]) 1 (fun l => l.length ≤ BB ∧ ∀ s ∈ l, s.levels.length ≤ BB ∧ ∀ r ∈ s.levels, r.template.size ≤ BB) (fun _ => 0) :=
  (rd_slice (f := Lst.enc) (F := Lst.F) (fun _ => rfl) Lst.E.st Tryz.underlying32 (by kernel_rfl) (by omega) (fun m _ => rLst m)).map (fun l => l) (fun _ => rfl) (fun l h => ⟨by have := sumμ_len (fun _ => 0) l; have := h.2; omega, h.1⟩) (fun _ => Nat.zero_le _)
theorem rComments (k : Nat) : Rd enc Tryz.prog w base spare held k 33 (fun l : List Comment => [commentsE l]) 1 (fun l => l.length ≤ BB ∧ ∀ s ∈ l, s.author.size ≤ BB ∧ s.text.size ≤ BB) (fun _ => 0) :=
  (rd_slice (f := Comment.enc) (F := Comment.F) (fun _ => rfl) Comment.E.st Tryz.underlying33 (by kernel_rfl) (by omega) (fun m _ => rComment m)).map (fun l => l) (fun _ => rfl) (fun l h => ⟨by have := sumμ_len (fun _ => 0) l; have := h.2; omega, h.1⟩) (fun _ => Nat.zero_le _)
theorem rVars (k : Nat) : Rd enc Tryz.prog w base spare held k 34 (fun l : List Var => [varsE l]) 1 (fun l => l.length ≤ BB ∧ ∀ s ∈ l, s.name.size ≤ BB ∧ s.value.size ≤ BB) (fun _ => 0) :=
  (rd_slice (f := Var.enc) (F := Var.F) (fun _ => rfl) Var.E.st Tryz.underlying34 (by kernel_rfl) (by omega) (fun m _ => rVar m)).map (fun l => l) (fun _ => rfl) (fun l h => ⟨by have := sumμ_len (fun _ => 0) l; have := h.2; omega, h.1⟩) (fun _ => Nat.zero_le _)
theorem rSettings : ∀ k, Rd enc Tryz.prog w base spare held k 36 Settings.flat 4 Settings.sizedT (fun _ => 0)
  | 0 => Rd.zero
  | k + 1 => (RdS.rd Tryz.underlying36 (by kernel_rfl) (RdS.cons (rStyles k) (by kernel_rfl) rfl (RdS.cons (rLists k) (by kernel_rfl) rfl (RdS.cons (rComments k) (by kernel_rfl) rfl (RdS.cons (rVars k) (by kernel_rfl) rfl RdS.nil))))).map
      (fun p => (⟨p.1, p.2.1, p.2.2.1, p.2.2.2.1⟩ : Settings)) (fun _ => rfl) (fun _ h => ⟨⟨h.1.1, h.2.1.1, h.2.2.1.1, h.2.2.2.1.1, h.1.2, fun x hx => (h.2.1.2 x hx).1⟩, fun x hx => (h.2.1.2 x hx).2, h.2.2.1.2, h.2.2.2.1.2⟩) (fun _ => Nat.zero_le _)
def Document.F (d : Document) : List SV := [itemsE d.flow] ++ d.«end».flat ++ [revsE d.revs] ++ d.settings.flat
theorem rDocument : ∀ k, Rd enc Tryz.prog w base spare held k 38 Document.F 11 (fun d => d.sizedT BB k) (fun _ => 0)
  | 0 => Rd.zero
  | k + 1 => (RdS.rd Tryz.underlying38 (by kernel_rfl) (RdS.cons (rItems k) (by kernel_rfl) rfl (RdS.cons (rHead k) (by kernel_rfl) rfl (RdS.cons (rRevs k) (by kernel_rfl) rfl (RdS.cons (rSettings k) (by kernel_rfl) rfl RdS.nil))))).map
      (fun p => (⟨p.1, p.2.1, p.2.2.1, p.2.2.2.1⟩ : Document)) (fun _ => rfl) (fun _ h => ⟨h.1 _ (by omega), h.2.1, h.2.2.1.1, h.2.2.1.2, h.2.2.2.1⟩) (fun _ => Nat.zero_le _)
def Scope.F (s : Scope) : List SV := [intE s.id, intE s.a, intE s.b]
theorem Rd.arg {k e z : Nat} {F : α → List SV} {ok : α → Prop} {μ : α → Nat} (h : Rd enc Tryz.prog w base spare held k e F z ok μ) {fs : Array Field} (ht : Tryz.prog.underlying e = some (.struct fs)) {r : Reach} {b0 : Nat} {v : Value} (hv : Value.okWide Tryz.prog w r b0 e v) {x : DataW H × List MemPlace}
    (hx : DataW.trod enc Tryz.prog w base spare held k e v.cells.toList = some x) (hb : Rows.uptoBulk x.1 ≤ BB) : ∃ a, V (cx0 w) (.agg (F a)) v ∧ ok a := by
  simp only [Value.okWide, ht] at hv
  obtain ⟨cs, rfl, _, _⟩ := hv
  obtain ⟨a, a1, a2, a3, a4, a5⟩ := h _ x hx hb
  refine ⟨a, ?_, a4⟩
  rw [V]
  exact ⟨cs.toList, by simp, by simpa [Value.cells] using a1, by simpa [Value.cells] using a3⟩
end
open Go.ChangeShapes Go.WideShapes Go.ChangeAt Go.RowKit
theorem kidsT : Kids Tryz.prog (· < Tryz.prog.types.size) := kids_rows (by kernel_rfl) (by kernel_rfl)
theorem fullT : ∀ t e, t < Tryz.prog.types.size → Tryz.prog.underlying t = some (.slice e) → 0 < Tryz.prog.cellsOf e := slices_full_of Tryz.prog (by kernel_rfl)
section
variable {H : Type} {enc : TypeId × Value → H}
theorem ext_block {W : World} {c' : Cx} (x : Ext (cx0 W) c') {b : Nat} (h : b < W.heap.size) : c'.w.heap[b]? = W.heap[b]? := (x.keep b h (fun h => h)).2
theorem carryAll {P : Program} {w w' : World} {base : Nat} {sp : Nat → Bool} {held : Bool} (hw : ∀ b, b < w.heap.size → w'.heap[b]? = w.heap[b]?) : ∀ {ts : List TypeId} {vs : List Value} {ds : List (DataW H)} {ps : List MemPlace}, DataW.TrodAll enc P w base sp held ts vs ds ps → (∀ p ∈ ps, p.block < w.heap.size) → DataW.TrodAll enc P w' base sp held ts vs ds ps
  | [], [], [], _, h, _ => h
  | _ :: _, _ :: _, _ :: _, _, ⟨p, q, ⟨n, h1⟩, h2, e⟩, hs => by
    have hp : ∀ x ∈ p, w.sameAt w' x := fun x hx => by
      have hb := hs x (by rw [e]; exact List.mem_append_left _ hx)
      cases x with
      | cell b off => simp only [World.sameAt, World.cell?, hw b hb]
      | map b => exact hw b hb
    exact ⟨p, q, ⟨n, DataW.trod_carry n _ _ _ h1 hp⟩, carryAll hw h2 (fun x hx => hs x (by rw [e]; exact List.mem_append_right _ hx)), e⟩
theorem post_still {f : Func} {s : ChangeSpec} {apart fresh handsOn again : Bool} {W W' : World} {args : Array Value} {v : Value} {ds gs : List (DataW H)} {before : List MemPlace} {x : DataW H}
    (hW : DataW.Whole enc Tryz.prog f.params.toList s.vars apart W args.toList ds gs before) (hv : s.vars = []) (hpt : ∀ t ∈ f.params.toList, t < Tryz.prog.types.size)
    (hos : W'.os = W.os) (hout : W'.output = W.output) (hw : ∀ b, b < W.heap.size → W'.heap[b]? = W.heap[b]?)
    (hfn : s.fn H (ds ++ gs) = { results := [x], args := ds })
    (hres : ∀ (b : Nat) (sp : Nat → Bool) (hd : Bool), DataW.TrodAll enc Tryz.prog W' b sp hd f.resultTypes.toList (v.resultList f.resultTypes.size) [x] [])
    (hok : ∀ (j : Nat) (t : TypeId) (r : Value), f.resultTypes[j]? = some t → (v.resultList f.resultTypes.size)[j]? = some r → Value.okWide Tryz.prog W' .any 0 t r) :
    s.post enc Tryz.prog f apart fresh handsOn again W args v W' := by
  have hlt := hW.lt
  have hW2 := hW
  obtain ⟨p, q, h1, h2, rfl, hz, hn⟩ := hW
  rw [hv] at h2
  obtain ⟨rfl, rfl⟩ := trodVars_none h2
  rw [List.append_nil] at hlt hz hn hW2
  have c1 := carryAll hw h1 hlt
  have c2 : ∀ sp : Nat → Bool, (∀ x ∈ p, sp x.block = true) → DataW.TrodAll enc Tryz.prog W' 0 sp true f.params.toList args.toList ds p := fun sp hs => DataW.TrodAll.respare kidsT fullT hpt c1 hs
  have hvars : ∀ sp : Nat → Bool, DataW.TrodVars enc Tryz.prog W' sp s.vars [] [] := fun sp => by rw [hv]; rfl
  refine ⟨ds, [], p, [], p, [], hW2, by rw [hfn]; exact hres _ _ _, by rw [hfn]; exact c2 _ (fun x hx => by simpa using hlt x hx), by rw [hfn]; exact hvars _, ?_, fun _ => ?_⟩
  · refine ⟨hos, hout, fun i hi => ?_⟩
    rw [hw i hi]
    generalize W.heap[i]? = o
    cases o with
    | none => rfl
    | some b => cases b <;> simp
  · refine ⟨hok, x :: ds, [], p, ⟨p, [], by simpa using trodAll_append (c2 _ (fun _ _ => rfl)) (hres 0 (fun _ => true) true), hvars _, by simp, ?_, hn⟩, fun x hx _ => hx⟩
    intro b off hp
    have hb := hlt _ hp
    have := hz b off hp
    simp only [World.frozen?] at this ⊢
    rw [hw b hb]; exact this
theorem rel0 (W : World) : Rel (fun _ => none) (cx0 W) := ⟨fun _ _ h => (by cases h), fun _ _ _ _ _ h => (by cases h), fun b => ⟨fun h => h.elim, fun ⟨_, _, h, _⟩ => (by cases h)⟩⟩
end
end Go.Proofs.YthinbkgpjmjfeaaGreatDoor.Sh
namespace Go.Proofs.YthinbkgpjmjfeaaGreatDoor.Sh
open Proofs
set_option maxRecDepth 10000
structure Rng where
  flow : Int
  a : Int
  b : Int
def Rng.enc (r : Rng) : SV := .agg [intE r.flow, intE r.a, intE r.b]
abbrev rngsE (l : List Rng) : SV := .imm 3 (l.map Rng.enc) false
abbrev strsE (l : List ByteArray) : SV := .imm 1 (l.map SV.str) false
structure Rules where
  ranges : List Rng
  marker : ByteArray
  o1 : Bool
  o2 : Bool
  o3 : Bool
  o4 : Bool
  vars : List ByteArray
def Rules.enc (r : Rules) : SV := .agg [rngsE r.ranges, .str r.marker, .bool r.o1, .bool r.o2, .bool r.o3, .bool r.o4, strsE r.vars]
theorem c99 (l : List Var) (hl : l.length ≤ 1048576) (g : FuncId) (a b : List SV) (p : Nat → Bool) (hp : ∀ (i : Nat) (h : i < l.length), PC g (a ++ [Var.enc l[i]] ++ b) (.bool (p i))) :
    PC 99 [.imm 2 (l.map Var.enc) false, .fn (.func g) a b] (intE (indexP p l.length 0)) := by
  intro h n
  refine go Tryz.func99 rfl (by kernel_rfl) (by kernel_rfl) (by simp [go_sem]) fun ho => ?_
  simp [go_sem]
  refine goloop 1 (α := Nat) (fun k => [(0, .imm 2 (l.map Var.enc) false), (1, .fn (.func g) a b), (7, intE l.length), (8, intE k)]) (fun _ => h) (fun k m => k ≤ l.length ∧ n ≤ m ∧ indexP p l.length 0 = indexP p l.length k) (fun k => l.length - k) 0 ?_ ?_ look_same ?_
  · simp
  · simp [look]
  rintro k m ⟨hk, hnm, hf⟩
  rw [indexP.eq_def _ _ k] at hf
  by_cases hlt : k < l.length
  · have w1 : IntKind.i64.wrap ((k : Int) + 1) = ((k + 1 : Nat) : Int) := by rw [wr64] <;> omega
    have H := hp k hlt
    simp only [List.append_assoc, List.cons_append, List.nil_append] at H
    simp [go_sem, hlt, Var.enc]
    refine PC.use (by simpa [Var.enc] using H) ?_
    by_cases h0 : p k = true
    · simp [go_sem, h0]
      exact ret0 ho rfl (by rw [hf]; simp [hlt, h0])
    · simp [go_sem, h0, w1, -Int.natCast_add]
      exact ⟨k + 1, by omega, ⟨by omega, hnm, by rw [hf]; simp [hlt, h0]⟩, Fz.same⟩
  · simp [go_sem, hlt]
    exact ret0 ho rfl (by rw [hf]; simp [hlt])
theorem c36 (l : List Var) (hl : l.length ≤ 1048576) (g : FuncId) (a b : List SV) (p : Nat → Bool) (hp : ∀ (i : Nat) (h : i < l.length), PC g (a ++ [Var.enc l[i]] ++ b) (.bool (p i))) :
    PC 36 [.imm 2 (l.map Var.enc) false, .fn (.func g) a b] (.bool (anyI p l.length)) := by
  intro h n
  refine go Tryz.func36 rfl (by kernel_rfl) (by kernel_rfl) (by simp [go_sem]) fun ho => ?_
  simp [go_sem]
  refine (c99 l hl g a b p hp).use ?_
  simp [go_sem]
  exact ret0 ho rfl rfl
def nameIs (v : Var) (s : ByteArray) : Bool := v.name.toList == s.toList
theorem c37 (v : Var) (s : ByteArray) : PC 37 [v.enc, .iptr [.str s]] (.bool (nameIs v s)) := by
  intro h n
  refine go Tryz.func37 rfl (by kernel_rfl) (by kernel_rfl) (by simp [go_sem]) fun ho => ?_
  simp [go_sem, Var.enc, hset_at]
  exact retIs ho (hset_old ho (Nat.le_refl _) look_same) rfl rfl
def flowAt (d : Document) (id : Int) : List Item := ((docFlow d id).map Fl.items).getD []
def rngErr (d : Document) (x : Rng) : Int :=
  if (docFlow d x.flow).isSome = true then if x.a < 0 ∨ x.b < x.a ∨ (runLen (flowAt d x.flow)).1 < x.b then 2 else 0 else 8
def hasName (d : Document) (s : ByteArray) : Bool := anyI (fun i => match d.settings.vars[i]? with | some v => nameIs v s | none => false) d.settings.vars.length
def varErr (d : Document) (s : ByteArray) : Int := if hasName d s = true then 0 else 30
def rngsErr (d : Document) (r : Rules) : Int := firstE (r.ranges.map (rngErr d))
def rulesE (d : Document) (r : Rules) : Int :=
  if 1024 < r.ranges.length then 9 else
  if rngsErr d r ≠ 0 then rngsErr d r else
  if 100 < r.marker.size then 10 else
  if cpValid r.marker = false then 12 else firstE (r.vars.map (varErr d))
structure Dsz (d : Document) : Prop where
  hl : d.flow.length ≤ 1048576
  hs : Item.sizedL d.flow
  hv : d.settings.vars.length ≤ 1048576
structure Rsz (r : Rules) : Prop where
  hr : r.ranges.length ≤ 1048576
  hm : r.marker.size ≤ 1048576
  hv : r.vars.length ≤ 1048576
theorem flowAt_ok {d : Document} (D : Dsz d) (id : Int) : (flowAt d id).length ≤ 1048576 ∧ ∀ x ∈ flowAt d id, x.text.size ≤ 1048576 := by
  unfold flowAt
  cases h : docFlow d id with
  | none => simp
  | some f =>
    have hf := flowsOf_ok D.hl D.hs f (List.mem_of_find?_eq_some h)
    exact ⟨hf.1, fun x hx => by
      have := Item.sizedL_mem hf.2 x hx
      cases x; simp only [Item.sized, Item.text] at this ⊢; exact this.1⟩
theorem cLen {d : Document} (D : Dsz d) (id : Int) : PC 22 [itemsE (flowAt d id)] (.tup [intE (runLen (flowAt d id)).1, intE (runLen (flowAt d id)).2]) := c35 _ (flowAt_ok D id).1 (flowAt_ok D id).2
theorem cFlow {d : Document} (D : Dsz d) (id : Int) : PC 35 [d.enc, intE id] (.tup [itemsE (flowAt d id), .bool (docFlow d id).isSome]) := c34 d id D.hl D.hs
theorem cHas {d : Document} (D : Dsz d) (s : ByteArray) : PC 36 [varsE d.settings.vars, .fn (.func 37) [] [.iptr [.str s]]] (.bool (hasName d s)) :=
  c36 _ D.hv 37 [] [.iptr [.str s]] _ fun i hi => by simpa [hi] using c37 d.settings.vars[i] s
abbrev dcs (d : Document) : List SV := [itemsE d.flow] ++ d.«end».flat ++ [revsE d.revs] ++ d.settings.flat
abbrev rcs (r : Rules) : List SV := [rngsE r.ranges, .str r.marker, .bool r.o1, .bool r.o2, .bool r.o3, .bool r.o4, strsE r.vars]
theorem keep2 {h : Hp} {n : Nat} (ho : Old h n) {x y : Option SObj} : ∀ o z, h o = some z → hset (hset h n x) (n + 1) y o = some z :=
  fun o z e => by have := (ho o z e).1; rw [hset_ne _ _ (by omega), hset_ne _ _ (by omega)]; exact e
theorem fz_none {h : Hp} {n : Nat} (ho : Old h n) (j : Nat) (hj : n ≤ j) : h j = none := by
  cases e : h j with
  | none => rfl
  | some x => have := (ho j x e).1; omega
theorem all_same {h h2 : Hp} {k : Nat} : ∀ l : List SV, All2 (Fz h h2 k) l l
  | [] => trivial
  | _ :: l => ⟨Fz.same, all_same l⟩
set_option maxHeartbeats 4000000 in
theorem c13 (d : Document) (r : Rules) (D : Dsz d) (R : Rsz r) : PC 13 [d.enc, r.enc] (intE (rulesE d r)) := by
  intro h n
  refine go Tryz.func13 rfl (by kernel_rfl) (by kernel_rfl) (by simp [go_sem]) fun ho => ?_
  by_cases hlen : 1024 < r.ranges.length
  · have hlen' : (1024 : Int) < r.ranges.length := by omega
    simp [go_sem, Rules.enc, Document.enc, Head.flat, Settings.flat, hset_at, Nat.add_assoc, hlen']
    exact retIs ho (keep2 ho) (by simp [rulesE, hlen]) rfl
  have hlen' : ¬ (1024 : Int) < r.ranges.length := by omega
  simp [go_sem, Rules.enc, Document.enc, Head.flat, Settings.flat, hset_at, Nat.add_assoc, hlen']
  have hrl := R.hr
  refine goloop 1 (α := Nat) (fun k => [(2, .iptr (dcs d)), (3, .iptr (rcs r)), (18, rngsE r.ranges), (19, intE r.ranges.length), (20, intE k)]) (fun _ => h)
    (fun k m => k ≤ r.ranges.length ∧ n ≤ m ∧ firstE ((r.ranges.map (rngErr d)).drop k) = rngsErr d r) (fun k => r.ranges.length - k) 0 ?_ ?_ (keep2 ho) ?_
  · simp [rngsErr]
  · intro p hp
    simp only [List.mem_cons, List.not_mem_nil, or_false] at hp
    rcases hp with rfl | rfl | rfl | rfl | rfl
    · exact ptr_fz (fz_none ho n (Nat.le_refl _)) (by simp [hset_at, hset_ne, Head.flat, Settings.flat])
    · exact ptr_fz (fz_none ho (n + 1) (by omega)) (by simp [hset_at])
    · exact Fz.same
    · exact Fz.same
    · exact Fz.same
  rintro k m ⟨hk, hnm, hf⟩
  by_cases hlt : k < r.ranges.length
  · have w1 : IntKind.i64.wrap ((k : Int) + 1) = ((k + 1 : Nat) : Int) := by rw [wr64] <;> omega
    rw [firstE_drop _ _ (by simpa using hlt), List.getElem_map] at hf
    obtain ⟨x, hx⟩ : ∃ x, r.ranges[k] = x := ⟨_, rfl⟩
    rw [hx] at hf
    have fin : ∀ (e : Int), rngErr d x = e → e ≠ 0 → intE e = intE (rulesE d r) := fun e he h0 => by
      rw [he, if_neg h0] at hf
      unfold rulesE
      rw [if_neg hlen, ← hf, if_pos h0]
    have kp : ∀ (a b : Option SObj), ∀ o z, h o = some z → hset (hset h m a) m b o = some z := fun a b o z e => by have := (ho o z e).1; rw [hset_ne _ _ (by omega), hset_ne _ _ (by omega)]; exact e
    simp [go_sem, hlt, hx, Rng.enc, Head.flat, Settings.flat, hset_at]
    refine PC.use (by simpa [Document.enc, Head.flat, Settings.flat] using cFlow D x.flow) ?_
    cases hfl : (docFlow d x.flow).isSome
    · simp [go_sem]
      exact retIs ho (kp _ _) (fin 8 (by simp [rngErr, hfl]) (by decide)) rfl
    simp [go_sem]
    refine (cLen D x.flow).use ?_
    by_cases h1 : x.a < 0
    · simp [go_sem, hset_at, h1]
      exact retIs ho (kp _ _) (fin 2 (by simp [rngErr, hfl, h1]) (by decide)) rfl
    by_cases h2 : x.b < x.a
    · simp [go_sem, hset_at, h1, h2]
      exact retIs ho (kp _ _) (fin 2 (by simp [rngErr, hfl, h2]) (by decide)) rfl
    by_cases h3 : (runLen (flowAt d x.flow)).1 < x.b
    · simp [go_sem, hset_at, h1, h2, h3]
      exact retIs ho (kp _ _) (fin 2 (by simp [rngErr, hfl, h3]) (by decide)) rfl
    · simp [go_sem, hset_at, h1, h2, h3, w1, -Int.natCast_add]
      have h0 : rngErr d x = 0 := by simp [rngErr, hfl, h1, h2, h3]
      rw [if_pos h0] at hf
      exact ⟨k + 1, by omega, ⟨by omega, by omega, hf⟩, Fz.same, kp _ _⟩
  · have hke : k = r.ranges.length := by omega
    subst hke
    have hr0 : rngsErr d r = 0 := by rw [← hf, List.drop_eq_nil_of_le (by simp)]; rfl
    have hre : rulesE d r = if 100 < r.marker.size then 10 else if cpValid r.marker = false then 12 else firstE (r.vars.map (varErr d)) := by
      unfold rulesE; rw [if_neg hlen, hr0, if_neg (by simp)]
    by_cases hm : 100 < r.marker.size
    · have hm' : (100 : Int) < r.marker.size := by omega
      simp [go_sem, hm']
      exact ret0 ho rfl (by rw [hre, if_pos hm])
    have hm' : ¬ (100 : Int) < r.marker.size := by omega
    rw [if_neg hm] at hre
    simp [go_sem, hm']
    refine (c116 r.marker (by have := R.hm; omega)).use ?_
    cases hcv : cpValid r.marker
    · simp [go_sem]
      exact ret0 ho rfl (by rw [hre, if_pos hcv])
    rw [if_neg (by simp [hcv])] at hre
    simp [go_sem]
    have hvl := R.hv
    refine goloop 1 (α := Nat) (fun k => [(2, .iptr (dcs d)), (66, strsE r.vars), (67, intE r.vars.length), (68, intE k)]) (fun _ => h)
      (fun k m => k ≤ r.vars.length ∧ n ≤ m ∧ firstE ((r.vars.map (varErr d)).drop k) = rulesE d r) (fun k => r.vars.length - k) 0 ?_ ?_ look_same ?_
    · simp [hre]; omega
    · simp [look]
    rintro k m ⟨hk, hnm, hf⟩
    by_cases hlt : k < r.vars.length
    · have w1 : IntKind.i64.wrap ((k : Int) + 1) = ((k + 1 : Nat) : Int) := by rw [wr64] <;> omega
      rw [firstE_drop _ _ (by simpa using hlt), List.getElem_map] at hf
      obtain ⟨x, hx⟩ : ∃ x, r.vars[k] = x := ⟨_, rfl⟩
      rw [hx] at hf
      have kp : ∀ (a b : Option SObj), ∀ o z, h o = some z → hset (hset h m a) m b o = some z := fun a b o z e => by have := (ho o z e).1; rw [hset_ne _ _ (by omega), hset_ne _ _ (by omega)]; exact e
      simp [go_sem, hlt, hx, Head.flat, Settings.flat, hset_at]
      refine PCall.lend 2 (cHas D x) rfl ⟨Fz.same, .inr ⟨rfl, trivial, ⟨.inr ⟨rfl, _, hset_at _ _ _, Nat.zero_le _, all_same _⟩, trivial⟩⟩, trivial⟩ ?_
      cases hv : hasName d x
      · simp [go_sem]
        refine retIs ho (kp _ _) ?_ rfl
        have h0 : varErr d x = 30 := by simp [varErr, hv]
        rw [h0, if_neg (by decide)] at hf
        rw [← hf]
      · simp [go_sem, w1, -Int.natCast_add]
        have h0 : varErr d x = 0 := by simp [varErr, hv]
        rw [if_pos h0] at hf
        exact ⟨k + 1, by omega, ⟨by omega, by omega, hf⟩, Fz.same, kp _ _⟩
    · simp [go_sem, hlt]
      have hke : k = r.vars.length := by omega
      subst hke
      rw [List.drop_eq_nil_of_le (by simp)] at hf
      exact ret0 ho rfl (by rw [← hf]; rfl)
def vAt (d : Document) (s : ByteArray) (i : Nat) : Bool := match d.settings.vars[i]? with | some v => nameIs v s | none => false
def anyTo (p : Nat → Bool) : Nat → Bool
  | 0 => false
  | n + 1 => anyTo p n || p n
theorem anyTo_iff {p : Nat → Bool} : ∀ {n : Nat}, anyTo p n = true ↔ ∃ i, i < n ∧ p i = true
  | 0 => by simp [anyTo]
  | n + 1 => by
    simp only [anyTo, Bool.or_eq_true, anyTo_iff (n := n)]
    constructor
    · rintro (⟨i, h1, h2⟩ | h)
      · exact ⟨i, by omega, h2⟩
      · exact ⟨n, by omega, h⟩
    · rintro ⟨i, h1, h2⟩
      by_cases e : i = n
      · subst e; exact .inr h2
      · exact .inl ⟨i, by omega, h2⟩
theorem indexP_iff {p : Nat → Bool} {n : Nat} : ∀ (f k : Nat), n - k = f → (0 ≤ indexP p n k ↔ ∃ i, k ≤ i ∧ i < n ∧ p i = true)
  | 0, k, hf => by
    rw [indexP.eq_def, dif_neg (by omega)]
    constructor
    · intro h; omega
    · rintro ⟨i, h1, h2, _⟩; omega
  | f + 1, k, hf => by
    rw [indexP.eq_def, dif_pos (by omega)]
    by_cases h : p k = true
    · rw [if_pos h]
      exact ⟨fun _ => ⟨k, Nat.le_refl _, by omega, h⟩, fun _ => by omega⟩
    · rw [if_neg h, indexP_iff f (k + 1) (by omega)]
      constructor
      · rintro ⟨i, h1, h2, h3⟩; exact ⟨i, by omega, h2, h3⟩
      · rintro ⟨i, h1, h2, h3⟩
        have : i ≠ k := by rintro rfl; exact h h3
        exact ⟨i, by omega, h2, h3⟩
theorem anyI_to (p : Nat → Bool) (n : Nat) : anyI p n = anyTo p n := by
  rw [Bool.eq_iff_iff, anyTo_iff, anyI, decide_eq_true_eq, indexP_iff _ 0 rfl]
  simp
set_option maxHeartbeats 4000000 in
theorem c14 (d : Document) (r : Rules) (D : Dsz d) (R : Rsz r) : PC 14 [d.enc, r.enc] (intE (rulesE d r)) := by
  intro h n
  refine go Tryz.func14 rfl (by kernel_rfl) (by kernel_rfl) (by simp [go_sem]) fun ho => ?_
  by_cases hlen : 1024 < r.ranges.length
  · have hlen' : (1024 : Int) < r.ranges.length := by omega
    simp [go_sem, Rules.enc, Document.enc, Head.flat, Settings.flat, hset_at, Nat.add_assoc, hlen']
    exact retIs ho (keep2 ho) (by simp [rulesE, hlen]) rfl
  have hlen' : ¬ (1024 : Int) < r.ranges.length := by omega
  simp [go_sem, Rules.enc, Document.enc, Head.flat, Settings.flat, hset_at, Nat.add_assoc, hlen']
  have hrl := R.hr
  refine goloop 1 (α := Nat) (fun k => [(2, .iptr (dcs d)), (3, .iptr (rcs r)), (5, intE k)]) (fun _ => h)
    (fun k m => k ≤ r.ranges.length ∧ n ≤ m ∧ firstE ((r.ranges.map (rngErr d)).drop k) = rngsErr d r) (fun k => r.ranges.length - k) 0 ?_ ?_ (keep2 ho) ?_
  · simp [rngsErr]
  · intro p hp
    simp only [List.mem_cons, List.not_mem_nil, or_false] at hp
    rcases hp with rfl | rfl | rfl
    · exact ptr_fz (fz_none ho n (Nat.le_refl _)) (by simp [hset_at, hset_ne, Head.flat, Settings.flat])
    · exact ptr_fz (fz_none ho (n + 1) (by omega)) (by simp [hset_at])
    · exact Fz.same
  rintro k m ⟨hk, hnm, hf⟩
  by_cases hlt : k < r.ranges.length
  · have w1 : IntKind.i64.wrap ((k : Int) + 1) = ((k + 1 : Nat) : Int) := by rw [wr64] <;> omega
    rw [firstE_drop _ _ (by simpa using hlt), List.getElem_map] at hf
    obtain ⟨x, hx⟩ : ∃ x, r.ranges[k] = x := ⟨_, rfl⟩
    rw [hx] at hf
    have fin : ∀ (e : Int), rngErr d x = e → e ≠ 0 → intE e = intE (rulesE d r) := fun e he h0 => by
      rw [he, if_neg h0] at hf
      unfold rulesE
      rw [if_neg hlen, ← hf, if_pos h0]
    have kp : ∀ (a b : Option SObj), ∀ o z, h o = some z → hset (hset h m a) m b o = some z := fun a b o z e => by have := (ho o z e).1; rw [hset_ne _ _ (by omega), hset_ne _ _ (by omega)]; exact e
    simp [go_sem, hlt, hx, Rng.enc, Head.flat, Settings.flat, hset_at]
    refine PC.use (by simpa [Document.enc, Head.flat, Settings.flat] using cFlow D x.flow) ?_
    cases hfl : (docFlow d x.flow).isSome
    · simp [go_sem]
      exact retIs ho (kp _ _) (fin 8 (by simp [rngErr, hfl]) (by decide)) rfl
    simp [go_sem]
    refine (cLen D x.flow).use ?_
    by_cases h1 : x.a < 0
    · simp [go_sem, hset_at, h1]
      exact retIs ho (kp _ _) (fin 2 (by simp [rngErr, hfl, h1]) (by decide)) rfl
    by_cases h2 : x.b < x.a
    · simp [go_sem, hset_at, h1, h2]
      exact retIs ho (kp _ _) (fin 2 (by simp [rngErr, hfl, h2]) (by decide)) rfl
    by_cases h3 : (runLen (flowAt d x.flow)).1 < x.b
    · simp [go_sem, hset_at, h1, h2, h3]
      exact retIs ho (kp _ _) (fin 2 (by simp [rngErr, hfl, h3]) (by decide)) rfl
    · simp [go_sem, hset_at, h1, h2, h3, w1, -Int.natCast_add]
      have h0 : rngErr d x = 0 := by simp [rngErr, hfl, h1, h2, h3]
      rw [if_pos h0] at hf
      exact ⟨k + 1, by omega, ⟨by omega, by omega, hf⟩, Fz.same, kp _ _⟩
  · have hke : k = r.ranges.length := by omega
    subst hke
    have hr0 : rngsErr d r = 0 := by rw [← hf, List.drop_eq_nil_of_le (by simp)]; rfl
    have hre : rulesE d r = if 100 < r.marker.size then 10 else if cpValid r.marker = false then 12 else firstE (r.vars.map (varErr d)) := by
      unfold rulesE; rw [if_neg hlen, hr0, if_neg (by simp)]
    by_cases hm : 100 < r.marker.size
    · have hm' : (100 : Int) < r.marker.size := by omega
      simp [go_sem, hm']
      exact ret0 ho rfl (by rw [hre, if_pos hm])
    have hm' : ¬ (100 : Int) < r.marker.size := by omega
    rw [if_neg hm] at hre
    simp [go_sem, hm']
    refine (c116 r.marker (by have := R.hm; omega)).use ?_
    cases hcv : cpValid r.marker
    · simp [go_sem]
      exact ret0 ho rfl (by rw [hre, if_pos hcv])
    rw [if_neg (by simp [hcv])] at hre
    simp [go_sem]
    have hvl := R.hv
    have hdl := D.hv
    refine goloop 1 (α := Nat) (fun k => [(2, .iptr (dcs d)), (3, .iptr (rcs r)), (11, intE k)]) (fun _ => h)
      (fun k m => k ≤ r.vars.length ∧ n ≤ m ∧ firstE ((r.vars.map (varErr d)).drop k) = rulesE d r) (fun k => r.vars.length - k) 0 ?_ ?_ look_same ?_
    · simp [hre]; omega
    · simp [look]
    rintro k m ⟨hk, hnm, hf⟩
    by_cases hlt : k < r.vars.length
    · have w1 : IntKind.i64.wrap ((k : Int) + 1) = ((k + 1 : Nat) : Int) := by rw [wr64] <;> omega
      rw [firstE_drop _ _ (by simpa using hlt), List.getElem_map] at hf
      obtain ⟨x, hx⟩ : ∃ x, r.vars[k] = x := ⟨_, rfl⟩
      rw [hx] at hf
      simp [go_sem, hlt, Head.flat, Settings.flat]
      refine goloop 1 (α := Nat) (fun j => [(2, .iptr (dcs d)), (3, .iptr (rcs r)), (11, intE k), (12, .bool (anyTo (vAt d x) j)), (13, intE j)]) (fun _ => h)
        (fun j q => j ≤ d.settings.vars.length ∧ m ≤ q) (fun j => d.settings.vars.length - j) 0 ?_ ?_ look_same ?_
      · simp
      · simp [look, anyTo, Head.flat, Settings.flat]
      rintro j q ⟨hj, hmq⟩
      by_cases hjl : j < d.settings.vars.length
      · have w2 : IntKind.i64.wrap ((j : Int) + 1) = ((j + 1 : Nat) : Int) := by rw [wr64] <;> omega
        obtain ⟨v, hv⟩ : ∃ v, d.settings.vars[j] = v := ⟨_, rfl⟩
        have hva : vAt d x j = nameIs v x := by simp [vAt, hjl, hv]
        cases hb : anyTo (vAt d x) j
        · simp (config := { maxSteps := 1000000 }) [go_sem, hjl, hlt, hx, hv, Head.flat, Settings.flat, Var.enc]
          repeat first | refine nd (by kernel_rfl) ?_ | refine sd (by kernel_rfl) ?_
          exact ⟨j + 1, by omega, ⟨by omega, hmq⟩, by simp [anyTo, hb, hva, nameIs], by rw [w2]; exact Fz.same⟩
        · simp [go_sem, hjl, Head.flat, Settings.flat]
          repeat first | refine nd (by kernel_rfl) ?_ | refine sd (by kernel_rfl) ?_
          exact ⟨j + 1, by omega, ⟨by omega, hmq⟩, by simp [anyTo, hb, hva, nameIs], by rw [w2]; exact Fz.same⟩
      · have hje : j = d.settings.vars.length := by omega
        subst hje
        have hn : hasName d x = anyTo (vAt d x) d.settings.vars.length := anyI_to _ _
        cases hb : anyTo (vAt d x) d.settings.vars.length
        · simp [go_sem, Head.flat, Settings.flat]
          have h0 : varErr d x = 30 := by simp [varErr, hn, hb]
          rw [h0, if_neg (by decide)] at hf
          exact ret0 ho rfl (by rw [← hf])
        · simp [go_sem, Head.flat, Settings.flat, w1, -Int.natCast_add]
          have h0 : varErr d x = 0 := by simp [varErr, hn, hb]
          rw [if_pos h0] at hf
          exact ⟨k + 1, by omega, ⟨by omega, by omega, hf⟩, Fz.same⟩
    · simp [go_sem, hlt]
      have hke : k = r.vars.length := by omega
      subst hke
      rw [List.drop_eq_nil_of_le (by simp)] at hf
      exact ret0 ho rfl (by rw [← hf]; rfl)
def someB (v : SV) : Prop := ∃ b, v = .bool b
theorem t12small (d : Document) (r : Rules) {B N : Nat} (hB : B ≤ 1048576) (hd : d.sizedT B N) (R : Rsz r) : TC 12 [d.enc, r.enc] someB := by
  intro h n
  refine go Tryz.func12 rfl (by kernel_rfl) (by kernel_rfl) (by simp [go_sem]) fun ho => ?_
  have kp : ∀ (a b : Option SObj), ∀ o z, h o = some z → hset (hset h n a) (n + 1) b o = some z := fun a b => keep2 ho
  have fin : ∀ (b : Bool) (a c : Option SObj) (m : Nat), RetS n (hset (hset h n a) (n + 1) c) m (.bool b) (fun v h' n' => someB v ∧ h' = h ∧ n' = n) := fun b a c m => retT ho (kp _ _) (by simp [closed]) ⟨b, rfl⟩
  have fin0 : ∀ (b : Bool) (m : Nat), RetS n h m (.bool b) (fun v h' n' => someB v ∧ h' = h ∧ n' = n) := fun b m => retT ho look_same (by simp [closed]) ⟨b, rfl⟩
  have hvl := R.hv
  by_cases h1 : (30 : Int) < r.ranges.length
  · simp [go_sem, Rules.enc, Document.enc, Head.flat, Settings.flat, hset_at, Nat.add_assoc, h1]
    exact fin _ _ _ _
  by_cases h2 : (30 : Int) < r.vars.length
  · simp [go_sem, Rules.enc, Document.enc, Head.flat, Settings.flat, hset_at, Nat.add_assoc, h1, h2]
    exact fin _ _ _ _
  by_cases h3 : (200 : Int) < r.marker.size
  · simp [go_sem, Rules.enc, Document.enc, Head.flat, Settings.flat, hset_at, Nat.add_assoc, h1, h2, h3]
    exact fin _ _ _ _
  simp [go_sem, Rules.enc, Document.enc, Head.flat, Settings.flat, hset_at, Nat.add_assoc, h1, h2, h3]
  refine goloop 1 (α := Nat) (fun k => [(2, .iptr (dcs d)), (3, .iptr (rcs r)), (5, intE k)]) (fun _ => h) (fun k m => k ≤ r.vars.length ∧ n ≤ m) (fun k => r.vars.length - k) 0 ?_ ?_ (keep2 ho) ?_
  · simp
  · intro p hp
    simp only [List.mem_cons, List.not_mem_nil, or_false] at hp
    rcases hp with rfl | rfl | rfl
    · exact ptr_fz (fz_none ho n (Nat.le_refl _)) (by simp [hset_at, hset_ne, Head.flat, Settings.flat])
    · exact ptr_fz (fz_none ho (n + 1) (by omega)) (by simp [hset_at])
    · exact Fz.same
  rintro k m ⟨hk, hnm⟩
  by_cases hlt : k < r.vars.length
  · have w1 : IntKind.i64.wrap ((k : Int) + 1) = ((k + 1 : Nat) : Int) := by rw [wr64] <;> omega
    by_cases h4 : (200 : Int) < (r.vars[k]).size
    · simp [go_sem, hlt, h4]
      exact fin0 _ _
    · simp [go_sem, hlt, h4, w1, -Int.natCast_add]
      exact ⟨k + 1, by omega, ⟨by omega, hnm⟩, Fz.same⟩
  · simp [go_sem, hlt, Head.flat, Settings.flat]
    refine TC.use (by simpa [Document.enc, Head.flat, Settings.flat] using t12x_s d hB hd) ?_
    rintro v ⟨b, rfl, _⟩
    simp [go_sem]
    exact fin0 _ _
def rnk (eff : Nat → Bool) : Nat → Nat
  | 0 => 0
  | j + 1 => rnk eff j + (if eff j = true then 1 else 0)
theorem rnk_le (eff : Nat → Bool) {i j : Nat} (h : i ≤ j) : rnk eff i ≤ rnk eff j := by
  induction j with
  | zero => have : i = 0 := by omega
            subst this; exact Nat.le_refl _
  | succ j ih =>
    rcases Nat.lt_or_ge j i with g | g
    · have : i = j + 1 := by omega
      subst this; exact Nat.le_refl _
    · exact Nat.le_trans (ih g) (Nat.le_add_right _ _)
theorem rnk_lt {eff : Nat → Bool} {i j : Nat} (h : i < j) (he : eff i = true) : rnk eff i < rnk eff j :=
  Nat.lt_of_lt_of_le (show rnk eff i < rnk eff (i + 1) by simp [rnk, he]) (rnk_le eff h)
theorem rnk_inj {eff : Nat → Bool} {i j : Nat} (hi : eff i = true) (hj : eff j = true) (h : rnk eff i = rnk eff j) : i = j := by
  rcases Nat.lt_trichotomy i j with g | g | g
  · have := rnk_lt g hi; omega
  · exact g
  · have := rnk_lt g hj; omega
theorem rnk_at {eff : Nat → Bool} {k : Nat} : ∀ {m : Nat}, k < rnk eff m → ∃ j, j < m ∧ eff j = true ∧ rnk eff j = k
  | 0, h => absurd h (Nat.not_lt_zero _)
  | m + 1, h => by
    rcases Nat.lt_or_ge k (rnk eff m) with g | g
    · obtain ⟨j, h1, h2, h3⟩ := rnk_at g; exact ⟨j, by omega, h2, h3⟩
    · simp only [rnk] at h
      by_cases e : eff m = true
      · rw [if_pos e] at h; exact ⟨m, by omega, e, by omega⟩
      · rw [if_neg e] at h; omega
def May (ops : Array Oper) (eff : Nat → Bool) (i k : Nat) : Prop :=
  (eff i = true → k = rnk eff i) ∧ k ≤ rnk eff ops.size ∧ (∀ j, j < ops.size → eff j = true → k ≤ rnk eff j → dirE ops j i = false) ∧ (∀ j, j < ops.size → eff j = true → rnk eff j < k → dirE ops i j = false)
def fAt (rs : List Rec) (f0 : Nat → SV) (i : Nat) : Nat → SV := sel (rs.map Rec.tw) (fun q => decide (q < i)) 0 f0
structure DSeq (E : Env) (P : Program) (N : Nat) (ops : Array Oper) (f0 : Nat → SV) (rs : List Rec) (eff : Nat → Bool) (hs : Nat → Hp) (ns : Nat → Nat) : Prop where
  len : rs.length = ops.size
  stat : staticB ops = true
  dok : ∀ (i : Nat) (o : Oper), ops[i]? = some o → ∀ d, o.dst = some d → d < N
  row : ∀ i j, j < i → i < ops.size → eff j = true → eff i = true → rnk eff i = rnk eff j + 1 → dirE ops j i = true
  ok : ∀ (i : Nat) (o : Oper) (r : Rec), ops[i]? = some o → rs[i]? = some r → r.dst = o.dst ∧
    ((guardF ops (fAt rs f0 i) o = some false ∧ r.val = .tup [] ∧ eff i = false) ∨
     (guardF ops (fAt rs f0 i) o = some true ∧ ∀ k, May ops eff i k → ∀ sa : SA, (∀ x ∈ o.op.operands, evS sa x = evF (fAt rs f0 i) x) →
       stepE E P o sa (hs k) (ns k) fun v h n => v = r.val ∧ h = hs (if eff i = true then k + 1 else k) ∧ n = ns (if eff i = true then k + 1 else k)))
def opSA (f : Nat → SV) : List Operand → SA
  | [] => []
  | .tmp t :: r => (t, f t) :: opSA f r
  | _ :: r => opSA f r
theorem opSA_look {f : Nat → SV} {t : Nat} : ∀ (l : List Operand), (look (opSA f l) t = .junk ∧ .tmp t ∉ l) ∨ look (opSA f l) t = f t
  | [] => .inl ⟨rfl, by simp⟩
  | x :: r => by
    have ih := opSA_look (f := f) (t := t) r
    cases x with
    | tmp s =>
      simp only [opSA, look]
      by_cases e : s = t
      · subst e; simp
      · simp only [e, if_false]
        rcases ih with ⟨h1, h2⟩ | h1
        · exact .inl ⟨h1, by simp [h2, Ne.symm e]⟩
        · exact .inr h1
    | _ =>
      simp only [opSA]
      rcases ih with ⟨h1, h2⟩ | h1
      · exact .inl ⟨h1, by simp [h2]⟩
      · exact .inr h1
theorem opSA_ev {f : Nat → SV} {l : List Operand} {x : Operand} (hx : x ∈ l) : evS (opSA f l) x = evF f x := by
  cases x with
  | tmp t =>
    rcases opSA_look (f := f) (t := t) l with ⟨_, h⟩ | h
    · exact absurd hx h
    · exact h
  | _ => rfl
section
variable {E : Env} {P : Program} {N : Nat} {ops : Array Oper} {f0 : Nat → SV} {rs : List Rec} {eff : Nat → Bool} {hs : Nat → Hp} {ns : Nat → Nat}
structure At2 (E : Env) (N : Nat) (ops : Array Oper) (f0 : Nat → SV) (rs : List Rec) (eff : Nat → Bool) (hs : Nat → Hp) (ns : Nat → Nat) (n0 : Nat) (c0 : Cx) (listed : Array Bool) (k : Nat) (c : Cx) (a : Act) : Prop where
  size : listed.size = ops.size
  closed : ∀ (i : Nat) (o : Oper), ops[i]? = some o → listed.getD i false = true → ∀ e ∈ o.after, Region.binds .any e = true → listed.getD e.on false = true
  kle : k ≤ rnk eff ops.size
  pre : ∀ j, j < ops.size → eff j = true → (listed.getD j false = true ↔ rnk eff j < k)
  inv : E.inv c
  rel : Rel (hs k) c
  fr : FRf E N (sel (rs.map Rec.tw) (fun q => listed.getD q false) 0 f0) c a
  free : Fr (ns k) c
  adv : Adv n0 c0 (ns k) c
theorem draw_step2 (G : DSeq E P N ops f0 rs eff hs ns) {n0 : Nat} {c0 c : Cx} {listed : Array Bool} {k : Nat} {a : Act} (A : At2 E N ops f0 rs eff hs ns n0 c0 listed k c a) {i : Nat} (hi : i ∈ Region.ready .any ops listed)
    {Qr : Exit → Act → World → Prop} {Kr : Act → World → Prop} (hK : ∀ k' c' a', At2 E N ops f0 rs eff hs ns n0 c0 (listed.setIfInBounds i true) k' c' a' → Kr a' c'.w) : wpOpIn E.fc 0 P ops Qr i Kr a c.w := by
  obtain ⟨hun, o, ho, hall⟩ := mem_ready.1 hi
  have hlt := (Array.getElem?_eq_some_iff.1 ho).1
  have hunF : listed.getD i false = false := by rw [getD_lt (by rw [A.size]; exact hlt)] at hun ⊢; exact hun
  obtain ⟨r, hr⟩ : ∃ r, rs[i]? = some r := ⟨rs[i]'(by rw [G.len]; exact hlt), by simp⟩
  obtain ⟨hdst, hok⟩ := G.ok i o r ho hr
  have lsel : ∀ (q : Nat) (w : List (Nat × SV)), (rs.map Rec.tw)[q]? = some w → ∃ rq, rs[q]? = some rq ∧ w = rq.tw := fun q w hq => by
    simp only [List.getElem?_map, Option.map_eq_some_iff] at hq
    obtain ⟨rq, h1, rfl⟩ := hq; exact ⟨rq, h1, rfl⟩
  have oq : ∀ (q : Nat) (rq : Rec), rs[q]? = some rq → ∃ oq, ops[q]? = some oq := fun q rq hq => ⟨ops[q]'(by rw [← G.len]; exact (List.getElem?_eq_some_iff.1 hq).1), by simp⟩
  have e1 : ∀ q, listed.getD q false = false → dirE ops q i = false := fun q hq => by
    unfold dirE
    rw [ho]
    simp only
    rw [Array.any_eq_false']
    intro e he
    rw [Bool.and_eq_true, beq_iff_eq]
    rintro ⟨hb, rfl⟩
    rw [hall e he hb] at hq; cases hq
  have e2 : ∀ q, listed.getD q false = true → dirE ops i q = false := fun q hq => by
    unfold dirE
    cases hoq : ops[q]? with
    | none => rfl
    | some oq =>
      simp only
      rw [Array.any_eq_false']
      intro e he
      rw [Bool.and_eq_true, beq_iff_eq]
      rintro ⟨hb, rfl⟩
      have := A.closed q oq hoq hq e he hb
      rw [hunF] at this; cases this
  have agreeT : ∀ t, t ∈ o.looksAt ops → sel (rs.map Rec.tw) (fun q => listed.getD q false) 0 f0 t = fAt rs f0 i t := fun t ht => by
    refine sel_agree fun q w _ hw hne => ?_
    rw [Nat.sub_zero] at hw
    obtain ⟨rq, hrq, rfl⟩ := lsel q w hw
    obtain ⟨oq', hoq⟩ := oq q rq hrq
    have hdq := (G.ok q oq' rq hoq hrq).1
    rw [tw_keys, hdq]
    intro hdt
    rcases Nat.lt_trichotomy q i with hq | hq | hq
    · have hnl : listed.getD q false = false := by cases hx : listed.getD q false with | false => rfl | true => rw [hx] at hne; simp [hq] at hne
      exact (Oper.apart_spec (staticB_apart G.stat ho hoq hq (e1 q hnl))).1 t hdt ht
    · subst hq; rw [hunF] at hne; simp at hne
    · have hl : listed.getD q false = true := by cases hx : listed.getD q false with | true => rfl | false => rw [hx] at hne; simp [Nat.not_lt.2 (Nat.le_of_lt hq)] at hne
      exact (Oper.apart_spec (staticB_apart G.stat hoq ho hq (e2 q hl))).2.2 t hdt ht
  have hD : (fun q => (listed.setIfInBounds i true).getD q false) = fun q => listed.getD q false || q == i := by
    funext q
    by_cases hq : q = i
    · subst hq; simp [Array.getD_eq_getD_getElem?, A.size, hlt]
    · have : (q == i) = false := by simp; exact hq
      rw [this, Bool.or_false]
      simp [Array.getD_eq_getD_getElem?, Array.getElem?_setIfInBounds_ne (Ne.symm hq)]
  have insT : ∀ t, sel (rs.map Rec.tw) (fun q => listed.getD q false || q == i) 0 f0 t = appW (sel (rs.map Rec.tw) (fun q => listed.getD q false) 0 f0) r.tw t := by
    refine sel_insert hunF (Nat.zero_le _) (by simp [hr]) fun q w hq _ hw hl k hk hk2 => ?_
    rw [Nat.sub_zero] at hw
    obtain ⟨rq, hrq, rfl⟩ := lsel q w hw
    obtain ⟨oq', hoq⟩ := oq q rq hrq
    rw [tw_keys, hdst] at hk
    rw [tw_keys, (G.ok q oq' rq hoq hrq).1] at hk2
    exact (Oper.apart_spec (staticB_apart G.stat hoq ho hq (e2 q hl))).2.1 k hk hk2
  have may : May ops eff i k := by
    refine ⟨fun he => ?_, A.kle, fun j hj hej hk => e1 j ?_, fun j hj hej hk => e2 j ((A.pre j hj hej).2 hk)⟩
    · have h1 : k ≤ rnk eff i := Nat.le_of_not_lt fun g => by rw [(A.pre i hlt he).2 g] at hunF; cases hunF
      rcases Nat.lt_or_ge k (rnk eff i) with g | g
      · obtain ⟨j, h2, h3, h4⟩ := rnk_at (k := rnk eff i - 1) (m := i) (eff := eff) (by omega)
        have h5 := G.row i j h2 hlt h3 he (by omega)
        have h6 : listed.getD j false = true := by
          cases hx : listed.getD j false with
          | true => rfl
          | false => rw [e1 j hx] at h5; cases h5
        have := (A.pre j (by omega) h3).1 h6
        omega
      · omega
    · cases hx : listed.getD j false with
      | false => rfl
      | true => have := (A.pre j hj hej).1 hx; omega
  have behind : ∀ (k' : Nat) (c' : Cx) (u : Value), k' = (if eff i = true then k + 1 else k) → V c' r.val u → Rel (hs k') c' → Fr (ns k') c' → Adv (ns k) c (ns k') c' → Kr (a.put o.dst u) c'.w := by
    intro k' c' u hk' hv R' F' X'
    refine hK k' c' _ ⟨by simp [A.size], fun j oj hoj hl e he hb => ?_, ?_, fun j hj hej => ?_, E.ext X'.ext A.inv, R', ?_, F', A.adv.trans X'⟩
    · by_cases hji : j = i
      · subst hji
        rw [ho] at hoj; cases hoj
        exact getD_set_true (hall e he hb)
      · rw [getD_set_ne false (Ne.symm hji)] at hl
        exact getD_set_true (A.closed j oj hoj hl e he hb)
    · by_cases he : eff i = true
      · rw [if_pos he] at hk'
        have h1 := may.1 he
        have h2 := rnk_lt hlt he
        omega
      · rw [if_neg he] at hk'; rw [hk']; exact A.kle
    · have hDj := congrFun hD j
      rw [hDj]
      by_cases hji : j = i
      · subst hji
        rw [if_pos hej] at hk'
        have := may.1 hej
        simp; omega
      · have : (j == i) = false := by simp; exact hji
        rw [this, Bool.or_false, A.pre j hj hej]
        by_cases he : eff i = true
        · rw [if_pos he] at hk'
          have h1 := may.1 he
          have : rnk eff j ≠ k := fun e => hji (rnk_inj hej he (e.trans h1))
          omega
        · rw [if_neg he] at hk'; rw [hk']
    · rw [hD]
      have : sel (rs.map Rec.tw) (fun q => listed.getD q false || q == i) 0 f0 = appW (sel (rs.map Rec.tw) (fun q => listed.getD q false) 0 f0) r.tw := funext insT
      rw [this, ← hdst]
      have FE : FRf E N (sel (rs.map Rec.tw) (fun q => listed.getD q false) 0 f0) c' a := ⟨A.fr.size, A.fr.defers.mono X'.ext, fun t => V.mono X'.ext (A.fr.val t)⟩
      exact FE.put (fun d hd => G.dok i o ho d (by rw [← hdst]; exact hd)) hv
  have guardEq : guardF ops (sel (rs.map Rec.tw) (fun q => listed.getD q false) 0 f0) o = guardF ops (fAt rs f0 i) o := by
    unfold guardF
    cases hg : o.guard with
    | none => rfl
    | some p =>
      obtain ⟨j, want⟩ := p
      simp only
      cases hd : (ops[j]?).bind (·.dst) with
      | none => rfl
      | some d =>
        simp only
        rw [agreeT d (by simp [Oper.looksAt, hg, hd])]
  unfold wpOpIn
  rw [ho]
  simp only
  rcases hok with ⟨hg, hv, he⟩ | ⟨hg, hstep⟩
  · rw [guardF_rel A.fr (guardEq.trans hg)]
    simp only [Bool.false_eq_true, if_false]
    exact ⟨fun _ _ => trivial, behind k c undef (by rw [he]; rfl) (by rw [hv]; exact V_undef) A.rel A.free (Adv.refl _ _)⟩
  · rw [guardF_rel A.fr (guardEq.trans hg), if_pos rfl]
    have FS : FR E N (opSA (sel (rs.map Rec.tw) (fun q => listed.getD q false) 0 f0) o.op.operands.toList) c a := ⟨A.fr.size, A.fr.defers, fun t => by
      rcases opSA_look (f := sel (rs.map Rec.tw) (fun q => listed.getD q false) 0 f0) (t := t) o.op.operands.toList with ⟨h, _⟩ | h
      · rw [h]; simp [V]
      · rw [h]; exact A.fr.val t⟩
    refine stepE_sound (hstep k may _ fun x hx => ?_) A.inv A.rel A.free FS ?_
    · rw [opSA_ev (by simpa using hx)]
      cases x with
      | tmp t => exact agreeT t (by simp only [Oper.looksAt, List.mem_append, List.mem_filterMap]; exact .inl ⟨.tmp t, by simpa using hx, rfl⟩)
      | _ => rfl
    · rintro v h' n' c' u ⟨rfl, rfl, rfl⟩ hv R' F' X'
      exact behind _ c' u rfl hv R' F' X'
theorem draw_any2 (G : DSeq E P N ops f0 rs eff hs ns) {n0 : Nat} {c0 : Cx} {Qr : Exit → Act → World → Prop}
    (hQ : ∀ c' a', Rel (hs (rnk eff ops.size)) c' → FRf E N (fAt rs f0 ops.size) c' a' → Fr (ns (rnk eff ops.size)) c' → Adv n0 c0 (ns (rnk eff ops.size)) c' → Qr .normal a' c'.w) :
    ∀ (fuel : Nat) (listed : Array Bool) (k : Nat) (c : Cx) (a : Act), At2 E N ops f0 rs eff hs ns n0 c0 listed k c a → unl listed = fuel → wpAnyIn E.fc 0 P .any ops Qr fuel listed a c.w := by
  have done : ∀ (listed : Array Bool) (k : Nat) (c : Cx) (a : Act), At2 E N ops f0 rs eff hs ns n0 c0 listed k c a → Region.ready .any ops listed = [] → Qr .normal a c.w := by
    intro listed k c a A hr
    have hall := all_listed G.stat A.size hr
    have hk : k = rnk eff ops.size := by
      rcases Nat.lt_or_ge k (rnk eff ops.size) with g | g
      · obtain ⟨j, h1, h2, h3⟩ := rnk_at g
        have := (A.pre j h1 h2).1 (hall j h1)
        omega
      · have := A.kle; omega
    subst hk
    have e : sel (rs.map Rec.tw) (fun q => listed.getD q false) 0 f0 = fAt rs f0 ops.size := by
      funext t
      refine sel_agree fun q w _ hw hne => ?_
      have hq := (List.getElem?_eq_some_iff.1 hw).1
      rw [Nat.sub_zero, List.length_map, G.len] at hq
      rw [hall q hq] at hne
      simp [hq] at hne
    have F := A.fr
    rw [e] at F
    exact hQ c a A.rel F A.free A.adv
  intro fuel
  induction fuel with
  | zero =>
    intro listed k c a A hf
    have hr := ready_nil_of A.size hf
    exact ⟨hr, done listed k c a A hr⟩
  | succ fuel ih =>
    intro listed k c a A hf
    refine ⟨done listed k c a A, fun i hi => ?_⟩
    obtain ⟨hun, o, ho, _⟩ := mem_ready.1 hi
    have hlt := (Array.getElem?_eq_some_iff.1 ho).1
    have hF : listed.getD i false = false := by rw [getD_lt (by rw [A.size]; exact hlt)] at hun ⊢; exact hun
    have hu := unl_set (by rw [A.size]; exact hlt) hF
    exact draw_step2 G A hi fun k' c' a' A' => ih _ k' c' a' A' (by omega)
theorem SWE_dseq (hm : P.follows .mixedOrders = true) {id : Nat} {Q : Post} {sa sb : SA} (G : DSeq E P N ops (look sa) rs eff hs ns) (hb : look sb = fAt rs (look sa) ops.size) (hQ : Q .normal sb (hs (rnk eff ops.size)) (ns (rnk eff ops.size))) :
    SWE E P N (.region id ops true) Q sa (hs 0) (ns 0) := by
  intro hd c a I R F A
  refine wpIn_region_any hm ?_
  have hg : ∀ i, (Array.replicate ops.size false).getD i false = false := fun i => by
    rw [Array.getD_eq_getD_getElem?]
    by_cases hi : i < ops.size <;> simp [hi]
  have hsel : ∀ (l : List (List (Nat × SV))) (f : Nat → SV), sel l (fun q => (Array.replicate ops.size false).getD q false) 0 f = f := fun l f => by
    funext t; exact sel_not fun q w _ hD => by rw [hg] at hD; cases hD
  have := draw_any2 G (n0 := ns 0) (c0 := c) (Qr := Lift E N (ns 0) c Q) (fun c' a' R' F' Fr' X' => ?_) ops.size (Array.replicate ops.size false) 0 c.drew a
    ⟨by simp, fun i o _ hl => (by rw [hg] at hl; cases hl), Nat.zero_le _, fun j _ _ => (by rw [hg]; simp), E.ext c.drew_ext I, R.drew, (by rw [hsel]; exact ⟨A.size, A.defers.mono c.drew_ext, fun t => V.mono c.drew_ext (A.val t)⟩), fun j hj => F j hj, ⟨c.drew_ext, Nat.le_refl _, fun _ _ => rfl⟩⟩ (by simp [unl])
  · exact this
  · exact ⟨sb, _, _, c', hQ, rfl, R', Fr', ⟨F'.size, F'.defers, fun t => by rw [hb]; exact F'.val t⟩, X'⟩
end
end Go.Proofs.YthinbkgpjmjfeaaGreatDoor.Sh
