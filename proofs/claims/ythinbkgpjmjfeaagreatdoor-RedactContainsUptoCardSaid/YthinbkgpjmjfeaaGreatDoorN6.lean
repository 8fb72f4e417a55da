/- A part of the proof (part 6 of 13). -/
import Derived.Test.YthinbkgpjmjfeaaGreatDoorN5
namespace Go.Proofs.YthinbkgpjmjfeaaGreatDoor.Sh
open Proofs
set_option maxRecDepth 10000
def form2 (x : Item) : Prop := (x.kind ≠ 6 → x.flow = []) ∧ (x.kind ≠ 7 → x.rows = [])
def formOK (x : Item) : Prop := (x.kind ≠ 6 → x.flow = []) ∧ (x.kind ≠ 7 → x.rows = []) ∧ cpValid x.text = true
structure Bx where
  b : Bool
set_option maxHeartbeats 2000000 in
theorem t222 (x : Item) (hx : x.sized) : TC 201 [x.enc] (Err (formOK x)) := by
  intro h n
  refine goS Tryz.func201 rfl (by kernel_rfl) (by kernel_rfl) (by simp [go_sem]) fun ho => ?_
  obtain ⟨X, hX⟩ : ∃ X : SV, X = .iptr [intE x.kind, intE x.code, intE x.id, .str x.text, propsE x.head.props, intE x.head.ins, intE x.head.move, delsE x.head.dels, layersE x.head.layers, itemsE x.flow, rowsE x.rows] := ⟨_, rfl⟩
  refine SP_mid 1 (α := Unit) (fun _ => [(1, X)]) (fun _ => h) (fun _ m => n ≤ m) ?_ (fun _ m hm => ?_)
  · rw [hX]
    simp [go_sem, Item.enc_eq]
    exact ⟨ptr_fz (ho.none (Nat.le_refl n)) (hset_at _ _ _), set_keep (fun j z e => (ho j z e).1) look_same⟩
  refine SP_mid 0 (α := Bx) (fun b => [(1, X), (3, .bool b.b)]) (fun _ => h) (fun _ m => n ≤ m) ?_ (fun b3 m hm => ?_)
  · rw [hX]
    by_cases k : x.kind = 8
    · simp [go_sem, Fz.same, k, hm]; exact ⟨⟨_⟩, rfl⟩
    · simp [go_sem, Fz.same, k, hm]; exact ⟨⟨_⟩, rfl⟩
  refine SP_mid 0 (α := Bx) (fun b => [(1, X), (3, .bool b3.b), (4, .bool b.b)]) (fun _ => h) (fun _ m => n ≤ m) ?_ (fun b4 m hm => ?_)
  · rw [hX]
    by_cases k : x.kind = 1
    · simp [go_sem, Fz.same, k, hm]; exact ⟨⟨_⟩, rfl⟩
    · by_cases k5 : x.kind = 5
      · simp [go_sem, Fz.same, k5, hm]; exact ⟨⟨_⟩, rfl⟩
      · simp [go_sem, Fz.same, k, k5, hm]; exact ⟨⟨_⟩, rfl⟩
  refine SP_mid 0 (α := Bx) (fun b => [(1, X), (3, .bool b3.b), (4, .bool b4.b), (5, .bool b.b)]) (fun _ => h) (fun _ m => n ≤ m) ?_ (fun b5 m hm => ?_)
  · rw [hX]
    by_cases k : x.kind = 6
    · simp [go_sem, Fz.same, k, hm]; exact ⟨⟨_⟩, rfl⟩
    · by_cases k5 : x.kind = 7
      · simp [go_sem, Fz.same, k5, hm]; exact ⟨⟨_⟩, rfl⟩
      · simp [go_sem, Fz.same, k, k5, hm]; exact ⟨⟨_⟩, rfl⟩
  obtain ⟨b3⟩ := b3
  obtain ⟨b4⟩ := b4
  obtain ⟨b5⟩ := b5
  dsimp only
  refine SP_mid 0 (α := Unit) (fun _ => [(1, X), (3, .bool b3), (4, .bool b4), (5, .bool b5), (6, .bool true)]) (fun _ => h) (fun _ m => n ≤ m) ?_ (fun _ m hm => ?_)
  · simp [go_sem, Fz.same, hm]
  refine SP_mid 0 (α := Bx) (fun b => [(1, X), (3, .bool b3), (4, .bool b4), (5, .bool b5), (6, .bool b.b)]) (fun _ => h) (fun _ m => n ≤ m) ?_ (fun b6 m hm => ?_)
  · rw [hX]
    by_cases k : x.kind = 4
    · simp [go_sem, k]
      refine PC.use (c155 _ _ _) ?_
      simp [go_sem, Fz.same, hm]; exact ⟨⟨_⟩, rfl⟩
    · by_cases k2 : x.kind = 6
      · simp [go_sem, k2]
        refine PC.use (c155 _ _ _) ?_
        simp [go_sem, Fz.same, hm]; exact ⟨⟨_⟩, rfl⟩
      · by_cases k3 : x.kind = 8
        · simp [go_sem, k3]
          refine PC.use (c155 _ _ _) ?_
          simp [go_sem, Fz.same, hm]; exact ⟨⟨_⟩, rfl⟩
        · simp [go_sem, Fz.same, k, k2, k3, hm]; exact ⟨⟨_⟩, rfl⟩
  obtain ⟨b6⟩ := b6
  dsimp only
  refine SP_mid 0 (α := Bx) (fun b => [(1, X), (3, .bool b3), (4, .bool b4), (5, .bool b5), (6, .bool b6), (7, .bool b.b)]) (fun _ => h) (fun _ m => n ≤ m) ?_ (fun b7 m hm => ?_)
  · rw [hX]
    by_cases k : x.kind = 4
    · simp [go_sem, Fz.same, k, hm]; exact ⟨⟨_⟩, rfl⟩
    · by_cases k5 : x.kind = 6
      · simp [go_sem, Fz.same, k5, hm]; exact ⟨⟨_⟩, rfl⟩
      · simp [go_sem, Fz.same, k, k5, hm]; exact ⟨⟨_⟩, rfl⟩
  obtain ⟨b7⟩ := b7
  dsimp only
  have out : ∀ (e : Int) (m : Nat), e ≠ 0 → RetS n h m (intE e) (fun v h' n' => Err (formOK x) v ∧ h' = h ∧ n' = n) := fun e m he => retT ho look_same (by simp [closed]) (Err.no he)
  refine SP_midS 0 (α := Unit) (fun _ => []) (fun _ => h) (fun _ m => n ≤ m ∧ formOK x) ?_ (fun _ m hm => ?_)
  · refine SP_block ?_
    refine SP_mid 0 (α := Bx) (fun b => [(1, X), (3, .bool b3), (4, .bool b4), (5, .bool b5), (7, .bool b7), (70, .bool b.b)]) (fun _ => h) (fun _ m => n ≤ m) ?_ (fun b70 m hm => ?_)
    · rw [hX]
      simp [go_sem]
      refine PC.use (c155 _ _ _) ?_
      by_cases c : 1 ≤ x.kind ∧ x.kind ≤ 8
      · simp [go_sem, Fz.same, c, hm]; exact ⟨⟨_⟩, rfl⟩
      · simp [go_sem, Fz.same, c, hm]; exact ⟨⟨_⟩, rfl⟩
    obtain ⟨b70⟩ := b70
    dsimp only
    refine SWE_cond (b := b70) (by simp [go_sem]) ?_
    cases b70 with
    | true => exact SP_of (by simp [go_sem]; exact out _ _ (by decide))
    | false =>
    simp only [Bool.false_eq_true, if_false]
    refine SP_mid 0 (α := Bx) (fun b => [(1, X), (3, .bool b3), (79, .bool b.b)]) (fun _ => h) (fun b m => n ≤ m ∧ (b.b = false → form2 x)) ?_ (fun b79 m hm => ?_)
    · rw [hX]
      clear out
      unfold form2
      cases b7 with
      | true =>
        cases b5 with
        | true =>
          cases b4 with
          | true =>
            by_cases k6 : x.kind = 6
            · by_cases r0 : x.rows = []
              · simp [go_sem, Fz.same, hm, k6, r0]
                exact ⟨⟨false⟩, rfl⟩
              · have r1 : 0 < x.rows.length := List.length_pos_iff.2 r0
                simp [go_sem, Fz.same, hm, k6, r1]
                exact ⟨⟨true⟩, by simp, rfl⟩
            · by_cases f0 : x.flow = []
              · by_cases k7 : x.kind = 7
                · simp [go_sem, Fz.same, hm, f0, k7]
                  exact ⟨⟨false⟩, rfl⟩
                · by_cases r0 : x.rows = []
                  · simp [go_sem, Fz.same, hm, k6, f0, k7, r0]
                    exact ⟨⟨false⟩, rfl⟩
                  · have r1 : 0 < x.rows.length := List.length_pos_iff.2 r0
                    simp [go_sem, Fz.same, hm, k6, f0, k7, r1]
                    exact ⟨⟨true⟩, by simp, rfl⟩
              · have f1 : 0 < x.flow.length := List.length_pos_iff.2 f0
                simp [go_sem, Fz.same, hm, k6, f1]
                exact ⟨⟨true⟩, by simp, rfl⟩
          | false =>
            by_cases t0 : x.text.toList = []
            · by_cases k6 : x.kind = 6
              · by_cases r0 : x.rows = []
                · simp [go_sem, Fz.same, hm, t0, k6, r0]
                  exact ⟨⟨false⟩, rfl⟩
                · have r1 : 0 < x.rows.length := List.length_pos_iff.2 r0
                  simp [go_sem, Fz.same, hm, t0, k6, r1]
                  exact ⟨⟨true⟩, by simp, rfl⟩
              · by_cases f0 : x.flow = []
                · by_cases k7 : x.kind = 7
                  · simp [go_sem, Fz.same, hm, t0, f0, k7]
                    exact ⟨⟨false⟩, rfl⟩
                  · by_cases r0 : x.rows = []
                    · simp [go_sem, Fz.same, hm, t0, k6, f0, k7, r0]
                      exact ⟨⟨false⟩, rfl⟩
                    · have r1 : 0 < x.rows.length := List.length_pos_iff.2 r0
                      simp [go_sem, Fz.same, hm, t0, k6, f0, k7, r1]
                      exact ⟨⟨true⟩, by simp, rfl⟩
                · have f1 : 0 < x.flow.length := List.length_pos_iff.2 f0
                  simp [go_sem, Fz.same, hm, t0, k6, f1]
                  exact ⟨⟨true⟩, by simp, rfl⟩
            · simp [go_sem, Fz.same, hm, t0]
              exact ⟨⟨true⟩, by simp, rfl⟩
        | false =>
          by_cases i0 : x.id = 0
          · cases b4 with
            | true =>
              by_cases k6 : x.kind = 6
              · by_cases r0 : x.rows = []
                · simp [go_sem, Fz.same, hm, i0, k6, r0]
                  exact ⟨⟨false⟩, rfl⟩
                · have r1 : 0 < x.rows.length := List.length_pos_iff.2 r0
                  simp [go_sem, Fz.same, hm, i0, k6, r1]
                  exact ⟨⟨true⟩, by simp, rfl⟩
              · by_cases f0 : x.flow = []
                · by_cases k7 : x.kind = 7
                  · simp [go_sem, Fz.same, hm, i0, f0, k7]
                    exact ⟨⟨false⟩, rfl⟩
                  · by_cases r0 : x.rows = []
                    · simp [go_sem, Fz.same, hm, i0, k6, f0, k7, r0]
                      exact ⟨⟨false⟩, rfl⟩
                    · have r1 : 0 < x.rows.length := List.length_pos_iff.2 r0
                      simp [go_sem, Fz.same, hm, i0, k6, f0, k7, r1]
                      exact ⟨⟨true⟩, by simp, rfl⟩
                · have f1 : 0 < x.flow.length := List.length_pos_iff.2 f0
                  simp [go_sem, Fz.same, hm, i0, k6, f1]
                  exact ⟨⟨true⟩, by simp, rfl⟩
            | false =>
              by_cases t0 : x.text.toList = []
              · by_cases k6 : x.kind = 6
                · by_cases r0 : x.rows = []
                  · simp [go_sem, Fz.same, hm, i0, t0, k6, r0]
                    exact ⟨⟨false⟩, rfl⟩
                  · have r1 : 0 < x.rows.length := List.length_pos_iff.2 r0
                    simp [go_sem, Fz.same, hm, i0, t0, k6, r1]
                    exact ⟨⟨true⟩, by simp, rfl⟩
                · by_cases f0 : x.flow = []
                  · by_cases k7 : x.kind = 7
                    · simp [go_sem, Fz.same, hm, i0, t0, f0, k7]
                      exact ⟨⟨false⟩, rfl⟩
                    · by_cases r0 : x.rows = []
                      · simp [go_sem, Fz.same, hm, i0, t0, k6, f0, k7, r0]
                        exact ⟨⟨false⟩, rfl⟩
                      · have r1 : 0 < x.rows.length := List.length_pos_iff.2 r0
                        simp [go_sem, Fz.same, hm, i0, t0, k6, f0, k7, r1]
                        exact ⟨⟨true⟩, by simp, rfl⟩
                  · have f1 : 0 < x.flow.length := List.length_pos_iff.2 f0
                    simp [go_sem, Fz.same, hm, i0, t0, k6, f1]
                    exact ⟨⟨true⟩, by simp, rfl⟩
              · simp [go_sem, Fz.same, hm, i0, t0]
                exact ⟨⟨true⟩, by simp, rfl⟩
          · simp [go_sem, Fz.same, hm, i0]
            exact ⟨⟨true⟩, by simp, rfl⟩
      | false =>
        by_cases c0 : x.code = 0
        · cases b5 with
          | true =>
            cases b4 with
            | true =>
              by_cases k6 : x.kind = 6
              · by_cases r0 : x.rows = []
                · simp [go_sem, Fz.same, hm, c0, k6, r0]
                  exact ⟨⟨false⟩, rfl⟩
                · have r1 : 0 < x.rows.length := List.length_pos_iff.2 r0
                  simp [go_sem, Fz.same, hm, c0, k6, r1]
                  exact ⟨⟨true⟩, by simp, rfl⟩
              · by_cases f0 : x.flow = []
                · by_cases k7 : x.kind = 7
                  · simp [go_sem, Fz.same, hm, c0, f0, k7]
                    exact ⟨⟨false⟩, rfl⟩
                  · by_cases r0 : x.rows = []
                    · simp [go_sem, Fz.same, hm, c0, k6, f0, k7, r0]
                      exact ⟨⟨false⟩, rfl⟩
                    · have r1 : 0 < x.rows.length := List.length_pos_iff.2 r0
                      simp [go_sem, Fz.same, hm, c0, k6, f0, k7, r1]
                      exact ⟨⟨true⟩, by simp, rfl⟩
                · have f1 : 0 < x.flow.length := List.length_pos_iff.2 f0
                  simp [go_sem, Fz.same, hm, c0, k6, f1]
                  exact ⟨⟨true⟩, by simp, rfl⟩
            | false =>
              by_cases t0 : x.text.toList = []
              · by_cases k6 : x.kind = 6
                · by_cases r0 : x.rows = []
                  · simp [go_sem, Fz.same, hm, c0, t0, k6, r0]
                    exact ⟨⟨false⟩, rfl⟩
                  · have r1 : 0 < x.rows.length := List.length_pos_iff.2 r0
                    simp [go_sem, Fz.same, hm, c0, t0, k6, r1]
                    exact ⟨⟨true⟩, by simp, rfl⟩
                · by_cases f0 : x.flow = []
                  · by_cases k7 : x.kind = 7
                    · simp [go_sem, Fz.same, hm, c0, t0, f0, k7]
                      exact ⟨⟨false⟩, rfl⟩
                    · by_cases r0 : x.rows = []
                      · simp [go_sem, Fz.same, hm, c0, t0, k6, f0, k7, r0]
                        exact ⟨⟨false⟩, rfl⟩
                      · have r1 : 0 < x.rows.length := List.length_pos_iff.2 r0
                        simp [go_sem, Fz.same, hm, c0, t0, k6, f0, k7, r1]
                        exact ⟨⟨true⟩, by simp, rfl⟩
                  · have f1 : 0 < x.flow.length := List.length_pos_iff.2 f0
                    simp [go_sem, Fz.same, hm, c0, t0, k6, f1]
                    exact ⟨⟨true⟩, by simp, rfl⟩
              · simp [go_sem, Fz.same, hm, c0, t0]
                exact ⟨⟨true⟩, by simp, rfl⟩
          | false =>
            by_cases i0 : x.id = 0
            · cases b4 with
              | true =>
                by_cases k6 : x.kind = 6
                · by_cases r0 : x.rows = []
                  · simp [go_sem, Fz.same, hm, c0, i0, k6, r0]
                    exact ⟨⟨false⟩, rfl⟩
                  · have r1 : 0 < x.rows.length := List.length_pos_iff.2 r0
                    simp [go_sem, Fz.same, hm, c0, i0, k6, r1]
                    exact ⟨⟨true⟩, by simp, rfl⟩
                · by_cases f0 : x.flow = []
                  · by_cases k7 : x.kind = 7
                    · simp [go_sem, Fz.same, hm, c0, i0, f0, k7]
                      exact ⟨⟨false⟩, rfl⟩
                    · by_cases r0 : x.rows = []
                      · simp [go_sem, Fz.same, hm, c0, i0, k6, f0, k7, r0]
                        exact ⟨⟨false⟩, rfl⟩
                      · have r1 : 0 < x.rows.length := List.length_pos_iff.2 r0
                        simp [go_sem, Fz.same, hm, c0, i0, k6, f0, k7, r1]
                        exact ⟨⟨true⟩, by simp, rfl⟩
                  · have f1 : 0 < x.flow.length := List.length_pos_iff.2 f0
                    simp [go_sem, Fz.same, hm, c0, i0, k6, f1]
                    exact ⟨⟨true⟩, by simp, rfl⟩
              | false =>
                by_cases t0 : x.text.toList = []
                · by_cases k6 : x.kind = 6
                  · by_cases r0 : x.rows = []
                    · simp [go_sem, Fz.same, hm, c0, i0, t0, k6, r0]
                      exact ⟨⟨false⟩, rfl⟩
                    · have r1 : 0 < x.rows.length := List.length_pos_iff.2 r0
                      simp [go_sem, Fz.same, hm, c0, i0, t0, k6, r1]
                      exact ⟨⟨true⟩, by simp, rfl⟩
                  · by_cases f0 : x.flow = []
                    · by_cases k7 : x.kind = 7
                      · simp [go_sem, Fz.same, hm, c0, i0, t0, f0, k7]
                        exact ⟨⟨false⟩, rfl⟩
                      · by_cases r0 : x.rows = []
                        · simp [go_sem, Fz.same, hm, c0, i0, t0, k6, f0, k7, r0]
                          exact ⟨⟨false⟩, rfl⟩
                        · have r1 : 0 < x.rows.length := List.length_pos_iff.2 r0
                          simp [go_sem, Fz.same, hm, c0, i0, t0, k6, f0, k7, r1]
                          exact ⟨⟨true⟩, by simp, rfl⟩
                    · have f1 : 0 < x.flow.length := List.length_pos_iff.2 f0
                      simp [go_sem, Fz.same, hm, c0, i0, t0, k6, f1]
                      exact ⟨⟨true⟩, by simp, rfl⟩
                · simp [go_sem, Fz.same, hm, c0, i0, t0]
                  exact ⟨⟨true⟩, by simp, rfl⟩
            · simp [go_sem, Fz.same, hm, c0, i0]
              exact ⟨⟨true⟩, by simp, rfl⟩
        · simp [go_sem, Fz.same, hm, c0]
          exact ⟨⟨true⟩, by simp, rfl⟩
    obtain ⟨b79⟩ := b79
    dsimp only at hm ⊢
    refine SWE_cond (b := b79) (by simp [go_sem]) ?_
    cases b79 with
    | true => exact SP_of (by simp [go_sem]; exact out _ _ (by decide))
    | false =>
    simp only [Bool.false_eq_true, if_false]
    refine SP_mid 0 (α := Bx) (fun b => [(1, X), (3, .bool b3), (127, .bool b.b)]) (fun _ => h) (fun b m => n ≤ m ∧ (b.b = false → cpValid x.text = true)) ?_ (fun b127 m hm2 => ?_)
    · rw [hX]
      simp [go_sem]
      refine PC.use (c116 x.text (by have := (sized_parts hx).2.1; omega)) ?_
      simp [go_sem, Fz.same, hm.1]; exact ⟨⟨!cpValid x.text⟩, by simp, rfl⟩
    obtain ⟨b127⟩ := b127
    dsimp only at hm2 ⊢
    obtain ⟨hm2, hval⟩ := hm2
    refine SWE_cond (b := b127) (by simp [go_sem]) ?_
    cases b127 with
    | true => exact SP_of (by simp [go_sem]; exact out _ _ (by decide))
    | false =>
    simp only [Bool.false_eq_true, if_false]
    refine SP_mid 0 (α := Bx) (fun b => [(1, X), (3, .bool b3), (132, .bool b.b)]) (fun _ => h) (fun b m => n ≤ m) ?_ (fun b132 m hm2 => ?_)
    · rw [hX]
      by_cases k1 : x.kind = 1
      · simp [go_sem, Fz.same, k1, hm2]; exact ⟨⟨_⟩, rfl⟩
      · by_cases k5 : x.kind = 5
        · simp [go_sem, Fz.same, k5, hm2]; exact ⟨⟨_⟩, rfl⟩
        · simp [go_sem, Fz.same, k1, k5, hm2]; exact ⟨⟨_⟩, rfl⟩
    obtain ⟨b132⟩ := b132
    dsimp only
    refine SWE_cond (b := b132) (by simp [go_sem]) ?_
    cases b132 with
    | true => exact SP_of (by simp [go_sem]; exact out _ _ (by decide))
    | false =>
    simp only [Bool.false_eq_true, if_false]
    refine SP_mid 0 (α := Bx) (fun b => [(1, X), (3, .bool b3), (146, .bool b.b)]) (fun _ => h) (fun b m => n ≤ m) ?_ (fun b146 m hm2 => ?_)
    · rw [hX]
      by_cases k5 : x.kind = 5
      · simp [go_sem, Fz.same, k5, hm2]; exact ⟨⟨_⟩, rfl⟩
      · simp [go_sem, Fz.same, k5, hm2]; exact ⟨⟨_⟩, rfl⟩
    obtain ⟨b146⟩ := b146
    dsimp only
    refine SWE_cond (b := b146) (by simp [go_sem]) ?_
    cases b146 with
    | true => exact SP_of (by simp [go_sem]; exact out _ _ (by decide))
    | false =>
    simp only [Bool.false_eq_true, if_false]
    refine SP_mid 0 (α := Bx) (fun b => [(156, .bool b.b)]) (fun _ => h) (fun b m => n ≤ m) ?_ (fun b156 m hm2 => ?_)
    · rw [hX]
      cases b3 with
      | false => simp [go_sem, hm2]; exact ⟨⟨_⟩, rfl⟩
      | true =>
        simp [go_sem]
        refine PC.use (c219 x.text) ?_
        simp [go_sem, hm2]; exact ⟨⟨_⟩, rfl⟩
    obtain ⟨b156⟩ := b156
    dsimp only
    refine SWE_cond (b := b156) (by simp [go_sem]) ?_
    cases b156 with
    | true => exact SP_of (by simp [go_sem]; exact out _ _ (by decide))
    | false =>
    refine SP_of ?_
    simp [go_sem]
    exact ⟨hm2, (hm.2 rfl).1, (hm.2 rfl).2, hval rfl⟩
  · refine SP_of ?_
    simp [go_sem]
    exact retT ho look_same (by simp [closed]) (Err.ok hm.2)
def kvI (l : List (Int × Int)) : List (SV × SV) := l.map fun x => (intE x.1, intE x.2)
theorem findS_int (x : Int) : ∀ (l : List (Int × Int)) (i : Nat), findS (intE x) (kvI l) i = some none ∨ ∃ j k, findS (intE x) (kvI l) i = some (some (j, intE k))
  | [], i => .inl rfl
  | a :: l, i => by
    by_cases e : x = a.1
    · exact .inr ⟨i, a.2, by simp [kvI, findS, keyEq, e]⟩
    · have : (x == a.1) = false := by simpa using e
      rcases findS_int x l (i + 1) with h | ⟨j, k, h⟩
      · left; simp only [kvI, List.map_cons, findS, keyEq, if_true, this]; exact h
      · right; refine ⟨j, k, ?_⟩; simp only [kvI, List.map_cons, findS, keyEq, if_true, this]; exact h
structure Ck where
  p : Nat
  s0 : Nat
  s1 : Nat
  s2 : Nat
  s3 : Nat
  s4 : Nat
  m0 : List (Int × Int)
  m1 : List Int
  m2 : List Int
structure Ck.ok (K : Ck) (n0 : Nat) : Prop where
  nd : [K.p, K.s0, K.s1, K.s2, K.s3, K.s4].Nodup
  lt : ∀ o ∈ [K.p, K.s0, K.s1, K.s2, K.s3, K.s4], o < n0
abbrev CkS := List Int × Int
def Ck.cells (K : Ck) (c : Int) : List SV := [.map K.s0, .map K.s1, .map K.s2, .map K.s3, .map K.s4, intE c]
def Ck.st (K : Ck) (s : CkS) (o : Nat) : Option SObj :=
  if o = K.p then some (.cells (K.cells s.2)) else if o = K.s3 then some (.map (kvT s.1)) else if o = K.s0 then some (.map (kvI K.m0)) else if o = K.s1 then some (.map (kvT K.m1)) else if o = K.s2 then some (.map (kvT K.m2)) else if o = K.s4 then some (.map []) else none
section
variable {K : Ck} {n0 : Nat}
theorem Ck.ok.clo (h : K.ok n0) : Clo K.st n0 0 [] [] (fun s p => (p.head, true, s)) (fun _ => False) where
  lt s o ho := by
    have h1 := h.lt
    simp only [List.mem_cons, List.not_mem_nil, or_false, forall_eq_or_imp, forall_eq] at h1
    unfold Ck.st
    rw [if_neg (by omega), if_neg (by omega), if_neg (by omega), if_neg (by omega), if_neg (by omega), if_neg (by omega)]
  dom s s' o ho := by
    unfold Ck.st at ho ⊢
    repeat' split at ho
    all_goals first | cases ho | skip
    simp only [*, if_false]
  cl s o y ho := by
    have h1 := h.lt
    simp only [List.mem_cons, List.not_mem_nil, or_false, forall_eq_or_imp, forall_eq] at h1
    unfold Ck.st at ho
    repeat' split at ho
    all_goals first | cases ho | skip
    · simp [closedO, Ck.cells, closed, closedL]; omega
    · exact kvT_closed _ _
    · simp [closedO, kvI, closed]
    · exact kvT_closed _ _
    · exact kvT_closed _ _
    · simp [closedO]
  call := fun _ _ _ _ h => h.elim
structure Ck.has (K : Ck) (s : CkS) (H : Hp) : Prop where
  p : H K.p = some (.cells (K.cells s.2))
  s0 : H K.s0 = some (.map (kvI K.m0))
  s1 : H K.s1 = some (.map (kvT K.m1))
  s2 : H K.s2 = some (.map (kvT K.m2))
  s3 : H K.s3 = some (.map (kvT s.1))
  s4 : H K.s4 = some (.map [])
theorem Ck.ok.has (h : K.ok n0) {s : CkS} {H : Hp} (hs : ∀ o y, K.st s o = some y → H o = some y) : K.has s H := by
  have h1 := h.nd
  simp only [List.nodup_cons, List.mem_cons, List.not_mem_nil, or_false, not_or] at h1
  obtain ⟨⟨a1, a2, a3, a4, a5⟩, ⟨b2, b3, b4, b5⟩, ⟨c3, c4, c5⟩, ⟨d4, d5⟩, e5, _⟩ := h1
  constructor <;> refine hs _ _ ?_ <;> unfold Ck.st <;> simp [*, Ne.symm, eq_comm]
theorem ret_eU {H : Hp} {n n' : Nat} {h2 : Hp} (e : Int) {T : Int → Prop} (ho : Old H n) (hh : ∀ j y, H j = some y → h2 j = some y) (ht : T e) : RetS n h2 n' (intE e) (fun v h' n' => (∃ e, v = intE e ∧ T e) ∧ h' = H ∧ n' = n) :=
  .inr ⟨0, intE e, H, Fz.same, by simp [closed], fun j x g => ⟨hh j x g, ho j x g⟩, ⟨e, rfl, ht⟩, rfl, rfl⟩
set_option maxHeartbeats 1000000 in
theorem d157 (hK : K.ok n0) (s : CkS) (kind id : Int) {H : Hp} {n : Nat} (hs : ∀ o y, K.st s o = some y → H o = some y) :
    SCall Tryz.prog 150 [.ptr K.p 0, intE kind, intE id] H n (fun v h' n' => (∃ e, v = intE e) ∧ h' = H ∧ n' = n) := by
  refine go Tryz.func150 rfl (by kernel_rfl) (by kernel_rfl) (by simp [go_sem]) fun ho => ?_
  obtain ⟨hp, h0, h1, h2, h3, h4⟩ := hK.has hs
  have fin : ∀ (e : Int) (m : Nat), RetS n H m (intE e) (fun v h' n' => (∃ e, v = intE e) ∧ h' = H ∧ n' = n) := fun e m => by have := ret_eU (T := fun _ => True) (n' := m) e ho look_same trivial; simpa using this
  simp only [Ck.cells] at hp
  have main : kind = 20 ∨ kind = 1 ∨ (kind ≠ 20 ∧ kind ≠ 1) := by omega
  rcases main with e | e | ⟨e, e'⟩
  · by_cases i0 : id = 0
    · simp [go_sem, e, i0]
      refine (c87 _ _).use ?_
      simp [go_sem]; exact fin _ _
    · rcases findS_int id K.m0 0 with f | ⟨j, k, f⟩
      · simp [go_sem, e, i0, hp, h0, f, keyOk]
        refine (c87 _ _).use ?_
        simp [go_sem]; exact fin _ _
      · simp [go_sem, e, i0, hp, h0, f, keyOk]
        refine (c87 _ _).use ?_
        simp [go_sem]; exact fin _ _
  · by_cases i0 : id = 0
    · simp [go_sem, e, i0]
      refine (c87 _ _).use ?_
      simp [go_sem]; exact fin _ _
    · rcases findS_int id K.m0 0 with f | ⟨j, k, f⟩
      · simp [go_sem, e, i0, hp, h0, f, keyOk]
        refine (c87 _ _).use ?_
        simp [go_sem]; exact fin _ _
      · simp [go_sem, e, i0, hp, h0, f, keyOk]
        refine (c87 _ _).use ?_
        simp [go_sem]; exact fin _ _
  · by_cases e3 : kind = 33
    · by_cases i0 : id = 0
      · simp [go_sem, e3, i0]
        refine (c87 _ _).use ?_
        simp [go_sem]; exact fin _ _
      · by_cases hm : id ∈ K.m1
        · obtain ⟨j, f, _⟩ := findS_yes 0 hm
          simp [go_sem, e3, i0, hp, h1, f, keyOk]
          refine (c87 _ _).use ?_
          simp [go_sem]; exact fin _ _
        · have f := findS_no 0 hm
          simp [go_sem, e3, i0, hp, h1, f, keyOk]
          refine (c87 _ _).use ?_
          simp [go_sem]; exact fin _ _
    · simp [go_sem, e, e', e3]; exact fin _ _
def CQ (K : Ck) (T : Int → CkS → Prop) (H : Hp) (n : Nat) : SV → Hp → Nat → Prop := fun v h' n' => ∃ e s', v = intE e ∧ T e s' ∧ h' = upS K.st s' H ∧ n' = n
theorem Ck.ok.ret (hK : K.ok n0) {T : Int → CkS → Prop} {H h2 : Hp} {n m : Nat} (hn : n0 ≤ n) (ho : Old H n) (e : Int) (s' : CkS) (hT : T e s') (hh : ∀ j y, upS K.st s' H j = some y → h2 j = some y) : RetS n h2 m (intE e) (CQ K T H n) :=
  .inr ⟨0, intE e, upS K.st s' H, Fz.same, by simp [closed], fun j x g => ⟨hh j x g, hK.clo.old s' hn ho j x g⟩, e, s', rfl, hT, rfl, rfl⟩
theorem Ck.ok.no (hK : K.ok n0) {T : Int → CkS → Prop} {H h2 : Hp} {n m : Nat} (hn : n0 ≤ n) (ho : Old H n) (s : CkS) (hs : ∀ o y, K.st s o = some y → H o = some y) (e : Int) (hT : T e s) (hh : ∀ j y, H j = some y → h2 j = some y) : RetS n h2 m (intE e) (CQ K T H n) :=
  hK.ret hn ho e s hT (by rw [upS_self s H hs]; exact hh)
theorem kvT_push (l : List Int) (x : Int) : kvT l ++ [(intE x, .bool true)] = kvT (l ++ [x]) := by simp [kvT]
def idT (s : CkS) (id : Int) (e : Int) (s' : CkS) : Prop := e = 0 → s' = (s.1 ++ [id], s.2) ∧ 1 ≤ id ∧ id ≤ 1073741824 ∧ id ∉ s.1
theorem Ck.ok.up_ids (hK : K.ok n0) (s : CkS) (l : List Int) {H : Hp} (hs : ∀ o y, K.st s o = some y → H o = some y) : upS K.st (l, s.2) H = hset H K.s3 (some (.map (kvT l))) := by
  have h1 := hK.nd
  simp only [List.nodup_cons, List.mem_cons, List.not_mem_nil, or_false, not_or] at h1
  obtain ⟨⟨a1, a2, a3, a4, a5⟩, ⟨b2, b3, b4, b5⟩, ⟨c3, c4, c5⟩, ⟨d4, d5⟩, e5, _⟩ := h1
  funext o
  have g := hs o
  simp only [upS, Ck.st, hset] at g ⊢
  by_cases q0 : o = K.p
  · subst q0; simp only [if_true] at g ⊢; rw [if_neg a4]; exact (g _ rfl).symm
  · by_cases q1 : o = K.s3
    · have a4' : ¬ K.s3 = K.p := fun h => a4 h.symm
      simp [q1, a4']
    · simp only [q0, q1, if_false] at g ⊢
      split
      · rename_i y hy; exact (g y hy).symm
      · rfl
set_option maxHeartbeats 1000000 in
theorem d223 (hK : K.ok n0) (s : CkS) (id : Int) {H : Hp} {n : Nat} (hn : n0 ≤ n) (hs : ∀ o y, K.st s o = some y → H o = some y) :
    SCall Tryz.prog 202 [.ptr K.p 0, intE id] H n (CQ K (idT s id) H n) := by
  refine go Tryz.func202 rfl (by kernel_rfl) (by kernel_rfl) (by simp [go_sem]) fun ho => ?_
  obtain ⟨hp, h0, h1, h2, h3, h4⟩ := hK.has hs
  have no : ∀ (e : Int) (m : Nat), e ≠ 0 → RetS n H m (intE e) (CQ K (idT s id) H n) := fun e m he => hK.no hn ho s hs e (fun g => absurd g he) look_same
  simp only [Ck.cells] at hp
  by_cases r : 1 ≤ id ∧ id ≤ 1073741824
  · have f4 : findS (intE id) [] 0 = some none := rfl
    by_cases hm : id ∈ s.1
    · obtain ⟨j, f, _⟩ := findS_yes 0 hm
      simp [go_sem]
      refine (c155 _ _ _).use ?_
      simp [go_sem, r, hp, h4, h3, f, keyOk]
      exact no 7 _ (by decide)
    · have f := findS_no 0 hm
      simp [go_sem]
      refine (c155 _ _ _).use ?_
      simp [go_sem, r, hp, h4, h3, f, keyOk]
      refine hK.ret hn ho 0 (s.1 ++ [id], s.2) (fun _ => ⟨rfl, r.1, r.2, hm⟩) ?_
      rw [hK.up_ids s _ hs, kvT_push]
      exact look_same
  · simp [go_sem]
    refine (c155 _ _ _).use ?_
    simp [go_sem, r]
    exact no 18 _ (by decide)
end
def trL : Tr := .pure 0 <| .pure 1 <| .pure 2 <| .pure 3 <| .pure 5 <| .pure 6 <| .pure 7 <| .pure 8 <| .pure 9 <| .one 4 <| .one 10 <| .one 11 <| .one 12 <| .one 13 .nil
section
variable {K : Ck} {n0 : Nat}
def layT (K : Ck) (s : CkS) (x : Layer) (e : Int) (s' : CkS) : Prop := s' = s ∧ (e = 0 → x.rev ∈ K.m2)
set_option maxHeartbeats 2000000 in
theorem d159 (hK : K.ok n0) (s : CkS) (el : Int) (ls : List Layer) (hls : ls.length ≤ 1048576) (i : Nat) (hi : i < ls.length) {H : Hp} {n : Nat} (hn : n0 ≤ n) (hs : ∀ o y, K.st s o = some y → H o = some y) :
    SCall Tryz.prog 152 [.ptr K.p 0, intE el, layersE ls, intE i] H n (CQ K (layT K s ls[i]) H n) := by
  refine goS Tryz.func152 rfl (by kernel_rfl) (by kernel_rfl) (by simp [go_sem]) fun ho => ?_
  obtain ⟨x, hx⟩ : ∃ x, ls[i] = x := ⟨_, rfl⟩
  obtain ⟨hp, _, _, h2, _, _⟩ := hK.has hs
  simp only [Ck.cells] at hp
  have hKp : K.p < n := by have := hK.lt K.p (by simp); omega
  have hKs : K.s2 < n := by have := hK.lt K.s2 (by simp); omega
  have hHb : ∀ j y, H j = some y → j < n := fun j y e => (ho j y e).1
  have no : ∀ (e : Int) (m : Nat), e ≠ 0 → RetS n H m (intE e) (CQ K (layT K s ls[i]) H n) := fun e m he => hK.no hn ho s hs e ⟨rfl, fun g => absurd g he⟩ look_same
  refine SP_mid 0 (α := Unit) (fun _ => [(0, .ptr K.p 0), (1, intE el), (2, layersE ls), (3, intE i)]) (fun _ => H) (fun _ m => n = m) ?_ (fun _ m hm => ?_)
  · simp [go_sem, Fz.same]
  subst hm
  refine SP_mid 1 (α := Unit) (fun _ => [(0, .ptr K.p 0), (1, intE el), (2, layersE ls), (3, intE i), (9, .iptr [intE x.rev, intE x.key, intE x.before, .bool x.had])]) (fun _ => H) (fun _ m => n ≤ m) ?_ (fun _ m hm => ?_)
  · simp [go_sem, Fz.same, hi, hx, Layer.enc, hset_at]
    exact ⟨ptr_fz (lt_none hHb (Nat.le_refl _)) (hset_at _ _ _), set_keep hHb (set_keep hHb look_same)⟩
  rw [hx] at no ⊢
  refine SP_midS 0 (α := Unit) (fun _ => [(0, .ptr K.p 0), (9, .iptr [intE x.rev, intE x.key, intE x.before, .bool x.had])]) (fun _ => H) (fun _ m => n ≤ m ∧ x.rev ∈ K.m2) ?_ (fun _ m hm => ?_)
  · refine SP_block ?_
    refine SP_mid 0 (α := Bx) (fun b => [(0, .ptr K.p 0), (1, intE el), (2, layersE ls), (3, intE i), (9, .iptr [intE x.rev, intE x.key, intE x.before, .bool x.had]), (14, .bool b.b)]) (fun _ => H) (fun b m => n ≤ m ∧ (b.b = false → x.rev ∈ K.m2)) ?_ (fun b m hm => ?_)
    · by_cases hr : x.rev ∈ K.m2
      · obtain ⟨j, f, _⟩ := findS_yes 0 hr
        simp [go_sem, Fz.same, hp, h2, f, keyOk, hm, hr]
        repeat first | refine nd (by kernel_rfl) ?_ | refine sd (by kernel_rfl) ?_ | refine And.intro (by omega) ?_
        first | exact ⟨⟨false⟩, fun _ => hr, rfl⟩ | exact ⟨⟨false⟩, rfl⟩
      · have f := findS_no 0 hr
        simp [go_sem, Fz.same, hp, h2, f, keyOk, hm, hr]
        repeat first | refine nd (by kernel_rfl) ?_ | refine sd (by kernel_rfl) ?_ | refine And.intro (by omega) ?_
        first | exact ⟨⟨true⟩, by simp, rfl⟩ | exact ⟨⟨true⟩, rfl⟩
    obtain ⟨b⟩ := b
    dsimp only at hm ⊢
    refine SWE_cond (b := b) (by simp [go_sem]) ?_
    cases b with
    | true => exact SP_of (by simp [go_sem]; exact no 22 _ (by decide))
    | false =>
    simp only [Bool.false_eq_true, if_false]
    have hm2 := hm.2 rfl
    refine SP_mid 0 (α := Bx) (fun b => [(0, .ptr K.p 0), (1, intE el), (2, layersE ls), (3, intE i), (9, .iptr [intE x.rev, intE x.key, intE x.before, .bool x.had]), (23, .bool b.b)]) (fun _ => H) (fun b m => n ≤ m) ?_ (fun b m hm => ?_)
    · simp [go_sem]
      refine (c220 _ _).use ?_
      simp [go_sem, Fz.same, hm.1]; exact ⟨⟨_⟩, rfl⟩
    obtain ⟨b⟩ := b
    dsimp only at hm ⊢
    refine SWE_cond (b := b) (by simp [go_sem]) ?_
    cases b with
    | true => exact SP_of (by simp [go_sem]; exact no 4 _ (by decide))
    | false =>
    simp only [Bool.false_eq_true, if_false]
    refine SP_mid 0 (α := Bx) (fun b => [(0, .ptr K.p 0), (9, .iptr [intE x.rev, intE x.key, intE x.before, .bool x.had]), (29, .bool b.b)]) (fun _ => H) (fun b m => n ≤ m) ?_ (fun b m hm => ?_)
    · by_cases i0 : 0 < i
      · have hi1 : i - 1 < ls.length := by omega
        obtain ⟨y, hy⟩ : ∃ y, ls[i - 1] = y := ⟨_, rfl⟩
        have w : IntKind.i64.wrap ((i : Int) - 1) = ((i - 1 : Nat) : Int) := by rw [wr64] <;> omega
        simp [go_sem, Fz.same, i0, w, hi1, hy, Layer.enc, hm]
        repeat first | refine nd (by kernel_rfl) ?_ | refine sd (by kernel_rfl) ?_ | refine And.intro (by omega) ?_
        exact ⟨⟨_⟩, rfl⟩
      · simp [go_sem, Fz.same, i0, hm]
        repeat first | refine nd (by kernel_rfl) ?_ | refine sd (by kernel_rfl) ?_ | refine And.intro (by omega) ?_
        exact ⟨⟨_⟩, rfl⟩
    obtain ⟨b⟩ := b
    dsimp only at hm ⊢
    refine SWE_cond (b := b) (by simp [go_sem]) ?_
    cases b with
    | true => exact SP_of (by simp [go_sem]; exact no 6 _ (by decide))
    | false =>
    simp only [Bool.false_eq_true, if_false]
    refine SP_of ?_
    cases hh : x.had with
    | false =>
      simp [go_sem]
      refine (c87 _ _).use ?_
      simp [go_sem]
      exact hK.no hn ho s hs _ ⟨rfl, fun _ => hm2⟩ look_same
    | true =>
      simp [go_sem, Fz.same]
      exact ⟨hm, hm2⟩
  · have ret : ∀ (e : Int) (H2 : Hp) (m : Nat), (∀ j y, H j = some y → H2 j = some y) → RetS n H2 m (intE e) (CQ K (layT K s x) H n) := fun e H2 m hh => hK.no hn ho s hs e ⟨rfl, fun _ => hm.2⟩ hh
    refine SP_midS 0 (α := Int) (fun e => [(8, intE e)]) (fun _ => H) (fun _ m => n ≤ m) (SP_tr trL rfl (by kernel_rfl) (by kernel_rfl) ?_) (fun e m hm => ?_)
    · simp [go_sem, trL]
      refine (c221 _ _).use ?_
      simp [go_sem]
      refine SC.use (d157 hK s x.key x.before hs) ?_
      rintro v H' n' ⟨⟨e, rfl⟩, rfl, rfl⟩
      simp [go_sem]
      refine SCallE.fz (bs := [.imm 1 ([valueErr x.key x.before, e].map intE) false]) (h2 := H') 1 (set_keep (fun j z e => by have := hHb j z e; omega) look_same) ⟨?_, trivial⟩ ?_
      · exact sl_fz (es := [intE (valueErr x.key x.before), intE e]) (lt_none hHb hm.1) (by simp) (by rw [hset_at]; simp [SV.cells]) (by simp [SV.storable, SV.cells])
      refine (c82 _ (by simp)).use ?_
      simp [go_sem]
      first | exact ⟨by omega, _, Fz.same⟩ | exact ⟨_, by omega, Fz.same⟩ | exact ⟨_, Fz.same⟩
    · refine SP_of ?_
      simp [go_sem]
      exact ret _ _ _ look_same
end
section
variable {K : Ck} {n0 : Nat}
def allT (I : CkS → Prop) (e : Int) (s' : CkS) : Prop := e = 0 → I s'
theorem d150 (hK : K.ok n0) (N : Nat) (hN : N ≤ 1048576) (g : FuncId) (a b : List SV) (I : Nat → CkS → Prop)
    (step : ∀ i s' H n, i < N → I i s' → n0 ≤ n → (∀ o y, K.st s' o = some y → H o = some y) → SCall Tryz.prog g (a ++ [intE i] ++ b) H n (CQ K (allT (I (i + 1))) H n))
    (s : CkS) (h0 : I 0 s) {H : Hp} {n : Nat} (hn : n0 ≤ n) (hs : ∀ o y, K.st s o = some y → H o = some y) :
    SCall Tryz.prog 143 [intE N, .fn (.func g) a b] H n (CQ K (allT (I N)) H n) := by
  have D := hK.clo
  refine go Tryz.func143 rfl (by kernel_rfl) (by kernel_rfl) (by simp [go_sem]) fun ho => ?_
  simp [go_sem]
  refine goloop 0 (α := Nat × CkS) (fun q => [(1, .fn (.func g) a b), (7, intE N), (8, intE q.1)]) (fun q => upS K.st q.2 H) (fun q m => q.1 ≤ N ∧ n ≤ m ∧ I q.1 q.2) (fun q => N - q.1) (0, s) ?_ ?_ ?_ ?_
  · exact ⟨Nat.zero_le _, Nat.le_refl _, h0⟩
  · simp [look, Fz]
  · rw [upS_self s H hs]; exact look_same
  rintro ⟨i, s'⟩ m ⟨hi, hnm, hI⟩
  dsimp only at hi hI ⊢
  by_cases hlt : i < N
  · have w1 : IntKind.i64.wrap ((i : Int) + 1) = ((i + 1 : Nat) : Int) := by rw [wr64] <;> omega
    have hc := step i s' (upS K.st s' H) m hlt hI (by omega) has_up
    simp only [List.append_assoc, List.cons_append, List.nil_append] at hc
    simp [go_sem, hlt]
    refine SC.use hc ?_
    rintro v H' n' ⟨e, s2, rfl, hT, rfl, rfl⟩
    rw [D.up2]
    by_cases e0 : e = 0
    · subst e0
      simp [go_sem, w1, -Int.natCast_add]
      exact ⟨i + 1, by omega, s2.1, s2.2, ⟨by omega, hnm, hT rfl⟩, rfl, look_same⟩
    · simp [go_sem, e0]
      exact hK.ret hn ho e s2 (fun g => absurd g e0) look_same
  · have : i = N := by omega
    subst this
    simp [go_sem]
    exact hK.ret hn ho 0 s' (fun _ => hI) look_same
theorem d158 (hK : K.ok n0) (s : CkS) (el ins mv : Int) (dl : SV) (ls : List Layer) (hls : ls.length ≤ 1048576) (i : Nat) (hi : i < ls.length) {H : Hp} {n : Nat} (hn : n0 ≤ n) (hs : ∀ o y, K.st s o = some y → H o = some y) :
    SCall Tryz.prog 151 [intE i, .iptr [.ptr K.p 0], .iptr [intE el], .iptr [intE ins, intE mv, dl, layersE ls]] H n (CQ K (layT K s ls[i]) H n) := by
  refine go Tryz.func151 rfl (by kernel_rfl) (by kernel_rfl) (by simp [go_sem]) fun ho => ?_
  simp [go_sem]
  refine SC.use (d159 hK s el ls hls i hi hn hs) ?_
  rintro v H' n' ⟨e, s2, rfl, hT, rfl, rfl⟩
  simp [go_sem]
  exact hK.ret hn ho e s2 hT look_same
end
structure headOK0 (m2 : List Int) (h : Head) : Prop where
  ins : h.ins = 0 ∨ h.ins ∈ m2
  dlen : h.dels.length ≤ 16
  dels : ∀ x ∈ h.dels, x.rev ∈ m2
  llen : h.layers.length ≤ 64
  layers : ∀ x ∈ h.layers, x.rev ∈ m2
structure headOK (m2 : List Int) (h : Head) : Prop extends headOK0 m2 h where
  inc : ∀ i (hi : i < h.dels.length), 0 < i → h.dels[i - 1].rev < h.dels[i].rev
  mv : 0 ≤ h.move
  dmv : ∀ x ∈ h.dels, 0 ≤ x.move
section
variable {K : Ck} {n0 : Nat}
def headT (K : Ck) (s : CkS) (h : Head) (e : Int) (s' : CkS) : Prop := e = 0 → s' = s ∧ headOK K.m2 h
set_option maxHeartbeats 4000000 in
theorem d86 (hK : K.ok n0) (s : CkS) (el : Int) (hd : Head) (hsz : hd.sized) {H : Hp} {n : Nat} (hn : n0 ≤ n) (hs : ∀ o y, K.st s o = some y → H o = some y) :
    SCall Tryz.prog 82 [.ptr K.p 0, intE el, hd.enc] H n (CQ K (headT K s hd) H n) := by
  refine goS Tryz.func82 rfl (by kernel_rfl) (by kernel_rfl) (by simp [go_sem]) fun ho => ?_
  obtain ⟨hp, _, _, h2, _, _⟩ := hK.has hs
  simp only [Ck.cells] at hp
  have hKp : K.p < n := by have := hK.lt K.p (by simp); omega
  have hKs : K.s2 < n := by have := hK.lt K.s2 (by simp); omega
  have hHb : ∀ j y, H j = some y → j < n := fun j y e => (ho j y e).1
  have no : ∀ (e : Int) (m : Nat), e ≠ 0 → RetS n H m (intE e) (CQ K (headT K s hd) H n) := fun e m he => hK.no hn ho s hs e (fun g => absurd g he) look_same
  refine SP_mid 1 (α := Unit) (fun _ => [(3, .iptr [.ptr K.p 0]), (4, .iptr [intE el]), (5, .iptr hd.flat)]) (fun _ => H) (fun _ m => n ≤ m) ?_ (fun _ m hm => ?_)
  · simp [go_sem, Head.enc, Head.flat, Nat.add_assoc]
    refine ⟨⟨ptr_fz (lt_none hHb (by omega)) (by simp [hset]), ptr_fz (lt_none hHb (by omega)) (by simp [hset]), ptr_fz (lt_none hHb (by omega)) (by simp [hset])⟩, fun j y => ?_⟩
    have := hHb j y; simp only [hset]; grind
  refine SP_midS 0 (α := Unit) (fun _ => [(3, .iptr [.ptr K.p 0]), (4, .iptr [intE el]), (5, .iptr hd.flat)]) (fun _ => H) (fun _ m => n ≤ m) (SP_of ?_) (fun _ m hm => ?_)
  · simp [go_sem, Head.flat]
    refine (c156 el hd.props hsz.props).use ?_
    by_cases e0 : propCheck el hd.props = 0
    · simp [go_sem, e0, Fz.same, hm]
    · simp [go_sem, e0]; exact no _ _ e0
  refine SP_midS 0 (α := Unit) (fun _ => [(3, .iptr [.ptr K.p 0]), (4, .iptr [intE el]), (5, .iptr hd.flat)]) (fun _ => H) (fun _ m => n ≤ m) ?_ (fun _ m hm => ?_)
  · refine SP_mid 0 (α := Unit) (fun _ => [(3, .iptr [.ptr K.p 0]), (4, .iptr [intE el]), (5, .iptr hd.flat), (22, propsE hd.props), (23, intE hd.props.length), (24, intE 0)]) (fun _ => H) (fun _ m => n ≤ m) ?_ (fun _ m hm => ?_)
    · simp [go_sem, Fz.same, Head.flat, hm]
    refine SP_block (goloopS 0 (α := Nat) (fun i => [(3, .iptr [.ptr K.p 0]), (4, .iptr [intE el]), (5, .iptr hd.flat), (22, propsE hd.props), (23, intE hd.props.length), (24, intE i)]) (fun _ => H) (fun i m => i ≤ hd.props.length ∧ n ≤ m) (fun i => hd.props.length - i) 0 ⟨Nat.zero_le _, hm⟩ ?_ look_same ?_)
    · simp [go_sem, look, Fz.same]
    rintro i m ⟨hi, hm⟩
    refine SP_of ?_
    by_cases hlt : i < hd.props.length
    · obtain ⟨x, hx⟩ : ∃ x, hd.props[i] = x := ⟨_, rfl⟩
      have w1 : IntKind.i64.wrap ((i : Int) + 1) = ((i + 1 : Nat) : Int) := by have := hsz.props; rw [wr64] <;> omega
      simp [go_sem, hlt, hx, Prp.enc, hset_at]
      refine SC.use (d157 hK s x.key x.value (has_set hK.clo.lt (by omega) _ (has_set hK.clo.lt (by omega) _ hs))) ?_
      rintro v H' n' ⟨⟨e, rfl⟩, rfl, rfl⟩
      by_cases e0 : e = 0
      · subst e0
        simp [go_sem, w1, -Int.natCast_add]
        refine ⟨i + 1, by omega, ⟨by omega, by omega⟩, by simp [Fz.same], set_keep (fun j z e => by have := hHb j z e; omega) (set_keep (fun j z e => by have := hHb j z e; omega) look_same)⟩
      · simp [go_sem, e0]
        exact hK.no hn ho s hs e (fun g => absurd g e0) (set_keep (fun j z e => by have := hHb j z e; omega) (set_keep (fun j z e => by have := hHb j z e; omega) look_same))
    · simp [go_sem, hlt, Fz.same, hm]
  refine SP_mid 1 (α := Unit) (fun _ => [(3, .iptr [.ptr K.p 0]), (4, .iptr [intE el]), (11, .iptr [intE hd.ins, intE hd.move, delsE hd.dels, layersE hd.layers])]) (fun _ => H) (fun _ m => n ≤ m) ?_ (fun _ m hm => ?_)
  · simp [go_sem, Fz.same, Head.flat, hset_at]
    have hHm : ∀ j y, H j = some y → j < m := fun j y e => by have := hHb j y e; omega
    exact ⟨by omega, ptr_fz (lt_none hHm (Nat.le_refl _)) (hset_at _ _ _), set_keep hHm (set_keep hHm look_same)⟩
  refine SP_midS 0 (α := Unit) (fun _ => [(3, .iptr [.ptr K.p 0]), (4, .iptr [intE el]), (11, .iptr [intE hd.ins, intE hd.move, delsE hd.dels, layersE hd.layers])]) (fun _ => H) (fun _ m => n ≤ m ∧ (hd.ins = 0 ∨ hd.ins ∈ K.m2) ∧ hd.dels.length ≤ 16 ∧ 0 ≤ hd.move) ?_ (fun _ m hm => ?_)
  · refine SP_block ?_
    refine SP_mid 0 (α := Bx) (fun b => [(3, .iptr [.ptr K.p 0]), (4, .iptr [intE el]), (11, .iptr [intE hd.ins, intE hd.move, delsE hd.dels, layersE hd.layers]), (40, .bool b.b)]) (fun _ => H) (fun b m => n ≤ m ∧ (b.b = false → hd.ins = 0 ∨ hd.ins ∈ K.m2)) ?_ (fun b m hm => ?_)
    · by_cases i0 : hd.ins = 0
      · simp [go_sem, Fz.same, i0, hm]
        repeat first | refine nd (by kernel_rfl) ?_ | refine sd (by kernel_rfl) ?_ | refine And.intro (by omega) ?_
        exact ⟨⟨false⟩, rfl⟩
      · by_cases hr : hd.ins ∈ K.m2
        · obtain ⟨j, f, _⟩ := findS_yes 0 hr
          simp [go_sem, Fz.same, i0, hp, h2, f, keyOk, hm, hr]
          repeat first | refine nd (by kernel_rfl) ?_ | refine sd (by kernel_rfl) ?_ | refine And.intro (by omega) ?_
          exact ⟨⟨false⟩, rfl⟩
        · have f := findS_no 0 hr
          simp [go_sem, Fz.same, i0, hp, h2, f, keyOk, hm, hr]
          repeat first | refine nd (by kernel_rfl) ?_ | refine sd (by kernel_rfl) ?_ | refine And.intro (by omega) ?_
          exact ⟨⟨true⟩, by simp, rfl⟩
    obtain ⟨b⟩ := b
    dsimp only at hm ⊢
    refine SWE_cond (b := b) (by simp [go_sem]) ?_
    cases b with
    | true => exact SP_of (by simp [go_sem]; exact no 22 _ (by decide))
    | false =>
    simp only [Bool.false_eq_true, if_false]
    have hm1 := hm.2 rfl
    refine SP_mid 0 (α := Bx) (fun b => [(3, .iptr [.ptr K.p 0]), (4, .iptr [intE el]), (11, .iptr [intE hd.ins, intE hd.move, delsE hd.dels, layersE hd.layers]), (54, .bool b.b)]) (fun _ => H) (fun b m => n ≤ m ∧ (b.b = false → 0 ≤ hd.move)) ?_ (fun b m hm => ?_)
    · simp [go_sem]
      refine (c155 _ _ _).use ?_
      by_cases c : 0 ≤ hd.move ∧ hd.move ≤ 1073741824
      · by_cases m0 : hd.move = 0
        · simp [go_sem, Fz.same, m0, hm.1]; exact ⟨⟨_⟩, rfl⟩
        · simp [go_sem, Fz.same, c, m0, hm.1]; exact ⟨⟨_⟩, rfl⟩
      · simp [go_sem, Fz.same, c, hm.1]; exact ⟨⟨true⟩, by simp, rfl⟩
    obtain ⟨b⟩ := b
    dsimp only at hm ⊢
    refine SWE_cond (b := b) (by simp [go_sem]) ?_
    cases b with
    | true => exact SP_of (by simp [go_sem]; exact no 21 _ (by decide))
    | false =>
    simp only [Bool.false_eq_true, if_false]
    have hm3 := hm.2 rfl
    refine SP_of ?_
    by_cases c : (16 : Int) < hd.dels.length
    · simp [go_sem, c]; exact no 9 _ (by decide)
    · simp [go_sem, c, Fz.same, hm, hm1]; omega
  obtain ⟨hm, hi, hdl, hmv⟩ := hm
  refine SP_midS 0 (α := Unit) (fun _ => [(3, .iptr [.ptr K.p 0]), (4, .iptr [intE el]), (11, .iptr [intE hd.ins, intE hd.move, delsE hd.dels, layersE hd.layers])]) (fun _ => H) (fun _ m => n ≤ m ∧ ∀ j (h : j < hd.dels.length), hd.dels[j].rev ∈ K.m2 ∧ (0 < j → hd.dels[j - 1].rev < hd.dels[j].rev) ∧ 0 ≤ hd.dels[j].move) ?_ (fun _ m hm => ?_)
  · refine SP_mid 0 (α := Unit) (fun _ => [(3, .iptr [.ptr K.p 0]), (4, .iptr [intE el]), (11, .iptr [intE hd.ins, intE hd.move, delsE hd.dels, layersE hd.layers]), (75, delsE hd.dels), (76, intE hd.dels.length), (77, intE 0)]) (fun _ => H) (fun _ m => n ≤ m) ?_ (fun _ m hm => ?_)
    · simp [go_sem, Fz.same, hm]
    refine SP_block (goloopS 0 (α := Nat) (fun i => [(3, .iptr [.ptr K.p 0]), (4, .iptr [intE el]), (11, .iptr [intE hd.ins, intE hd.move, delsE hd.dels, layersE hd.layers]), (75, delsE hd.dels), (76, intE hd.dels.length), (77, intE i)]) (fun _ => H) (fun i m => i ≤ hd.dels.length ∧ n ≤ m ∧ ∀ j (h : j < hd.dels.length), j < i → hd.dels[j].rev ∈ K.m2 ∧ (0 < j → hd.dels[j - 1].rev < hd.dels[j].rev) ∧ 0 ≤ hd.dels[j].move) (fun i => hd.dels.length - i) 0 ⟨Nat.zero_le _, hm, fun j _ h => by omega⟩ ?_ look_same ?_)
    · simp [go_sem, look, Fz.same]
    rintro i m ⟨hi2, hm, hI⟩
    by_cases hlt : i < hd.dels.length
    · obtain ⟨x, hx⟩ : ∃ x, hd.dels[i] = x := ⟨_, rfl⟩
      have w1 : IntKind.i64.wrap ((i : Int) + 1) = ((i + 1 : Nat) : Int) := by rw [wr64] <;> omega
      refine SP_mid 0 (α := Unit) (fun _ => [(3, .iptr [.ptr K.p 0]), (4, .iptr [intE el]), (11, .iptr [intE hd.ins, intE hd.move, delsE hd.dels, layersE hd.layers]), (75, delsE hd.dels), (76, intE hd.dels.length), (77, intE i), (78, .bool true)]) (fun _ => H) (fun _ m => n ≤ m) ?_ (fun _ m hm => ?_)
      · simp [go_sem, Fz.same, hm, hlt]
      refine SP_mid 0 (α := Unit) (fun _ => [(3, .iptr [.ptr K.p 0]), (4, .iptr [intE el]), (11, .iptr [intE hd.ins, intE hd.move, delsE hd.dels, layersE hd.layers]), (75, delsE hd.dels), (76, intE hd.dels.length), (77, intE i)]) (fun _ => H) (fun _ m => n ≤ m) ?_ (fun _ m hm => ?_)
      · simp [go_sem, Fz.same, hm]
      refine SP_midS 0 (α := Unit) (fun _ => [(3, .iptr [.ptr K.p 0]), (4, .iptr [intE el]), (11, .iptr [intE hd.ins, intE hd.move, delsE hd.dels, layersE hd.layers]), (75, delsE hd.dels), (76, intE hd.dels.length), (77, intE i)]) (fun _ => H) (fun _ m => n ≤ m ∧ x.rev ∈ K.m2 ∧ (0 < i → hd.dels[i - 1].rev < x.rev) ∧ 0 ≤ x.move) ?_ (fun _ m hm => ?_)
      · refine SP_block ?_
        refine SP_mid 1 (α := Unit) (fun _ => [(3, .iptr [.ptr K.p 0]), (4, .iptr [intE el]), (11, .iptr [intE hd.ins, intE hd.move, delsE hd.dels, layersE hd.layers]), (75, delsE hd.dels), (76, intE hd.dels.length), (77, intE i), (12, intE i), (13, .iptr [intE x.rev, intE x.move])]) (fun _ => H) (fun _ m => n ≤ m) ?_ (fun _ m hm => ?_)
        · simp [go_sem, Fz.same, hlt, hx, Del.enc, hset_at]
          have hHm : ∀ j y, H j = some y → j < m := fun j y e => by have := hHb j y e; omega
          exact ⟨by omega, ptr_fz (lt_none hHm (Nat.le_refl _)) (hset_at _ _ _), set_keep hHm (set_keep hHm look_same)⟩
        refine SP_block ?_
        refine SP_mid 0 (α := Bx) (fun b => [(3, .iptr [.ptr K.p 0]), (4, .iptr [intE el]), (11, .iptr [intE hd.ins, intE hd.move, delsE hd.dels, layersE hd.layers]), (75, delsE hd.dels), (76, intE hd.dels.length), (77, intE i), (12, intE i), (13, .iptr [intE x.rev, intE x.move]), (82, .bool b.b)]) (fun _ => H) (fun b m => n ≤ m ∧ (b.b = false → x.rev ∈ K.m2)) ?_ (fun b m hm => ?_)
        · by_cases hr : x.rev ∈ K.m2
          · obtain ⟨j, f, _⟩ := findS_yes 0 hr
            simp [go_sem, Fz.same, hp, h2, f, keyOk, hm, hr]
            repeat first | refine nd (by kernel_rfl) ?_ | refine sd (by kernel_rfl) ?_ | refine And.intro (by omega) ?_
            exact ⟨⟨false⟩, rfl⟩
          · have f := findS_no 0 hr
            simp [go_sem, Fz.same, hp, h2, f, keyOk, hm, hr]
            repeat first | refine nd (by kernel_rfl) ?_ | refine sd (by kernel_rfl) ?_ | refine And.intro (by omega) ?_
            exact ⟨⟨true⟩, by simp, rfl⟩
        obtain ⟨b⟩ := b
        dsimp only at hm ⊢
        refine SWE_cond (b := b) (by simp [go_sem]) ?_
        cases b with
        | true => exact SP_of (by simp [go_sem]; exact no 22 _ (by decide))
        | false =>
        simp only [Bool.false_eq_true, if_false]
        have hm1 := hm.2 rfl
        refine SP_mid 0 (α := Bx) (fun b => [(3, .iptr [.ptr K.p 0]), (4, .iptr [intE el]), (11, .iptr [intE hd.ins, intE hd.move, delsE hd.dels, layersE hd.layers]), (75, delsE hd.dels), (76, intE hd.dels.length), (77, intE i), (13, .iptr [intE x.rev, intE x.move]), (91, .bool b.b)]) (fun _ => H) (fun b m => n ≤ m ∧ (b.b = false → 0 < i → hd.dels[i - 1].rev < x.rev)) ?_ (fun b m hm => ?_)
        · by_cases i0 : 0 < i
          · have hi1 : i - 1 < hd.dels.length := by omega
            obtain ⟨y, hy⟩ : ∃ y, hd.dels[i - 1] = y := ⟨_, rfl⟩
            have w : IntKind.i64.wrap ((i : Int) - 1) = ((i - 1 : Nat) : Int) := by rw [wr64] <;> omega
            simp [go_sem, Fz.same, i0, w, hi1, hy, Del.enc, hm]
            repeat first | refine nd (by kernel_rfl) ?_ | refine sd (by kernel_rfl) ?_ | refine And.intro (by omega) ?_
            exact ⟨⟨decide (x.rev ≤ y.rev)⟩, fun g => by simpa using g, rfl⟩
          · simp [go_sem, Fz.same, i0, hm]
            repeat first | refine nd (by kernel_rfl) ?_ | refine sd (by kernel_rfl) ?_ | refine And.intro (by omega) ?_
            exact ⟨⟨_⟩, rfl⟩
        obtain ⟨b⟩ := b
        dsimp only at hm ⊢
        refine SWE_cond (b := b) (by simp [go_sem]) ?_
        cases b with
        | true => exact SP_of (by simp [go_sem]; exact no 6 _ (by decide))
        | false =>
        simp only [Bool.false_eq_true, if_false]
        have hm2 := hm.2 rfl
        have hm := hm.1
        refine SP_of ?_
        simp [go_sem]
        refine (c155 _ _ _).use ?_
        by_cases c : 0 ≤ x.move ∧ x.move ≤ 1073741824
        · simp [go_sem, Fz.same, c, hm, hm1]; exact hm2
        · simp [go_sem, c]; exact no 21 _ (by decide)
      · refine SP_of ?_
        simp [go_sem, w1, Fz.same, -Int.natCast_add]
        refine ⟨i + 1, by omega, ⟨by omega, hm.1, fun j h hj => ?_⟩, rfl⟩
        by_cases h3 : j = i
        · subst h3; rw [hx]; exact hm.2
        · exact hI j h (by omega)
    · have : i = hd.dels.length := by omega
      subst this
      refine SP_of ?_
      simp [go_sem, Fz.same, hm]
      exact fun j hj => hI j hj hj
  obtain ⟨hm, hdr⟩ := hm
  refine SP_midS 0 (α := Unit) (fun _ => [(3, .iptr [.ptr K.p 0]), (4, .iptr [intE el]), (11, .iptr [intE hd.ins, intE hd.move, delsE hd.dels, layersE hd.layers])]) (fun _ => H) (fun _ m => n ≤ m ∧ hd.layers.length ≤ 64) (SP_of ?_) (fun _ m hm => ?_)
  · by_cases c : (64 : Int) < hd.layers.length
    · simp [go_sem, c]; exact no 9 _ (by decide)
    · simp [go_sem, c, Fz.same, hm]; omega
  obtain ⟨hm, hll⟩ := hm
  refine SP_of ?_
  simp [go_sem]
  have hd150 := d150 hK hd.layers.length (by omega) 151 [] [.iptr [.ptr K.p 0], .iptr [intE el], .iptr [intE hd.ins, intE hd.move, delsE hd.dels, layersE hd.layers]] (fun i s' => s' = s ∧ ∀ j (h : j < hd.layers.length), j < i → hd.layers[j].rev ∈ K.m2) (fun i s' H2 n2 hi hI hn2 hs2 => by
    obtain ⟨he, hI⟩ := hI
    refine (d158 hK s' el hd.ins hd.move (delsE hd.dels) hd.layers (by omega) i hi hn2 hs2).mono ?_
    rintro v h' n' ⟨e, s2, rfl, ⟨he2, hT⟩, rfl, rfl⟩
    refine ⟨e, s2, rfl, fun e0 => ⟨by rw [he2, he], fun j h hj => ?_⟩, rfl, rfl⟩
    by_cases h3 : j = i
    · subst h3; exact hT e0
    · exact hI j h (by omega)) s ⟨rfl, fun j _ h => by omega⟩ (H := H) (n := m) (by omega) hs
  refine SC.use hd150 ?_
  rintro v H' n' ⟨e, s2, rfl, hT, rfl, rfl⟩
  simp [go_sem]
  by_cases e0 : e = 0
  · obtain ⟨he, hT2⟩ := hT e0
    exact hK.ret hn ho e s2 (fun _ => ⟨he, ⟨hi, hdl, fun x hx => by obtain ⟨j, hj, rfl⟩ := List.getElem_of_mem hx; exact (hdr j hj).1, hll, fun x hx => by obtain ⟨j, hj, rfl⟩ := List.getElem_of_mem hx; exact hT2 j hj hj⟩, fun j hj h0 => (hdr j hj).2.1 h0, hmv, fun x hx => by obtain ⟨j, hj, rfl⟩ := List.getElem_of_mem hx; exact (hdr j hj).2.2⟩) look_same
  · exact hK.ret hn ho e s2 (fun g => absurd g e0) look_same
end
def idsN : Nat → List Item → List Int
  | 0, _ => []
  | N + 1, l => l.flatMap fun x => if x.kind = 6 then x.id :: idsN N x.flow else if x.kind = 7 then x.id :: x.rows.flatMap fun r => r.cells.flatMap fun c => c.id :: idsN N c.flow else []
def idsR (N : Nat) (r : Row) : List Int := r.cells.flatMap fun c => c.id :: idsN N c.flow
def idsI (N : Nat) (x : Item) : List Int := if x.kind = 6 then x.id :: idsN N x.flow else if x.kind = 7 then x.id :: x.rows.flatMap (idsR N) else []
theorem idsN_succ (N : Nat) (l : List Item) : idsN (N + 1) l = l.flatMap (idsI N) := rfl
def okc (m2 : List Int) : Nat → List Item → Prop
  | 0, _ => True
  | N + 1, l => ∀ x ∈ l, formOK x ∧ headOK m2 x.head ∧ okc m2 N x.flow ∧ (x.kind = 7 → x.rows ≠ []) ∧ ∀ r ∈ x.rows, (headOK m2 r.head ∧ r.cells ≠ []) ∧ ∀ c ∈ r.cells, headOK m2 c.head ∧ okc m2 N c.flow
def okr (m2 : List Int) (N : Nat) (r : Row) : Prop := (headOK m2 r.head ∧ r.cells ≠ []) ∧ ∀ c ∈ r.cells, headOK m2 c.head ∧ okc m2 N c.flow
def oki (m2 : List Int) (N : Nat) (x : Item) : Prop := formOK x ∧ headOK m2 x.head ∧ okc m2 N x.flow ∧ (x.kind = 7 → x.rows ≠ []) ∧ ∀ r ∈ x.rows, okr m2 N r
theorem okc_nil (m2 : List Int) (N : Nat) : okc m2 N [] := by cases N <;> simp [okc]
def more (s s' : CkS) (ids : List Int) : Prop := s'.1 = s.1 ++ ids ∧ (∀ i ∈ ids, 1 ≤ i ∧ i ≤ 1073741824) ∧ (s.1.Nodup → s'.1.Nodup)
theorem more.nil {s s' : CkS} (h : s'.1 = s.1) : more s s' [] := ⟨by simp [h], by simp, by rw [h]; exact id⟩
theorem more.trans {s s1 s2 : CkS} {a b : List Int} (h : more s s1 a) (g : more s1 s2 b) : more s s2 (a ++ b) :=
  ⟨by rw [g.1, h.1, List.append_assoc], fun i hi => by rcases List.mem_append.1 hi with hi | hi; exact h.2.1 i hi; exact g.2.1 i hi, fun n => g.2.2 (h.2.2 n)⟩
theorem more.one {s s' : CkS} {id : Int} (h : s' = (s.1 ++ [id], s.2)) (h1 : 1 ≤ id ∧ id ≤ 1073741824) (h2 : id ∉ s.1) : more s s' [id] :=
  ⟨by rw [h], by simpa using h1, fun n => by rw [h]; simp only; rw [List.nodup_append]; exact ⟨n, by simp, by rintro a ha b hb; rw [List.mem_singleton.1 hb]; rintro rfl; exact h2 ha⟩⟩
def moreT (s : CkS) (ids : List Int) (P : Prop) (e : Int) (s' : CkS) : Prop := e = 0 → more s s' ids ∧ P
def trP : Tr := .pure 0 <| .pure 1 <| .pure 2 <| .pure 3 <| .pure 4 <| .pure 5 <| .one 6 <| .one 7 .nil
section
variable {K : Ck} {n0 : Nat}
def ItemC (K : Ck) (n0 : Nat) (N : Nat) (x : Item) : Prop := ∀ (s : CkS) (pl : Place) (H : Hp) (n : Nat), n0 ≤ n → (∀ o y, K.st s o = some y → H o = some y) →
  SCall Tryz.prog 154 [.ptr K.p 0, x.enc, pl.enc] H n (CQ K (moreT s (idsI N x) (oki K.m2 N x)) H n)
def ItemsC (K : Ck) (n0 : Nat) (N : Nat) (l : List Item) : Prop := ∀ (s : CkS) (pl : Place) (H : Hp) (n : Nat), n0 ≤ n → (∀ o y, K.st s o = some y → H o = some y) →
  SCall Tryz.prog 84 [.ptr K.p 0, itemsE l, pl.enc] H n (CQ K (moreT s (idsN N l) (okc K.m2 N l)) H n)
theorem d160 (hK : K.ok n0) (N : Nat) (l : List Item) (i : Nat) (hi : i < l.length) (h : ItemC K n0 N l[i]) (s : CkS) (pl : Place) {H : Hp} {n : Nat} (hn : n0 ≤ n) (hs : ∀ o y, K.st s o = some y → H o = some y) :
    SCall Tryz.prog 153 [intE i, .iptr [.ptr K.p 0], .iptr [itemsE l], .iptr [.bool pl.body, .bool pl.note, intE pl.tables]] H n (CQ K (moreT s (idsI N l[i]) (oki K.m2 N l[i])) H n) := by
  refine goS Tryz.func153 rfl (by kernel_rfl) (by kernel_rfl) (by simp [go_sem]) fun ho => ?_
  obtain ⟨x, hx⟩ : ∃ x, l[i] = x := ⟨_, rfl⟩
  rw [hx] at h ⊢
  have hgx : (l.map Item.enc)[i]? = some x.enc := by simp [hi, hx]
  have D := hK.clo
  refine SP_mid 0 (α := Unit) (fun _ => [(0, intE i), (1, .iptr [.ptr K.p 0]), (2, .iptr [itemsE l]), (3, .iptr [.bool pl.body, .bool pl.note, intE pl.tables])]) (fun _ => H) (fun _ m => n ≤ m) ?_ (fun _ m hm => ?_)
  · simp [go_sem, Fz.same]
  refine SP_midS 0 (α := Int × CkS) (fun q => [(5, intE q.1)]) (fun q => upS K.st q.2 H) (fun q m => n ≤ m ∧ moreT s (idsI N x) (oki K.m2 N x) q.1 q.2) (SP_tr trP rfl (by kernel_rfl) (by kernel_rfl) ?_) (fun q m hm => ?_)
  · have hc := h s pl H m (by omega) hs
    simp only [Item.enc_eq, Place.enc] at hc
    simp [go_sem, trP, hi, hx, Item.enc_eq]
    refine SC.use hc ?_
    rintro v H' n' ⟨e, s2, rfl, hT, rfl, rfl⟩
    simp [go_sem]
    exact ⟨e, s2.1, s2.2, ⟨by omega, hT⟩, Fz.same, look_same⟩
  · refine SP_of ?_
    simp [go_sem]
    exact hK.ret hn ho q.1 q.2 hm.2 look_same
theorem take_flatMap {α β : Type} (f : α → List β) (l : List α) (i : Nat) (h : i < l.length) : (l.take (i + 1)).flatMap f = (l.take i).flatMap f ++ f l[i] := by
  rw [List.take_succ_eq_append_getElem h, List.flatMap_append]; simp
theorem d88 (hK : K.ok n0) (N : Nat) (l : List Item) (hl : l.length ≤ 1048576) (h : ∀ x ∈ l, ItemC K n0 N x) : ItemsC K n0 (N + 1) l := fun s pl H n hn hs => by
  refine goS Tryz.func84 rfl (by kernel_rfl) (by kernel_rfl) (by simp [go_sem]) fun ho => ?_
  have hHb : ∀ j y, H j = some y → j < n := fun j y e => (ho j y e).1
  refine SP_mid 1 (α := Unit) (fun _ => [(3, .iptr [.ptr K.p 0]), (4, .iptr [itemsE l]), (5, .iptr [.bool pl.body, .bool pl.note, intE pl.tables])]) (fun _ => H) (fun _ m => n ≤ m) ?_ (fun _ m hm => ?_)
  · simp [go_sem, Place.enc, Nat.add_assoc]
    refine ⟨⟨ptr_fz (lt_none hHb (by omega)) (by simp [hset]), ptr_fz (lt_none hHb (by omega)) (by simp [hset]), ptr_fz (lt_none hHb (by omega)) (by simp [hset])⟩, fun j y => ?_⟩
    have := hHb j y; simp only [hset]; grind
  have hd := d150 hK l.length hl 153 [] [.iptr [.ptr K.p 0], .iptr [itemsE l], .iptr [.bool pl.body, .bool pl.note, intE pl.tables]] (fun i s' => more s s' ((l.take i).flatMap (idsI N)) ∧ ∀ x ∈ l.take i, oki K.m2 N x) (fun i s' H2 n2 hi hI hn2 hs2 => by
    refine (d160 hK N l i hi (h _ (List.getElem_mem hi)) s' pl hn2 hs2).mono ?_
    rintro v h' n' ⟨e, s2, rfl, hT, rfl, rfl⟩
    refine ⟨e, s2, rfl, fun e0 => ?_, rfl, rfl⟩
    obtain ⟨h1, h2⟩ := hT e0
    rw [take_flatMap _ _ _ hi]
    refine ⟨hI.1.trans h1, fun x hx => ?_⟩
    rw [List.take_succ_eq_append_getElem hi] at hx
    exact all_push hI.2 h2 x hx) s ⟨more.nil rfl, by simp⟩ (H := H) (n := m) (by omega) hs
  refine SP_of ?_
  simp [go_sem]
  refine SC.use hd ?_
  rintro v H' n' ⟨e, s2, rfl, hT, rfl, rfl⟩
  simp [go_sem]
  refine hK.ret hn ho e s2 (fun e0 => ?_) look_same
  have := hT e0
  rw [List.take_length] at this
  exact ⟨by rw [idsN_succ]; exact this.1, this.2⟩
end
section
variable {K : Ck} {n0 : Nat}
theorem Ck.ok.up_cnt (_hK : K.ok n0) (s : CkS) (c : Int) {H : Hp} (hs : ∀ o y, K.st s o = some y → H o = some y) : upS K.st (s.1, c) H = hset H K.p (some (.cells (K.cells c))) := by
  funext o
  have g := hs o
  simp only [upS, Ck.st, hset] at g ⊢
  by_cases q0 : o = K.p
  · simp [q0]
  · simp only [q0, if_false] at g ⊢
    split
    · rename_i y hy; exact (g y hy).symm
    · rfl
def RowsC (K : Ck) (n0 : Nat) (N : Nat) (l : List Row) : Prop := ∀ (s : CkS) (pl : Place) (H : Hp) (n : Nat), n0 ≤ n → (∀ o y, K.st s o = some y → H o = some y) →
  SCall Tryz.prog 203 [.ptr K.p 0, rowsE l, pl.enc] H n (CQ K (moreT s (l.flatMap (idsR N)) (l ≠ [] ∧ ∀ r ∈ l, okr K.m2 N r)) H n)
def ownIds (x : Item) : List Int := if x.kind = 6 ∨ x.kind = 7 then [x.id] else []
set_option maxHeartbeats 4000000 in
theorem d161 (hK : K.ok n0) (N : Nat) (x : Item) (hx : x.sized) (hfl : ItemsC K n0 N x.flow) (hrw : RowsC K n0 N x.rows) : ItemC K n0 N x := fun s pl H n hn hs => by
  refine goS Tryz.func154 rfl (by kernel_rfl) (by kernel_rfl) (by simp [go_sem]) fun ho => ?_
  have D := hK.clo
  have hKp : K.p < n := by have := hK.lt K.p (by simp); omega
  have hU : ∀ s', Old (upS K.st s' H) n := fun s' => D.old s' hn ho
  have hUb : ∀ s' j y, upS K.st s' H j = some y → j < n := fun s' j y e => (hU s' j y e).1
  have hps : ∀ s', upS K.st s' H K.p = some (.cells [.map K.s0, .map K.s1, .map K.s2, .map K.s3, .map K.s4, intE s'.2]) := fun s' => (hK.has (s := s') has_up).p
  have hcnt : ∀ (q : CkS) b, hset (upS K.st q H) K.p (some (.cells [.map K.s0, .map K.s1, .map K.s2, .map K.s3, .map K.s4, intE b])) = upS K.st (q.1, b) H := fun q b => by rw [← D.up2 q (q.1, b) H, hK.up_cnt q b has_up]; rfl
  have no : ∀ (e : Int) (s' : CkS) (m : Nat), e ≠ 0 → RetS n (upS K.st s' H) m (intE e) (CQ K (moreT s (idsI N x) (oki K.m2 N x)) H n) := fun e s' m he => hK.ret hn ho e s' (fun g => absurd g he) look_same
  obtain ⟨X, hX⟩ : ∃ X : SV, X = .iptr [intE x.kind, intE x.code, intE x.id, .str x.text, propsE x.head.props, intE x.head.ins, intE x.head.move, delsE x.head.dels, layersE x.head.layers, itemsE x.flow, rowsE x.rows] := ⟨_, rfl⟩
  obtain ⟨Y, hY⟩ : ∃ Y : SV, Y = .iptr [.bool pl.body, .bool pl.note, intE pl.tables] := ⟨_, rfl⟩
  refine SP_mid 1 (α := Unit) (fun _ => [(0, .ptr K.p 0), (4, X), (5, Y)]) (fun _ => upS K.st s H) (fun _ m => n ≤ m) ?_ (fun _ m hm => ?_)
  · rw [upS_self s H hs, hX, hY]
    have hHb : ∀ j y, H j = some y → j < n := fun j y e => (ho j y e).1
    simp [go_sem, Fz.same, Place.enc, Item.enc_eq]
    refine ⟨by omega, ⟨ptr_fz (lt_none hHb (by omega)) (by simp [hset]), ptr_fz (lt_none hHb (by omega)) (by simp [hset])⟩, fun j y => ?_⟩
    have := hHb j y; simp only [hset]; grind
  refine SP_midS 0 (α := Unit) (fun _ => [(0, .ptr K.p 0), (4, X), (5, Y)]) (fun _ => upS K.st s H) (fun _ m => n ≤ m ∧ formOK x) (SP_of ?_) (fun _ m hm => ?_)
  · rw [hX]
    simp [go_sem]
    refine TC.use (by simpa [Item.enc_eq] using t222 x hx) ?_
    rintro v ⟨e, rfl, hT⟩
    by_cases e0 : e = 0
    · simp [go_sem, e0, Fz.same, hm, hT e0]
    · simp [go_sem, e0]; exact no e s _ e0
  obtain ⟨hm, hform⟩ := hm
  refine SP_mid 0 (α := Int) (fun _ => [(0, .ptr K.p 0), (4, X), (5, Y)]) (fun c => upS K.st (s.1, c) H) (fun _ m => n ≤ m) ?_ (fun c m hm => ?_)
  · simp [go_sem, hps, Fz.same, hm]
    refine ⟨IntKind.i64.wrap (s.2 + 1), ?_⟩
    rw [upS_self s H hs, hK.up_cnt s _ hs]
    exact look_same
  refine SP_midS 0 (α := CkS) (fun _ => [(0, .ptr K.p 0), (4, X), (5, Y)]) (fun q => upS K.st q H) (fun q m => n ≤ m ∧ more s q (ownIds x)) ?_ (fun q m hm => ?_)
  · refine SP_mid 0 (α := Unit) (fun _ => [(0, .ptr K.p 0), (4, X), (5, Y), (27, intE x.kind)]) (fun _ => upS K.st (s.1, c) H) (fun _ m => n ≤ m) ?_ (fun _ m hm => ?_)
    · rw [hX]; simp [go_sem, Fz.same, hm]
    refine SP_block (SP_of ?_)
    by_cases k1 : x.kind = 1
    · have ow : ownIds x = [] := by simp [ownIds, k1]
      rw [ow, hX]
      simp [go_sem, k1]
      refine (c177 x.text (by have := (sized_parts hx).2.1; omega)).use ?_
      simp [go_sem, hps, Fz.same]
      rw [hcnt]
      refine ⟨s.1, _, ⟨hm, ?_⟩, look_same⟩
      exact more.nil rfl
    · by_cases k3 : x.kind = 3
      · have ow : ownIds x = [] := by simp [ownIds, k3]
        rw [ow, hX, hY]
        cases hb : pl.body with
        | true =>
          simp [go_sem, k3, Fz.same]
          refine ⟨s.1, _, ⟨hm, ?_⟩, look_same⟩
          exact more.nil rfl
        | false =>
          simp [go_sem, k3]
          exact no 19 _ _ (by decide)
      · by_cases k6 : x.kind = 6
        · have ow : ownIds x = [x.id] := by simp [ownIds, k6]
          rw [ow, hX, hY]
          simp [go_sem, k6]
          refine (c87 _ _).use ?_
          simp [go_sem]
          refine SCallE.fz (bs := [.imm 1 ([if pl.note then (19 : Int) else 0].map intE) false]) (h2 := upS K.st (s.1, c) H) 1 (set_keep (fun j z e => by have := hUb _ j z e; omega) look_same) ⟨?_, trivial⟩ ?_
          · exact sl_fz (es := [intE (if pl.note then (19 : Int) else 0)]) (lt_none (hUb _) hm) (by simp) (by rw [hset_at]; simp [SV.cells]) (by simp [SV.storable, SV.cells])
          refine (c82 _ (by simp)).use ?_
          cases hb : pl.note with
          | true => simp [go_sem, firstE]; exact no 19 _ _ (by decide)
          | false =>
          simp [go_sem, firstE]
          refine SC.use (d223 hK (s.1, c) x.id (by omega) has_up) ?_
          rintro v H' n' ⟨e, s2, rfl, hT, rfl, rfl⟩
          rw [D.up2]
          by_cases e0 : e = 0
          · obtain ⟨h1, h2, h3, h4⟩ := hT e0
            simp [go_sem, e0, Fz.same]
            exact ⟨s2.1, s2.2, ⟨by omega, more.one (s := s) (s' := (s2.1, s.2)) (by rw [h1]) ⟨h2, h3⟩ h4⟩, look_same⟩
          · simp [go_sem, e0]
            exact no e _ _ e0
        · by_cases k7 : x.kind = 7
          · have ow : ownIds x = [x.id] := by simp [ownIds, k7]
            rw [ow, hX, hY]
            by_cases tb : 4 ≤ pl.tables
            · simp [go_sem, k7, tb]; exact no 17 _ _ (by decide)
            simp [go_sem, k7, tb]
            refine SC.use (d223 hK (s.1, c) x.id (by omega) has_up) ?_
            rintro v H' n' ⟨e, s2, rfl, hT, rfl, rfl⟩
            rw [D.up2]
            by_cases e0 : e = 0
            · obtain ⟨h1, h2, h3, h4⟩ := hT e0
              simp [go_sem, e0, Fz.same]
              exact ⟨s2.1, s2.2, ⟨by omega, more.one (s := s) (s' := (s2.1, s.2)) (by rw [h1]) ⟨h2, h3⟩ h4⟩, look_same⟩
            · simp [go_sem, e0]
              exact no e _ _ e0
          · have ow : ownIds x = [] := by simp [ownIds, k6, k7]
            rw [ow, hX, hY]
            by_cases k8 : x.kind = 8
            · simp [go_sem, k8]
              refine (c155 _ _ _).use ?_
              by_cases c8 : 1 ≤ x.id ∧ x.id ≤ 1073741824
              · simp [go_sem, c8, Fz.same]
                refine ⟨s.1, _, ⟨hm, ?_⟩, look_same⟩
                exact more.nil rfl
              · simp [go_sem, c8]
                exact no 18 _ _ (by decide)
            · simp [go_sem, k1, k3, k6, k7, k8, Fz.same]
              refine ⟨s.1, _, ⟨hm, ?_⟩, look_same⟩
              exact more.nil rfl
  obtain ⟨hm, hmo⟩ := hm
  refine SP_midS 0 (α := Unit) (fun _ => [(0, .ptr K.p 0), (4, X), (5, Y)]) (fun _ => upS K.st q H) (fun _ m => n ≤ m ∧ headOK K.m2 x.head) (SP_of ?_) (fun _ m hm => ?_)
  · rw [hX]
    simp [go_sem]
    refine SC.use (by simpa [Head.enc, Head.flat] using d86 hK q x.kind x.head (sized_parts hx).1 (n := m) (by omega) has_up) ?_
    rintro v H' n' ⟨e, s2, rfl, hT, rfl, rfl⟩
    rw [D.up2]
    by_cases e0 : e = 0
    · obtain ⟨h1, h2⟩ := hT e0
      simp [go_sem, e0, Fz.same, h1, hm, h2]
    · simp [go_sem, e0]; exact no e _ _ e0
  obtain ⟨hm, hh⟩ := hm
  refine SP_midS 0 (α := Unit) (fun _ => []) (fun _ => upS K.st q H) (fun _ m => x.kind ≠ 6 ∧ x.kind ≠ 7) (SP_of ?_) (fun _ m hk => ?_)
  · rw [hX, hY]
    by_cases k6 : x.kind = 6
    · simp [go_sem, k6]
      refine SC.use (by simpa [Place.enc] using hfl q ⟨false, true, pl.tables⟩ (upS K.st q H) m (by omega) has_up) ?_
      rintro v H' n' ⟨e, s2, rfl, hT, rfl, rfl⟩
      rw [D.up2]
      simp [go_sem]
      refine hK.ret hn ho e s2 (fun e0 => ?_) look_same
      obtain ⟨h1, h2⟩ := hT e0
      have h3 := hmo.trans h1
      have e1 : ownIds x ++ idsN N x.flow = idsI N x := by simp [ownIds, idsI, k6]
      rw [e1] at h3
      exact ⟨h3, hform, hh, h2, fun h => absurd h (by omega), by rw [hform.2.1 (by omega)]; simp⟩
    · by_cases k7 : x.kind = 7
      · simp [go_sem, k7]
        refine SC.use (by simpa [Place.enc] using hrw q ⟨false, pl.note, IntKind.i64.wrap (pl.tables + 1)⟩ (upS K.st q H) m (by omega) has_up) ?_
        rintro v H' n' ⟨e, s2, rfl, hT, rfl, rfl⟩
        rw [D.up2]
        simp [go_sem]
        refine hK.ret hn ho e s2 (fun e0 => ?_) look_same
        obtain ⟨h1, h2⟩ := hT e0
        have h3 := hmo.trans h1
        have e1 : ownIds x ++ x.rows.flatMap (idsR N) = idsI N x := by simp [ownIds, idsI, k7]
        rw [e1] at h3
        exact ⟨h3, hform, hh, by rw [hform.1 (by omega)]; exact okc_nil _ _, fun _ => h2.1, h2.2⟩
      · simp [go_sem, k6, k7]
  · refine SP_of ?_
    simp [go_sem]
    refine hK.ret hn ho 0 q (fun _ => ?_) look_same
    have e1 : ownIds x = idsI N x := by simp [ownIds, idsI, hk.1, hk.2]
    rw [e1] at hmo
    exact ⟨hmo, hform, hh, by rw [hform.1 hk.1]; exact okc_nil _ _, fun h => absurd h hk.2, by rw [hform.2.1 hk.2]; simp⟩
end
def trW2 : Tr := .pure 0 <| .pure 1 <| .pure 2 <| .pure 4 <| .pure 5 <| .pure 6 <| .pure 7 <| .pure 9 <| .pure 10 <| .pure 11 <| .pure 12 <| .one 3 <| .one 8 <| .one 13 <| .one 14 <| .one 15 <| .one 16 .nil
section
variable {K : Ck} {n0 : Nat}
def idsC (N : Nat) (c : Cell) : List Int := c.id :: idsN N c.flow
theorem idsR_eq (N : Nat) (r : Row) : idsR N r = r.cells.flatMap (idsC N) := rfl
def okcl (m2 : List Int) (N : Nat) (c : Cell) : Prop := headOK m2 c.head ∧ okc m2 N c.flow
theorem more.trans' {s s1 s2 : CkS} {a b c : List Int} (h : more s s1 a) (g : more s1 s2 b) (e : a ++ b = c) : more s s2 c := by subst e; exact h.trans g
theorem firstE_head {a : Int} {l : List Int} (h : firstE (a :: l) = 0) : a = 0 := by
  rw [firstE] at h
  by_cases g : a = 0
  · exact g
  · rw [if_neg g] at h; exact h
theorem firstE_two {a b : Int} {l : List Int} (h : firstE (a :: b :: l) = 0) : a = 0 ∧ b = 0 := by
  have h1 := firstE_head h
  rw [firstE, if_pos h1] at h
  exact ⟨h1, firstE_head h⟩
set_option maxHeartbeats 4000000 in
theorem d224 (hK : K.ok n0) (N : Nat) (l : List Row) (hl : l.length ≤ 1048576) (hr : ∀ r ∈ l, r.head.sized ∧ r.cells.length ≤ 1048576 ∧ ∀ c ∈ r.cells, c.head.sized ∧ ItemsC K n0 N c.flow) : RowsC K n0 N l := fun s pl H n hn hs => by
  refine goS Tryz.func203 rfl (by kernel_rfl) (by kernel_rfl) (by simp [go_sem]) fun ho => ?_
  have D := hK.clo
  have hU : ∀ s', Old (upS K.st s' H) n := fun s' => D.old s' hn ho
  have hUb : ∀ s' j y, upS K.st s' H j = some y → j < n := fun s' j y e => (hU s' j y e).1
  obtain ⟨T, hT⟩ : ∃ T, T = moreT s (l.flatMap (idsR N)) (l ≠ [] ∧ ∀ r ∈ l, okr K.m2 N r) := ⟨_, rfl⟩
  rw [← hT]
  have no : ∀ (e : Int) (s' : CkS) (m : Nat), e ≠ 0 → RetS n (upS K.st s' H) m (intE e) (CQ K T H n) := fun e s' m he => hK.ret hn ho e s' (by rw [hT]; exact fun g => absurd g he) look_same
  refine SP_mid 1 (α := Unit) (fun _ => [(0, .ptr K.p 0), (1, rowsE l), (5, .iptr [.bool pl.body, .bool pl.note, intE pl.tables])]) (fun _ => upS K.st s H) (fun _ m => n ≤ m) ?_ (fun _ m hm => ?_)
  · rw [upS_self s H hs]
    have hHb : ∀ j y, H j = some y → j < n := fun j y e => (ho j y e).1
    simp [go_sem, Fz.same, Place.enc]
    exact ⟨ptr_fz (lt_none hHb (by omega)) (by simp [hset]), set_keep hHb look_same⟩
  refine SP_midS 0 (α := Unit) (fun _ => [(0, .ptr K.p 0), (1, rowsE l), (5, .iptr [.bool pl.body, .bool pl.note, intE pl.tables])]) (fun _ => upS K.st s H) (fun _ m => n ≤ m ∧ l ≠ []) (SP_of ?_) (fun _ m hm => ?_)
  · by_cases c : l = []
    · simp [go_sem, c]; exact no 11 _ _ (by decide)
    · simp [go_sem, c, Fz.same, hm]
  obtain ⟨hm, hne⟩ := hm
  refine SP_midS 0 (α := Unit) (fun _ => [(0, .ptr K.p 0), (1, rowsE l), (5, .iptr [.bool pl.body, .bool pl.note, intE pl.tables])]) (fun _ => upS K.st s H) (fun _ m => n ≤ m) (SP_of ?_) (fun _ m hm => ?_)
  · by_cases c : (256 : Int) < l.length
    · simp [go_sem, c]; exact no 9 _ _ (by decide)
    · simp [go_sem, c, Fz.same, hm]
  refine SP_midS 0 (α := CkS) (fun _ => []) (fun q => upS K.st q H) (fun q m => n ≤ m ∧ more s q (l.flatMap (idsR N)) ∧ ∀ r ∈ l, okr K.m2 N r) ?_ (fun q m hm => ?_)
  · refine SP_mid 0 (α := Unit) (fun _ => [(0, .ptr K.p 0), (5, .iptr [.bool pl.body, .bool pl.note, intE pl.tables]), (21, rowsE l), (22, intE l.length), (23, intE 0)]) (fun _ => upS K.st s H) (fun _ m => n ≤ m) ?_ (fun _ m hm => ?_)
    · simp [go_sem, Fz.same, hm]
    refine SP_block (goloopS 0 (α := Nat × CkS) (fun q => [(0, .ptr K.p 0), (5, .iptr [.bool pl.body, .bool pl.note, intE pl.tables]), (21, rowsE l), (22, intE l.length), (23, intE q.1)]) (fun q => upS K.st q.2 H) (fun q m => q.1 ≤ l.length ∧ n ≤ m ∧ more s q.2 ((l.take q.1).flatMap (idsR N)) ∧ ∀ r ∈ l.take q.1, okr K.m2 N r) (fun q => l.length - q.1) (0, s) ⟨Nat.zero_le _, hm, more.nil rfl, by simp⟩ ?_ look_same ?_)
    · simp [go_sem, look, Fz.same]
    rintro ⟨i, s1⟩ m ⟨hi, hm, hmo, hok⟩
    dsimp only at hi hmo hok ⊢
    by_cases hlt : i < l.length
    · obtain ⟨x, hx⟩ : ∃ x, l[i] = x := ⟨_, rfl⟩
      have hxm : x ∈ l := by rw [← hx]; exact List.getElem_mem hlt
      obtain ⟨x1, x2, x3⟩ := hr x hxm
      have hgx : (l.map Row.enc)[i]? = some x.enc := by simp [hlt, hx]
      have w1 : IntKind.i64.wrap ((i : Int) + 1) = ((i + 1 : Nat) : Int) := by rw [wr64] <;> omega
      have tk := take_flatMap (idsR N) l i hlt
      rw [hx] at tk
      have tl : l.take (i + 1) = l.take i ++ [x] := by rw [List.take_succ_eq_append_getElem hlt, hx]
      refine SP_mid 0 (α := Unit) (fun _ => [(0, .ptr K.p 0), (5, .iptr [.bool pl.body, .bool pl.note, intE pl.tables]), (21, rowsE l), (22, intE l.length), (23, intE i), (24, .bool true)]) (fun _ => upS K.st s1 H) (fun _ m => n ≤ m) ?_ (fun _ m hm => ?_)
      · simp [go_sem, Fz.same, hm, hlt]
      refine SP_mid 0 (α := Unit) (fun _ => [(0, .ptr K.p 0), (5, .iptr [.bool pl.body, .bool pl.note, intE pl.tables]), (21, rowsE l), (22, intE l.length), (23, intE i)]) (fun _ => upS K.st s1 H) (fun _ m => n ≤ m) ?_ (fun _ m hm => ?_)
      · simp [go_sem, Fz.same, hm]
      refine SP_midS 0 (α := CkS) (fun _ => [(0, .ptr K.p 0), (5, .iptr [.bool pl.body, .bool pl.note, intE pl.tables]), (21, rowsE l), (22, intE l.length), (23, intE i)]) (fun q => upS K.st q H) (fun q m => n ≤ m ∧ more s q ((l.take (i + 1)).flatMap (idsR N)) ∧ okr K.m2 N x) ?_ (fun q m hm => ?_)
      · refine SP_block ?_
        refine SP_mid 1 (α := Unit) (fun _ => [(0, .ptr K.p 0), (5, .iptr [.bool pl.body, .bool pl.note, intE pl.tables]), (21, rowsE l), (22, intE l.length), (23, intE i), (8, .iptr (x.head.flat ++ [cellsE x.cells]))]) (fun _ => upS K.st s1 H) (fun _ m => n ≤ m) ?_ (fun _ m hm => ?_)
        · simp [go_sem, Fz.same, hlt, hx, Row.enc_eq, Head.flat, hset_at]
          have hHm : ∀ j y, upS K.st s1 H j = some y → j < m := fun j y e => by have := hUb _ j y e; omega
          exact ⟨by omega, ptr_fz (lt_none hHm (Nat.le_refl _)) (hset_at _ _ _), set_keep hHm (set_keep hHm look_same)⟩
        have hd := d86 hK s1 9 x.head x1 (H := upS K.st s1 H) (n := m) (by omega) has_up
        refine SP_midS 0 (α := Unit) (fun _ => [(0, .ptr K.p 0), (5, .iptr [.bool pl.body, .bool pl.note, intE pl.tables]), (21, rowsE l), (22, intE l.length), (23, intE i), (8, .iptr (x.head.flat ++ [cellsE x.cells]))]) (fun _ => upS K.st s1 H) (fun _ m => n ≤ m ∧ headOK K.m2 x.head ∧ x.cells ≠ []) ?_ (fun _ m hm => ?_)
        · refine SP_midS 0 (α := Int × CkS) (fun q => [(0, .ptr K.p 0), (5, .iptr [.bool pl.body, .bool pl.note, intE pl.tables]), (21, rowsE l), (22, intE l.length), (23, intE i), (8, .iptr (x.head.flat ++ [cellsE x.cells])), (9, intE q.1)]) (fun q => upS K.st q.2 H) (fun q m => n ≤ m ∧ (q.1 = 0 → q.2 = s1 ∧ headOK K.m2 x.head ∧ x.cells ≠ [])) (SP_tr trW2 rfl (by kernel_rfl) (by kernel_rfl) ?_) (fun q m hm => ?_)
          · simp [go_sem, trW2, Head.flat]
            refine SC.use (by simpa [Head.enc, Head.flat] using hd) ?_
            rintro v H' n' ⟨e, s2, rfl, hT, rfl, rfl⟩
            rw [D.up2]
            simp [go_sem]
            refine (c87 _ _).use ?_
            simp [go_sem]
            refine (c87 _ _).use ?_
            simp [go_sem]
            have hea : (if x.cells = [] then (11 : Int) else 0) = 0 → x.cells ≠ [] := fun g => by intro c; rw [if_pos c] at g; cases g
            generalize (if x.cells = [] then (11 : Int) else 0) = ea at hea ⊢
            generalize (if 32 < (x.cells.length : Int) then (9 : Int) else 0) = eb
            refine SCallE.fz (bs := [.imm 1 ([e, ea, eb].map intE) false]) (h2 := upS K.st s2 H) 1 (set_keep (fun j z e => by have := hUb s2 j z e; omega) look_same) ⟨?_, trivial⟩ ?_
            · exact sl_fz (es := [intE e, intE ea, intE eb]) (lt_none (hUb s2) hm) (by simp) (by rw [hset_at]; simp [SV.cells]) (by simp [SV.storable, SV.cells])
            refine (c82 _ (by simp)).use ?_
            generalize hf : firstE [e, ea, eb] = ef
            simp [go_sem, Fz.same]
            exact ⟨ef, s2.1, s2.2, ⟨by omega, fun h0 => by obtain ⟨g1, g2⟩ := firstE_two (by rw [hf]; exact h0); obtain ⟨t1, t2⟩ := hT g1; exact ⟨t1, t2, hea g2⟩⟩, Fz.same, look_same⟩
          obtain ⟨e8, s8⟩ := q
          dsimp only at hm ⊢
          by_cases e80 : e8 = 0
          case neg => exact SP_of (by simp [go_sem, e80]; exact no e8 _ _ e80)
          obtain ⟨h81, hhd⟩ := hm.2 e80
          rw [e80, h81]
          exact SP_of (by simp [go_sem, Fz.same, hm.1, hhd])
        obtain ⟨hm, hhd⟩ := hm
        refine SP_mid 0 (α := Unit) (fun _ => [(0, .ptr K.p 0), (5, .iptr [.bool pl.body, .bool pl.note, intE pl.tables]), (21, rowsE l), (22, intE l.length), (23, intE i), (47, cellsE x.cells), (48, intE x.cells.length), (49, intE 0)]) (fun _ => upS K.st s1 H) (fun _ m => n ≤ m) ?_ (fun _ m hm => ?_)
        · simp [go_sem, Fz.same, Head.flat, hm]
        refine SP_block (goloopS 0 (α := Nat × CkS) (fun q => [(0, .ptr K.p 0), (5, .iptr [.bool pl.body, .bool pl.note, intE pl.tables]), (21, rowsE l), (22, intE l.length), (23, intE i), (47, cellsE x.cells), (48, intE x.cells.length), (49, intE q.1)]) (fun q => upS K.st q.2 H) (fun q m => q.1 ≤ x.cells.length ∧ n ≤ m ∧ more s1 q.2 ((x.cells.take q.1).flatMap (idsC N)) ∧ ∀ c ∈ x.cells.take q.1, okcl K.m2 N c) (fun q => x.cells.length - q.1) (0, s1) ⟨Nat.zero_le _, hm, more.nil rfl, by simp⟩ ?_ look_same ?_)
        · simp [go_sem, look, Fz.same]
        rintro ⟨j, s2⟩ m ⟨hj, hm, hmo2, hok2⟩
        dsimp only at hj hmo2 hok2 ⊢
        by_cases hjt : j < x.cells.length
        · obtain ⟨y, hy⟩ : ∃ y, x.cells[j] = y := ⟨_, rfl⟩
          have hym : y ∈ x.cells := by rw [← hy]; exact List.getElem_mem hjt
          obtain ⟨y1, y2⟩ := x3 y hym
          have w2 : IntKind.i64.wrap ((j : Int) + 1) = ((j + 1 : Nat) : Int) := by rw [wr64] <;> omega
          have tk2 := take_flatMap (idsC N) x.cells j hjt
          rw [hy] at tk2
          have tl2 : x.cells.take (j + 1) = x.cells.take j ++ [y] := by rw [List.take_succ_eq_append_getElem hjt, hy]
          refine SP_mid 0 (α := Unit) (fun _ => [(0, .ptr K.p 0), (5, .iptr [.bool pl.body, .bool pl.note, intE pl.tables]), (21, rowsE l), (22, intE l.length), (23, intE i), (47, cellsE x.cells), (48, intE x.cells.length), (49, intE j), (50, .bool true)]) (fun _ => upS K.st s2 H) (fun _ m => n ≤ m) ?_ (fun _ m hm => ?_)
          · simp [go_sem, Fz.same, hm, hjt]
          refine SP_mid 0 (α := Unit) (fun _ => [(0, .ptr K.p 0), (5, .iptr [.bool pl.body, .bool pl.note, intE pl.tables]), (21, rowsE l), (22, intE l.length), (23, intE i), (47, cellsE x.cells), (48, intE x.cells.length), (49, intE j)]) (fun _ => upS K.st s2 H) (fun _ m => n ≤ m) ?_ (fun _ m hm => ?_)
          · simp [go_sem, Fz.same, hm]
          refine SP_midS 0 (α := CkS) (fun _ => [(0, .ptr K.p 0), (5, .iptr [.bool pl.body, .bool pl.note, intE pl.tables]), (21, rowsE l), (22, intE l.length), (23, intE i), (47, cellsE x.cells), (48, intE x.cells.length), (49, intE j)]) (fun q => upS K.st q H) (fun q m => n ≤ m ∧ more s2 q (idsC N y) ∧ okcl K.m2 N y) ?_ (fun q m hm => ?_)
          · refine SP_block ?_
            refine SP_mid 1 (α := Unit) (fun _ => [(0, .ptr K.p 0), (5, .iptr [.bool pl.body, .bool pl.note, intE pl.tables]), (21, rowsE l), (22, intE l.length), (23, intE i), (47, cellsE x.cells), (48, intE x.cells.length), (49, intE j), (11, .iptr ([intE y.id] ++ y.head.flat ++ [itemsE y.flow]))]) (fun _ => upS K.st s2 H) (fun _ m => n ≤ m) ?_ (fun _ m hm => ?_)
            · simp [go_sem, Fz.same, hjt, hy, Cell.enc_eq, Head.flat, hset_at]
              have hHm : ∀ j y, upS K.st s2 H j = some y → j < m := fun j y e => by have := hUb _ j y e; omega
              exact ⟨by omega, ptr_fz (lt_none hHm (Nat.le_refl _)) (hset_at _ _ _), set_keep hHm (set_keep hHm look_same)⟩
            refine SP_midS 0 (α := CkS) (fun _ => [(0, .ptr K.p 0), (5, .iptr [.bool pl.body, .bool pl.note, intE pl.tables]), (21, rowsE l), (22, intE l.length), (23, intE i), (47, cellsE x.cells), (48, intE x.cells.length), (49, intE j), (11, .iptr ([intE y.id] ++ y.head.flat ++ [itemsE y.flow]))]) (fun q => upS K.st q H) (fun q m => n ≤ m ∧ more s2 q [y.id]) (SP_of ?_) (fun q m hm => ?_)
            · simp [go_sem]
              refine SC.use (d223 hK s2 y.id (by omega) has_up) ?_
              rintro v H' n' ⟨e, s3, rfl, hT, rfl, rfl⟩
              rw [D.up2]
              by_cases e0 : e = 0
              · obtain ⟨h1, h2, h3, h4⟩ := hT e0
                simp [go_sem, e0, Fz.same, Head.flat]
                refine ⟨s3.1, s3.2, ⟨by omega, ?_⟩, look_same⟩
                exact more.one h1 ⟨h2, h3⟩ h4
              · simp [go_sem, e0]
                exact no e _ _ e0
            obtain ⟨hm, hq1⟩ := hm
            refine SP_midS 0 (α := Unit) (fun _ => [(0, .ptr K.p 0), (5, .iptr [.bool pl.body, .bool pl.note, intE pl.tables]), (21, rowsE l), (22, intE l.length), (23, intE i), (47, cellsE x.cells), (48, intE x.cells.length), (49, intE j), (11, .iptr ([intE y.id] ++ y.head.flat ++ [itemsE y.flow]))]) (fun _ => upS K.st q H) (fun _ m => n ≤ m ∧ headOK K.m2 y.head) (SP_of ?_) (fun _ m hm => ?_)
            · simp [go_sem, Head.flat]
              refine SC.use (by simpa [Head.enc, Head.flat] using d86 hK q 10 y.head y1 (H := upS K.st q H) (n := m) (by omega) has_up) ?_
              rintro v H' n' ⟨e, s3, rfl, hT, rfl, rfl⟩
              rw [D.up2]
              by_cases e0 : e = 0
              · obtain ⟨h1, h2⟩ := hT e0
                simp [go_sem, e0, Fz.same, h1, h2]; omega
              · simp [go_sem, e0]
                exact no e _ _ e0
            obtain ⟨hm, hh2⟩ := hm
            refine SP_of ?_
            simp [go_sem, Head.flat]
            refine SC.use (by simpa [Place.enc] using y2 q pl (upS K.st q H) m (by omega) has_up) ?_
            rintro v H' n' ⟨e, s3, rfl, hT, rfl, rfl⟩
            rw [D.up2]
            by_cases e0 : e = 0
            · obtain ⟨h1, h2⟩ := hT e0
              simp [go_sem, e0, Fz.same]
              refine ⟨s3.1, s3.2, ⟨by omega, ?_, hh2, h2⟩, look_same⟩
              exact hq1.trans' h1 rfl
            · simp [go_sem, e0]
              exact no e _ _ e0
          · refine SP_of ?_
            simp [go_sem, w2, Fz.same, -Int.natCast_add]
            refine ⟨j + 1, by omega, q.1, q.2, ⟨by omega, hm.1, hmo2.trans' hm.2.1 tk2.symm, fun c hc => ?_⟩, rfl, look_same⟩
            rw [tl2] at hc
            exact all_push hok2 hm.2.2 c hc
        · have : j = x.cells.length := by omega
          subst this
          rw [List.take_length] at hmo2 hok2
          refine SP_of ?_
          simp [go_sem, Fz.same]
          refine ⟨s2.1, s2.2, ⟨hm, ?_, hhd, hok2⟩, look_same⟩
          exact hmo.trans' hmo2 (by rw [tk, idsR_eq])
      · refine SP_of ?_
        simp [go_sem, w1, Fz.same, -Int.natCast_add]
        refine ⟨i + 1, by omega, q.1, q.2, ⟨by omega, hm.1, hm.2.1, fun r hr => ?_⟩, rfl, look_same⟩
        rw [tl] at hr
        exact all_push hok hm.2.2 r hr
    · have : i = l.length := by omega
      subst this
      rw [List.take_length] at hmo hok
      refine SP_of ?_
      simp [go_sem]
      exact ⟨s1.1, s1.2, ⟨hm, hmo, hok⟩, look_same⟩
  · refine SP_of ?_
    simp [go_sem]
    exact hK.ret hn ho 0 q (by rw [hT]; exact fun _ => ⟨hm.2.1, hne, hm.2.2⟩) look_same
end
theorem cItems {K : Ck} {n0 : Nat} (hK : K.ok n0) {B : Nat} (hB : B ≤ 1048576) : ∀ (N : Nat) (l : List Item), lim Head.sized B N l → ItemsC K n0 N l
  | 0, _, h => h.elim
  | N + 1, l, h => by
    have hs := h.sized (fun _ e => e) hB
    obtain ⟨_, _, h3⟩ := lim_iff.1 h
    refine d88 hK N l hs.1 fun x hx => ?_
    obtain ⟨a1, a2, a3, a4⟩ := h3 x hx
    refine d161 hK N x (Item.sizedL_mem hs.2 x hx) (cItems hK hB N x.flow a2) (d224 hK N x.rows (by omega) fun r hr => ?_)
    obtain ⟨b1, b2, b3⟩ := a4 r hr
    exact ⟨b1, by omega, fun c hc => ⟨(b3 c hc).1, cItems hK hB N c.flow (b3 c hc).2⟩⟩
theorem setAt_kvI (l : List (Int × Int)) (j : Nat) (x v : Int) : ∃ l', setAt (kvI l) j (intE x) (intE v) = kvI l' := by
  unfold setAt kvI
  exact ⟨l.modify j fun _ => (x, v), by apply List.ext_getElem?; intro i; simp only [List.getElem?_modify, List.getElem?_map]; by_cases e : j = i <;> cases l[i]? <;> simp [e]⟩
def hb (h : Hp) (n : Nat) (a0 : List (Int × Int)) (a1 a2 : List Int) : Hp :=
  hset (hset (hset (hset (hset (hset h (n + 1) (some (.map (kvI a0)))) (n + 2) (some (.map (kvT a1)))) (n + 3) (some (.map (kvT a2)))) (n + 4) (some (.map []))) (n + 5) (some (.map []))) (n + 6) (some (.cells [.map (n + 1), .map (n + 2), .map (n + 3), .map (n + 4), .map (n + 5), intE 0]))
section
variable {h : Hp} {n : Nat} {a0 : List (Int × Int)} {a1 a2 : List Int}
theorem hb6 : hb h n a0 a1 a2 (n + 6) = some (.cells [.map (n + 1), .map (n + 2), .map (n + 3), .map (n + 4), .map (n + 5), intE 0]) := by simp [hb, hset]
theorem hb1 : hb h n a0 a1 a2 (n + 1) = some (.map (kvI a0)) := by simp [hb, hset]
theorem hb2 : hb h n a0 a1 a2 (n + 2) = some (.map (kvT a1)) := by simp [hb, hset]
theorem hb3 : hb h n a0 a1 a2 (n + 3) = some (.map (kvT a2)) := by simp [hb, hset]
theorem hb4 : hb h n a0 a1 a2 (n + 4) = some (.map []) := by simp [hb, hset]
theorem hb5 : hb h n a0 a1 a2 (n + 5) = some (.map []) := by simp [hb, hset]
theorem hb1s (b : List (Int × Int)) : hset (hb h n a0 a1 a2) (n + 1) (some (.map (kvI b))) = hb h n b a1 a2 := by funext j; simp only [hb, hset]; grind
theorem hb2s (b : List Int) : hset (hb h n a0 a1 a2) (n + 2) (some (.map (kvT b))) = hb h n a0 b a2 := by funext j; simp only [hb, hset]; grind
theorem hb3s (b : List Int) : hset (hb h n a0 a1 a2) (n + 3) (some (.map (kvT b))) = hb h n a0 a1 b := by funext j; simp only [hb, hset]; grind
theorem hb_lt (ho : ∀ j y, h j = some y → j < n) : ∀ j y, hb h n a0 a1 a2 j = some y → j < n + 7 := fun j y e => by
  have := ho j y; simp only [hb, hset] at e; grind
theorem hb_old (ho : ∀ j y, h j = some y → j < n) : ∀ j y, h j = some y → hb h n a0 a1 a2 j = some y := fun j y e => by
  have := ho j y; simp only [hb, hset]; grind
end
def newQ (d : Document) (h : Hp) (n : Nat) : SV → Hp → Nat → Prop := fun v h' n' => ∃ K : Ck, K.ok n' ∧ n ≤ n' ∧ v = .ptr K.p 0 ∧ (∀ o y, K.st ([], 0) o = some y → h' o = some y) ∧ K.m2 = addU [] (d.revs.map (·.id)) ∧ (∀ j y, h j = some y → h' j = some y) ∧ ∀ o y, K.st ([], 0) o = some y → n ≤ o
set_option maxHeartbeats 2000000 in
theorem d85 (d : Document) (h1 : d.settings.styles.length ≤ 1048576) (h2 : d.settings.lists.length ≤ 1048576) (h3 : d.revs.length ≤ 1048576) {h : Hp} {n : Nat} : SCall Tryz.prog 81 [d.enc] h n (newQ d h n) := by
  refine goS Tryz.func81 rfl (by kernel_rfl) (by kernel_rfl) (by simp [go_sem]) fun ho => ?_
  have hHb : ∀ j y, h j = some y → j < n := fun j y e => (ho j y e).1
  obtain ⟨X, hX⟩ : ∃ X : SV, X = .iptr ([itemsE d.flow] ++ d.«end».flat ++ [revsE d.revs] ++ d.settings.flat) := ⟨_, rfl⟩
  refine SP_mid 1 (α := Unit) (fun _ => [(1, X)]) (fun _ => h) (fun _ m => n + 1 = m) ?_ (fun _ m hm => ?_)
  · rw [hX]
    simp [go_sem, Document.enc, Head.flat, Settings.flat]
    exact ⟨ptr_fz (lt_none hHb (Nat.le_refl _)) (hset_at _ _ _), set_keep hHb look_same⟩
  subst hm
  refine SP_mid 0 (α := Unit) (fun _ => [(1, X), (3, .ptr (n + 6) 0)]) (fun _ => hb h n [] [] []) (fun _ m => n + 7 = m) ?_ (fun _ m hm => ?_)
  · simp [go_sem, Fz.same, Nat.add_assoc, hb, kvI, kvT]
  subst hm
  refine SP_midS 0 (α := List (Int × Int)) (fun _ => [(1, X), (3, .ptr (n + 6) 0)]) (fun a => hb h n a [] []) (fun _ m => n + 7 ≤ m) ?_ (fun a0 m hm => ?_)
  · refine SP_mid 0 (α := Unit) (fun _ => [(1, X), (3, .ptr (n + 6) 0), (19, stylesE d.settings.styles), (20, intE d.settings.styles.length), (21, intE 0)]) (fun _ => hb h n [] [] []) (fun _ m => n + 7 ≤ m) ?_ (fun _ m hm => ?_)
    · rw [hX]; simp [go_sem, Fz.same, Head.flat, Settings.flat]
    refine SP_block (goloopS 0 (α := Nat × List (Int × Int)) (fun q => [(1, X), (3, .ptr (n + 6) 0), (19, stylesE d.settings.styles), (20, intE d.settings.styles.length), (21, intE q.1)]) (fun q => hb h n q.2 [] []) (fun q m => q.1 ≤ d.settings.styles.length ∧ n + 7 ≤ m) (fun q => d.settings.styles.length - q.1) (0, []) ⟨Nat.zero_le _, hm⟩ ?_ look_same ?_)
    · simp [go_sem, look, Fz.same]
    rintro ⟨i, a⟩ m ⟨hi, hm⟩
    dsimp only at hi ⊢
    have hlt7 : ∀ j y, hb h n a [] [] j = some y → j < m := fun j y e => by have := hb_lt (h := h) (n := n) (fun j y e => hHb j y e) j y e; omega
    refine SP_of ?_
    by_cases hlt : i < d.settings.styles.length
    · obtain ⟨x, hx⟩ : ∃ x, d.settings.styles[i] = x := ⟨_, rfl⟩
      have w1 : IntKind.i64.wrap ((i : Int) + 1) = ((i + 1 : Nat) : Int) := by rw [wr64] <;> omega
      have e6 : n + 6 ≠ m := by omega
      have e1 : n + 1 ≠ m := by omega
      have fin : ∀ b z y, ∃ a', ∀ j w, hb h n a' [] [] j = some w → hset (hset (hset (hb h n a [] []) m y) m z) (n + 1) (some (.map (kvI b))) j = some w := fun b z y => ⟨b, fun j w e => by
        have := hb_lt (h := h) (n := n) (fun j y e => hHb j y e) j w e
        rw [← hb1s (a0 := a)] at e
        simp only [hset] at e ⊢
        split at e
        · rename_i c; rw [if_pos c]; exact e
        · rename_i c; rw [if_neg c, if_neg (by omega), if_neg (by omega)]; exact e⟩
      rcases findS_int x.id a 0 with f | ⟨j, v, f⟩
      · have hpush : kvI a ++ [(intE x.id, intE x.kind)] = kvI (a ++ [(x.id, x.kind)]) := by simp [kvI]
        simp [go_sem, hlt, hx, Style.enc, hset_at, hset_ne, e6, e1, hb6, hb1, f, keyOk, hpush, w1, -Int.natCast_add]
        repeat first | refine nd (by kernel_rfl) ?_ | refine sd (by kernel_rfl) ?_ | refine And.intro (by omega) ?_
        obtain ⟨a2, ha2⟩ := fin (a ++ [(x.id, x.kind)]) _ _
        exact ⟨i + 1, by omega, ⟨by omega, by omega⟩, a2, rfl, ha2⟩
      · obtain ⟨a', ha'⟩ := setAt_kvI a j x.id x.kind
        simp only [setAt] at ha'
        simp [go_sem, hlt, hx, Style.enc, hset_at, hset_ne, e6, e1, hb6, hb1, f, keyOk, ha', w1, -Int.natCast_add]
        repeat first | refine nd (by kernel_rfl) ?_ | refine sd (by kernel_rfl) ?_ | refine And.intro (by omega) ?_
        obtain ⟨a2, ha2⟩ := fin a' _ _
        exact ⟨i + 1, by omega, ⟨by omega, by omega⟩, a2, rfl, ha2⟩
    · simp [go_sem, hlt, Fz.same]
      exact ⟨by omega, a, look_same⟩
  refine SP_midS 0 (α := List Int) (fun _ => [(1, X), (3, .ptr (n + 6) 0)]) (fun a => hb h n a0 a []) (fun a m => n + 7 ≤ m) ?_ (fun a1 m hm => ?_)
  · refine SP_mid 0 (α := Unit) (fun _ => [(1, X), (3, .ptr (n + 6) 0), (36, listsE d.settings.lists), (37, intE d.settings.lists.length), (38, intE 0)]) (fun _ => hb h n a0 [] []) (fun _ m => n + 7 ≤ m) ?_ (fun _ m hm => ?_)
    · rw [hX]; simp [go_sem, Fz.same, Head.flat, Settings.flat, hm]
    refine SP_block (goloopS 0 (α := Nat × List Int) (fun q => [(1, X), (3, .ptr (n + 6) 0), (36, listsE d.settings.lists), (37, intE d.settings.lists.length), (38, intE q.1)]) (fun q => hb h n a0 q.2 []) (fun q m => q.1 ≤ d.settings.lists.length ∧ n + 7 ≤ m ∧ q.2 = addU [] ((d.settings.lists.take q.1).map (·.id))) (fun q => d.settings.lists.length - q.1) (0, []) ⟨Nat.zero_le _, hm, by simp [addU]⟩ ?_ look_same ?_)
    · simp [go_sem, look, Fz.same]
    rintro ⟨i, a⟩ m ⟨hi, hm, ha⟩
    dsimp only at hi ha ⊢
    refine SP_of ?_
    by_cases hlt : i < d.settings.lists.length
    · obtain ⟨x, hx⟩ : ∃ x, d.settings.lists[i] = x := ⟨_, rfl⟩
      have w1 : IntKind.i64.wrap ((i : Int) + 1) = ((i + 1 : Nat) : Int) := by rw [wr64] <;> omega
      have e6 : n + 6 ≠ m := by omega
      have e1 : n + 2 ≠ m := by omega
      have hnext : addU [] ((d.settings.lists.take (i + 1)).map (·.id)) = insU a x.id := by rw [List.take_succ_eq_append_getElem hlt, hx, List.map_append, addU_append, ← ha]; rfl
      have fin : ∀ b z y, ∀ j w, hb h n a0 b [] j = some w → hset (hset (hset (hb h n a0 a []) m y) m z) (n + 2) (some (.map (kvT b))) j = some w := fun b z y j w e => by
        have := hb_lt (h := h) (n := n) (fun j y e => hHb j y e) j w e
        rw [← hb2s (a1 := a)] at e
        simp only [hset] at e ⊢
        split at e
        · rename_i c; rw [if_pos c]; exact e
        · rename_i c; rw [if_neg c, if_neg (by omega), if_neg (by omega)]; exact e
      by_cases hm2 : x.id ∈ a
      · obtain ⟨j, f, hj⟩ := findS_yes 0 hm2
        have hss := setAt_same hj
        simp only [setAt] at hss
        rw [Nat.zero_add] at f
        simp [go_sem, hlt, hx, Lst.enc, hset_at, hset_ne, e6, e1, hb6, hb2, f, keyOk, hss, w1, -Int.natCast_add]
        repeat first | refine nd (by kernel_rfl) ?_ | refine sd (by kernel_rfl) ?_ | refine And.intro (by omega) ?_
        refine ⟨i + 1, by omega, a, ⟨by omega, by omega, ?_⟩, rfl, fin a _ _⟩
        rw [List.map_take] at hnext; rw [hnext, insU, if_pos hm2]
      · have f := findS_no 0 hm2
        have hpush := kvT_push a x.id
        simp [go_sem, hlt, hx, Lst.enc, hset_at, hset_ne, e6, e1, hb6, hb2, f, keyOk, hpush, w1, -Int.natCast_add]
        repeat first | refine nd (by kernel_rfl) ?_ | refine sd (by kernel_rfl) ?_ | refine And.intro (by omega) ?_
        refine ⟨i + 1, by omega, a ++ [x.id], ⟨by omega, by omega, ?_⟩, rfl, fin _ _ _⟩
        rw [List.map_take] at hnext; rw [hnext, insU, if_neg hm2]
    · have : i = d.settings.lists.length := by omega
      subst this
      rw [List.take_length] at ha
      simp [go_sem, Fz.same]
      exact ⟨by omega, a, look_same⟩
  refine SP_midS 0 (α := List Int) (fun _ => [(1, X), (3, .ptr (n + 6) 0)]) (fun a => hb h n a0 a1 a) (fun a m => n + 7 ≤ m ∧ a = addU [] (d.revs.map (·.id))) ?_ (fun a2 m hm => ?_)
  · refine SP_mid 0 (α := Unit) (fun _ => [(1, X), (3, .ptr (n + 6) 0), (50, revsE d.revs), (51, intE d.revs.length), (52, intE 0)]) (fun _ => hb h n a0 a1 []) (fun _ m => n + 7 ≤ m) ?_ (fun _ m hm => ?_)
    · rw [hX]; simp [go_sem, Fz.same, Head.flat, Settings.flat, hm]
    refine SP_block (goloopS 0 (α := Nat × List Int) (fun q => [(1, X), (3, .ptr (n + 6) 0), (50, revsE d.revs), (51, intE d.revs.length), (52, intE q.1)]) (fun q => hb h n a0 a1 q.2) (fun q m => q.1 ≤ d.revs.length ∧ n + 7 ≤ m ∧ q.2 = addU [] ((d.revs.take q.1).map (·.id))) (fun q => d.revs.length - q.1) (0, []) ⟨Nat.zero_le _, hm, by simp [addU]⟩ ?_ look_same ?_)
    · simp [go_sem, look, Fz.same]
    rintro ⟨i, a⟩ m ⟨hi, hm, ha⟩
    dsimp only at hi ha ⊢
    refine SP_of ?_
    by_cases hlt : i < d.revs.length
    · obtain ⟨x, hx⟩ : ∃ x, d.revs[i] = x := ⟨_, rfl⟩
      have w1 : IntKind.i64.wrap ((i : Int) + 1) = ((i + 1 : Nat) : Int) := by rw [wr64] <;> omega
      have e6 : n + 6 ≠ m := by omega
      have e1 : n + 3 ≠ m := by omega
      have hnext : addU [] ((d.revs.take (i + 1)).map (·.id)) = insU a x.id := by rw [List.take_succ_eq_append_getElem hlt, hx, List.map_append, addU_append, ← ha]; rfl
      have fin : ∀ b z y, ∀ j w, hb h n a0 a1 b j = some w → hset (hset (hset (hb h n a0 a1 a) m y) m z) (n + 3) (some (.map (kvT b))) j = some w := fun b z y j w e => by
        have := hb_lt (h := h) (n := n) (fun j y e => hHb j y e) j w e
        rw [← hb3s (a2 := a)] at e
        simp only [hset] at e ⊢
        split at e
        · rename_i c; rw [if_pos c]; exact e
        · rename_i c; rw [if_neg c, if_neg (by omega), if_neg (by omega)]; exact e
      by_cases hm2 : x.id ∈ a
      · obtain ⟨j, f, hj⟩ := findS_yes 0 hm2
        have hss := setAt_same hj
        simp only [setAt] at hss
        rw [Nat.zero_add] at f
        simp [go_sem, hlt, hx, Rev.enc, hset_at, hset_ne, e6, e1, hb6, hb3, f, keyOk, hss, w1, -Int.natCast_add]
        repeat first | refine nd (by kernel_rfl) ?_ | refine sd (by kernel_rfl) ?_ | refine And.intro (by omega) ?_
        refine ⟨i + 1, by omega, a, ⟨by omega, by omega, ?_⟩, rfl, fin a _ _⟩
        rw [List.map_take] at hnext; rw [hnext, insU, if_pos hm2]
      · have f := findS_no 0 hm2
        have hpush := kvT_push a x.id
        simp [go_sem, hlt, hx, Rev.enc, hset_at, hset_ne, e6, e1, hb6, hb3, f, keyOk, hpush, w1, -Int.natCast_add]
        repeat first | refine nd (by kernel_rfl) ?_ | refine sd (by kernel_rfl) ?_ | refine And.intro (by omega) ?_
        refine ⟨i + 1, by omega, a ++ [x.id], ⟨by omega, by omega, ?_⟩, rfl, fin _ _ _⟩
        rw [List.map_take] at hnext; rw [hnext, insU, if_neg hm2]
    · have : i = d.revs.length := by omega
      subst this
      rw [List.take_length] at ha
      simp [go_sem, Fz.same]
      exact ⟨a, ⟨by omega, ha⟩, look_same⟩
  refine SP_of ?_
  simp [go_sem]
  refine .inl ⟨⟨n + 6, n + 1, n + 2, n + 3, n + 4, n + 5, a0, a1, a2⟩, ⟨by simp, by simp; omega⟩, by omega, rfl, fun o y e => ?_, hm.2, hb_old hHb, fun o y e => ?_⟩
  · simp only [Ck.st, Ck.cells, kvT] at e
    by_cases c6 : o = n + 6
    · subst c6; simp at e; rw [hb6]; exact congrArg some e
    · by_cases c4 : o = n + 4
      · subst c4; simp at e; rw [hb4]; exact congrArg some e
      · by_cases c1 : o = n + 1
        · subst c1; simp at e; rw [hb1]; exact congrArg some e
        · by_cases c2 : o = n + 2
          · subst c2; simp at e; rw [hb2]; exact congrArg some e
          · by_cases c3 : o = n + 3
            · subst c3; simp at e; rw [hb3]; exact congrArg some e
            · by_cases c5 : o = n + 5
              · subst c5; simp at e; rw [hb5]; exact congrArg some e
              · rw [if_neg c6, if_neg c4, if_neg c1, if_neg c2, if_neg c3, if_neg c5] at e; cases e
  · simp only [Ck.st] at e
    by_cases c : n ≤ o
    · exact c
    · rw [if_neg (by omega), if_neg (by omega), if_neg (by omega), if_neg (by omega), if_neg (by omega), if_neg (by omega)] at e; cases e
def trK1 : Tr := .pure 0 <| .pure 1 <| .pure 3 <| .pure 4 <| .one 2 <| .one 5 <| .one 6 <| .one 7 <| .one 8 .nil
def trK2 : Tr := .pure 0 <| .pure 1 <| .pure 2 <| .pure 4 <| .pure 5 <| .pure 6 <| .one 3 <| .one 7 <| .one 8 <| .one 9 <| .one 10 <| .one 11 <| .one 12 <| .one 13 <| .one 14 <| .one 15 <| .one 16 <| .one 17 <| .one 18 <| .one 19 <| .one 20 <| .one 21 .nil
structure okDoc (N : Nat) (d : Document) : Prop where
  flow : okc (addU [] (d.revs.map (·.id))) N d.flow
  ids : ∀ i ∈ idsN N d.flow, 1 ≤ i ∧ i ≤ 1073741824
  nodup : (idsN N d.flow).Nodup
  revs : revsErr d.revs = 0
  «end» : headOK (addU [] (d.revs.map (·.id))) d.«end»
  endI : d.«end».ins = 0
set_option maxHeartbeats 2000000 in
theorem t24 (d : Document) {B N : Nat} (hB : B ≤ 1048576) (hl : lim Head.sized B N d.flow) (he : d.«end».sized) (h1 : d.settings.styles.length ≤ 1048576) (h2 : d.settings.lists.length ≤ 1048576) (h3 : d.revs.length ≤ 1048576) (h4 : ∀ r ∈ d.revs, r.author.size ≤ 1048576)
    (h83 : TC 79 [d.settings.enc] fun v => ∃ e, v = intE e) : TC 26 [d.enc] (Err (okDoc N d)) := by
  intro h n
  refine goS Tryz.func26 rfl (by kernel_rfl) (by kernel_rfl) (by simp [go_sem]) fun ho => ?_
  have hHb : ∀ j y, h j = some y → j < n := fun j y e => (ho j y e).1
  obtain ⟨X, hX⟩ : ∃ X : SV, X = .iptr ([itemsE d.flow] ++ d.«end».flat ++ [revsE d.revs] ++ d.settings.flat) := ⟨_, rfl⟩
  obtain ⟨T, hT⟩ : ∃ T : Prop, T = okDoc N d := ⟨_, rfl⟩
  rw [← hT]
  have no : ∀ (e : Int) (H2 : Hp) (m : Nat), e ≠ 0 → (∀ j y, h j = some y → H2 j = some y) → RetS n H2 m (intE e) (fun v h' n' => Err T v ∧ h' = h ∧ n' = n) := fun e H2 m he hh => retT ho hh (by simp [closed]) (Err.no he)
  refine SP_mid 1 (α := Unit) (fun _ => [(1, X)]) (fun _ => h) (fun _ m => n ≤ m) ?_ (fun _ m hm => ?_)
  · rw [hX]
    simp [go_sem, Document.enc, Head.flat, Settings.flat]
    exact ⟨ptr_fz (lt_none hHb (Nat.le_refl _)) (hset_at _ _ _), set_keep hHb look_same⟩
  refine SP_midS 0 (α := Unit) (fun _ => [(1, X)]) (fun _ => h) (fun _ m => n ≤ m ∧ revsErr d.revs = 0) ?_ (fun _ m hm => ?_)
  · refine SP_midS 0 (α := Int) (fun e => [(1, X), (3, intE e)]) (fun _ => h) (fun e m => n ≤ m ∧ (e = 0 → revsErr d.revs = 0)) (SP_tr trK1 rfl (by kernel_rfl) (by kernel_rfl) ?_) (fun e m hm => ?_)
    · have hHm : ∀ j y, h j = some y → j < m := fun j y e => by have := hHb j y e; omega
      rw [hX]
      simp [go_sem, trK1, Head.flat, Settings.flat]
      refine TC.use (by simpa [Settings.enc, Settings.flat] using h83) ?_
      rintro v ⟨e, rfl⟩
      simp [go_sem]
      refine (c84 d.revs h3 h4).use ?_
      simp [go_sem]
      refine SCallE.fz (bs := [.imm 1 ([e, revsErr d.revs].map intE) false]) (h2 := h) 1 (set_keep hHm look_same) ⟨?_, trivial⟩ ?_
      · exact sl_fz (es := [intE e, intE (revsErr d.revs)]) (lt_none hHm (Nat.le_refl _)) (by simp) (by rw [hset_at]; simp [SV.cells]) (by simp [SV.storable, SV.cells])
      refine (c82 _ (by simp)).use ?_
      generalize hf : firstE [e, revsErr d.revs] = ef
      simp [go_sem, Fz.same]
      refine ⟨ef, ⟨by omega, fun h0 => ?_⟩, Fz.same⟩
      rw [h0, firstE] at hf
      split at hf
      · exact firstE_head hf
      · rename_i c; exact absurd hf c
    by_cases e0 : e = 0
    case neg => exact SP_of (by simp [go_sem, e0]; exact no e _ _ e0 look_same)
    have hrv := hm.2 e0
    rw [e0]
    exact SP_of (by simp [go_sem, Fz.same, hm.1, hrv])
  obtain ⟨hm, hrv⟩ := hm
  refine SP_mid 0 (α := Ck) (fun q => [(1, X), (4, .ptr q.p 0)]) (fun q => upS q.st ([], 0) h) (fun q m => n ≤ m ∧ q.ok m ∧ q.m2 = addU [] (d.revs.map (·.id)) ∧ ∀ o y, q.st ([], 0) o = some y → n ≤ o) ?_ (fun K n1 hq => ?_)
  · rw [hX]
    simp [go_sem, Head.flat, Settings.flat]
    refine SC.use (by simpa [Document.enc, Head.flat, Settings.flat] using d85 d h1 h2 h3 (h := h) (n := m)) ?_
    rintro v H' n' ⟨K, a1, a2, rfl, a4, a5, a6, a7⟩
    simp [go_sem, Fz.same]
    refine ⟨K, ⟨by omega, a1, a5, fun o y e => by have := a7 o y e; omega⟩, Fz.same, fun o y e => ?_⟩
    simp only [upS] at e
    cases c : K.st ([], 0) o with
    | some z => rw [c] at e; cases e; exact a4 o y c
    | none => rw [c] at e; exact a6 o y e
  obtain ⟨hn1, hK, hm2, hlo⟩ := hq
  have D := hK.clo
  have hlos : ∀ s' o y, K.st s' o = some y → n ≤ o := fun s' o y e => by
    cases c : K.st ([], 0) o with
    | some z => exact hlo o z c
    | none => rw [D.dom ([], 0) s' o c] at e; cases e
  have hold : ∀ s', ∀ j y, h j = some y → upS K.st s' h j = some y := fun s' j y e => by
    simp only [upS]
    cases c : K.st s' j with
    | some z => have := hlos s' j z c; have := hHb j y e; omega
    | none => exact e
  have hUb : ∀ s' j y, upS K.st s' h j = some y → j < n1 := fun s' j y e => (D.old s' (Nat.le_refl _) (fun j y e => ⟨by have := hHb j y e; omega, closedO_mono hn1 (ho j y e).2⟩) j y e).1
  have hps : ∀ s', upS K.st s' h K.p = some (.cells [.map K.s0, .map K.s1, .map K.s2, .map K.s3, .map K.s4, intE s'.2]) := fun s' => (hK.has (s := s') has_up).p
  refine SP_mid 1 (α := Unit) (fun _ => [(1, X), (4, .ptr K.p 0), (5, .iptr [intE d.«end».ins, intE d.«end».move, delsE d.«end».dels, layersE d.«end».layers])]) (fun _ => upS K.st ([], 0) h) (fun _ m => n1 ≤ m) ?_ (fun _ m hm => ?_)
  · rw [hX]
    simp [go_sem, Fz.same, Head.flat, Settings.flat, hset_at]
    exact ⟨ptr_fz (lt_none (hUb _) (Nat.le_refl _)) (hset_at _ _ _), set_keep (hUb _) (set_keep (hUb _) look_same)⟩
  refine SP_midS 0 (α := Unit) (fun _ => [(1, X), (4, .ptr K.p 0)]) (fun _ => upS K.st ([], 0) h) (fun _ m => n1 ≤ m ∧ headOK K.m2 d.«end» ∧ d.«end».ins = 0) ?_ (fun _ m hm => ?_)
  · have hd := d86 hK ([], 0) 3 d.«end» he (H := upS K.st ([], 0) h) (n := m) hm has_up
    refine SP_midS 0 (α := Int × CkS) (fun q => [(1, X), (4, .ptr K.p 0), (6, intE q.1)]) (fun q => upS K.st q.2 h) (fun q m => n1 ≤ m ∧ (q.1 = 0 → q.2 = ([], 0) ∧ headOK K.m2 d.«end» ∧ d.«end».ins = 0)) (SP_tr trK2 rfl (by kernel_rfl) (by kernel_rfl) ?_) (fun q m hm => ?_)
    · rw [hX]
      have fin : ∀ (e ea : Int) (s2 : CkS) (m1 : Nat) (KK : SV → Hp → Nat → Prop), n1 ≤ m1 → KK (intE (firstE [e, ea])) (upS K.st s2 h) (m1 + 1) → SCallE (Env.plain.call false 0) Tryz.prog 78 [.sl m1 0 1 2 true] (hset (upS K.st s2 h) m1 (some (.cells [intE e, intE ea]))) (m1 + 1) KK := fun e ea s2 m1 KK hm1 hk => by
        refine SCallE.fz (bs := [.imm 1 ([e, ea].map intE) false]) (h2 := upS K.st s2 h) 1 (set_keep (fun j z e => by have := hUb s2 j z e; omega) look_same) ⟨?_, trivial⟩ ?_
        · exact sl_fz (es := [intE e, intE ea]) (lt_none (hUb s2) hm1) (by simp) (by rw [hset_at]; simp [SV.cells]) (by simp [SV.storable, SV.cells])
        exact (c82 _ (by simp)).use hk
      have hd' : ∀ KK : SV → Hp → Nat → Prop, (∀ e s2, (e = 0 → s2 = ([], 0) ∧ headOK K.m2 d.«end») → KK (intE e) (upS K.st s2 h) m) → SCallE (Env.plain.call false 0) Tryz.prog 82 [.ptr K.p 0, intE 3, .agg [propsE d.«end».props, intE d.«end».ins, intE d.«end».move, delsE d.«end».dels, layersE d.«end».layers]] (upS K.st ([], 0) h) m KK := fun KK hk => by
        refine SC.use (by simpa [Head.enc, Head.flat] using hd) ?_
        rintro v H' n' ⟨e, s2, rfl, hT2, rfl, rfl⟩
        rw [D.up2]
        exact hk e s2 hT2
      clear hd
      generalize hin : d.«end».ins = ins at hd' ⊢
      generalize hmv : d.«end».move = mv at hd' ⊢
      by_cases i0 : ins = 0
      · subst i0
        by_cases m0 : mv = 0
        · subst m0
          simp [go_sem, trK2, Head.flat, hin, hmv]
          refine hd' _ fun e s2 hT2 => ?_
          simp [go_sem]
          refine (c87 _ _).use ?_
          simp [go_sem]
          refine fin _ _ _ _ _ hm ?_
          generalize hf : firstE [e, _] = ef
          simp [go_sem, Fz.same]
          exact ⟨ef, s2.1, s2.2, ⟨by omega, fun h0 => by have := hT2 (firstE_head (by rw [hf]; exact h0)); rw [this.1]; exact ⟨⟨rfl, rfl⟩, this.2⟩⟩, Fz.same, look_same⟩
        · simp [go_sem, trK2, Head.flat, hin, hmv]
          refine hd' _ fun e s2 hT2 => ?_
          simp [go_sem, m0]
          refine (c87 _ _).use ?_
          simp [go_sem]
          refine fin _ _ _ _ _ hm ?_
          generalize hf : firstE [e, _] = ef
          simp [go_sem, Fz.same]
          exact ⟨ef, s2.1, s2.2, ⟨by omega, fun h0 => by have := hT2 (firstE_head (by rw [hf]; exact h0)); rw [this.1]; exact ⟨⟨rfl, rfl⟩, this.2⟩⟩, Fz.same, look_same⟩
      · simp [go_sem, trK2, Head.flat, hin, hmv, i0]
        refine hd' _ fun e s2 hT2 => ?_
        simp [go_sem, i0]
        refine (c87 _ _).use ?_
        simp [go_sem]
        refine fin _ _ _ _ _ hm ?_
        generalize hf : firstE [e, _] = ef
        simp [go_sem, Fz.same]
        have hne : ¬ ef = 0 := by
          rw [← hf]; simp only [firstE]
          by_cases c : e = 0 <;> simp [c]
        exact ⟨ef, ⟨by omega, hne⟩, s2.1, s2.2, Fz.same, look_same⟩
    obtain ⟨e8, s8⟩ := q
    dsimp only at hm ⊢
    by_cases e80 : e8 = 0
    case neg => exact SP_of (by simp [go_sem, e80]; exact no e8 _ _ e80 (hold _))
    obtain ⟨h81, hhd⟩ := hm.2 e80
    rw [e80, h81]
    exact SP_of (by simp [go_sem, Fz.same, hm.1, hhd])
  obtain ⟨hm, hhd⟩ := hm
  refine SP_midS 0 (α := CkS) (fun _ => [(4, .ptr K.p 0)]) (fun q => upS K.st q h) (fun q m => n1 ≤ m ∧ more ([], 0) q (idsN N d.flow) ∧ okc K.m2 N d.flow) (SP_of ?_) (fun q m hm => ?_)
  · rw [hX]
    simp [go_sem, Head.flat, Settings.flat]
    refine SC.use (by simpa [Place.enc] using cItems hK hB N d.flow hl ([], 0) ⟨true, false, 0⟩ (upS K.st ([], 0) h) m hm has_up) ?_
    rintro v H' n' ⟨e, s2, rfl, hT2, rfl, rfl⟩
    rw [D.up2]
    by_cases e0 : e = 0
    · obtain ⟨b1, b2⟩ := hT2 e0
      simp [go_sem, e0, Fz.same]
      exact ⟨s2.1, s2.2, ⟨hm, b1, b2⟩, look_same⟩
    · simp [go_sem, e0]
      exact no e _ _ e0 (hold _)
  refine SP_of ?_
  simp [go_sem, hps]
  refine (c87 _ _).use ?_
  simp [go_sem]
  refine retT ho (hold _) (by simp [closed]) (Err.ok ?_)
  rw [hT]
  rw [hm2] at hm hhd
  exact ⟨hm.2.2, hm.2.1.2.1, by have := hm.2.1.2.2 List.nodup_nil; rw [hm.2.1.1] at this; simpa using this, hrv, hhd.1, hhd.2⟩
def tot : Nat → List Item → Nat
  | 0, _ => 0
  | N + 1, l => (l.map fun x => 1 + tot N x.flow + (x.rows.map fun r => (r.cells.map fun c => 1 + tot N c.flow).sum).sum).sum
def totC (N : Nat) (l : List Cell) : Nat := (l.map fun c => 1 + tot N c.flow).sum
def totR (N : Nat) (l : List Row) : Nat := (l.map fun r => totC N r.cells).sum
def totL (N : Nat) (l : List Item) : Nat := (l.map fun x => 1 + tot N x.flow + totR N x.rows).sum
theorem tot_succ (N : Nat) (l : List Item) : tot (N + 1) l = totL N l := rfl
theorem take_sum {α : Type} {f : α → Nat} {l : List α} {i : Nat} (hi : i < l.length) {x : α} (hx : l[i] = x) : ((l.take (i + 1)).map f).sum = ((l.take i).map f).sum + f x := by
  rw [List.take_succ_eq_append_getElem hi, hx]; simp
theorem len_tot (N : Nat) : ∀ l : List Item, l.length ≤ totL N l
  | [] => Nat.le_refl _
  | x :: l => by
    have := len_tot N l
    simp only [totL, List.map_cons, List.sum_cons, List.length_cons] at this ⊢; omega
def few : Nat → List Item → Prop
  | 0, _ => False
  | N + 1, l => l.length ≤ 150 ∧ ∀ x ∈ l, (x.text.size ≤ 1000 ∧ x.rows.length ≤ 20) ∧ few N x.flow ∧ ∀ r ∈ x.rows, r.cells.length ≤ 20 ∧ ∀ c ∈ r.cells, few N c.flow
def fewI (N : Nat) (x : Item) : Prop := (x.text.size ≤ 1000 ∧ x.rows.length ≤ 20) ∧ few N x.flow ∧ ∀ r ∈ x.rows, r.cells.length ≤ 20 ∧ ∀ c ∈ r.cells, few N c.flow
def cntQ (N : Nat) (l : List Item) (c0 : Int) (p : Nat) (H : Hp) (n : Nat) : SV → Hp → Nat → Prop := fun v h' n' => ∃ b c, v = .bool b ∧ h' = hset H p (some (.cells [intE c])) ∧ n' = n ∧ (b = true → 0 ≤ c0 ∧ c0 ≤ 150 → 0 ≤ c ∧ c + tot N l ≤ c0 ∧ few N l)
def CntC (N : Nat) (l : List Item) : Prop := ∀ (dp : Int) (p : Nat) (c0 : Int) (H : Hp) (n : Nat), H p = some (.cells [intE c0]) → SCall Tryz.prog 97 [itemsE l, intE dp, .ptr p 0] H n (cntQ N l c0 p H n)
theorem take_all {α : Type} {p : α → Prop} {l : List α} {i : Nat} (hi : i < l.length) {x : α} (hx : l[i] = x) (h : ∀ y ∈ l.take i, p y) (h2 : p x) : ∀ y ∈ l.take (i + 1), p y := fun y hy => by
  rw [List.take_succ_eq_append_getElem hi, hx] at hy
  rcases List.mem_append.1 hy with hy | hy
  · exact h y hy
  · rw [List.mem_singleton.1 hy]; exact h2
set_option maxHeartbeats 4000000 in
theorem d33 (N : Nat) (l : List Item) (hl : l.length ≤ 1048576) (hr : ∀ x ∈ l, x.head.props.length ≤ 1048576 ∧ CntC N x.flow ∧ x.rows.length ≤ 1048576 ∧ ∀ r ∈ x.rows, r.cells.length ≤ 1048576 ∧ ∀ c ∈ r.cells, CntC N c.flow) : CntC (N + 1) l := fun dp p c0 H n hp => by
  refine goS Tryz.func97 rfl (by kernel_rfl) (by kernel_rfl) (by simp [go_sem]) fun ho => ?_
  have hpn : p < n := (ho p _ hp).1
  obtain ⟨B, hB⟩ : ∃ B : Int → Hp, ∀ c, B c = hset H p (some (.cells [intE c])) := ⟨_, fun _ => rfl⟩
  have hBp : ∀ c, B c p = some (.cells [intE c]) := fun c => by rw [hB, hset_at]
  have hBs : ∀ c c', hset (B c) p (some (.cells [intE c'])) = B c' := fun c c' => by rw [hB, hB, hset_two]
  have hB0 : B c0 = H := by rw [hB]; funext j; simp only [hset]; split; · subst_vars; exact hp.symm
                            · rfl
  have ret0 : ∀ (b : Bool) (c : Int) (m : Nat), (b = true → 0 ≤ c0 ∧ c0 ≤ 150 → 0 ≤ c ∧ c + tot (N + 1) l ≤ c0 ∧ few (N + 1) l) → RetS n (B c) m (.bool b) (cntQ (N + 1) l c0 p H n) := fun b c m hb =>
    .inr ⟨0, .bool b, B c, Fz.same, by simp [closed], fun j y e => ⟨e, by
      rw [hB] at e
      by_cases h : j = p
      · subst h; rw [hset_at] at e; cases e; exact ⟨hpn, by simp [closedO, closed, closedL]⟩
      · rw [hset_ne _ _ h] at e; exact ho j y e⟩, b, c, rfl, hB c, rfl, hb⟩
  have ret : ∀ (c : Int) (m : Nat), RetS n (B c) m (.bool false) (cntQ (N + 1) l c0 p H n) := fun c m => ret0 false c m (by simp)
  refine SP_mid 0 (α := Unit) (fun _ => [(0, itemsE l), (1, intE dp), (2, .ptr p 0)]) (fun _ => B c0) (fun _ m => n ≤ m) ?_ (fun _ m hm => ?_)
  · rw [hB0]; simp [go_sem, Fz.same]
  refine SP_midS 0 (α := Int) (fun _ => []) (fun c => B c) (fun c m => n ≤ m ∧ (0 ≤ c0 ∧ c0 ≤ 150 → 0 ≤ c ∧ c + totL N l ≤ c0 ∧ ∀ x ∈ l, fewI N x)) ?_ (fun c m hm => ?_)
  · refine SP_mid 0 (α := Unit) (fun _ => [(0, itemsE l), (1, intE dp), (2, .ptr p 0), (7, intE 0)]) (fun _ => B c0) (fun _ m => n ≤ m) ?_ (fun _ m hm => ?_)
    · simp [go_sem, Fz.same, hm]
    refine SP_block (goloopS 0 (α := Nat × Int) (fun q => [(0, itemsE l), (1, intE dp), (2, .ptr p 0), (7, intE q.1)]) (fun q => B q.2) (fun q m => q.1 ≤ l.length ∧ n ≤ m ∧ (0 ≤ c0 ∧ c0 ≤ 150 → 0 ≤ q.2 ∧ q.2 + totL N (l.take q.1) ≤ c0 ∧ ∀ x ∈ l.take q.1, fewI N x)) (fun q => l.length - q.1) (0, c0) ⟨Nat.zero_le _, hm, fun g => ⟨g.1, by simp [totL], by simp⟩⟩ ?_ look_same ?_)
    · simp [go_sem, look, Fz.same]
    rintro ⟨i, c⟩ m ⟨hi, hm, hG⟩
    dsimp only at hi hG ⊢
    by_cases hlt : i < l.length
    · obtain ⟨x, hx⟩ : ∃ x, l[i] = x := ⟨_, rfl⟩
      have hxm : x ∈ l := by rw [← hx]; exact List.getElem_mem hlt
      obtain ⟨x1, x2, x3, x4⟩ := hr x hxm
      have w1 : IntKind.i64.wrap ((i : Int) + 1) = ((i + 1 : Nat) : Int) := by rw [wr64] <;> omega
      refine SP_mid 0 (α := Unit) (fun _ => [(0, itemsE l), (1, intE dp), (2, .ptr p 0), (7, intE i)]) (fun _ => B c) (fun _ m => n ≤ m) ?_ (fun _ m hm => ?_)
      · simp [go_sem, Fz.same, hm, hlt]
      refine SP_midS 0 (α := Int) (fun _ => [(0, itemsE l), (1, intE dp), (2, .ptr p 0), (7, intE i)]) (fun c => B c) (fun c m => n ≤ m ∧ (0 ≤ c0 ∧ c0 ≤ 150 → 0 ≤ c ∧ c + totL N (l.take (i + 1)) ≤ c0 ∧ fewI N x)) ?_ (fun c m hm => ?_)
      · refine SP_block ?_
        refine SP_mid 0 (α := Int) (fun _ => [(0, itemsE l), (1, intE dp), (2, .ptr p 0), (7, intE i)]) (fun c => B c) (fun c' m => n ≤ m ∧ (0 ≤ c0 ∧ c0 ≤ 150 → c' = c - 1)) ?_ (fun c' m hm => ?_)
        · simp [go_sem, Fz.same, hm, hBp, hBs]
          exact ⟨_, fun g1 g2 => by obtain ⟨q1, q2, _⟩ := hG ⟨g1, g2⟩; rw [wr64] <;> omega, look_same⟩
        obtain ⟨hm, hc'⟩ := hm
        refine SP_midS 0 (α := Int) (fun _ => [(0, itemsE l), (1, intE dp), (2, .ptr p 0), (7, intE i)]) (fun c => B c) (fun c2 m => n ≤ m ∧ (0 ≤ c0 ∧ c0 ≤ 150 → 0 ≤ c2 ∧ c2 + tot N x.flow ≤ c' ∧ (x.text.size ≤ 1000 ∧ x.rows.length ≤ 20) ∧ few N x.flow)) ?_ (fun c m hm => ?_)
        · refine SP_mid 0 (α := Bx × Int) (fun q => [(0, itemsE l), (1, intE dp), (2, .ptr p 0), (7, intE i), (68, .bool q.1.b)]) (fun q => B q.2) (fun q m => n ≤ m ∧ (q.1.b = false → 0 ≤ c0 ∧ c0 ≤ 150 → 0 ≤ q.2 ∧ q.2 + tot N x.flow ≤ c' ∧ (x.text.size ≤ 1000 ∧ x.rows.length ≤ 20) ∧ few N x.flow)) ?_ (fun q m hm => ?_)
          · generalize c' = c at hc' ⊢
            by_cases a1 : c < 0
            · simp [go_sem, Fz.same, hm, hBp, a1]
              exact ⟨⟨true⟩, c, by simp, rfl, look_same⟩
            by_cases a2 : dp = 0
            · simp [go_sem, Fz.same, hm, hBp, a1, a2]
              exact ⟨⟨true⟩, c, by simp, rfl, look_same⟩
            by_cases a3 : (1000 : Int) < x.text.size
            · simp [go_sem, Fz.same, hm, hBp, a1, a2, hlt, hx, Item.enc_eq, a3]
              exact ⟨⟨true⟩, c, by simp, rfl, look_same⟩
            by_cases a4 : (60 : Int) < x.head.props.length
            · simp [go_sem, Fz.same, hm, hBp, a1, a2, hlt, hx, Item.enc_eq, a3, a4]
              exact ⟨⟨true⟩, c, by simp, rfl, look_same⟩
            by_cases a5 : (20 : Int) < x.rows.length
            · simp [go_sem, Fz.same, hm, hBp, a1, a2, hlt, hx, Item.enc_eq, a3, a4, a5]
              exact ⟨⟨true⟩, c, by simp, rfl, look_same⟩
            simp [go_sem, hBp, a1, a2, hlt, hx, Item.enc_eq, a3, a4, a5]
            refine SC.use (x2 _ p c (B c) m (hBp c)) ?_
            rintro v H' n' ⟨b, c2, rfl, rfl, rfl, hb⟩
            rw [hBs]
            simp [go_sem, Fz.same, hm]
            exact ⟨⟨!b⟩, c2, fun g ga gb => by
              have g1 : 0 ≤ c0 ∧ c0 ≤ 150 := ⟨ga, gb⟩
              obtain ⟨q1, q2, q3⟩ := hG g1
              have e1 := hc' g1
              obtain ⟨r1, r2, r3⟩ := hb (by simpa using g) ⟨by omega, by omega⟩
              exact ⟨r1, r2, ⟨by omega, by omega⟩, r3⟩, rfl, look_same⟩
          obtain ⟨⟨b⟩, c2⟩ := q
          obtain ⟨hm, hb⟩ := hm
          dsimp only at hb ⊢
          cases b with
          | true => exact SP_of (by simp [go_sem]; exact ret c2 _)
          | false => exact SP_of (by simp [go_sem, Fz.same, hm]; exact ⟨_, fun g1 g2 => hb rfl ⟨g1, g2⟩, look_same⟩)
        obtain ⟨hm, hx2⟩ := hm
        have hts := take_sum (f := fun x => 1 + tot N x.flow + totR N x.rows) hlt hx
        change totL N _ = totL N _ + _ at hts
        obtain ⟨S, hS⟩ : ∃ S : Nat, S = totL N (l.take i) + 1 + tot N x.flow := ⟨_, rfl⟩
        have hSt : totL N (l.take (i + 1)) = S + totR N x.rows := by omega
        rw [hSt]
        clear hts
        have hG2 : 0 ≤ c0 ∧ c0 ≤ 150 → 0 ≤ c ∧ c + S ≤ c0 ∧ (x.text.size ≤ 1000 ∧ x.rows.length ≤ 20) ∧ few N x.flow := fun g => by
          obtain ⟨q1, q2, _⟩ := hG g
          obtain ⟨r1, r2, r3, r4⟩ := hx2 g
          have := hc' g
          exact ⟨r1, by omega, r3, r4⟩
        clear hG hx2 hc'
        refine SP_mid 0 (α := Unit) (fun _ => [(0, itemsE l), (1, intE dp), (2, .ptr p 0), (7, intE i), (8, intE 0)]) (fun _ => B c) (fun _ m => n ≤ m) ?_ (fun _ m hm => ?_)
        · simp [go_sem, Fz.same, hm]
        refine SP_block (goloopS 0 (α := Nat × Int) (fun q => [(0, itemsE l), (1, intE dp), (2, .ptr p 0), (7, intE i), (8, intE q.1)]) (fun q => B q.2) (fun q m => q.1 ≤ x.rows.length ∧ n ≤ m ∧ (0 ≤ c0 ∧ c0 ≤ 150 → 0 ≤ q.2 ∧ q.2 + (S + totR N (x.rows.take q.1) : Nat) ≤ c0 ∧ ∀ r ∈ x.rows.take q.1, r.cells.length ≤ 20 ∧ ∀ z ∈ r.cells, few N z.flow)) (fun q => x.rows.length - q.1) (0, c) ⟨Nat.zero_le _, hm, fun g => ⟨(hG2 g).1, (hG2 g).2.1, by simp⟩⟩ ?_ look_same ?_)
        · simp [go_sem, look, Fz.same]
        have hx3 : 0 ≤ c0 ∧ c0 ≤ 150 → (x.text.size ≤ 1000 ∧ x.rows.length ≤ 20) ∧ few N x.flow := fun g => (hG2 g).2.2
        clear hG2
        rintro ⟨j, c⟩ m ⟨hj, hm, hG⟩
        dsimp only at hj hG ⊢
        by_cases hjt : j < x.rows.length
        · obtain ⟨y, hy⟩ : ∃ y, x.rows[j] = y := ⟨_, rfl⟩
          have hym : y ∈ x.rows := by rw [← hy]; exact List.getElem_mem hjt
          obtain ⟨y1, y2⟩ := x4 y hym
          have w2 : IntKind.i64.wrap ((j : Int) + 1) = ((j + 1 : Nat) : Int) := by rw [wr64] <;> omega
          have hts := take_sum (f := fun r : Row => totC N r.cells) hjt hy
          change totR N _ = totR N _ + _ at hts
          obtain ⟨U, hU⟩ : ∃ U : Nat, U = S + totR N (x.rows.take j) := ⟨_, rfl⟩
          have hUt : S + totR N (x.rows.take (j + 1)) = U + totC N y.cells := by omega
          rw [← hU] at hG
          clear hts
          refine SP_mid 0 (α := Unit) (fun _ => [(0, itemsE l), (1, intE dp), (2, .ptr p 0), (7, intE i), (8, intE j)]) (fun _ => B c) (fun _ m => n ≤ m) ?_ (fun _ m hm => ?_)
          · simp [go_sem, Fz.same, hm, hlt, hx, Item.enc_eq, hjt]
          refine SP_midS 0 (α := Int) (fun _ => [(0, itemsE l), (1, intE dp), (2, .ptr p 0), (7, intE i), (8, intE j)]) (fun c => B c) (fun c m => n ≤ m ∧ (0 ≤ c0 ∧ c0 ≤ 150 → 0 ≤ c ∧ c + (S + totR N (x.rows.take (j + 1)) : Nat) ≤ c0 ∧ y.cells.length ≤ 20 ∧ ∀ z ∈ y.cells, few N z.flow)) ?_ (fun c m hm => ?_)
          · refine SP_block ?_
            refine SP_midS 0 (α := Unit) (fun _ => [(0, itemsE l), (1, intE dp), (2, .ptr p 0), (7, intE i), (8, intE j)]) (fun _ => B c) (fun _ m => n ≤ m ∧ y.cells.length ≤ 20) (SP_of ?_) (fun _ m hm => ?_)
            · by_cases a : (20 : Int) < y.cells.length
              · simp [go_sem, hlt, hx, Item.enc_eq, hjt, hy, Row.enc_eq, a]
                exact ret c _
              · simp [go_sem, hlt, hx, Item.enc_eq, hjt, hy, Row.enc_eq, a, Fz.same, hm]
                omega
            obtain ⟨hm, hyc⟩ := hm
            refine SP_mid 0 (α := Unit) (fun _ => [(0, itemsE l), (1, intE dp), (2, .ptr p 0), (7, intE i), (8, intE j), (9, intE 0)]) (fun _ => B c) (fun _ m => n ≤ m) ?_ (fun _ m hm => ?_)
            · simp [go_sem, Fz.same, hm]
            refine SP_block (goloopS 0 (α := Nat × Int) (fun q => [(0, itemsE l), (1, intE dp), (2, .ptr p 0), (7, intE i), (8, intE j), (9, intE q.1)]) (fun q => B q.2) (fun q m => q.1 ≤ y.cells.length ∧ n ≤ m ∧ (0 ≤ c0 ∧ c0 ≤ 150 → 0 ≤ q.2 ∧ q.2 + (U + totC N (y.cells.take q.1) : Nat) ≤ c0 ∧ ∀ z ∈ y.cells.take q.1, few N z.flow)) (fun q => y.cells.length - q.1) (0, c) ⟨Nat.zero_le _, hm, fun g => ⟨(hG g).1, (hG g).2.1, by simp⟩⟩ ?_ look_same ?_)
            · simp [go_sem, look, Fz.same]
            clear hG
            rintro ⟨k, c⟩ m ⟨hk, hm, hG⟩
            dsimp only at hk hG ⊢
            by_cases hkt : k < y.cells.length
            · obtain ⟨z, hz⟩ : ∃ z, y.cells[k] = z := ⟨_, rfl⟩
              have hzm : z ∈ y.cells := by rw [← hz]; exact List.getElem_mem hkt
              have z1 := y2 z hzm
              have w3 : IntKind.i64.wrap ((k : Int) + 1) = ((k + 1 : Nat) : Int) := by rw [wr64] <;> omega
              have hts := take_sum (f := fun c : Cell => 1 + tot N c.flow) hkt hz
              change totC N _ = totC N _ + _ at hts
              refine SP_mid 0 (α := Unit) (fun _ => [(0, itemsE l), (1, intE dp), (2, .ptr p 0), (7, intE i), (8, intE j), (9, intE k)]) (fun _ => B c) (fun _ m => n ≤ m) ?_ (fun _ m hm => ?_)
              · simp [go_sem, Fz.same, hm, hlt, hx, Item.enc_eq, hjt, hy, Row.enc_eq, hkt]
              refine SP_midS 0 (α := Int) (fun _ => [(0, itemsE l), (1, intE dp), (2, .ptr p 0), (7, intE i), (8, intE j), (9, intE k)]) (fun c => B c) (fun c m => n ≤ m ∧ (0 ≤ c0 ∧ c0 ≤ 150 → 0 ≤ c ∧ c + (U + totC N (y.cells.take (k + 1)) : Nat) ≤ c0 ∧ few N z.flow)) ?_ (fun c m hm => ?_)
              · refine SP_block ?_
                refine SP_mid 0 (α := Int) (fun _ => [(0, itemsE l), (1, intE dp), (2, .ptr p 0), (7, intE i), (8, intE j), (9, intE k)]) (fun c => B c) (fun c' m => n ≤ m ∧ (0 ≤ c0 ∧ c0 ≤ 150 → c' = c - 1)) ?_ (fun c' m hm => ?_)
                · simp [go_sem, Fz.same, hm, hBp, hBs]
                  exact ⟨_, fun g1 g2 => by obtain ⟨q1, q2, _⟩ := hG ⟨g1, g2⟩; rw [wr64] <;> omega, look_same⟩
                obtain ⟨hm, hc'⟩ := hm
                refine SP_mid 0 (α := Bx × Int) (fun q => [(0, itemsE l), (1, intE dp), (2, .ptr p 0), (7, intE i), (8, intE j), (9, intE k), (132, .bool q.1.b)]) (fun q => B q.2) (fun q m => n ≤ m ∧ (q.1.b = false → 0 ≤ c0 ∧ c0 ≤ 150 → 0 ≤ q.2 ∧ q.2 + tot N z.flow ≤ c' ∧ few N z.flow)) ?_ (fun q m hm => ?_)
                · generalize c' = c at hc' ⊢
                  by_cases a1 : c < 0
                  · simp [go_sem, Fz.same, hm, hBp, a1]
                    exact ⟨⟨true⟩, c, by simp, rfl, look_same⟩
                  simp [go_sem, hBp, a1, hlt, hx, Item.enc_eq, hjt, hy, Row.enc_eq, hkt, hz, Cell.enc_eq]
                  refine SC.use (z1 _ p c (B c) m (hBp c)) ?_
                  rintro v H' n' ⟨b, c2, rfl, rfl, rfl, hb⟩
                  rw [hBs]
                  simp [go_sem, Fz.same, hm]
                  exact ⟨⟨!b⟩, c2, fun g ga gb => by
                    have g1 : 0 ≤ c0 ∧ c0 ≤ 150 := ⟨ga, gb⟩
                    obtain ⟨q1, q2, q3⟩ := hG g1
                    have e1 := hc' g1
                    exact hb (by simpa using g) ⟨by omega, by omega⟩, rfl, look_same⟩
                obtain ⟨⟨b⟩, c2⟩ := q
                obtain ⟨hm, hb⟩ := hm
                dsimp only at hb ⊢
                cases b with
                | true => exact SP_of (by simp [go_sem]; exact ret c2 _)
                | false => exact SP_of (by simp [go_sem, Fz.same, hm]; exact ⟨_, fun g1 g2 => by
                    obtain ⟨q1, q2, _⟩ := hG ⟨g1, g2⟩
                    obtain ⟨r1, r2, r3⟩ := hb rfl ⟨g1, g2⟩
                    have := hc' ⟨g1, g2⟩
                    exact ⟨r1, by omega, r3⟩, look_same⟩)
              · obtain ⟨hm, hz2⟩ := hm
                refine SP_of ?_
                simp [go_sem, w3, Fz.same, -Int.natCast_add]
                exact ⟨k + 1, by omega, c, ⟨by omega, hm, fun ga gb => ⟨(hz2 ⟨ga, gb⟩).1, (hz2 ⟨ga, gb⟩).2.1, take_all hkt hz (hG ⟨ga, gb⟩).2.2 (hz2 ⟨ga, gb⟩).2.2⟩⟩, rfl, look_same⟩
            · refine SP_of ?_
              have hkk : k = y.cells.length := by omega
              rw [hkk, List.take_length] at hG
              simp [go_sem, hlt, hx, Item.enc_eq, hjt, hy, Row.enc_eq, hkt, Fz.same, hm]
              exact ⟨c, fun g1 g2 => ⟨(hG ⟨g1, g2⟩).1, by have := (hG ⟨g1, g2⟩).2.1; omega, hyc, (hG ⟨g1, g2⟩).2.2⟩, look_same⟩
          · obtain ⟨hm, hy2⟩ := hm
            refine SP_of ?_
            simp [go_sem, w2, Fz.same, -Int.natCast_add]
            exact ⟨j + 1, by omega, c, ⟨by omega, hm, fun ga gb => ⟨(hy2 ⟨ga, gb⟩).1, (hy2 ⟨ga, gb⟩).2.1, take_all hjt hy (hG ⟨ga, gb⟩).2.2 (hy2 ⟨ga, gb⟩).2.2⟩⟩, rfl, look_same⟩
        · refine SP_of ?_
          have hjj : j = x.rows.length := by omega
          rw [hjj, List.take_length] at hG
          simp [go_sem, hlt, hx, Item.enc_eq, hjt, Fz.same, hm]
          exact ⟨c, fun g1 g2 => ⟨(hG ⟨g1, g2⟩).1, (hG ⟨g1, g2⟩).2.1, (hx3 ⟨g1, g2⟩).1, (hx3 ⟨g1, g2⟩).2, (hG ⟨g1, g2⟩).2.2⟩, look_same⟩
      · obtain ⟨hm, hx2⟩ := hm
        refine SP_of ?_
        simp [go_sem, w1, Fz.same, -Int.natCast_add]
        exact ⟨i + 1, by omega, c, ⟨by omega, hm, fun ga gb => ⟨(hx2 ⟨ga, gb⟩).1, by have := (hx2 ⟨ga, gb⟩).2.1; omega, take_all hlt hx (hG ⟨ga, gb⟩).2.2 (hx2 ⟨ga, gb⟩).2.2⟩⟩, rfl, look_same⟩
    · refine SP_of ?_
      have hii : i = l.length := by omega
      rw [hii, List.take_length] at hG
      simp [go_sem, hlt, hm]
      exact ⟨c, fun g1 g2 => hG ⟨g1, g2⟩, look_same⟩
  · obtain ⟨hm, hl2⟩ := hm
    refine SP_of ?_
    simp [go_sem]
    refine ret0 true c _ fun _ g => ?_
    obtain ⟨q1, q2, q3⟩ := hl2 g
    have := len_tot N l
    exact ⟨q1, by rw [tot_succ]; exact q2, by omega, q3⟩
theorem cCnt {B : Nat} (hB : B ≤ 1048576) : ∀ (N : Nat) (l : List Item), lim Head.sized B N l → CntC N l
  | 0, _, h => h.elim
  | N + 1, l, h => by
    obtain ⟨h1, _, h3⟩ := lim_iff.1 h
    refine d33 N l (by omega) fun x hx => ?_
    obtain ⟨a1, a2, a3, a4⟩ := h3 x hx
    exact ⟨a1.props, cCnt hB N x.flow a2, by omega, fun r hr => ⟨by have := (a4 r hr).2.1; omega, fun c hc => cCnt hB N c.flow ((a4 r hr).2.2 c hc).2⟩⟩
def smallX (N : Nat) (d : Document) (v : SV) : Prop := ∃ b, v = .bool b ∧ (b = true → okDoc N d ∧ few N d.flow ∧ tot N d.flow ≤ 150)
set_option maxHeartbeats 4000000 in
theorem t12x (d : Document) {B N : Nat} (hB : B ≤ 1048576) (hl : lim Head.sized B N d.flow) (hc : TC 26 [d.enc] (Err (okDoc N d))) : TC 34 [d.enc] (smallX N d) := by
  intro h n
  refine goS Tryz.func34 rfl (by kernel_rfl) (by kernel_rfl) (by simp [go_sem]) fun ho => ?_
  have hHb : ∀ j y, h j = some y → j < n := fun j y e => (ho j y e).1
  have fin : ∀ (b : Bool) (c : SObj) (m : Nat), (b = true → okDoc N d ∧ few N d.flow ∧ tot N d.flow ≤ 150) → RetS n (hset h (n + 1) (some c)) m (.bool b) (fun v h' n' => smallX N d v ∧ h' = h ∧ n' = n) := fun b c m hb => retT ho (set_keep (fun j z e => by have := hHb j z e; omega) look_same) (by simp [closed]) ⟨b, rfl, hb⟩
  refine SP_mid 1 (α := Unit) (fun _ => [(1, .iptr ([itemsE d.flow] ++ d.«end».flat ++ [revsE d.revs] ++ d.settings.flat))]) (fun _ => h) (fun _ m => n + 1 = m) ?_ (fun _ m hm => ?_)
  · simp [go_sem, Document.enc, Head.flat, Settings.flat]
    exact ⟨ptr_fz (lt_none hHb (Nat.le_refl _)) (hset_at _ _ _), set_keep hHb look_same⟩
  subst hm
  refine SP_mid 0 (α := Unit) (fun _ => [(1, .iptr ([itemsE d.flow] ++ d.«end».flat ++ [revsE d.revs] ++ d.settings.flat)), (3, .ptr (n + 1) 0)]) (fun _ => hset h (n + 1) (some (.cells [intE 150]))) (fun _ m => n + 2 = m) ?_ (fun _ m hm => ?_)
  · simp [go_sem, Fz.same, hset_at, hset_two]
  subst hm
  have hGb : ∀ j y, hset h (n + 1) (some (.cells [intE 150])) j = some y → j < n + 2 := fun j y e => by
    simp only [hset] at e; split at e
    · omega
    · have := hHb j y e; omega
  refine SP_mid 1 (α := Unit) (fun _ => [(1, .iptr ([itemsE d.flow] ++ d.«end».flat ++ [revsE d.revs] ++ d.settings.flat)), (3, .ptr (n + 1) 0), (4, .iptr d.settings.flat)]) (fun _ => hset h (n + 1) (some (.cells [intE 150]))) (fun _ m => n + 2 ≤ m) ?_ (fun _ m hm => ?_)
  · simp [go_sem, Fz.same, Head.flat, Settings.flat, hset_at]
    exact ⟨ptr_fz (lt_none hGb (Nat.le_refl _)) (hset_at _ _ _), set_keep hGb (set_keep hGb look_same)⟩
  refine SP_of ?_
  have no := fun c m => fin false c m (by simp)
  by_cases a1 : (d.settings.comments.length : Int) ≤ 30
  case neg => simp [go_sem, Head.flat, Settings.flat, a1]; exact no _ _
  by_cases a2 : (d.settings.styles.length : Int) ≤ 30
  case neg => simp [go_sem, Head.flat, Settings.flat, a1, a2]; exact no _ _
  by_cases a3 : (d.settings.lists.length : Int) ≤ 30
  case neg => simp [go_sem, Head.flat, Settings.flat, a1, a2, a3]; exact no _ _
  by_cases a4 : (d.settings.vars.length : Int) ≤ 30
  case neg => simp [go_sem, Head.flat, Settings.flat, a1, a2, a3, a4]; exact no _ _
  by_cases a5 : (d.revs.length : Int) ≤ 30
  case neg => simp [go_sem, Head.flat, Settings.flat, a1, a2, a3, a4, a5]; exact no _ _
  simp [go_sem, Head.flat, Settings.flat, a1, a2, a3, a4, a5]
  refine SC.use (cCnt hB N d.flow hl 12 (n + 1) 150 (hset h (n + 1) (some (.cells [intE 150]))) m (hset_at _ _ _)) ?_
  rintro v H' n' ⟨b, c, rfl, rfl, rfl, hfew⟩
  rw [hset_two]
  cases b with
  | false => simp [go_sem]; exact no _ _
  | true =>
  simp [go_sem]
  refine TC.use (by simpa [Document.enc, Head.flat, Settings.flat] using hc) ?_
  rintro v ⟨e, rfl, hT⟩
  simp [go_sem]
  obtain ⟨f1, f2, f3⟩ := hfew rfl ⟨by omega, by omega⟩
  exact fin _ _ _ fun g => ⟨hT (by simpa using g), f3, by omega⟩
def anyE (v : SV) : Prop := ∃ e : Int, v = intE e
def trS : Tr := .pure 0 <| .pure 1 <| .pure 3 <| .pure 4 <| .pure 6 <| .pure 7 <| .pure 9 <| .pure 10 <| .one 2 <| .one 5 <| .one 8 <| .one 11 <| .one 12 <| .one 13 <| .one 14 .nil
theorem t83 (s : Settings) (h1 : TC 139 [stylesE s.styles] anyE) (h2 : TC 140 [listsE s.lists] anyE) (h3 : TC 141 [commentsE s.comments] anyE) (h4 : TC 142 [varsE s.vars] anyE) : TC 79 [s.enc] anyE := by
  intro h n
  refine goS Tryz.func79 rfl (by kernel_rfl) (by kernel_rfl) (by simp [go_sem]) fun ho => ?_
  have hHb : ∀ j y, h j = some y → j < n := fun j y e => (ho j y e).1
  refine SP_mid 1 (α := Unit) (fun _ => [(1, .iptr s.flat)]) (fun _ => h) (fun _ m => n ≤ m) ?_ (fun _ m hm => ?_)
  · simp [go_sem, Settings.enc, Settings.flat]
    exact ⟨ptr_fz (lt_none hHb (Nat.le_refl _)) (hset_at _ _ _), set_keep hHb look_same⟩
  refine SP_midS 0 (α := Int) (fun e => [(2, intE e)]) (fun _ => h) (fun _ m => n ≤ m) (SP_tr trS rfl (by kernel_rfl) (by kernel_rfl) ?_) (fun e m hm => ?_)
  · have hHm : ∀ j y, h j = some y → j < m := fun j y e => by have := hHb j y e; omega
    simp [go_sem, trS, Settings.flat]
    refine TC.use h1 ?_
    rintro v ⟨e1, rfl⟩
    simp [go_sem]
    refine TC.use h2 ?_
    rintro v ⟨e2, rfl⟩
    simp [go_sem]
    refine TC.use h3 ?_
    rintro v ⟨e3, rfl⟩
    simp [go_sem]
    refine TC.use h4 ?_
    rintro v ⟨e4, rfl⟩
    simp [go_sem]
    refine SCallE.fz (bs := [.imm 1 ([e1, e2, e3, e4].map intE) false]) (h2 := h) 1 (set_keep hHm look_same) ⟨?_, trivial⟩ ?_
    · exact sl_fz (es := [intE e1, intE e2, intE e3, intE e4]) (lt_none hHm (Nat.le_refl _)) (by simp) (by rw [hset_at]; simp [SV.cells]) (by simp [SV.storable, SV.cells])
    refine (c82 _ (by simp)).use ?_
    simp [go_sem]
    exact ⟨by omega, _, Fz.same⟩
  · refine SP_of ?_
    simp [go_sem]
    exact retT ho look_same (by simp [closed]) ⟨e, rfl⟩
end Go.Proofs.YthinbkgpjmjfeaaGreatDoor.Sh
