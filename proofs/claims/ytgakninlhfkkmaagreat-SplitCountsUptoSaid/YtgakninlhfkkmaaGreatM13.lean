/- SplitCounts of obeluslaw28 returns true and leaves its arguments as they were, for every document and every cut whose readings are together of bulk at most 1048576; no other condition. -/
import Derived.Test.YtgakninlhfkkmaaGreatM12
import Derived.Test.YtgakninlhfkkmaaGreatMF
namespace Go.Proofs.YtgakninlhfkkmaaGreat.splitCounts
open Go.ChangeShapes Go.WideShapes Go.ChangeAt Go.RowKit
open Go.Proofs.YtgakninlhfkkmaaGreat.Sh
set_option maxRecDepth 10000
theorem own : ownKnob Tryz.prog.godebug = none := by kernel_rfl
theorem contract (H : Type) (enc : TypeId × Value → H) (W : World) (base : Nat) (args : Array Value) (ds gs : List (DataW H)) (before : List MemPlace)
    (hval : ∀ (j : Nat) t v, Tryz.f3.params[j]? = some t → args[j]? = some v → Value.okWide Tryz.prog W .any base t v)
    (hW : DataW.Whole enc Tryz.prog Tryz.f3.params.toList Rows.splitCountsSpec.vars false W args.toList ds gs before) (hk : Rows.uptoSmall H (ds ++ gs) = true) :
    Calls Tryz.prog 3 args W fun e W' => ∃ v, e = .returned v ∧ Rows.splitCountsSpec.post enc Tryz.prog Tryz.f3 false true false false W args v W' := by
  have hW' := hW
  obtain ⟨p, q, hA, hV, rfl, hfz, hnd⟩ := hW
  rw [Tryz.params3] at hA hval
  obtain ⟨v0, vs0, d0, ds0, p0, q0, hargs, rfl, rfl, ⟨n0, h0⟩, r0⟩ := trodAll_cons hA
  obtain ⟨v1, vs1, d1, ds1, p1, q1, rfl, rfl, rfl, ⟨n1, h1⟩, r1⟩ := trodAll_cons r0
  obtain ⟨rfl, rfl, rfl⟩ := trodAll_nil r1
  obtain rfl : args = #[v0, v1] := by cases args; simp_all
  obtain ⟨rfl, rfl⟩ := trodVars_none hV
  rw [List.append_nil] at hk
  have hb : Rows.uptoBulkAll [d0, d1] ≤ 1048576 := of_decide_eq_true hk
  simp only [Rows.uptoBulkAll] at hb
  obtain ⟨d, a1, a2⟩ := (rDocument n0).arg Tryz.underlying38 (hval 0 38 v0 rfl rfl) h0 (by unfold BB; dsimp only; omega)
  obtain ⟨c, b1, b2⟩ := (rCut n1).arg Tryz.underlying44 (hval 1 44 v1 rfl rfl) h1 (by unfold BB; dsimp only; omega)
  have hBB : BB ≤ 1048576 := by unfold BB; exact Nat.le_refl _
  have hc := PC.calls (Sh.splitCounts d c hBB a2) (W := W) (vs := [v0, v1]) ⟨a1, b1, trivial⟩
  refine Calls.mono hc ?_
  rintro e W' ⟨u, c', rfl, rfl, hV, hE⟩
  have hu : u = .bool true := by rw [V] at hV; exact hV
  subst hu
  refine ⟨_, rfl, post_still (x := .lit (.bool true)) hW' rfl (by rw [Tryz.params3]; exact of_decide_eq_true (by kernel_rfl)) hE.os hE.out (fun b hb => ext_block hE hb) rfl (fun _ _ _ => trodAll_cons_mk (shut_bool Tryz.underlying4 _) trodAll_mk0) (ok_one (by kernel_rfl) rfl (okWide_bool_mk Tryz.underlying4 _))⟩
def zi : Value := .int .i64 0
def zl : Value := .slice none 0 0
def witD : Value := .agg #[zl, zl, zi, zi, zl, zl, zl, zl, zl, zl, zl]
def witC : Value := .agg #[zi, zi, zi, zi, zi, .string .empty, zi]
def li {H : Type} : DataW H := .lit (.int .i64 0)
set_option maxRecDepth 100000 in
theorem lifted (os : Os) (started : os.Started) (H : Type) (enc : TypeId × Value → H) (F : Stop.Interp) :
    ReturnsInHanded {} Tryz.checked os 3 .any ((Rows.OpenSpec.upto Rows.splitCountsSpec).pre6 enc Tryz.prog Tryz.f3 Rows.splitCountsUptoRow.domain false) (((Rows.OpenSpec.upto Rows.splitCountsSpec).at F).post enc Tryz.prog Tryz.f3 false true false false) := by
  refine returnsInHanded_of_cond (C := Tryz.checked) (s := Rows.OpenSpec.upto Rows.splitCountsSpec) (k := Rows.uptoSmall) rfl own started (by kernel_rfl) Tryz.func3
    (OpenSpec.witness (enc := enc) (C := Tryz.checked) (s := Rows.OpenSpec.upto Rows.splitCountsSpec) (k := Rows.uptoSmall) rfl false ⟨#[], #[witD, witC], []⟩ 12 (by kernel_rfl) (by kernel_rfl) (by kernel_rfl)
      (x := ([.agg [.nil, .agg [.nil, .agg [li, li, .nil, .nil]], .nil, .agg [.nil, .nil, .nil, .nil]], .agg [li, .agg [li, li, li], .agg [li, .lit (.string []), li]]], [], [])) (by kernel_rfl) rfl (by kernel_rfl)) ?_
  intro W base args ds gs before hval hW _ hk _
  exact contract H enc W base args ds gs before hval hW hk
theorem named : Tryz.checked.prog.funcNamed Rows.splitCountsUptoRow.func = some 3 := by kernel_rfl
theorem inst : Tryz.f3.isInstance Tryz.checked.prog Rows.splitCountsUptoRow.origin Rows.splitCountsUptoRow.targs := of_decide_eq_true (by kernel_rfl)
theorem wrap : Tryz.f3.isWrapper Tryz.checked.prog Rows.splitCountsUptoRow.wrapper Rows.splitCountsUptoRow.mainSum := by unfold Func.isWrapper; first | (rw [if_pos (by decide +kernel)]; kernel_rfl) | (rw [if_neg (by decide +kernel)]; exact ⟨rfl, rfl⟩)
theorem proved : Rows.SplitCountsUptoSaid :=
  OpenClaim.holds_of_cond 3 Tryz.f3 rfl rfl rfl rfl rfl rfl rfl ⟨rfl, rfl, rfl, rfl, rfl⟩ rfl rfl rfl rfl rfl named Tryz.func3 facts inst wrap
    (fun os started H enc _ F => lifted os started H enc F)
#print axioms proved
end Go.Proofs.YtgakninlhfkkmaaGreat.splitCounts
