/- Proved here: RedactChecks of obeluslaw56 returns true and leaves its input as it was, for every input of bulk at most 1048576 (the row's second form), with the row's card tied to the program's text. -/
import Derived.Test.YthinbkgpjmjfeaaGreatDoorM10
import Derived.Test.YthinbkgpjmjfeaaGreatDoorTie
import Derived.Test.YthinbkgpjmjfeaaGreatDoorCards
import Derived.Deep.DeepHandedRow
import Derived.Deep.DeepWitnessRowRef
import Derived.Lib.LaidIn
import Derived.SevenTiedAt
import Derived.Test.YthinbkgpjmjfeaaGreatDoorMF
namespace Go.Proofs.YthinbkgpjmjfeaaGreatDoor.redactChecks
open Go.ChangeShapes Go.WideShapes Go.ChangeAt Go.RowKit
open Go.Proofs.YthinbkgpjmjfeaaGreatDoor.Sh
set_option maxRecDepth 10000
theorem own : ownKnob Tryz.prog.godebug = none := by kernel_rfl
theorem contract (H : Type) (enc : TypeId × Value → H) (W : World) (base : Nat) (args : Array Value) (ds gs : List (DataW H)) (before : List MemPlace)
    (hval : ∀ (j : Nat) t v, Tryz.f3.params[j]? = some t → args[j]? = some v → Value.okWide Tryz.prog W .any base t v)
    (hW : DataW.Whole enc Tryz.prog Tryz.f3.params.toList Rows.redactChecksSpec.vars false W args.toList ds gs before) (hk : Rows.uptoSmall H (ds ++ gs) = true) (hsh : W.ShapedOpen Tryz.prog) :
    Calls Tryz.prog 3 args W fun e W' => ∃ v, e = .returned v ∧ Rows.redactChecksSpec.post enc Tryz.prog Tryz.f3 false true false false W args v W' := by
  have hW' := hW
  obtain ⟨p, q, hA, hV, rfl, hfz, hnd⟩ := hW
  rw [Tryz.params3] at hA hval
  obtain ⟨v0, vs0, d0, ds0, p0, q0, hargs, rfl, rfl, ⟨n0, h0⟩, r0⟩ := trodAll_cons hA
  obtain ⟨v1, vs1, d1, ds1, p1, q1, rfl, rfl, rfl, ⟨n1, h1⟩, r1⟩ := trodAll_cons r0
  obtain ⟨v2, vs2, d2, ds2, p2, q2, rfl, rfl, rfl, ⟨n2, h2⟩, r2⟩ := trodAll_cons r1
  obtain ⟨rfl, rfl, rfl⟩ := trodAll_nil r2
  obtain rfl : args = #[v0, v1, v2] := by cases args; simp_all
  obtain ⟨rfl, rfl⟩ := trodVars_none hV
  rw [List.append_nil] at hk
  have hb : Rows.uptoBulkAll [d0, d1, d2] ≤ 1048576 := of_decide_eq_true hk
  simp only [Rows.uptoBulkAll] at hb
  obtain ⟨d, a1, a2⟩ := (rDocument n0).arg Tryz.underlying38 (hval 0 38 v0 rfl rfl) h0 (by unfold BB; dsimp only; omega)
  obtain ⟨r, b1, b2⟩ := (rRules n1).arg Tryz.underlying42 (hval 1 42 v1 rfl rfl) h1 (by unfold BB; dsimp only; omega)
  obtain ⟨k, rfl, rfl, rfl, hkw⟩ := open_int Tryz.underlying5 (hval 2 5 v2 rfl rfl) ⟨n2, h2⟩
  have hk01 : 0 ≤ k ∧ k < 256 := by
    simp only [Lit.wf, IntKind.min, IntKind.max, IntKind.signed, IntKind.bits, Bool.and_eq_true] at hkw
    simp at hkw
    omega
  have hBB : BB ≤ 1048576 := by unfold BB; exact Nat.le_refl _
  have hl := a2.flow.sized (fun _ h => h) hBB
  have g := Sh.g3 g11 d r k hk01.1 hk01.2 hBB a2 ⟨hl.1, hl.2, a2.settings.vars⟩ ⟨b2.1, b2.2.1, b2.2.2.1⟩
  have hc := (g EI (fun _ i => i) (fun _ => none) 0).2 (cx0 W) [v0, v1, .int .u8 k] ⟨Tryz.sIdx.s1_3 W hsh, fun h => h⟩ (rel0 W) (fun _ _ => rfl) ⟨a1, b1, by show V _ _ _; rw [V], trivial⟩
  refine Calls.mono hc ?_
  rintro e W' ⟨u, v', h', n', c', rfl, ⟨rfl, _⟩, rfl, hV, _, _, hA⟩
  have hE := hA.ext
  have hu : u = .bool true := by rw [V] at hV; exact hV
  subst hu
  refine ⟨_, rfl, post_still (x := .lit (.bool true)) hW' rfl (by rw [Tryz.params3]; exact of_decide_eq_true (by kernel_rfl)) hE.os hE.out (fun b hb => ext_block hE hb) rfl (fun _ _ _ => trodAll_cons_mk (shut_bool Tryz.underlying4 _) trodAll_mk0) (ok_one (by kernel_rfl) rfl (okWide_bool_mk Tryz.underlying4 _))⟩
def zi : Value := .int .i64 0
def zl : Value := .slice none 0 0
def witD : Value := .agg #[zl, zl, zi, zi, zl, zl, zl, zl, zl, zl, zl]
def witR : Value := .agg #[zl, .string .empty, .bool false, .bool false, .bool false, .bool false, zl]
def wit : Array Value := #[witD, witR, .int .u8 0]
def li {H : Type} : DataW H := .lit (.int .i64 0)
def lb {H : Type} : DataW H := .lit (.bool false)
def litV : DataW Unit → Value
  | .lit (.int k n) => .int k n
  | _ => .bool false
def aggV : DataW Unit → Array Value
  | .agg l => (l.map litV).toArray
  | _ => #[]
noncomputable def laidWorld (os : Os) : World :=
  let w0 := World.holding Tryz.prog os ⟨#[], #[], []⟩
  let put (h : Array Obj) (g : Nat) (cs : Array Value) : Array Obj := h.modify g fun
    | .cells _ t frozen => .cells cs t frozen
    | o => o
  { w0 with heap := put (put (put w0.heap 1 (aggV Rows.laid_internal_strconv_uint64pow10)) 2 (aggV Rows.laid_math_bits_deBruijn32tab)) 3 (aggV Rows.laid_math_bits_deBruijn64tab) }
theorem laid_met (os : Os) : laidMet Tryz.prog Rows.redactChecksUptoRow.laid ((laidWorld os).forCall (fun _ _ => 0) ⟨#[], wit, []⟩).memory :=
  (LaidIn.of_run (l := [("math/bits.deBruijn32tab", Rows.laid_math_bits_deBruijn32tab), ("math/bits.deBruijn64tab", Rows.laid_math_bits_deBruijn64tab), ("internal/strconv.uint64pow10", Rows.laid_internal_strconv_uint64pow10)]) [1, 2, 3] 8 (by kernel_rfl) (by kernel_rfl) (by kernel_rfl) (by kernel_rfl)).met
theorem witness_row (os : Os) {H : Type} (enc : TypeId × Value → H) :
    (Rows.OpenSpec.upto Rows.redactChecksSpec).preRow enc Tryz.prog Tryz.f3 Rows.redactChecksUptoRow.domain false Rows.redactChecksUptoRow.laid ((laidWorld os).forCall (fun _ _ => 0) ⟨#[], wit, []⟩).memory wit := by
  have hw : (DataW.whole enc Tryz.prog ((laidWorld os).forCall (fun _ _ => 0) ⟨#[], wit, []⟩).memory Tryz.f3.params.toList (Rows.OpenSpec.upto Rows.redactChecksSpec).vars false wit.toList 12).map (fun x => (x.1, x.2.1)) =
      some ([.agg [.nil, .agg [.nil, .agg [li, li, .nil, .nil]], .nil, .agg [.nil, .nil, .nil, .nil]], .agg [.nil, .lit (.string []), lb, lb, lb, lb, .nil], .lit (.int .u8 0)], []) := by kernel_rfl
  obtain ⟨⟨x1, x2, x3⟩, hx, hx1⟩ := Option.map_eq_some_iff.1 hw
  simp only [Prod.mk.injEq] at hx1
  obtain ⟨rfl, rfl⟩ := hx1
  exact OpenSpec.preRow_of_cond 12 hx (by kernel_rfl) (fun k hk => by cases hk; kernel_rfl) (by kernel_rfl) (laid_met os)
set_option maxRecDepth 100000 in
theorem lifted (os : Os) (started : os.Started) (H : Type) (enc : TypeId × Value → H) (F : Stop.Interp) :
    ReturnsInHanded {} Tryz.checked os 3 .any ((Rows.OpenSpec.upto Rows.redactChecksSpec).preRow enc Tryz.prog Tryz.f3 Rows.redactChecksUptoRow.domain false Rows.redactChecksUptoRow.laid) (((Rows.OpenSpec.upto Rows.redactChecksSpec).at F).post enc Tryz.prog Tryz.f3 false true false false) := by
  refine returnsInHanded_of_row (C := Tryz.checked) (s := Rows.OpenSpec.upto Rows.redactChecksSpec) own started (by kernel_rfl) Tryz.func3
    (witness_row_atRef (enc := enc) (C := Tryz.checked) false (laidWorld os) wit rfl (by kernel_rfl) (by kernel_rfl) (by kernel_rfl) (witness_row os enc)) ?_
  intro W base args ds gs before hval hW _ hk _ _ hsh _
  exact contract H enc W base args ds gs before hval hW (hk _ rfl) hsh
theorem named : Tryz.checked.prog.funcNamed Rows.redactChecksUptoRow.func = some 3 := by kernel_rfl
theorem inst : Tryz.f3.isInstance Tryz.checked.prog Rows.redactChecksUptoRow.origin Rows.redactChecksUptoRow.targs := of_decide_eq_true (by kernel_rfl)
theorem wrap : Tryz.f3.isWrapper Tryz.checked.prog Rows.redactChecksUptoRow.wrapper Rows.redactChecksUptoRow.mainSum := by unfold Func.isWrapper; first | (rw [if_pos (by decide +kernel)]; kernel_rfl) | (rw [if_neg (by decide +kernel)]; exact ⟨rfl, rfl⟩)
theorem holds : Rows.RedactChecksUptoSaid :=
  OpenClaim.holds_of_cond 3 Tryz.f3 rfl rfl rfl rfl rfl rfl rfl ⟨rfl, rfl, rfl, rfl, rfl⟩ rfl rfl rfl rfl rfl named Tryz.func3 facts inst wrap
    (fun os started H enc _ F => by rw [OpenClaim.pre_eq_preRow]; exact lifted os started H enc F)
theorem looks : false = Tryz.prog.looks [] := by kernel_rfl
theorem proved : Rows.RedactChecksUptoCardSaid :=
  Claim7.holds_tied_plain_at .later [] [.data, .data, .data] true (true, "ef56d7b56468dc3211ac09fe492ba78587841a53dc1d8aea719d901f9a3fe7d6") false
    holds (fun _ h => by cases h) (by kernel_rfl) (fun _ h => by cases h) redactChecksUpto_row_tie rfl ⟨rfl, rfl⟩ (by kernel_rfl) rfl
    (fun f fn hf hfn => by
      obtain rfl : f = 3 := Option.some.inj (named.symm.trans hf) |>.symm
      obtain rfl : fn = Tryz.f3 := (Option.some.inj (Tryz.func3.symm.trans hfn)).symm
      exact ⟨looks, fun j t ht => by
        rw [Tryz.params3] at ht
        have h3 : t = 38 ∨ t = 42 ∨ t = 5 := by
          rcases j with _ | _ | _ | j
          · exact .inl (by simpa using ht.symm)
          · exact .inr (.inl (by simpa using ht.symm))
          · exact .inr (.inr (by simpa using ht.symm))
          · simp at ht
        rcases h3 with rfl | rfl | rfl
        · exact (show Tryz.prog.wantsStandIn 38 = false by kernel_rfl)
        · exact (show Tryz.prog.wantsStandIn 42 = false by kernel_rfl)
        · exact (show Tryz.prog.wantsStandIn 5 = false by kernel_rfl)⟩)
    (by kernel_rfl)
#print axioms proved
end Go.Proofs.YthinbkgpjmjfeaaGreatDoor.redactChecks
