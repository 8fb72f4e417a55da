/- A part of the proof (the closed facts of its row). -/
import Derived.Test.YtgakninlhfkkmaaGreatRows
import Derived.JoinedCond
namespace Go.Proofs.YtgakninlhfkkmaaGreat.splitDecides
set_option maxRecDepth 100000
theorem and2 {a b : Bool} (ha : a = true) (hb : b = true) : (a && b) = true := by rw [ha, hb]; rfl
noncomputable abbrev A (q : Program → FuncId → Func → ChangeSpec → OpenClaim → Bool) : Bool := q Tryz.prog 7 Tryz.f7 (Rows.OpenSpec.upto Rows.splitDecidesSpec).bare Rows.splitDecidesUptoRow
theorem f0 : A (fun _ _ _ s c => c.wf (OpenSpec.ofChange s)) = true := by kernel_rfl
theorem f1 : A (fun P _ _ _ _ => laidOutB P) = true := by kernel_rfl
theorem f2 : A (fun P _ _ _ _ => mapsRowed P) = true := by kernel_rfl
theorem f3 : A (fun P _ fn _ _ => fn.params.all (P.readableRec ·)) = true := by kernel_rfl
theorem f4 : A (fun P _ _ s c => namedTie P c.named s.vars) = true := by kernel_rfl
theorem f5 : A (fun _ _ _ _ c => (c.stops == [])) = true := by kernel_rfl
theorem f6 : A (fun P _ _ _ _ => (P.stops == [])) = true := by kernel_rfl
theorem f7 : A (fun _ _ _ _ c => (c.knobs == [])) = true := by kernel_rfl
theorem f8 : A (fun P _ _ _ _ => (P.stopKnobs == [])) = true := by kernel_rfl
theorem f9 : A (fun P f _ _ c => (c.inPlace == P.inPlace f)) = true := by kernel_rfl
theorem f10 : A (fun P f _ _ c => (c.unfollowed == P.unfollowed f)) = true := by kernel_rfl
theorem f11 : A (fun P f _ _ c => (c.recurses == P.recurses f)) = true := by kernel_rfl
theorem f12 : A (fun P f _ _ c => (c.named == P.varsNamed f)) = true := by kernel_rfl
theorem f13 : A (fun P _ fn s c => (c.maps == (fn.params.toList ++ s.plain.varTypes P).any (P.mapsRec ·))) = true := by kernel_rfl
theorem f14 : A (fun P _ fn s c => (c.ifaces == (fn.params.toList ++ s.plain.varTypes P).any (P.ifacesRec ·))) = true := by kernel_rfl
theorem f15 : A (fun P _ fn _ c => (c.mapsOut == P.mapsAmong fn.resultTypes.toList)) = true := by kernel_rfl
theorem f16 : A (fun P _ fn s c => (c.loops == (fn.params.toList ++ s.plain.varTypes P).any (P.loopsFrom ·))) = true := by kernel_rfl
theorem f17 : A (fun P _ fn s c => (c.wideKeys == (fn.params.toList ++ s.plain.varTypes P ++ fn.resultTypes.toList).any (P.wideKeysFrom ·))) = true := by kernel_rfl
theorem f18 : A (fun P _ _ s _ => s.vars.all (P.varReadable ·)) = true := by kernel_rfl
theorem f19 : A (fun P _ fn _ _ => fn.resultTypes.all (fun t => P.readableRec t && decide (t < P.types.size))) = true := by kernel_rfl
theorem f20 : A (fun P _ fn _ c => (c.ifacesOut == fn.resultTypes.toList.any (P.ifacesRec ·))) = true := by kernel_rfl
theorem f21 : A (fun P _ fn _ c => (c.loopsOut == fn.resultTypes.toList.any (P.loopsFrom ·))) = true := by kernel_rfl
theorem f22 : A (fun P _ _ _ c => (c.plainKeys == P.plainKeys)) = true := by kernel_rfl
theorem f23 : A (fun _ _ _ _ c => c.shortTexts.isNone) = true := by kernel_rfl
theorem f24 : A (fun P _ _ _ _ => P.stopsHeard) = true := by kernel_rfl
theorem f25 : A (fun P _ _ _ _ => P.mayEnter) = true := by kernel_rfl
theorem f26 : A (fun P _ _ _ c => (c.lifted == P.liftsFinal)) = true := by kernel_rfl
theorem f27 : A (fun P _ _ _ c => (P.make == some c.make)) = true := by kernel_rfl
theorem f28 : A (fun P _ fn _ c => (c.kinds == (if c.domain.isEmpty then [] else fn.params.toList.map fun t => match P.underlying t with | some (.int k) => some k | _ => none))) = true := by kernel_rfl
theorem f29 : A (fun _ _ _ _ c => (c.pinned == c.pinnedBy)) = true := by kernel_rfl
theorem f30 : A (fun P _ fn s c => (c.veiled == (fn.params.toList ++ s.plain.varTypes P ++ fn.resultTypes.toList).any (P.veiledRec ·))) = true := by kernel_rfl
theorem f31 : A (fun P _ fn s c => c.veiledFits P fn.params.toList (fn.params.toList ++ s.plain.varTypes P ++ fn.resultTypes.toList)) = true := by kernel_rfl
theorem facts : joinedFacts Tryz.checked.prog 7 Tryz.f7 (Rows.OpenSpec.upto Rows.splitDecidesSpec).bare Rows.splitDecidesUptoRow = true := (and2 (and2 (and2 (and2 (and2 (and2 (and2 (and2 (and2 (and2 (and2 (and2 (and2 (and2 (and2 (and2 (and2 (and2 (and2 (and2 (and2 (and2 (and2 (and2 (and2 (and2 (and2 (and2 (and2 (and2 (and2 f0 f1) f2) f3) f4) f5) f6) f7) f8) f9) f10) f11) f12) f13) f14) f15) f16) f17) f18) f19) f20) f21) f22) f23) f24) f25) f26) f27) f28) f29) f30) f31)
end Go.Proofs.YtgakninlhfkkmaaGreat.splitDecides
