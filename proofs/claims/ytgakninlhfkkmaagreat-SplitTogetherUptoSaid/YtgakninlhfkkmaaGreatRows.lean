/-
  NARROWER THAN 'FOR EVERY INPUT', by the rows' own cells (each row's printed sentence says how): SplitCounts: loops · SplitParts: loops · SplitDivides: loops · SplitReassigns: loops · SplitDecides: loops · SplitCombines: loops · SplitRestores: loops · SplitTogether: loops.
  DERIVED. THE GIVEN ROWS OF THIS SEAT. 8 by the template 'for every input the law returns true; each argument reads behind the call as it read before'; 0 by the template 'total and deterministic' (their statements: YtgakninlhfkkmaaGreatTotals.lean).
  GIVEN WITH THE SEED: the statements are not yours to turn. If you find one false, say at which input.
  Laid BY PROGRAM, IN A SANDBOX (cutbox-rows.mjs): the forced cells as the released guide's own fill.sh prints them over the translation 88c62599324ce93f… (all of the seat's roots in one cut). By AI agents, Wed Nov 11 2026. No macro, syntax, notation, axiom, sorry.
-/
import Derived.Test.YtgakninlhfkkmaaGreatChecked
import GoSem.Claim
import GoSem.ClaimJoined
import GoSem.ClaimMapViews
import Derived.JoinedTies
import Derived.KernelRfl
namespace Go.Proofs.YtgakninlhfkkmaaGreat
/- THE CELL 'sum', in the pinned program and in every row, IS THE sha256 OF THE DUMP (.gsa) THAT YtgakninlhfkkmaaGreatProg.lean LOADS. Nothing in Lean hashes anything: it is a label: what it is worth is what the hold of that sum in a sandbox is worth. -/
noncomputable def Tryz.pinned : Pinned := { name := "ytgakninlhfkkmaagreat", sum := "88c62599324ce93f4136f94be3cf2c12708d9cd8372f93defbf99eb2ed027b90", checked := Tryz.checked }
namespace Rows
def none {H : Type} : Left H := { results := [], args := [] }

/-- 'obeluslaw28.SplitCounts': WHATEVER THE INPUT: true; the input reads as it did. -/
def splitCountsSpec : ChangeSpec := { name := "splitCounts", fn := fun _ => fun
  | [d1, d2] => { results := [.lit (.bool true)], args := [d1, d2] }
  | _ => none }
def splitCountsRow : OpenClaim := { program := "ytgakninlhfkkmaagreat", sum := "88c62599324ce93f4136f94be3cf2c12708d9cd8372f93defbf99eb2ed027b90", func := "obelus/obeluslaw28.SplitCounts", spec := "splitCounts", inPlace := ["slices.overlaps[obelus/api.Rev]", "internal/abi.NoEscape"], unfollowed := true, recurses := true, loops := true, plainKeys := false, apart := false }
def SplitCountsSaid : Prop := splitCountsRow.holds Tryz.pinned (OpenSpec.ofChange splitCountsSpec)

/-- ITS FALSE NEIGHBOUR: 'it returns false'. Refute it at one input. -/
def splitCountsWrong : ChangeSpec := { name := "splitCounts", fn := fun _ => fun
  | [d1, d2] => { results := [.lit (.bool false)], args := [d1, d2] }
  | _ => none }
def SplitCountsWrongFalsely : Prop := splitCountsRow.holds Tryz.pinned (OpenSpec.ofChange splitCountsWrong)

/-- 'obeluslaw28.SplitParts': WHATEVER THE INPUT: true; the input reads as it did. -/
def splitPartsSpec : ChangeSpec := { name := "splitParts", fn := fun _ => fun
  | [d1, d2] => { results := [.lit (.bool true)], args := [d1, d2] }
  | _ => none }
def splitPartsRow : OpenClaim := { program := "ytgakninlhfkkmaagreat", sum := "88c62599324ce93f4136f94be3cf2c12708d9cd8372f93defbf99eb2ed027b90", func := "obelus/obeluslaw28.SplitParts", spec := "splitParts", inPlace := ["slices.overlaps[obelus/api.Rev]", "internal/abi.NoEscape"], unfollowed := true, recurses := true, loops := true, plainKeys := false, apart := false }
def SplitPartsSaid : Prop := splitPartsRow.holds Tryz.pinned (OpenSpec.ofChange splitPartsSpec)

/-- ITS FALSE NEIGHBOUR: 'it returns false'. Refute it at one input. -/
def splitPartsWrong : ChangeSpec := { name := "splitParts", fn := fun _ => fun
  | [d1, d2] => { results := [.lit (.bool false)], args := [d1, d2] }
  | _ => none }
def SplitPartsWrongFalsely : Prop := splitPartsRow.holds Tryz.pinned (OpenSpec.ofChange splitPartsWrong)

/-- 'obeluslaw28.SplitDivides': WHATEVER THE INPUT: true; the input reads as it did. -/
def splitDividesSpec : ChangeSpec := { name := "splitDivides", fn := fun _ => fun
  | [d1, d2] => { results := [.lit (.bool true)], args := [d1, d2] }
  | _ => none }
def splitDividesRow : OpenClaim := { program := "ytgakninlhfkkmaagreat", sum := "88c62599324ce93f4136f94be3cf2c12708d9cd8372f93defbf99eb2ed027b90", func := "obelus/obeluslaw28.SplitDivides", spec := "splitDivides", inPlace := ["slices.overlaps[obelus/api.Rev]", "internal/abi.NoEscape"], unfollowed := true, recurses := true, loops := true, plainKeys := false, apart := false }
def SplitDividesSaid : Prop := splitDividesRow.holds Tryz.pinned (OpenSpec.ofChange splitDividesSpec)

/-- ITS FALSE NEIGHBOUR: 'it returns false'. Refute it at one input. -/
def splitDividesWrong : ChangeSpec := { name := "splitDivides", fn := fun _ => fun
  | [d1, d2] => { results := [.lit (.bool false)], args := [d1, d2] }
  | _ => none }
def SplitDividesWrongFalsely : Prop := splitDividesRow.holds Tryz.pinned (OpenSpec.ofChange splitDividesWrong)

/-- 'obeluslaw28.SplitReassigns': WHATEVER THE INPUT: true; the input reads as it did. -/
def splitReassignsSpec : ChangeSpec := { name := "splitReassigns", fn := fun _ => fun
  | [d1, d2, d3] => { results := [.lit (.bool true)], args := [d1, d2, d3] }
  | _ => none }
def splitReassignsRow : OpenClaim := { program := "ytgakninlhfkkmaagreat", sum := "88c62599324ce93f4136f94be3cf2c12708d9cd8372f93defbf99eb2ed027b90", func := "obelus/obeluslaw28.SplitReassigns", spec := "splitReassigns", inPlace := ["slices.overlaps[obelus/api.Rev]", "internal/abi.NoEscape"], unfollowed := true, recurses := true, loops := true, plainKeys := false, apart := false }
def SplitReassignsSaid : Prop := splitReassignsRow.holds Tryz.pinned (OpenSpec.ofChange splitReassignsSpec)

/-- ITS FALSE NEIGHBOUR: 'it returns false'. Refute it at one input. -/
def splitReassignsWrong : ChangeSpec := { name := "splitReassigns", fn := fun _ => fun
  | [d1, d2, d3] => { results := [.lit (.bool false)], args := [d1, d2, d3] }
  | _ => none }
def SplitReassignsWrongFalsely : Prop := splitReassignsRow.holds Tryz.pinned (OpenSpec.ofChange splitReassignsWrong)

/-- 'obeluslaw28.SplitDecides': WHATEVER THE INPUT: true; the input reads as it did. -/
def splitDecidesSpec : ChangeSpec := { name := "splitDecides", fn := fun _ => fun
  | [d1, d2] => { results := [.lit (.bool true)], args := [d1, d2] }
  | _ => none }
def splitDecidesRow : OpenClaim := { program := "ytgakninlhfkkmaagreat", sum := "88c62599324ce93f4136f94be3cf2c12708d9cd8372f93defbf99eb2ed027b90", func := "obelus/obeluslaw28.SplitDecides", spec := "splitDecides", inPlace := ["slices.overlaps[obelus/api.Rev]", "internal/abi.NoEscape", "slices.overlaps[obelus/api.Prop]"], unfollowed := true, recurses := true, loops := true, plainKeys := false, apart := false }
def SplitDecidesSaid : Prop := splitDecidesRow.holds Tryz.pinned (OpenSpec.ofChange splitDecidesSpec)

/-- ITS FALSE NEIGHBOUR: 'it returns false'. Refute it at one input. -/
def splitDecidesWrong : ChangeSpec := { name := "splitDecides", fn := fun _ => fun
  | [d1, d2] => { results := [.lit (.bool false)], args := [d1, d2] }
  | _ => none }
def SplitDecidesWrongFalsely : Prop := splitDecidesRow.holds Tryz.pinned (OpenSpec.ofChange splitDecidesWrong)

/-- 'obeluslaw28.SplitCombines': WHATEVER THE INPUT: true; the input reads as it did. -/
def splitCombinesSpec : ChangeSpec := { name := "splitCombines", fn := fun _ => fun
  | [d1, d2, d3] => { results := [.lit (.bool true)], args := [d1, d2, d3] }
  | _ => none }
def splitCombinesRow : OpenClaim := { program := "ytgakninlhfkkmaagreat", sum := "88c62599324ce93f4136f94be3cf2c12708d9cd8372f93defbf99eb2ed027b90", func := "obelus/obeluslaw28.SplitCombines", spec := "splitCombines", inPlace := ["slices.overlaps[obelus/api.Rev]", "internal/abi.NoEscape"], unfollowed := true, recurses := true, loops := true, plainKeys := false, apart := false }
def SplitCombinesSaid : Prop := splitCombinesRow.holds Tryz.pinned (OpenSpec.ofChange splitCombinesSpec)

/-- ITS FALSE NEIGHBOUR: 'it returns false'. Refute it at one input. -/
def splitCombinesWrong : ChangeSpec := { name := "splitCombines", fn := fun _ => fun
  | [d1, d2, d3] => { results := [.lit (.bool false)], args := [d1, d2, d3] }
  | _ => none }
def SplitCombinesWrongFalsely : Prop := splitCombinesRow.holds Tryz.pinned (OpenSpec.ofChange splitCombinesWrong)

/-- 'obeluslaw28.SplitRestores': WHATEVER THE INPUT: true; the input reads as it did. -/
def splitRestoresSpec : ChangeSpec := { name := "splitRestores", fn := fun _ => fun
  | [d1, d2] => { results := [.lit (.bool true)], args := [d1, d2] }
  | _ => none }
def splitRestoresRow : OpenClaim := { program := "ytgakninlhfkkmaagreat", sum := "88c62599324ce93f4136f94be3cf2c12708d9cd8372f93defbf99eb2ed027b90", func := "obelus/obeluslaw28.SplitRestores", spec := "splitRestores", inPlace := ["slices.overlaps[obelus/api.Rev]", "internal/abi.NoEscape"], unfollowed := true, recurses := true, loops := true, plainKeys := false, apart := false }
def SplitRestoresSaid : Prop := splitRestoresRow.holds Tryz.pinned (OpenSpec.ofChange splitRestoresSpec)

/-- ITS FALSE NEIGHBOUR: 'it returns false'. Refute it at one input. -/
def splitRestoresWrong : ChangeSpec := { name := "splitRestores", fn := fun _ => fun
  | [d1, d2] => { results := [.lit (.bool false)], args := [d1, d2] }
  | _ => none }
def SplitRestoresWrongFalsely : Prop := splitRestoresRow.holds Tryz.pinned (OpenSpec.ofChange splitRestoresWrong)

/-- 'obeluslaw28.SplitTogether': WHATEVER THE INPUT: true; the input reads as it did. -/
def splitTogetherSpec : ChangeSpec := { name := "splitTogether", fn := fun _ => fun
  | [d1, d2, d3] => { results := [.lit (.bool true)], args := [d1, d2, d3] }
  | _ => none }
def splitTogetherRow : OpenClaim := { program := "ytgakninlhfkkmaagreat", sum := "88c62599324ce93f4136f94be3cf2c12708d9cd8372f93defbf99eb2ed027b90", func := "obelus/obeluslaw28.SplitTogether", spec := "splitTogether", inPlace := ["slices.overlaps[obelus/api.Rev]", "internal/abi.NoEscape", "slices.overlaps[obelus/api.Prop]"], unfollowed := true, recurses := true, loops := true, plainKeys := false, apart := false }
def SplitTogetherSaid : Prop := splitTogetherRow.holds Tryz.pinned (OpenSpec.ofChange splitTogetherSpec)

/-- ITS FALSE NEIGHBOUR: 'it returns false'. Refute it at one input. -/
def splitTogetherWrong : ChangeSpec := { name := "splitTogether", fn := fun _ => fun
  | [d1, d2, d3] => { results := [.lit (.bool false)], args := [d1, d2, d3] }
  | _ => none }
def SplitTogetherWrongFalsely : Prop := splitTogetherRow.holds Tryz.pinned (OpenSpec.ofChange splitTogetherWrong)

/- THE SECOND FORM. 'bulk': how many values and letters a reading holds, each counted each time it is reached (what is shared counts as often as it is met; a slice's spare places count too). A statement '..UptoSaid' is the law's where the arguments, and the package variables that the reading takes, are together of bulk at most 1048576: NARROWER than '..Said'. Prove '..Said' where nothing that the law and all that it calls make is longer than what came in: it says more and counts as full. Else prove '..UptoSaid'. A law counts once. -/
mutual
def uptoBulk {H : Type} : DataW H → Nat
  | .lit (.string bytes) => bytes.length + 1
  | .lit _ => 1
  | .nil => 1
  | .ptr d => uptoBulk d + 1
  | .slice elems spare => uptoBulkAll elems + uptoBulkAll spare + 1
  | .agg parts => uptoBulkAll parts + 1
  | .iface _ d => uptoBulk d + 1
  | .map entries => uptoBulkEntries entries + 1
  | .held _ => 1
def uptoBulkAll {H : Type} : List (DataW H) → Nat
  | [] => 0
  | d :: r => uptoBulk d + uptoBulkAll r
def uptoBulkEntries {H : Type} : List (Lit × DataW H) → Nat
  | [] => 0
  | x :: r => uptoBulkEntry x + uptoBulkEntries r
def uptoBulkEntry {H : Type} : Lit × DataW H → Nat
  | (.string bytes, d) => bytes.length + uptoBulk d + 1
  | (_, d) => uptoBulk d + 1
 end
def uptoSmall : (H : Type) → List (DataW H) → Bool := fun _ ds => decide (uptoBulkAll ds ≤ 1048576)
def OpenSpec.upto (s : _root_.Go.ChangeSpec) : _root_.Go.OpenSpec := { _root_.Go.OpenSpec.ofChange s with cond := some uptoSmall }

/-- 'obeluslaw28.SplitCounts', WHERE WHAT IT READS IS OF BULK AT MOST 1048576: true; the input reads as it did. -/
def splitCountsUptoRow : OpenClaim := { program := "ytgakninlhfkkmaagreat", sum := "88c62599324ce93f4136f94be3cf2c12708d9cd8372f93defbf99eb2ed027b90", func := "obelus/obeluslaw28.SplitCounts", spec := "splitCounts", inPlace := ["slices.overlaps[obelus/api.Rev]", "internal/abi.NoEscape"], unfollowed := true, recurses := true, loops := true, plainKeys := false, apart := false, narrowed := true }
def SplitCountsUptoSaid : Prop := splitCountsUptoRow.holds Tryz.pinned (OpenSpec.upto splitCountsSpec)

/-- 'obeluslaw28.SplitParts', WHERE WHAT IT READS IS OF BULK AT MOST 1048576: true; the input reads as it did. -/
def splitPartsUptoRow : OpenClaim := { program := "ytgakninlhfkkmaagreat", sum := "88c62599324ce93f4136f94be3cf2c12708d9cd8372f93defbf99eb2ed027b90", func := "obelus/obeluslaw28.SplitParts", spec := "splitParts", inPlace := ["slices.overlaps[obelus/api.Rev]", "internal/abi.NoEscape"], unfollowed := true, recurses := true, loops := true, plainKeys := false, apart := false, narrowed := true }
def SplitPartsUptoSaid : Prop := splitPartsUptoRow.holds Tryz.pinned (OpenSpec.upto splitPartsSpec)

/-- 'obeluslaw28.SplitDivides', WHERE WHAT IT READS IS OF BULK AT MOST 1048576: true; the input reads as it did. -/
def splitDividesUptoRow : OpenClaim := { program := "ytgakninlhfkkmaagreat", sum := "88c62599324ce93f4136f94be3cf2c12708d9cd8372f93defbf99eb2ed027b90", func := "obelus/obeluslaw28.SplitDivides", spec := "splitDivides", inPlace := ["slices.overlaps[obelus/api.Rev]", "internal/abi.NoEscape"], unfollowed := true, recurses := true, loops := true, plainKeys := false, apart := false, narrowed := true }
def SplitDividesUptoSaid : Prop := splitDividesUptoRow.holds Tryz.pinned (OpenSpec.upto splitDividesSpec)

/-- 'obeluslaw28.SplitReassigns', WHERE WHAT IT READS IS OF BULK AT MOST 1048576: true; the input reads as it did. -/
def splitReassignsUptoRow : OpenClaim := { program := "ytgakninlhfkkmaagreat", sum := "88c62599324ce93f4136f94be3cf2c12708d9cd8372f93defbf99eb2ed027b90", func := "obelus/obeluslaw28.SplitReassigns", spec := "splitReassigns", inPlace := ["slices.overlaps[obelus/api.Rev]", "internal/abi.NoEscape"], unfollowed := true, recurses := true, loops := true, plainKeys := false, apart := false, narrowed := true }
def SplitReassignsUptoSaid : Prop := splitReassignsUptoRow.holds Tryz.pinned (OpenSpec.upto splitReassignsSpec)

/-- 'obeluslaw28.SplitDecides', WHERE WHAT IT READS IS OF BULK AT MOST 1048576: true; the input reads as it did. -/
def splitDecidesUptoRow : OpenClaim := { program := "ytgakninlhfkkmaagreat", sum := "88c62599324ce93f4136f94be3cf2c12708d9cd8372f93defbf99eb2ed027b90", func := "obelus/obeluslaw28.SplitDecides", spec := "splitDecides", inPlace := ["slices.overlaps[obelus/api.Rev]", "internal/abi.NoEscape", "slices.overlaps[obelus/api.Prop]"], unfollowed := true, recurses := true, loops := true, plainKeys := false, apart := false, narrowed := true }
def SplitDecidesUptoSaid : Prop := splitDecidesUptoRow.holds Tryz.pinned (OpenSpec.upto splitDecidesSpec)

/-- 'obeluslaw28.SplitCombines', WHERE WHAT IT READS IS OF BULK AT MOST 1048576: true; the input reads as it did. -/
def splitCombinesUptoRow : OpenClaim := { program := "ytgakninlhfkkmaagreat", sum := "88c62599324ce93f4136f94be3cf2c12708d9cd8372f93defbf99eb2ed027b90", func := "obelus/obeluslaw28.SplitCombines", spec := "splitCombines", inPlace := ["slices.overlaps[obelus/api.Rev]", "internal/abi.NoEscape"], unfollowed := true, recurses := true, loops := true, plainKeys := false, apart := false, narrowed := true }
def SplitCombinesUptoSaid : Prop := splitCombinesUptoRow.holds Tryz.pinned (OpenSpec.upto splitCombinesSpec)

/-- 'obeluslaw28.SplitRestores', WHERE WHAT IT READS IS OF BULK AT MOST 1048576: true; the input reads as it did. -/
def splitRestoresUptoRow : OpenClaim := { program := "ytgakninlhfkkmaagreat", sum := "88c62599324ce93f4136f94be3cf2c12708d9cd8372f93defbf99eb2ed027b90", func := "obelus/obeluslaw28.SplitRestores", spec := "splitRestores", inPlace := ["slices.overlaps[obelus/api.Rev]", "internal/abi.NoEscape"], unfollowed := true, recurses := true, loops := true, plainKeys := false, apart := false, narrowed := true }
def SplitRestoresUptoSaid : Prop := splitRestoresUptoRow.holds Tryz.pinned (OpenSpec.upto splitRestoresSpec)

/-- 'obeluslaw28.SplitTogether', WHERE WHAT IT READS IS OF BULK AT MOST 1048576: true; the input reads as it did. -/
def splitTogetherUptoRow : OpenClaim := { program := "ytgakninlhfkkmaagreat", sum := "88c62599324ce93f4136f94be3cf2c12708d9cd8372f93defbf99eb2ed027b90", func := "obelus/obeluslaw28.SplitTogether", spec := "splitTogether", inPlace := ["slices.overlaps[obelus/api.Rev]", "internal/abi.NoEscape", "slices.overlaps[obelus/api.Prop]"], unfollowed := true, recurses := true, loops := true, plainKeys := false, apart := false, narrowed := true }
def SplitTogetherUptoSaid : Prop := splitTogetherUptoRow.holds Tryz.pinned (OpenSpec.upto splitTogetherSpec)

end Rows
end Go.Proofs.YtgakninlhfkkmaaGreat
