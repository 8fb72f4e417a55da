/-
  NARROWER THAN 'FOR EVERY INPUT', by the rows' own cells (each row's printed sentence says how): RedactChecks: loops, laid · RedactFinds: loops, laid · RedactWipes: loops, laid · RedactContains: loops, laid · RedactKeeps: loops, laid · RedactValid: loops, laid · RedactCanonical: loops, laid · RedactIds: loops, laid.
  DERIVED. THE GIVEN ROWS OF THIS SEAT. 8 by the template 'for every input the law returns true; each argument reads behind the call as it read before'; 0 by the template 'total and deterministic' (their statements: YthinbkgpjmjfeaaGreatDoorTotals.lean).
  GIVEN WITH THE SEED: the statements are not yours to turn. If you find one false, say at which input.
  Laid BY PROGRAM, IN A SANDBOX (cutbox-rows.mjs): the forced cells as the released guide's own fill.sh prints them over the translation 4578fa1a854dce58… (all of the seat's roots in one cut). By AI agents, Wed Nov 11 2026. No macro, syntax, notation, axiom, sorry.
-/
import Derived.Test.YthinbkgpjmjfeaaGreatDoorChecked
import GoSem.Claim
import GoSem.ClaimJoined
import GoSem.ClaimMapViews
import Derived.JoinedTies
import Derived.KernelRfl
namespace Go.Proofs.YthinbkgpjmjfeaaGreatDoor
/- THE CELL 'sum', in the pinned program and in every row, IS THE sha256 OF THE DUMP (.gsa) THAT YthinbkgpjmjfeaaGreatDoorProg.lean LOADS. Nothing in Lean hashes anything: it is a label: what it is worth is what the hold of that sum in a sandbox is worth. -/
noncomputable def Tryz.pinned : Pinned := { name := "ythinbkgpjmjfeaagreatdoor", sum := "4578fa1a854dce58aa40f593d846c8986e86b4aebb7fb2325ba7c4e2a52ebd3f", checked := Tryz.checked }
namespace Rows
def none {H : Type} : Left H := { results := [], args := [] }

/- WHAT THE LISTED PACKAGE-LEVEL VARIABLES READ AS WHEN THE CALL BEGINS. Each datum BY PROGRAM (the guide's laid-datum.mjs) off the statement by which the dump's own 'gosem.cut.vars' lays the variable. In a bare row this is a premise. The card (YthinbkgpjmjfeaaGreatDoorCards.lean) ties it to the program's text. -/
def laid_math_bits_deBruijn32tab {H : Type} : DataW H := .agg [.lit (.int .u8 0), .lit (.int .u8 1), .lit (.int .u8 28), .lit (.int .u8 2), .lit (.int .u8 29), .lit (.int .u8 14), .lit (.int .u8 24), .lit (.int .u8 3), .lit (.int .u8 30), .lit (.int .u8 22), .lit (.int .u8 20), .lit (.int .u8 15), .lit (.int .u8 25), .lit (.int .u8 17), .lit (.int .u8 4), .lit (.int .u8 8), .lit (.int .u8 31), .lit (.int .u8 27), .lit (.int .u8 13), .lit (.int .u8 23), .lit (.int .u8 21), .lit (.int .u8 19), .lit (.int .u8 16), .lit (.int .u8 7), .lit (.int .u8 26), .lit (.int .u8 12), .lit (.int .u8 18), .lit (.int .u8 6), .lit (.int .u8 11), .lit (.int .u8 5), .lit (.int .u8 10), .lit (.int .u8 9)]
def laid_math_bits_deBruijn64tab {H : Type} : DataW H := .agg [.lit (.int .u8 0), .lit (.int .u8 1), .lit (.int .u8 56), .lit (.int .u8 2), .lit (.int .u8 57), .lit (.int .u8 49), .lit (.int .u8 28), .lit (.int .u8 3), .lit (.int .u8 61), .lit (.int .u8 58), .lit (.int .u8 42), .lit (.int .u8 50), .lit (.int .u8 38), .lit (.int .u8 29), .lit (.int .u8 17), .lit (.int .u8 4), .lit (.int .u8 62), .lit (.int .u8 47), .lit (.int .u8 59), .lit (.int .u8 36), .lit (.int .u8 45), .lit (.int .u8 43), .lit (.int .u8 51), .lit (.int .u8 22), .lit (.int .u8 53), .lit (.int .u8 39), .lit (.int .u8 33), .lit (.int .u8 30), .lit (.int .u8 24), .lit (.int .u8 18), .lit (.int .u8 12), .lit (.int .u8 5), .lit (.int .u8 63), .lit (.int .u8 55), .lit (.int .u8 48), .lit (.int .u8 27), .lit (.int .u8 60), .lit (.int .u8 41), .lit (.int .u8 37), .lit (.int .u8 16), .lit (.int .u8 46), .lit (.int .u8 35), .lit (.int .u8 44), .lit (.int .u8 21), .lit (.int .u8 52), .lit (.int .u8 32), .lit (.int .u8 23), .lit (.int .u8 11), .lit (.int .u8 54), .lit (.int .u8 26), .lit (.int .u8 40), .lit (.int .u8 15), .lit (.int .u8 34), .lit (.int .u8 20), .lit (.int .u8 31), .lit (.int .u8 10), .lit (.int .u8 25), .lit (.int .u8 14), .lit (.int .u8 19), .lit (.int .u8 9), .lit (.int .u8 13), .lit (.int .u8 8), .lit (.int .u8 7), .lit (.int .u8 6)]
def laid_internal_strconv_uint64pow10 {H : Type} : DataW H := .agg [.lit (.int .u64 1), .lit (.int .u64 10), .lit (.int .u64 100), .lit (.int .u64 1000), .lit (.int .u64 10000), .lit (.int .u64 100000), .lit (.int .u64 1000000), .lit (.int .u64 10000000), .lit (.int .u64 100000000), .lit (.int .u64 1000000000), .lit (.int .u64 10000000000), .lit (.int .u64 100000000000), .lit (.int .u64 1000000000000), .lit (.int .u64 10000000000000), .lit (.int .u64 100000000000000), .lit (.int .u64 1000000000000000), .lit (.int .u64 10000000000000000), .lit (.int .u64 100000000000000000), .lit (.int .u64 1000000000000000000), .lit (.int .u64 10000000000000000000)]

/-- 'obeluslaw56.RedactChecks': WHATEVER THE INPUT: true; the input reads as it did. -/
def redactChecksSpec : ChangeSpec := { name := "redactChecks", fn := fun _ => fun
  | [d1, d2, d3] => { results := [.lit (.bool true)], args := [d1, d2, d3] }
  | _ => none }
def redactChecksRow : OpenClaim := { program := "ythinbkgpjmjfeaagreatdoor", sum := "4578fa1a854dce58aa40f593d846c8986e86b4aebb7fb2325ba7c4e2a52ebd3f", func := "obelus/obeluslaw56.RedactChecks", spec := "redactChecks", inPlace := ["slices.overlaps[obelus/api.Prop]", "internal/abi.NoEscape", "internal/bytealg.IndexByteString", "internal/bytealg.IndexString"], unfollowed := true, recurses := true, named := ["internal/strconv.uint64pow10", "math/bits.deBruijn32tab", "math/bits.deBruijn64tab", "internal/bytealg.MaxLen"], loops := true, plainKeys := false, apart := false, laid := [("math/bits.deBruijn32tab", laid_math_bits_deBruijn32tab), ("math/bits.deBruijn64tab", laid_math_bits_deBruijn64tab), ("internal/strconv.uint64pow10", laid_internal_strconv_uint64pow10)] }
def RedactChecksSaid : Prop := redactChecksRow.holds Tryz.pinned (OpenSpec.ofChange redactChecksSpec)

/-- ITS FALSE NEIGHBOUR: 'it returns false'. Refute it at one input. -/
def redactChecksWrong : ChangeSpec := { name := "redactChecks", fn := fun _ => fun
  | [d1, d2, d3] => { results := [.lit (.bool false)], args := [d1, d2, d3] }
  | _ => none }
def RedactChecksWrongFalsely : Prop := redactChecksRow.holds Tryz.pinned (OpenSpec.ofChange redactChecksWrong)

/-- 'obeluslaw56.RedactFinds': WHATEVER THE INPUT: true; the input reads as it did. -/
def redactFindsSpec : ChangeSpec := { name := "redactFinds", fn := fun _ => fun
  | [d1, d2] => { results := [.lit (.bool true)], args := [d1, d2] }
  | _ => none }
def redactFindsRow : OpenClaim := { program := "ythinbkgpjmjfeaagreatdoor", sum := "4578fa1a854dce58aa40f593d846c8986e86b4aebb7fb2325ba7c4e2a52ebd3f", func := "obelus/obeluslaw56.RedactFinds", spec := "redactFinds", inPlace := ["slices.overlaps[obelus/api.Prop]", "internal/abi.NoEscape", "internal/bytealg.IndexByteString", "internal/bytealg.IndexString"], unfollowed := true, recurses := true, named := ["internal/strconv.uint64pow10", "math/bits.deBruijn32tab", "math/bits.deBruijn64tab", "internal/bytealg.MaxLen"], loops := true, plainKeys := false, apart := false, laid := [("math/bits.deBruijn32tab", laid_math_bits_deBruijn32tab), ("math/bits.deBruijn64tab", laid_math_bits_deBruijn64tab), ("internal/strconv.uint64pow10", laid_internal_strconv_uint64pow10)] }
def RedactFindsSaid : Prop := redactFindsRow.holds Tryz.pinned (OpenSpec.ofChange redactFindsSpec)

/-- ITS FALSE NEIGHBOUR: 'it returns false'. Refute it at one input. -/
def redactFindsWrong : ChangeSpec := { name := "redactFinds", fn := fun _ => fun
  | [d1, d2] => { results := [.lit (.bool false)], args := [d1, d2] }
  | _ => none }
def RedactFindsWrongFalsely : Prop := redactFindsRow.holds Tryz.pinned (OpenSpec.ofChange redactFindsWrong)

/-- 'obeluslaw56.RedactWipes': WHATEVER THE INPUT: true; the input reads as it did. -/
def redactWipesSpec : ChangeSpec := { name := "redactWipes", fn := fun _ => fun
  | [d1, d2] => { results := [.lit (.bool true)], args := [d1, d2] }
  | _ => none }
def redactWipesRow : OpenClaim := { program := "ythinbkgpjmjfeaagreatdoor", sum := "4578fa1a854dce58aa40f593d846c8986e86b4aebb7fb2325ba7c4e2a52ebd3f", func := "obelus/obeluslaw56.RedactWipes", spec := "redactWipes", inPlace := ["slices.overlaps[obelus/api.Prop]", "internal/abi.NoEscape", "internal/bytealg.IndexByteString", "internal/bytealg.IndexString"], unfollowed := true, recurses := true, named := ["internal/strconv.uint64pow10", "math/bits.deBruijn32tab", "math/bits.deBruijn64tab", "internal/bytealg.MaxLen"], loops := true, plainKeys := false, apart := false, laid := [("math/bits.deBruijn32tab", laid_math_bits_deBruijn32tab), ("math/bits.deBruijn64tab", laid_math_bits_deBruijn64tab), ("internal/strconv.uint64pow10", laid_internal_strconv_uint64pow10)] }
def RedactWipesSaid : Prop := redactWipesRow.holds Tryz.pinned (OpenSpec.ofChange redactWipesSpec)

/-- ITS FALSE NEIGHBOUR: 'it returns false'. Refute it at one input. -/
def redactWipesWrong : ChangeSpec := { name := "redactWipes", fn := fun _ => fun
  | [d1, d2] => { results := [.lit (.bool false)], args := [d1, d2] }
  | _ => none }
def RedactWipesWrongFalsely : Prop := redactWipesRow.holds Tryz.pinned (OpenSpec.ofChange redactWipesWrong)

/-- 'obeluslaw56.RedactContains': WHATEVER THE INPUT: true; the input reads as it did. -/
def redactContainsSpec : ChangeSpec := { name := "redactContains", fn := fun _ => fun
  | [d1, d2] => { results := [.lit (.bool true)], args := [d1, d2] }
  | _ => none }
def redactContainsRow : OpenClaim := { program := "ythinbkgpjmjfeaagreatdoor", sum := "4578fa1a854dce58aa40f593d846c8986e86b4aebb7fb2325ba7c4e2a52ebd3f", func := "obelus/obeluslaw56.RedactContains", spec := "redactContains", inPlace := ["slices.overlaps[obelus/api.Prop]", "internal/abi.NoEscape", "internal/bytealg.IndexByteString", "internal/bytealg.IndexString"], unfollowed := true, recurses := true, named := ["internal/strconv.uint64pow10", "math/bits.deBruijn32tab", "math/bits.deBruijn64tab", "internal/bytealg.MaxLen"], loops := true, plainKeys := false, apart := false, laid := [("math/bits.deBruijn32tab", laid_math_bits_deBruijn32tab), ("math/bits.deBruijn64tab", laid_math_bits_deBruijn64tab), ("internal/strconv.uint64pow10", laid_internal_strconv_uint64pow10)] }
def RedactContainsSaid : Prop := redactContainsRow.holds Tryz.pinned (OpenSpec.ofChange redactContainsSpec)

/-- ITS FALSE NEIGHBOUR: 'it returns false'. Refute it at one input. -/
def redactContainsWrong : ChangeSpec := { name := "redactContains", fn := fun _ => fun
  | [d1, d2] => { results := [.lit (.bool false)], args := [d1, d2] }
  | _ => none }
def RedactContainsWrongFalsely : Prop := redactContainsRow.holds Tryz.pinned (OpenSpec.ofChange redactContainsWrong)

/-- 'obeluslaw56.RedactKeeps': WHATEVER THE INPUT: true; the input reads as it did. -/
def redactKeepsSpec : ChangeSpec := { name := "redactKeeps", fn := fun _ => fun
  | [d1, d2, d3] => { results := [.lit (.bool true)], args := [d1, d2, d3] }
  | _ => none }
def redactKeepsRow : OpenClaim := { program := "ythinbkgpjmjfeaagreatdoor", sum := "4578fa1a854dce58aa40f593d846c8986e86b4aebb7fb2325ba7c4e2a52ebd3f", func := "obelus/obeluslaw56.RedactKeeps", spec := "redactKeeps", inPlace := ["slices.overlaps[obelus/api.Prop]", "internal/abi.NoEscape", "internal/bytealg.IndexByteString", "internal/bytealg.IndexString"], unfollowed := true, recurses := true, named := ["internal/strconv.uint64pow10", "math/bits.deBruijn32tab", "math/bits.deBruijn64tab", "internal/bytealg.MaxLen"], loops := true, plainKeys := false, apart := false, laid := [("math/bits.deBruijn32tab", laid_math_bits_deBruijn32tab), ("math/bits.deBruijn64tab", laid_math_bits_deBruijn64tab), ("internal/strconv.uint64pow10", laid_internal_strconv_uint64pow10)] }
def RedactKeepsSaid : Prop := redactKeepsRow.holds Tryz.pinned (OpenSpec.ofChange redactKeepsSpec)

/-- ITS FALSE NEIGHBOUR: 'it returns false'. Refute it at one input. -/
def redactKeepsWrong : ChangeSpec := { name := "redactKeeps", fn := fun _ => fun
  | [d1, d2, d3] => { results := [.lit (.bool false)], args := [d1, d2, d3] }
  | _ => none }
def RedactKeepsWrongFalsely : Prop := redactKeepsRow.holds Tryz.pinned (OpenSpec.ofChange redactKeepsWrong)

/-- 'obeluslaw56.RedactValid': WHATEVER THE INPUT: true; the input reads as it did. -/
def redactValidSpec : ChangeSpec := { name := "redactValid", fn := fun _ => fun
  | [d1, d2] => { results := [.lit (.bool true)], args := [d1, d2] }
  | _ => none }
def redactValidRow : OpenClaim := { program := "ythinbkgpjmjfeaagreatdoor", sum := "4578fa1a854dce58aa40f593d846c8986e86b4aebb7fb2325ba7c4e2a52ebd3f", func := "obelus/obeluslaw56.RedactValid", spec := "redactValid", inPlace := ["slices.overlaps[obelus/api.Prop]", "internal/abi.NoEscape", "internal/bytealg.IndexByteString", "internal/bytealg.IndexString"], unfollowed := true, recurses := true, named := ["internal/strconv.uint64pow10", "math/bits.deBruijn32tab", "math/bits.deBruijn64tab", "internal/bytealg.MaxLen"], loops := true, plainKeys := false, apart := false, laid := [("math/bits.deBruijn32tab", laid_math_bits_deBruijn32tab), ("math/bits.deBruijn64tab", laid_math_bits_deBruijn64tab), ("internal/strconv.uint64pow10", laid_internal_strconv_uint64pow10)] }
def RedactValidSaid : Prop := redactValidRow.holds Tryz.pinned (OpenSpec.ofChange redactValidSpec)

/-- ITS FALSE NEIGHBOUR: 'it returns false'. Refute it at one input. -/
def redactValidWrong : ChangeSpec := { name := "redactValid", fn := fun _ => fun
  | [d1, d2] => { results := [.lit (.bool false)], args := [d1, d2] }
  | _ => none }
def RedactValidWrongFalsely : Prop := redactValidRow.holds Tryz.pinned (OpenSpec.ofChange redactValidWrong)

/-- 'obeluslaw56.RedactCanonical': WHATEVER THE INPUT: true; the input reads as it did. -/
def redactCanonicalSpec : ChangeSpec := { name := "redactCanonical", fn := fun _ => fun
  | [d] => { results := [.lit (.bool true)], args := [d] }
  | _ => none }
def redactCanonicalRow : OpenClaim := { program := "ythinbkgpjmjfeaagreatdoor", sum := "4578fa1a854dce58aa40f593d846c8986e86b4aebb7fb2325ba7c4e2a52ebd3f", func := "obelus/obeluslaw56.RedactCanonical", spec := "redactCanonical", inPlace := ["slices.overlaps[obelus/api.Prop]", "internal/abi.NoEscape", "internal/bytealg.IndexByteString", "internal/bytealg.IndexString"], unfollowed := true, recurses := true, named := ["internal/strconv.uint64pow10", "math/bits.deBruijn32tab", "math/bits.deBruijn64tab", "internal/bytealg.MaxLen"], loops := true, plainKeys := false, apart := false, laid := [("math/bits.deBruijn32tab", laid_math_bits_deBruijn32tab), ("math/bits.deBruijn64tab", laid_math_bits_deBruijn64tab), ("internal/strconv.uint64pow10", laid_internal_strconv_uint64pow10)] }
def RedactCanonicalSaid : Prop := redactCanonicalRow.holds Tryz.pinned (OpenSpec.ofChange redactCanonicalSpec)

/-- ITS FALSE NEIGHBOUR: 'it returns false'. Refute it at one input. -/
def redactCanonicalWrong : ChangeSpec := { name := "redactCanonical", fn := fun _ => fun
  | [d] => { results := [.lit (.bool false)], args := [d] }
  | _ => none }
def RedactCanonicalWrongFalsely : Prop := redactCanonicalRow.holds Tryz.pinned (OpenSpec.ofChange redactCanonicalWrong)

/-- 'obeluslaw56.RedactIds': WHATEVER THE INPUT: true; the input reads as it did. -/
def redactIdsSpec : ChangeSpec := { name := "redactIds", fn := fun _ => fun
  | [d1, d2] => { results := [.lit (.bool true)], args := [d1, d2] }
  | _ => none }
def redactIdsRow : OpenClaim := { program := "ythinbkgpjmjfeaagreatdoor", sum := "4578fa1a854dce58aa40f593d846c8986e86b4aebb7fb2325ba7c4e2a52ebd3f", func := "obelus/obeluslaw56.RedactIds", spec := "redactIds", inPlace := ["slices.overlaps[obelus/api.Prop]", "internal/abi.NoEscape", "internal/bytealg.IndexByteString", "internal/bytealg.IndexString"], unfollowed := true, recurses := true, named := ["internal/strconv.uint64pow10", "math/bits.deBruijn32tab", "math/bits.deBruijn64tab", "internal/bytealg.MaxLen"], loops := true, plainKeys := false, apart := false, laid := [("math/bits.deBruijn32tab", laid_math_bits_deBruijn32tab), ("math/bits.deBruijn64tab", laid_math_bits_deBruijn64tab), ("internal/strconv.uint64pow10", laid_internal_strconv_uint64pow10)] }
def RedactIdsSaid : Prop := redactIdsRow.holds Tryz.pinned (OpenSpec.ofChange redactIdsSpec)

/-- ITS FALSE NEIGHBOUR: 'it returns false'. Refute it at one input. -/
def redactIdsWrong : ChangeSpec := { name := "redactIds", fn := fun _ => fun
  | [d1, d2] => { results := [.lit (.bool false)], args := [d1, d2] }
  | _ => none }
def RedactIdsWrongFalsely : Prop := redactIdsRow.holds Tryz.pinned (OpenSpec.ofChange redactIdsWrong)

/- THE SECOND FORM. 'bulk': how many values and letters a reading holds, each counted each time it is reached (what is shared counts as often as it is met; a slice's spare places count too). A statement '..UptoSaid' is the law's where the arguments, and the package variables that the reading takes, are together of bulk at most 1048576: NARROWER than '..Said'. Prove '..Said' where nothing that the law and all that it calls make is longer than what came in: it says more and counts as full. Else prove '..UptoSaid'. A law counts once. -/
mutual
def uptoBulk {H : Type} : DataW H → Nat
  | .lit (.string bytes) => bytes.length + 1
  | .lit _ => 1
  | .nil => 1
  | .ptr d => uptoBulk d + 1
  | .slice elems spare => uptoBulkAll elems + uptoBulkAll spare + 1
  | .agg parts => uptoBulkAll parts + 1
  | .iface _ d => uptoBulk d + 1
  | .map entries => uptoBulkEntries entries + 1
  | .held _ => 1
def uptoBulkAll {H : Type} : List (DataW H) → Nat
  | [] => 0
  | d :: r => uptoBulk d + uptoBulkAll r
def uptoBulkEntries {H : Type} : List (Lit × DataW H) → Nat
  | [] => 0
  | x :: r => uptoBulkEntry x + uptoBulkEntries r
def uptoBulkEntry {H : Type} : Lit × DataW H → Nat
  | (.string bytes, d) => bytes.length + uptoBulk d + 1
  | (_, d) => uptoBulk d + 1
 end
def uptoSmall : (H : Type) → List (DataW H) → Bool := fun _ ds => decide (uptoBulkAll ds ≤ 1048576)
def OpenSpec.upto (s : _root_.Go.ChangeSpec) : _root_.Go.OpenSpec := { _root_.Go.OpenSpec.ofChange s with cond := some uptoSmall }

/-- 'obeluslaw56.RedactChecks', WHERE WHAT IT READS IS OF BULK AT MOST 1048576: true; the input reads as it did. -/
def redactChecksUptoRow : OpenClaim := { program := "ythinbkgpjmjfeaagreatdoor", sum := "4578fa1a854dce58aa40f593d846c8986e86b4aebb7fb2325ba7c4e2a52ebd3f", func := "obelus/obeluslaw56.RedactChecks", spec := "redactChecks", inPlace := ["slices.overlaps[obelus/api.Prop]", "internal/abi.NoEscape", "internal/bytealg.IndexByteString", "internal/bytealg.IndexString"], unfollowed := true, recurses := true, named := ["internal/strconv.uint64pow10", "math/bits.deBruijn32tab", "math/bits.deBruijn64tab", "internal/bytealg.MaxLen"], loops := true, plainKeys := false, apart := false, laid := [("math/bits.deBruijn32tab", laid_math_bits_deBruijn32tab), ("math/bits.deBruijn64tab", laid_math_bits_deBruijn64tab), ("internal/strconv.uint64pow10", laid_internal_strconv_uint64pow10)], narrowed := true }
def RedactChecksUptoSaid : Prop := redactChecksUptoRow.holds Tryz.pinned (OpenSpec.upto redactChecksSpec)

/-- 'obeluslaw56.RedactFinds', WHERE WHAT IT READS IS OF BULK AT MOST 1048576: true; the input reads as it did. -/
def redactFindsUptoRow : OpenClaim := { program := "ythinbkgpjmjfeaagreatdoor", sum := "4578fa1a854dce58aa40f593d846c8986e86b4aebb7fb2325ba7c4e2a52ebd3f", func := "obelus/obeluslaw56.RedactFinds", spec := "redactFinds", inPlace := ["slices.overlaps[obelus/api.Prop]", "internal/abi.NoEscape", "internal/bytealg.IndexByteString", "internal/bytealg.IndexString"], unfollowed := true, recurses := true, named := ["internal/strconv.uint64pow10", "math/bits.deBruijn32tab", "math/bits.deBruijn64tab", "internal/bytealg.MaxLen"], loops := true, plainKeys := false, apart := false, laid := [("math/bits.deBruijn32tab", laid_math_bits_deBruijn32tab), ("math/bits.deBruijn64tab", laid_math_bits_deBruijn64tab), ("internal/strconv.uint64pow10", laid_internal_strconv_uint64pow10)], narrowed := true }
def RedactFindsUptoSaid : Prop := redactFindsUptoRow.holds Tryz.pinned (OpenSpec.upto redactFindsSpec)

/-- 'obeluslaw56.RedactWipes', WHERE WHAT IT READS IS OF BULK AT MOST 1048576: true; the input reads as it did. -/
def redactWipesUptoRow : OpenClaim := { program := "ythinbkgpjmjfeaagreatdoor", sum := "4578fa1a854dce58aa40f593d846c8986e86b4aebb7fb2325ba7c4e2a52ebd3f", func := "obelus/obeluslaw56.RedactWipes", spec := "redactWipes", inPlace := ["slices.overlaps[obelus/api.Prop]", "internal/abi.NoEscape", "internal/bytealg.IndexByteString", "internal/bytealg.IndexString"], unfollowed := true, recurses := true, named := ["internal/strconv.uint64pow10", "math/bits.deBruijn32tab", "math/bits.deBruijn64tab", "internal/bytealg.MaxLen"], loops := true, plainKeys := false, apart := false, laid := [("math/bits.deBruijn32tab", laid_math_bits_deBruijn32tab), ("math/bits.deBruijn64tab", laid_math_bits_deBruijn64tab), ("internal/strconv.uint64pow10", laid_internal_strconv_uint64pow10)], narrowed := true }
def RedactWipesUptoSaid : Prop := redactWipesUptoRow.holds Tryz.pinned (OpenSpec.upto redactWipesSpec)

/-- 'obeluslaw56.RedactContains', WHERE WHAT IT READS IS OF BULK AT MOST 1048576: true; the input reads as it did. -/
def redactContainsUptoRow : OpenClaim := { program := "ythinbkgpjmjfeaagreatdoor", sum := "4578fa1a854dce58aa40f593d846c8986e86b4aebb7fb2325ba7c4e2a52ebd3f", func := "obelus/obeluslaw56.RedactContains", spec := "redactContains", inPlace := ["slices.overlaps[obelus/api.Prop]", "internal/abi.NoEscape", "internal/bytealg.IndexByteString", "internal/bytealg.IndexString"], unfollowed := true, recurses := true, named := ["internal/strconv.uint64pow10", "math/bits.deBruijn32tab", "math/bits.deBruijn64tab", "internal/bytealg.MaxLen"], loops := true, plainKeys := false, apart := false, laid := [("math/bits.deBruijn32tab", laid_math_bits_deBruijn32tab), ("math/bits.deBruijn64tab", laid_math_bits_deBruijn64tab), ("internal/strconv.uint64pow10", laid_internal_strconv_uint64pow10)], narrowed := true }
def RedactContainsUptoSaid : Prop := redactContainsUptoRow.holds Tryz.pinned (OpenSpec.upto redactContainsSpec)

/-- 'obeluslaw56.RedactKeeps', WHERE WHAT IT READS IS OF BULK AT MOST 1048576: true; the input reads as it did. -/
def redactKeepsUptoRow : OpenClaim := { program := "ythinbkgpjmjfeaagreatdoor", sum := "4578fa1a854dce58aa40f593d846c8986e86b4aebb7fb2325ba7c4e2a52ebd3f", func := "obelus/obeluslaw56.RedactKeeps", spec := "redactKeeps", inPlace := ["slices.overlaps[obelus/api.Prop]", "internal/abi.NoEscape", "internal/bytealg.IndexByteString", "internal/bytealg.IndexString"], unfollowed := true, recurses := true, named := ["internal/strconv.uint64pow10", "math/bits.deBruijn32tab", "math/bits.deBruijn64tab", "internal/bytealg.MaxLen"], loops := true, plainKeys := false, apart := false, laid := [("math/bits.deBruijn32tab", laid_math_bits_deBruijn32tab), ("math/bits.deBruijn64tab", laid_math_bits_deBruijn64tab), ("internal/strconv.uint64pow10", laid_internal_strconv_uint64pow10)], narrowed := true }
def RedactKeepsUptoSaid : Prop := redactKeepsUptoRow.holds Tryz.pinned (OpenSpec.upto redactKeepsSpec)

/-- 'obeluslaw56.RedactValid', WHERE WHAT IT READS IS OF BULK AT MOST 1048576: true; the input reads as it did. -/
def redactValidUptoRow : OpenClaim := { program := "ythinbkgpjmjfeaagreatdoor", sum := "4578fa1a854dce58aa40f593d846c8986e86b4aebb7fb2325ba7c4e2a52ebd3f", func := "obelus/obeluslaw56.RedactValid", spec := "redactValid", inPlace := ["slices.overlaps[obelus/api.Prop]", "internal/abi.NoEscape", "internal/bytealg.IndexByteString", "internal/bytealg.IndexString"], unfollowed := true, recurses := true, named := ["internal/strconv.uint64pow10", "math/bits.deBruijn32tab", "math/bits.deBruijn64tab", "internal/bytealg.MaxLen"], loops := true, plainKeys := false, apart := false, laid := [("math/bits.deBruijn32tab", laid_math_bits_deBruijn32tab), ("math/bits.deBruijn64tab", laid_math_bits_deBruijn64tab), ("internal/strconv.uint64pow10", laid_internal_strconv_uint64pow10)], narrowed := true }
def RedactValidUptoSaid : Prop := redactValidUptoRow.holds Tryz.pinned (OpenSpec.upto redactValidSpec)

/-- 'obeluslaw56.RedactCanonical', WHERE WHAT IT READS IS OF BULK AT MOST 1048576: true; the input reads as it did. -/
def redactCanonicalUptoRow : OpenClaim := { program := "ythinbkgpjmjfeaagreatdoor", sum := "4578fa1a854dce58aa40f593d846c8986e86b4aebb7fb2325ba7c4e2a52ebd3f", func := "obelus/obeluslaw56.RedactCanonical", spec := "redactCanonical", inPlace := ["slices.overlaps[obelus/api.Prop]", "internal/abi.NoEscape", "internal/bytealg.IndexByteString", "internal/bytealg.IndexString"], unfollowed := true, recurses := true, named := ["internal/strconv.uint64pow10", "math/bits.deBruijn32tab", "math/bits.deBruijn64tab", "internal/bytealg.MaxLen"], loops := true, plainKeys := false, apart := false, laid := [("math/bits.deBruijn32tab", laid_math_bits_deBruijn32tab), ("math/bits.deBruijn64tab", laid_math_bits_deBruijn64tab), ("internal/strconv.uint64pow10", laid_internal_strconv_uint64pow10)], narrowed := true }
def RedactCanonicalUptoSaid : Prop := redactCanonicalUptoRow.holds Tryz.pinned (OpenSpec.upto redactCanonicalSpec)

/-- 'obeluslaw56.RedactIds', WHERE WHAT IT READS IS OF BULK AT MOST 1048576: true; the input reads as it did. -/
def redactIdsUptoRow : OpenClaim := { program := "ythinbkgpjmjfeaagreatdoor", sum := "4578fa1a854dce58aa40f593d846c8986e86b4aebb7fb2325ba7c4e2a52ebd3f", func := "obelus/obeluslaw56.RedactIds", spec := "redactIds", inPlace := ["slices.overlaps[obelus/api.Prop]", "internal/abi.NoEscape", "internal/bytealg.IndexByteString", "internal/bytealg.IndexString"], unfollowed := true, recurses := true, named := ["internal/strconv.uint64pow10", "math/bits.deBruijn32tab", "math/bits.deBruijn64tab", "internal/bytealg.MaxLen"], loops := true, plainKeys := false, apart := false, laid := [("math/bits.deBruijn32tab", laid_math_bits_deBruijn32tab), ("math/bits.deBruijn64tab", laid_math_bits_deBruijn64tab), ("internal/strconv.uint64pow10", laid_internal_strconv_uint64pow10)], narrowed := true }
def RedactIdsUptoSaid : Prop := redactIdsUptoRow.holds Tryz.pinned (OpenSpec.upto redactIdsSpec)

end Rows
end Go.Proofs.YthinbkgpjmjfeaaGreatDoor
