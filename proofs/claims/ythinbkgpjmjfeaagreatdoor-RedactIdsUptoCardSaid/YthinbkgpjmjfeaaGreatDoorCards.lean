/-
  DERIVED. GIVEN WITH THE SEED: THE CARDS: each row of YthinbkgpjmjfeaaGreatDoorRows.lean that lists a variable, with what it lists TIED to the program's text (the seventh form; the later family's looks); each row that meets fmt, with fmt's text TOLD by the authors' own Lean function (tested against real Go, not proved from fmt's source: count such statements apart). THE CARD IS WHAT COUNTS. Prove the row's statement (the work); the ties are given (YthinbkgpjmjfeaaGreatDoorTie.lean); close each card by the builder's one call (the guide's Derived/Test/ToyasCard.lean, 'card_holds'). Laid BY PROGRAM, IN A SANDBOX (cutbox-door.mjs). By AI agents, Wed Nov 11 2026. No macro, syntax, notation, axiom, sorry.
-/
import Derived.Test.YthinbkgpjmjfeaaGreatDoorRows
import GoSem.ClaimSeven
namespace Go.Proofs.YthinbkgpjmjfeaaGreatDoor
namespace Rows

/-- THE TIED CARD OF 'obeluslaw56.RedactChecks'. -/
def redactChecksCard : Claim7 := { stood := { row := redactChecksRow, standIns := [], harness := (true, "ef56d7b56468dc3211ac09fe492ba78587841a53dc1d8aea719d901f9a3fe7d6"), looks := false }, kinds := [], alts := [], laidByText := true, laidKinds := [.data, .data, .data], laidTests := true, laidLooks := .later }
def RedactChecksCardSaid : Prop := Claim7.holds Tryz.pinned (.plain (OpenSpec.ofChange redactChecksSpec)) redactChecksCard

/-- THE TIED CARD OF 'obeluslaw56.RedactFinds'. -/
def redactFindsCard : Claim7 := { stood := { row := redactFindsRow, standIns := [], harness := (true, "ef56d7b56468dc3211ac09fe492ba78587841a53dc1d8aea719d901f9a3fe7d6"), looks := false }, kinds := [], alts := [], laidByText := true, laidKinds := [.data, .data, .data], laidTests := true, laidLooks := .later }
def RedactFindsCardSaid : Prop := Claim7.holds Tryz.pinned (.plain (OpenSpec.ofChange redactFindsSpec)) redactFindsCard

/-- THE TIED CARD OF 'obeluslaw56.RedactWipes'. -/
def redactWipesCard : Claim7 := { stood := { row := redactWipesRow, standIns := [], harness := (true, "ef56d7b56468dc3211ac09fe492ba78587841a53dc1d8aea719d901f9a3fe7d6"), looks := false }, kinds := [], alts := [], laidByText := true, laidKinds := [.data, .data, .data], laidTests := true, laidLooks := .later }
def RedactWipesCardSaid : Prop := Claim7.holds Tryz.pinned (.plain (OpenSpec.ofChange redactWipesSpec)) redactWipesCard

/-- THE TIED CARD OF 'obeluslaw56.RedactContains'. -/
def redactContainsCard : Claim7 := { stood := { row := redactContainsRow, standIns := [], harness := (true, "ef56d7b56468dc3211ac09fe492ba78587841a53dc1d8aea719d901f9a3fe7d6"), looks := false }, kinds := [], alts := [], laidByText := true, laidKinds := [.data, .data, .data], laidTests := true, laidLooks := .later }
def RedactContainsCardSaid : Prop := Claim7.holds Tryz.pinned (.plain (OpenSpec.ofChange redactContainsSpec)) redactContainsCard

/-- THE TIED CARD OF 'obeluslaw56.RedactKeeps'. -/
def redactKeepsCard : Claim7 := { stood := { row := redactKeepsRow, standIns := [], harness := (true, "ef56d7b56468dc3211ac09fe492ba78587841a53dc1d8aea719d901f9a3fe7d6"), looks := false }, kinds := [], alts := [], laidByText := true, laidKinds := [.data, .data, .data], laidTests := true, laidLooks := .later }
def RedactKeepsCardSaid : Prop := Claim7.holds Tryz.pinned (.plain (OpenSpec.ofChange redactKeepsSpec)) redactKeepsCard

/-- THE TIED CARD OF 'obeluslaw56.RedactValid'. -/
def redactValidCard : Claim7 := { stood := { row := redactValidRow, standIns := [], harness := (true, "ef56d7b56468dc3211ac09fe492ba78587841a53dc1d8aea719d901f9a3fe7d6"), looks := false }, kinds := [], alts := [], laidByText := true, laidKinds := [.data, .data, .data], laidTests := true, laidLooks := .later }
def RedactValidCardSaid : Prop := Claim7.holds Tryz.pinned (.plain (OpenSpec.ofChange redactValidSpec)) redactValidCard

/-- THE TIED CARD OF 'obeluslaw56.RedactCanonical'. -/
def redactCanonicalCard : Claim7 := { stood := { row := redactCanonicalRow, standIns := [], harness := (true, "ef56d7b56468dc3211ac09fe492ba78587841a53dc1d8aea719d901f9a3fe7d6"), looks := false }, kinds := [], alts := [], laidByText := true, laidKinds := [.data, .data, .data], laidTests := true, laidLooks := .later }
def RedactCanonicalCardSaid : Prop := Claim7.holds Tryz.pinned (.plain (OpenSpec.ofChange redactCanonicalSpec)) redactCanonicalCard

/-- THE TIED CARD OF 'obeluslaw56.RedactIds'. -/
def redactIdsCard : Claim7 := { stood := { row := redactIdsRow, standIns := [], harness := (true, "ef56d7b56468dc3211ac09fe492ba78587841a53dc1d8aea719d901f9a3fe7d6"), looks := false }, kinds := [], alts := [], laidByText := true, laidKinds := [.data, .data, .data], laidTests := true, laidLooks := .later }
def RedactIdsCardSaid : Prop := Claim7.holds Tryz.pinned (.plain (OpenSpec.ofChange redactIdsSpec)) redactIdsCard

/-- THE SECOND FORM's CARD OF 'obeluslaw56.RedactChecks'. -/
def redactChecksUptoCard : Claim7 := { stood := { row := redactChecksUptoRow, standIns := [], harness := (true, "ef56d7b56468dc3211ac09fe492ba78587841a53dc1d8aea719d901f9a3fe7d6"), looks := false }, kinds := [], alts := [], laidByText := true, laidKinds := [.data, .data, .data], laidTests := true, laidLooks := .later }
def RedactChecksUptoCardSaid : Prop := Claim7.holds Tryz.pinned (.plain (OpenSpec.upto redactChecksSpec)) redactChecksUptoCard

/-- THE SECOND FORM's CARD OF 'obeluslaw56.RedactFinds'. -/
def redactFindsUptoCard : Claim7 := { stood := { row := redactFindsUptoRow, standIns := [], harness := (true, "ef56d7b56468dc3211ac09fe492ba78587841a53dc1d8aea719d901f9a3fe7d6"), looks := false }, kinds := [], alts := [], laidByText := true, laidKinds := [.data, .data, .data], laidTests := true, laidLooks := .later }
def RedactFindsUptoCardSaid : Prop := Claim7.holds Tryz.pinned (.plain (OpenSpec.upto redactFindsSpec)) redactFindsUptoCard

/-- THE SECOND FORM's CARD OF 'obeluslaw56.RedactWipes'. -/
def redactWipesUptoCard : Claim7 := { stood := { row := redactWipesUptoRow, standIns := [], harness := (true, "ef56d7b56468dc3211ac09fe492ba78587841a53dc1d8aea719d901f9a3fe7d6"), looks := false }, kinds := [], alts := [], laidByText := true, laidKinds := [.data, .data, .data], laidTests := true, laidLooks := .later }
def RedactWipesUptoCardSaid : Prop := Claim7.holds Tryz.pinned (.plain (OpenSpec.upto redactWipesSpec)) redactWipesUptoCard

/-- THE SECOND FORM's CARD OF 'obeluslaw56.RedactContains'. -/
def redactContainsUptoCard : Claim7 := { stood := { row := redactContainsUptoRow, standIns := [], harness := (true, "ef56d7b56468dc3211ac09fe492ba78587841a53dc1d8aea719d901f9a3fe7d6"), looks := false }, kinds := [], alts := [], laidByText := true, laidKinds := [.data, .data, .data], laidTests := true, laidLooks := .later }
def RedactContainsUptoCardSaid : Prop := Claim7.holds Tryz.pinned (.plain (OpenSpec.upto redactContainsSpec)) redactContainsUptoCard

/-- THE SECOND FORM's CARD OF 'obeluslaw56.RedactKeeps'. -/
def redactKeepsUptoCard : Claim7 := { stood := { row := redactKeepsUptoRow, standIns := [], harness := (true, "ef56d7b56468dc3211ac09fe492ba78587841a53dc1d8aea719d901f9a3fe7d6"), looks := false }, kinds := [], alts := [], laidByText := true, laidKinds := [.data, .data, .data], laidTests := true, laidLooks := .later }
def RedactKeepsUptoCardSaid : Prop := Claim7.holds Tryz.pinned (.plain (OpenSpec.upto redactKeepsSpec)) redactKeepsUptoCard

/-- THE SECOND FORM's CARD OF 'obeluslaw56.RedactValid'. -/
def redactValidUptoCard : Claim7 := { stood := { row := redactValidUptoRow, standIns := [], harness := (true, "ef56d7b56468dc3211ac09fe492ba78587841a53dc1d8aea719d901f9a3fe7d6"), looks := false }, kinds := [], alts := [], laidByText := true, laidKinds := [.data, .data, .data], laidTests := true, laidLooks := .later }
def RedactValidUptoCardSaid : Prop := Claim7.holds Tryz.pinned (.plain (OpenSpec.upto redactValidSpec)) redactValidUptoCard

/-- THE SECOND FORM's CARD OF 'obeluslaw56.RedactCanonical'. -/
def redactCanonicalUptoCard : Claim7 := { stood := { row := redactCanonicalUptoRow, standIns := [], harness := (true, "ef56d7b56468dc3211ac09fe492ba78587841a53dc1d8aea719d901f9a3fe7d6"), looks := false }, kinds := [], alts := [], laidByText := true, laidKinds := [.data, .data, .data], laidTests := true, laidLooks := .later }
def RedactCanonicalUptoCardSaid : Prop := Claim7.holds Tryz.pinned (.plain (OpenSpec.upto redactCanonicalSpec)) redactCanonicalUptoCard

/-- THE SECOND FORM's CARD OF 'obeluslaw56.RedactIds'. -/
def redactIdsUptoCard : Claim7 := { stood := { row := redactIdsUptoRow, standIns := [], harness := (true, "ef56d7b56468dc3211ac09fe492ba78587841a53dc1d8aea719d901f9a3fe7d6"), looks := false }, kinds := [], alts := [], laidByText := true, laidKinds := [.data, .data, .data], laidTests := true, laidLooks := .later }
def RedactIdsUptoCardSaid : Prop := Claim7.holds Tryz.pinned (.plain (OpenSpec.upto redactIdsSpec)) redactIdsUptoCard
end Rows
end Go.Proofs.YthinbkgpjmjfeaaGreatDoor
