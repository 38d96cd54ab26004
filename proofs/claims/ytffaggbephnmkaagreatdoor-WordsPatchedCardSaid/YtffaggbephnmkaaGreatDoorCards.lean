/-
  DERIVED. GIVEN WITH THE SEED: THE CARDS: each row of YtffaggbephnmkaaGreatDoorRows.lean that lists a variable, with what it lists TIED to the program's text (the seventh form; the later family's looks); each row that meets fmt, with fmt's text TOLD by the authors' own Lean function (tested against real Go, not proved from fmt's source: count such statements apart). THE CARD IS WHAT COUNTS. Prove the row's statement (the work); the ties are given (YtffaggbephnmkaaGreatDoorTie.lean); close each card by the builder's one call (the guide's Derived/Test/ToyasCard.lean, 'card_holds'). Laid BY PROGRAM, IN A SANDBOX (cutbox-door.mjs). By AI agents, Wed Nov 11 2026. No macro, syntax, notation, axiom, sorry.
-/
import Derived.Test.YtffaggbephnmkaaGreatDoorRows
import GoSem.ClaimSeven
namespace Go.Proofs.YtffaggbephnmkaaGreatDoor
namespace Rows

/-- THE TIED CARD OF 'chaselaw1.TextsPaged'. -/
def textsPagedCard : Claim7 := { stood := { row := textsPagedRow, standIns := [], harness := (true, "fd2a28477ae313f204027755e41acabced87ff2a8551d265bcf2c6888295d452"), looks := false }, kinds := [], alts := [], laidByText := true, laidKinds := [.data, .data, .data, .data, .pinned], laidTests := true, laidLooks := .later }
def TextsPagedCardSaid : Prop := Claim7.holds Tryz.pinned (.plain (OpenSpec.ofChange textsPagedSpec)) textsPagedCard

/-- THE TIED CARD OF 'chaselaw1.WordsPatched'. -/
def wordsPatchedCard : Claim7 := { stood := { row := wordsPatchedRow, standIns := [], harness := (true, "fd2a28477ae313f204027755e41acabced87ff2a8551d265bcf2c6888295d452"), looks := false }, kinds := [], alts := [], laidByText := true, laidKinds := [.data, .pinned], laidTests := true, laidLooks := .later }
def WordsPatchedCardSaid : Prop := Claim7.holds Tryz.pinned (.plain (OpenSpec.ofChange wordsPatchedSpec)) wordsPatchedCard

/-- THE SECOND FORM's CARD OF 'chaselaw1.TextsPaged'. -/
def textsPagedUptoCard : Claim7 := { stood := { row := textsPagedUptoRow, standIns := [], harness := (true, "fd2a28477ae313f204027755e41acabced87ff2a8551d265bcf2c6888295d452"), looks := false }, kinds := [], alts := [], laidByText := true, laidKinds := [.data, .data, .data, .data, .pinned], laidTests := true, laidLooks := .later }
def TextsPagedUptoCardSaid : Prop := Claim7.holds Tryz.pinned (.plain (OpenSpec.upto textsPagedSpec)) textsPagedUptoCard

/-- THE SECOND FORM's CARD OF 'chaselaw1.WordsPatched'. -/
def wordsPatchedUptoCard : Claim7 := { stood := { row := wordsPatchedUptoRow, standIns := [], harness := (true, "fd2a28477ae313f204027755e41acabced87ff2a8551d265bcf2c6888295d452"), looks := false }, kinds := [], alts := [], laidByText := true, laidKinds := [.data, .pinned], laidTests := true, laidLooks := .later }
def WordsPatchedUptoCardSaid : Prop := Claim7.holds Tryz.pinned (.plain (OpenSpec.upto wordsPatchedSpec)) wordsPatchedUptoCard
end Rows
end Go.Proofs.YtffaggbephnmkaaGreatDoor
