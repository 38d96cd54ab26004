/-
  DERIVED. GIVEN WITH THE SEED: THE CARDS: each row of YtenphgclongphaaGreatDoorRows.lean that lists a variable, with what it lists TIED to the program's text (the seventh form; the later family's looks); each row that meets fmt, with fmt's text TOLD by the authors' own Lean function (tested against real Go, not proved from fmt's source: count such statements apart). THE CARD IS WHAT COUNTS. Prove the row's statement (the work); the ties are given (YtenphgclongphaaGreatDoorTie.lean); close each card by the builder's one call (the guide's Derived/Test/ToyasCard.lean, 'card_holds'). Laid BY PROGRAM, IN A SANDBOX (cutbox-door.mjs). By AI agents, Wed Nov 11 2026. No macro, syntax, notation, axiom, sorry.
-/
import Derived.Test.YtenphgclongphaaGreatDoorRows
import GoSem.ClaimSeven
namespace Go.Proofs.YtenphgclongphaaGreatDoor
namespace Rows

/-- THE TIED CARD OF 'chasekeep1.WordsStay'. -/
def wordsStayCard : Claim7 := { stood := { row := wordsStayRow, standIns := [], harness := (true, "a79ddc0cc68014dbb2e023bd875799ad91f019bcd7c7441689550ac44989abbf"), looks := false }, kinds := [], alts := [], laidByText := true, laidKinds := [.data, .pinned], laidTests := true, laidLooks := .later }
def WordsStayCardSaid : Prop := Claim7.holds Tryz.pinned (.plain (OpenSpec.ofChange wordsStaySpec)) wordsStayCard

/-- THE SECOND FORM's CARD OF 'chasekeep1.WordsStay'. -/
def wordsStayUptoCard : Claim7 := { stood := { row := wordsStayUptoRow, standIns := [], harness := (true, "a79ddc0cc68014dbb2e023bd875799ad91f019bcd7c7441689550ac44989abbf"), looks := false }, kinds := [], alts := [], laidByText := true, laidKinds := [.data, .pinned], laidTests := true, laidLooks := .later }
def WordsStayUptoCardSaid : Prop := Claim7.holds Tryz.pinned (.plain (OpenSpec.upto wordsStaySpec)) wordsStayUptoCard
end Rows
end Go.Proofs.YtenphgclongphaaGreatDoor
