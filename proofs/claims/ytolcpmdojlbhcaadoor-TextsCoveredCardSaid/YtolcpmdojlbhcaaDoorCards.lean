/-
  DERIVED. GIVEN WITH THE SEED: THE CARDS: each row of YtolcpmdojlbhcaaDoorRows.lean that lists a variable, with what it lists TIED to the program's text (the seventh form; the later family's looks); each row that meets fmt, with fmt's text TOLD by the authors' own Lean function (tested against real Go, not proved from fmt's source: count such statements apart). THE CARD IS WHAT COUNTS. Prove the row's statement (the work); the ties are given (YtolcpmdojlbhcaaDoorTie.lean); close each card by the builder's one call (the guide's Derived/Test/ToyasCard.lean, 'card_holds'). Laid BY PROGRAM, IN A SANDBOX (cutbox-door.mjs). By AI agents, Wed Nov 11 2026. No macro, syntax, notation, axiom, sorry.
-/
import Derived.Test.YtolcpmdojlbhcaaDoorRows
import GoSem.ClaimSeven
namespace Go.Proofs.YtolcpmdojlbhcaaDoor
namespace Rows

/-- THE TIED CARD OF 'chaselaw1.TermsMarked'. -/
def termsMarkedCard : Claim7 := { stood := { row := termsMarkedRow, standIns := [], harness := (true, "5faec2673aab41b46460095cbefaec95897a640ae7ea3e3cb8201506aa2c1634"), looks := false }, kinds := [], alts := [], laidByText := true, laidKinds := [.data, .pinned], laidTests := true, laidLooks := .later }
def TermsMarkedCardSaid : Prop := Claim7.holds Tryd.pinned (.plain (OpenSpec.ofChange termsMarkedSpec)) termsMarkedCard

/-- THE TIED CARD OF 'chasekeep1.CoveredIsHidden'. -/
def coveredIsHiddenCard : Claim7 := { stood := { row := coveredIsHiddenRow, standIns := [], harness := (true, "5faec2673aab41b46460095cbefaec95897a640ae7ea3e3cb8201506aa2c1634"), looks := false }, kinds := [], alts := [], laidByText := true, laidKinds := [.data, .pinned], laidTests := true, laidLooks := .later }
def CoveredIsHiddenCardSaid : Prop := Claim7.holds Tryd.pinned (.plain (OpenSpec.ofChange coveredIsHiddenSpec)) coveredIsHiddenCard

/-- THE TIED CARD OF 'chasekeep1.LeaksEnd'. -/
def leaksEndCard : Claim7 := { stood := { row := leaksEndRow, standIns := [], harness := (true, "5faec2673aab41b46460095cbefaec95897a640ae7ea3e3cb8201506aa2c1634"), looks := false }, kinds := [], alts := [], laidByText := true, laidKinds := [.data, .pinned], laidTests := true, laidLooks := .later }
def LeaksEndCardSaid : Prop := Claim7.holds Tryd.pinned (.plain (OpenSpec.ofChange leaksEndSpec)) leaksEndCard

/-- THE TIED CARD OF 'chaselaw1.TextsCovered'. -/
def textsCoveredCard : Claim7 := { stood := { row := textsCoveredRow, standIns := [], harness := (true, "5faec2673aab41b46460095cbefaec95897a640ae7ea3e3cb8201506aa2c1634"), looks := false }, kinds := [], alts := [], laidByText := true, laidKinds := [.data, .pinned], laidTests := true, laidLooks := .later }
def TextsCoveredCardSaid : Prop := Claim7.holds Tryd.pinned (.plain (OpenSpec.ofChange textsCoveredSpec)) textsCoveredCard

/-- THE SECOND FORM's CARD OF 'chaselaw1.TermsMarked'. -/
def termsMarkedUptoCard : Claim7 := { stood := { row := termsMarkedUptoRow, standIns := [], harness := (true, "5faec2673aab41b46460095cbefaec95897a640ae7ea3e3cb8201506aa2c1634"), looks := false }, kinds := [], alts := [], laidByText := true, laidKinds := [.data, .pinned], laidTests := true, laidLooks := .later }
def TermsMarkedUptoCardSaid : Prop := Claim7.holds Tryd.pinned (.plain (OpenSpec.upto termsMarkedSpec)) termsMarkedUptoCard

/-- THE SECOND FORM's CARD OF 'chasekeep1.CoveredIsHidden'. -/
def coveredIsHiddenUptoCard : Claim7 := { stood := { row := coveredIsHiddenUptoRow, standIns := [], harness := (true, "5faec2673aab41b46460095cbefaec95897a640ae7ea3e3cb8201506aa2c1634"), looks := false }, kinds := [], alts := [], laidByText := true, laidKinds := [.data, .pinned], laidTests := true, laidLooks := .later }
def CoveredIsHiddenUptoCardSaid : Prop := Claim7.holds Tryd.pinned (.plain (OpenSpec.upto coveredIsHiddenSpec)) coveredIsHiddenUptoCard

/-- THE SECOND FORM's CARD OF 'chasekeep1.LeaksEnd'. -/
def leaksEndUptoCard : Claim7 := { stood := { row := leaksEndUptoRow, standIns := [], harness := (true, "5faec2673aab41b46460095cbefaec95897a640ae7ea3e3cb8201506aa2c1634"), looks := false }, kinds := [], alts := [], laidByText := true, laidKinds := [.data, .pinned], laidTests := true, laidLooks := .later }
def LeaksEndUptoCardSaid : Prop := Claim7.holds Tryd.pinned (.plain (OpenSpec.upto leaksEndSpec)) leaksEndUptoCard

/-- THE SECOND FORM's CARD OF 'chaselaw1.TextsCovered'. -/
def textsCoveredUptoCard : Claim7 := { stood := { row := textsCoveredUptoRow, standIns := [], harness := (true, "5faec2673aab41b46460095cbefaec95897a640ae7ea3e3cb8201506aa2c1634"), looks := false }, kinds := [], alts := [], laidByText := true, laidKinds := [.data, .pinned], laidTests := true, laidLooks := .later }
def TextsCoveredUptoCardSaid : Prop := Claim7.holds Tryd.pinned (.plain (OpenSpec.upto textsCoveredSpec)) textsCoveredUptoCard
end Rows
end Go.Proofs.YtolcpmdojlbhcaaDoor
