/-
  DERIVED. GIVEN WITH THE SEED: THE CARDS: each row of YtomamgapdeggjaaDoorRows.lean that lists a variable, with what it lists TIED to the program's text (the seventh form; the later family's looks); each row that meets fmt, with fmt's text TOLD by the authors' own Lean function (tested against real Go, not proved from fmt's source: count such statements apart). THE CARD IS WHAT COUNTS. Prove the row's statement (the work); the ties are given (YtomamgapdeggjaaDoorTie.lean); close each card by the builder's one call (the guide's Derived/Test/ToyasCard.lean, 'card_holds'). Laid BY PROGRAM, IN A SANDBOX (cutbox-door.mjs). By AI agents, Wed Nov 11 2026. No macro, syntax, notation, axiom, sorry.
-/
import Derived.Test.YtomamgapdeggjaaDoorRows
import GoSem.ClaimSeven
namespace Go.Proofs.YtomamgapdeggjaaDoor
namespace Rows

/-- THE TIED CARD OF 'chaselaw1.TermsMarked'. -/
def termsMarkedCard : Claim7 := { stood := { row := termsMarkedRow, standIns := [], harness := (true, "ea8fe1bd3eee14414391989d4053d616790a8d703892a2518cec758f2a46d2ef"), looks := false }, kinds := [], alts := [], laidByText := true, laidKinds := [.data, .pinned], laidTests := true, laidLooks := .later }
def TermsMarkedCardSaid : Prop := Claim7.holds Tryd.pinned (.plain (OpenSpec.ofChange termsMarkedSpec)) termsMarkedCard

/-- THE TIED CARD OF 'chasekeep1.CoveredIsHidden'. -/
def coveredIsHiddenCard : Claim7 := { stood := { row := coveredIsHiddenRow, standIns := [], harness := (true, "ea8fe1bd3eee14414391989d4053d616790a8d703892a2518cec758f2a46d2ef"), looks := false }, kinds := [], alts := [], laidByText := true, laidKinds := [.data, .pinned], laidTests := true, laidLooks := .later }
def CoveredIsHiddenCardSaid : Prop := Claim7.holds Tryd.pinned (.plain (OpenSpec.ofChange coveredIsHiddenSpec)) coveredIsHiddenCard

/-- THE TIED CARD OF 'chasekeep1.LeaksEnd'. -/
def leaksEndCard : Claim7 := { stood := { row := leaksEndRow, standIns := [], harness := (true, "ea8fe1bd3eee14414391989d4053d616790a8d703892a2518cec758f2a46d2ef"), looks := false }, kinds := [], alts := [], laidByText := true, laidKinds := [.data, .pinned], laidTests := true, laidLooks := .later }
def LeaksEndCardSaid : Prop := Claim7.holds Tryd.pinned (.plain (OpenSpec.ofChange leaksEndSpec)) leaksEndCard

/-- THE TIED CARD OF 'chaselaw1.TextsCovered'. -/
def textsCoveredCard : Claim7 := { stood := { row := textsCoveredRow, standIns := [], harness := (true, "ea8fe1bd3eee14414391989d4053d616790a8d703892a2518cec758f2a46d2ef"), looks := false }, kinds := [], alts := [], laidByText := true, laidKinds := [.data, .pinned], laidTests := true, laidLooks := .later }
def TextsCoveredCardSaid : Prop := Claim7.holds Tryd.pinned (.plain (OpenSpec.ofChange textsCoveredSpec)) textsCoveredCard

/-- THE TIED CARD OF 'chaselaw1.RowsOverlaid'. -/
def rowsOverlaidCard : Claim7 := { stood := { row := rowsOverlaidRow, standIns := [], harness := (true, "ea8fe1bd3eee14414391989d4053d616790a8d703892a2518cec758f2a46d2ef"), looks := false }, kinds := [], alts := [], laidByText := true, laidKinds := [.data, .data, .data, .data, .pinned], laidTests := true, laidLooks := .later }
def RowsOverlaidCardSaid : Prop := Claim7.holds Tryd.pinned (.plain (OpenSpec.ofChange rowsOverlaidSpec)) rowsOverlaidCard

/-- THE TIED CARD OF 'chasekeep1.PatchesLead'. -/
def patchesLeadCard : Claim7 := { stood := { row := patchesLeadRow, standIns := [], harness := (true, "ea8fe1bd3eee14414391989d4053d616790a8d703892a2518cec758f2a46d2ef"), looks := false }, kinds := [], alts := [], laidByText := true, laidKinds := [.data, .pinned], laidTests := true, laidLooks := .later }
def PatchesLeadCardSaid : Prop := Claim7.holds Tryd.pinned (.plain (OpenSpec.ofChange patchesLeadSpec)) patchesLeadCard

/-- THE SECOND FORM's CARD OF 'chaselaw1.TermsMarked'. -/
def termsMarkedUptoCard : Claim7 := { stood := { row := termsMarkedUptoRow, standIns := [], harness := (true, "ea8fe1bd3eee14414391989d4053d616790a8d703892a2518cec758f2a46d2ef"), looks := false }, kinds := [], alts := [], laidByText := true, laidKinds := [.data, .pinned], laidTests := true, laidLooks := .later }
def TermsMarkedUptoCardSaid : Prop := Claim7.holds Tryd.pinned (.plain (OpenSpec.upto termsMarkedSpec)) termsMarkedUptoCard

/-- THE SECOND FORM's CARD OF 'chasekeep1.CoveredIsHidden'. -/
def coveredIsHiddenUptoCard : Claim7 := { stood := { row := coveredIsHiddenUptoRow, standIns := [], harness := (true, "ea8fe1bd3eee14414391989d4053d616790a8d703892a2518cec758f2a46d2ef"), looks := false }, kinds := [], alts := [], laidByText := true, laidKinds := [.data, .pinned], laidTests := true, laidLooks := .later }
def CoveredIsHiddenUptoCardSaid : Prop := Claim7.holds Tryd.pinned (.plain (OpenSpec.upto coveredIsHiddenSpec)) coveredIsHiddenUptoCard

/-- THE SECOND FORM's CARD OF 'chasekeep1.LeaksEnd'. -/
def leaksEndUptoCard : Claim7 := { stood := { row := leaksEndUptoRow, standIns := [], harness := (true, "ea8fe1bd3eee14414391989d4053d616790a8d703892a2518cec758f2a46d2ef"), looks := false }, kinds := [], alts := [], laidByText := true, laidKinds := [.data, .pinned], laidTests := true, laidLooks := .later }
def LeaksEndUptoCardSaid : Prop := Claim7.holds Tryd.pinned (.plain (OpenSpec.upto leaksEndSpec)) leaksEndUptoCard

/-- THE SECOND FORM's CARD OF 'chaselaw1.TextsCovered'. -/
def textsCoveredUptoCard : Claim7 := { stood := { row := textsCoveredUptoRow, standIns := [], harness := (true, "ea8fe1bd3eee14414391989d4053d616790a8d703892a2518cec758f2a46d2ef"), looks := false }, kinds := [], alts := [], laidByText := true, laidKinds := [.data, .pinned], laidTests := true, laidLooks := .later }
def TextsCoveredUptoCardSaid : Prop := Claim7.holds Tryd.pinned (.plain (OpenSpec.upto textsCoveredSpec)) textsCoveredUptoCard

/-- THE SECOND FORM's CARD OF 'chaselaw1.RowsOverlaid'. -/
def rowsOverlaidUptoCard : Claim7 := { stood := { row := rowsOverlaidUptoRow, standIns := [], harness := (true, "ea8fe1bd3eee14414391989d4053d616790a8d703892a2518cec758f2a46d2ef"), looks := false }, kinds := [], alts := [], laidByText := true, laidKinds := [.data, .data, .data, .data, .pinned], laidTests := true, laidLooks := .later }
def RowsOverlaidUptoCardSaid : Prop := Claim7.holds Tryd.pinned (.plain (OpenSpec.upto rowsOverlaidSpec)) rowsOverlaidUptoCard

/-- THE SECOND FORM's CARD OF 'chasekeep1.PatchesLead'. -/
def patchesLeadUptoCard : Claim7 := { stood := { row := patchesLeadUptoRow, standIns := [], harness := (true, "ea8fe1bd3eee14414391989d4053d616790a8d703892a2518cec758f2a46d2ef"), looks := false }, kinds := [], alts := [], laidByText := true, laidKinds := [.data, .pinned], laidTests := true, laidLooks := .later }
def PatchesLeadUptoCardSaid : Prop := Claim7.holds Tryd.pinned (.plain (OpenSpec.upto patchesLeadSpec)) patchesLeadUptoCard
end Rows
end Go.Proofs.YtomamgapdeggjaaDoor
