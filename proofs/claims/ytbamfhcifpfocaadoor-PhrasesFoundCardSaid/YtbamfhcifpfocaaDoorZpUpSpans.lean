/- Part of the proof that the law phrasesFound is true for every input. No conditions. Laid by a program of this session over the kit's print and words; declarations that nothing names are left out. -/
import Derived.Test.YtbamfhcifpfocaaDoorZpUpSmall
import Derived.Test.YtbamfhcifpfocaaDoorZpUpSpanlib
import Derived.Test.YtbamfhcifpfocaaDoorZpPpx2
import Derived.Test.YtbamfhcifpfocaaDoorZpPpx7
namespace Go.Proofs.YtbamfhcifpfocaaDoor.Pp
open Go.RowKit Go.Proofs.YtbamfhcifpfocaaDoor.GBase Go.Proofs.YtbamfhcifpfocaaDoorW.PrintWords Go.Proofs.YtbamfhcifpfocaaDoorW.PrintLast
set_option linter.unusedVariables false
set_option linter.unusedSimpArgs false
def spn (p : Nat × Nat) : S46 := ⟨p.1, p.2⟩
theorem rdT_at (l : List S46) (j : Nat) (hj : j < l.length) : rd_T46 l (j : Int) = l[j] := by
  simp [rd_T46, List.getD_eq_getElem?_getD, List.getElem?_eq_getElem hj]
theorem rdT_spn (l : List (Nat × Nat)) (j : Nat) (hj : j < l.length) : rd_T46 (l.map spn) (j : Int) = spn l[j] := by
  rw [rdT_at _ _ (by simpa using hj)]
  simp
end Go.Proofs.YtbamfhcifpfocaaDoor.Pp
