/- A part of the proof of wordsDiffer. No conditions. Laid by program over the kit's print and words. -/
import Derived.Test.YtbamfhcifpfocaaDoorZdUwWordsDiffer0
import Derived.Test.YtbamfhcifpfocaaDoorZdPwx13
namespace Go.Proofs.YtbamfhcifpfocaaDoor.Pure
open Go.RowKit Go.Proofs.YtbamfhcifpfocaaDoor.GBase Go.Proofs.YtbamfhcifpfocaaDoor.Pw Go.Proofs.YtbamfhcifpfocaaDoorW.PrintWords Go.Proofs.YtbamfhcifpfocaaDoorW.PrintLast
theorem WordsDiffer : chaselaw1_WordsDiffer.Pure := fun l _ hn hw => (differ_ev l ⟨hn, hw⟩).rounds
end Go.Proofs.YtbamfhcifpfocaaDoor.Pure
