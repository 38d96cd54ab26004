/- Part of the proof that the law spansMixed is true for every input. No conditions. Laid by a program of this session over the kit's print and words; declarations that nothing names are left out. -/
import Derived.Test.YtbamfhcifpfocaaDoorZmUmSpansMixed0
import Derived.Test.YtbamfhcifpfocaaDoorZmPmx10
namespace Go.Proofs.YtbamfhcifpfocaaDoor.Pure
open Go.RowKit Go.Proofs.YtbamfhcifpfocaaDoor.GBase Go.Proofs.YtbamfhcifpfocaaDoor.Pm Go.Proofs.YtbamfhcifpfocaaDoorW.PrintWords Go.Proofs.YtbamfhcifpfocaaDoorW.PrintLast
theorem SpansMixed : chaselaw1_SpansMixed.Pure := fun l _ hn hw => (mixed_ev l ⟨hn, hw⟩).rounds
end Go.Proofs.YtbamfhcifpfocaaDoor.Pure
