/- Part of the proof that the law phrasesFound is true for every input. No conditions. Laid by a program of this session over the kit's print and words; declarations that nothing names are left out. -/
import Derived.Test.YtbamfhcifpfocaaDoorZpUpPhrasesFound0
import Derived.Test.YtbamfhcifpfocaaDoorZpPpx11
namespace Go.Proofs.YtbamfhcifpfocaaDoor.Pure
open Go.RowKit Go.Proofs.YtbamfhcifpfocaaDoor.GBase Go.Proofs.YtbamfhcifpfocaaDoor.Pp Go.Proofs.YtbamfhcifpfocaaDoorW.PrintWords Go.Proofs.YtbamfhcifpfocaaDoorW.PrintLast
theorem PhrasesFound : chaselaw1_PhrasesFound.Pure := fun l _ hn hw => (phrases_ev l ⟨hn, hw⟩).rounds
end Go.Proofs.YtbamfhcifpfocaaDoor.Pure
