/- Part of the proof that the law wordsRead is true for every input. No conditions. Laid by a program of this session over the kit's print and words; declarations that nothing names are left out. -/
import Derived.Test.YtbamfhcifpfocaaDoorZwUwWordsRead0
import Derived.Test.YtbamfhcifpfocaaDoorZwPwx4
namespace Go.Proofs.YtbamfhcifpfocaaDoor.Pure
open Go.RowKit Go.Proofs.YtbamfhcifpfocaaDoor.GBase Go.Proofs.YtbamfhcifpfocaaDoor.Pw Go.Proofs.YtbamfhcifpfocaaDoorW.PrintWords Go.Proofs.YtbamfhcifpfocaaDoorW.PrintLast
theorem WordsRead : chaselaw1_WordsRead.Pure := fun l a _ hn hw ha => (read_ev l ⟨hn, hw⟩ a ha).rounds
end Go.Proofs.YtbamfhcifpfocaaDoor.Pure
