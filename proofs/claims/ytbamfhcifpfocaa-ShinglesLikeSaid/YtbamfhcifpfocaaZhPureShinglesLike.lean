/- Part of the proof that the law shinglesLike is true for every input. No conditions. Laid by a program of this session over the kit's print and words; declarations that nothing names are left out. -/
import Derived.Test.YtbamfhcifpfocaaZhUhShinglesLike0
import Derived.Test.YtbamfhcifpfocaaZhPhx11
namespace Go.Proofs.Ytbamfhcifpfocaa.Pure
open Go.RowKit Go.Proofs.Ytbamfhcifpfocaa.GBase Go.Proofs.Ytbamfhcifpfocaa.Ph Go.Proofs.YtbamfhcifpfocaaW.PrintWords Go.Proofs.YtbamfhcifpfocaaW.PrintLast
theorem ShinglesLike : chaselaw1_ShinglesLike.Pure := fun l _ hn hw => (like_ev l ⟨hn, hw⟩).rounds
end Go.Proofs.Ytbamfhcifpfocaa.Pure
