/- Part of the proof that the law coveredIsHidden is true for every input. No conditions. Laid by a program of this session over the kit's print and words; declarations that nothing names are left out. -/
import Derived.Test.YtolcpmdojlbhcaaDoorZvUcCoveredIsHidden0
import Derived.Test.YtolcpmdojlbhcaaDoorZvPcx10
namespace Go.Proofs.YtolcpmdojlbhcaaDoor.Pure
open Go.RowKit Go.Proofs.YtolcpmdojlbhcaaDoor.GBase Go.Proofs.YtolcpmdojlbhcaaDoor.Pc Go.Proofs.YtolcpmdojlbhcaaDoorW.PrintWords Go.Proofs.YtolcpmdojlbhcaaDoorW.PrintLast
theorem CoveredIsHidden : chasekeep1_CoveredIsHidden.Pure := fun l _ hn hw => (covered_ev l ⟨hn, hw⟩).rounds
end Go.Proofs.YtolcpmdojlbhcaaDoor.Pure
