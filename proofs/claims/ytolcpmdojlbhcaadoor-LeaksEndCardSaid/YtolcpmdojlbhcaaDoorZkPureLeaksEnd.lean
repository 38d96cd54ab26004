/- Part of the proof that the law leaksEnd is true for every input. No conditions. Laid by a program of this session over the kit's print and words; declarations that nothing names are left out. -/
import Derived.Test.YtolcpmdojlbhcaaDoorZkUeLeaksEnd0
import Derived.Test.YtolcpmdojlbhcaaDoorZkPex12
namespace Go.Proofs.YtolcpmdojlbhcaaDoor.Pure
open Go.RowKit Go.Proofs.YtolcpmdojlbhcaaDoor.GBase Go.Proofs.YtolcpmdojlbhcaaDoor.Pe Go.Proofs.YtolcpmdojlbhcaaDoorW.PrintWords Go.Proofs.YtolcpmdojlbhcaaDoorW.PrintLast
theorem LeaksEnd : chasekeep1_LeaksEnd.Pure := fun l _ hn hw => (leaksEnd_ev l ⟨hn, hw⟩).rounds
end Go.Proofs.YtolcpmdojlbhcaaDoor.Pure
