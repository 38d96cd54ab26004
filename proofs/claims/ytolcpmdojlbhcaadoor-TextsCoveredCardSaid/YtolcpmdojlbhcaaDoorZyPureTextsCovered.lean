/- A part of the proof of textsCovered. No conditions. Laid by program over the kit's print and words. -/
import Derived.Test.YtolcpmdojlbhcaaDoorZyUxTextsCovered0
import Derived.Test.YtolcpmdojlbhcaaDoorZyPxx17
namespace Go.Proofs.YtolcpmdojlbhcaaDoor.Pure
open Go.RowKit Go.Proofs.YtolcpmdojlbhcaaDoor.GBase Go.Proofs.YtolcpmdojlbhcaaDoor.Px Go.Proofs.YtolcpmdojlbhcaaDoorW.PrintWords Go.Proofs.YtolcpmdojlbhcaaDoorW.PrintLast
theorem TextsCovered : Z2.Pure := fun l _ hn hw => (texts_ev l ⟨hn, hw⟩).rounds
end Go.Proofs.YtolcpmdojlbhcaaDoor.Pure
