/- Part of the proof that the law phrasesFound is true for every input. No conditions. Laid by a program of this session over the kit's print and words; declarations that nothing names are left out. -/
import Derived.Test.YtbamfhcifpfocaaDoorZpPpx5
namespace Go.Proofs.YtbamfhcifpfocaaDoor.Pp
open Go.RowKit Go.Proofs.YtbamfhcifpfocaaDoor.GBase Go.Proofs.YtbamfhcifpfocaaDoorW.PrintWords Go.Proofs.YtbamfhcifpfocaaDoorW.PrintLast
theorem privileges_ev : Ev (fun k => chaselaw1_privileges.f k) true := Ev.of (fun k => chaselaw1_privileges.mono k) (k := 12) (by decide +kernel)
end Go.Proofs.YtbamfhcifpfocaaDoor.Pp
