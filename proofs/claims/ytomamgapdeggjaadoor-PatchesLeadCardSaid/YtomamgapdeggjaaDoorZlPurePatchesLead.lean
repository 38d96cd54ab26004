/- Part of the proof that the law patchesLead is true for every input. No conditions. Laid by a program of this session over the kit's print and words; declarations that nothing names are left out. -/
import Derived.Test.YtomamgapdeggjaaDoorZlUlPatchesLead0
import Derived.Test.YtomamgapdeggjaaDoorZlPlx9
namespace Go.Proofs.YtomamgapdeggjaaDoor.Pure
open Go.RowKit Go.Proofs.YtomamgapdeggjaaDoor.GBase Go.Proofs.YtomamgapdeggjaaDoor.Pl Go.Proofs.YtomamgapdeggjaaDoorW.PrintWords Go.Proofs.YtomamgapdeggjaaDoorW.PrintLast
theorem PatchesLead : chasekeep1_PatchesLead.Pure := fun l _ hn hw => (leads_ev l ⟨hn, hw⟩).rounds
end Go.Proofs.YtomamgapdeggjaaDoor.Pure
