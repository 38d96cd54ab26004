/- Part of the proof that the law textsPaged is true for every input. No conditions. Laid by a program of this session over the kit's print and words; declarations that nothing names are left out. -/
import Derived.Test.YtffaggbephnmkaaGreatDoorZgUgTextsPaged0
import Derived.Test.YtffaggbephnmkaaGreatDoorZgPgx8
namespace Go.Proofs.YtffaggbephnmkaaGreatDoor.Pure
open Go.RowKit Go.Proofs.YtffaggbephnmkaaGreatDoor.GBase Go.Proofs.YtffaggbephnmkaaGreatDoor.Pg Go.Proofs.YtffaggbephnmkaaGreatDoorW.PrintWords Go.Proofs.YtffaggbephnmkaaGreatDoorW.PrintLast
theorem TextsPaged : chaselaw1_TextsPaged.Pure := fun l _ hn hw => (paged_ev l ⟨hn, hw⟩).rounds
end Go.Proofs.YtffaggbephnmkaaGreatDoor.Pure
