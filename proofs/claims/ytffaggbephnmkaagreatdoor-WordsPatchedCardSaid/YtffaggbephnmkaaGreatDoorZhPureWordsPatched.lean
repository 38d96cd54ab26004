/- A part of the proof of wordsPatched. No conditions. Laid by program over the kit's print and words. -/
import Derived.Test.YtffaggbephnmkaaGreatDoorZhUqWordsPatched0
import Derived.Test.YtffaggbephnmkaaGreatDoorZhPqx12
namespace Go.Proofs.YtffaggbephnmkaaGreatDoor.Pure
open Go.RowKit Go.Proofs.YtffaggbephnmkaaGreatDoor.GBase Go.Proofs.YtffaggbephnmkaaGreatDoor.Pq Go.Proofs.YtffaggbephnmkaaGreatDoorW.PrintWords Go.Proofs.YtffaggbephnmkaaGreatDoorW.PrintLast
theorem WordsPatched : Z9.Pure := fun l _ hn hw => (patched_ev l ⟨hn, hw⟩).rounds
end Go.Proofs.YtffaggbephnmkaaGreatDoor.Pure
