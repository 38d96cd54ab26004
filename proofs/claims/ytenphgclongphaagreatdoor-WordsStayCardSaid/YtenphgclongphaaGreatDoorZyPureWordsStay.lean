/- A part of the proof of wordsStay. No conditions. Laid by program over the kit's print and words. -/
import Derived.Test.YtenphgclongphaaGreatDoorZyUkWordsStay0
import Derived.Test.YtenphgclongphaaGreatDoorZyPkx12
namespace Go.Proofs.YtenphgclongphaaGreatDoor.Pure
open Go.RowKit Go.Proofs.YtenphgclongphaaGreatDoor.GBase Go.Proofs.YtenphgclongphaaGreatDoor.Pk Go.Proofs.YtenphgclongphaaGreatDoorW.PrintWords Go.Proofs.YtenphgclongphaaGreatDoorW.PrintLast
theorem WordsStay : chasekeep1_WordsStay.Pure := fun l _ hn hw => stay_good l ⟨hn, hw⟩
end Go.Proofs.YtenphgclongphaaGreatDoor.Pure
