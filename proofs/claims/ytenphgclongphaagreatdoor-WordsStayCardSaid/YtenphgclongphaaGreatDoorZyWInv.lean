/- A part of the proof of wordsStay. No conditions. Laid by program over the kit's print and words. -/
import Derived.Test.YtenphgclongphaaGreatDoorZyWTab
namespace Go.Proofs.YtenphgclongphaaGreatDoorW.PrintLast
def up (b : Nat → Bool) (i : Nat) : Nat → Bool := fun j => if j = i then true else b j
end Go.Proofs.YtenphgclongphaaGreatDoorW.PrintLast
