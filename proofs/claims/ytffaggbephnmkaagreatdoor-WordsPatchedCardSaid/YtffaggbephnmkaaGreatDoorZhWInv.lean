/- A part of the proof of wordsPatched. No conditions. Laid by program over the kit's print and words. -/
import Derived.Test.YtffaggbephnmkaaGreatDoorZhWTab
namespace Go.Proofs.YtffaggbephnmkaaGreatDoorW.PrintLast
def up (b : Nat → Bool) (i : Nat) : Nat → Bool := fun j => if j = i then true else b j
end Go.Proofs.YtffaggbephnmkaaGreatDoorW.PrintLast
