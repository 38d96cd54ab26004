/- A part of the proof of wordsDiffer. No conditions. Laid by program over the kit's print and words. -/
import Derived.Test.YtbamfhcifpfocaaDoorZdWTab
namespace Go.Proofs.YtbamfhcifpfocaaDoorW.PrintLast
def up (b : Nat → Bool) (i : Nat) : Nat → Bool := fun j => if j = i then true else b j
end Go.Proofs.YtbamfhcifpfocaaDoorW.PrintLast
