/- Part of the proof that the law shinglesLike is true for every input. No conditions. Laid by a program of this session over the kit's print and words; declarations that nothing names are left out. -/
import Derived.Test.YtbamfhcifpfocaaZhGBase
namespace Go.Proofs.Ytbamfhcifpfocaa.GBase
open Go.RowKit
theorem ne2_ (a b c d : Int) (w : World) : (if a = b then if c = d then (Result.ok (Next.value (Value.bool false)) w) else Result.ok (Next.value (Value.bool true)) w else Result.ok (Next.value (Value.bool true)) w) = Result.ok (Next.value (Value.bool (!(a == b) || !(c == d)))) w := by
  by_cases h : a = b <;> by_cases k : c = d <;> simp [h, k]
theorem ne2_t {a b c d : Int} {w : World} (e : (!(a == b) || !(c == d)) = true) : (if a = b then if c = d then (Result.ok (Next.value (Value.bool false)) w) else Result.ok (Next.value (Value.bool true)) w else Result.ok (Next.value (Value.bool true)) w) = Result.ok (Next.value (Value.bool true)) w := by
  rw [ne2_, e]
theorem ne2_f {a b c d : Int} {w : World} (e : (!(a == b) || !(c == d)) = false) : (if a = b then if c = d then (Result.ok (Next.value (Value.bool false)) w) else Result.ok (Next.value (Value.bool true)) w else Result.ok (Next.value (Value.bool true)) w) = Result.ok (Next.value (Value.bool false)) w := by
  rw [ne2_, e]
end Go.Proofs.Ytbamfhcifpfocaa.GBase
