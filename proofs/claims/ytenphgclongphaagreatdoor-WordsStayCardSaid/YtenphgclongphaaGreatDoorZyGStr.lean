/- A part of the proof of wordsStay. No conditions. Laid by program over the kit's print and words. -/
import Derived.Test.YtenphgclongphaaGreatDoorZyGBase
import Derived.Sort.Walk0
namespace Go.Proofs.YtenphgclongphaaGreatDoor.GBase
open Go.RowKit
theorem less_or (x y : List UInt8) : (Op.bytesLess x y || x == y) = !(Op.bytesLess y x) := by
  rw [bytesLess_eq, bytesLess_eq, Bool.eq_iff_iff]
  simp only [Bool.or_eq_true, decide_eq_true_eq, beq_iff_eq, Bool.not_eq_true', decide_eq_false_iff_not]
  constructor
  · rintro (h | h)
    · exact fun k => List.lt_irrefl x (List.lt_trans h k)
    · subst h
      exact List.lt_irrefl x
  · intro h
    rcases Classical.em (x < y) with k | k
    · exact .inl k
    · exact .inr (List.le_antisymm (List.not_lt.1 h) (List.not_lt.1 k))
theorem str_leq (t : TypeId) (a b : ByteArray) : binOp .leq t (.string a) (.string b) = pure (.bool !(Op.bytesLess b.toList a.toList)) := by
  rw [← less_or]
  simp [binOp, Op.stringOp]
end Go.Proofs.YtenphgclongphaaGreatDoor.GBase
