/- A part of the proof of wordsStay. No conditions. Laid by program over the kit's print and words. -/
import Derived.Test.YtenphgclongphaaGreatDoorZyGBase
import Derived.Test.YtenphgclongphaaGreatDoorZyGBuilder
namespace Go.Proofs.YtenphgclongphaaGreatDoor.GBase
open Go.RowKit
def jt (l : List ByteArray) : Nat → List UInt8
  | 0 => []
  | k + 1 => jt l k ++ ((if 0 < k ∧ ¬ (l.getD k ByteArray.empty).toList = [10] ∧ ¬ (l.getD (k - 1) ByteArray.empty).toList = [10] then [32] else []) ++ (l.getD k ByteArray.empty).data.toList)
theorem jt_step (l : List ByteArray) (k : Nat) : (jt l k).length ≤ (jt l (k + 1)).length := by
  show _ ≤ (jt l k ++ _).length
  rw [List.length_append]
  omega
theorem jt_mono (l : List ByteArray) (k d : Nat) : (jt l k).length ≤ (jt l (k + d)).length := by
  induction d with
  | zero => exact Nat.le_refl _
  | succ d ih => exact Nat.le_trans ih (jt_step l (k + d))
theorem jt_le (l : List ByteArray) {k n : Nat} (h : k ≤ n) : (jt l k).length ≤ (jt l n).length := by
  obtain ⟨d, rfl⟩ := Nat.le.dest h
  exact jt_mono l k d
theorem jt_sp {l : List ByteArray} {k : Nat} {x y : ByteArray} (ex : l.getD k ByteArray.empty = x) (ey : l.getD (k - 1) ByteArray.empty = y) (h0 : 0 < k) (h1 : ¬ x.toList = [10]) (h2 : ¬ y.toList = [10]) : jt l (k + 1) = jt l k ++ [32] ++ x.data.toList := by
  subst ex
  subst ey
  show jt l k ++ _ = _
  rw [if_pos ⟨h0, h1, h2⟩, List.append_assoc]
theorem jt_no {l : List ByteArray} {k : Nat} {x y : ByteArray} (ex : l.getD k ByteArray.empty = x) (ey : l.getD (k - 1) ByteArray.empty = y) (h : ¬ (0 < k ∧ ¬ x.toList = [10] ∧ ¬ y.toList = [10])) : jt l (k + 1) = jt l k ++ x.data.toList := by
  subst ex
  subst ey
  show jt l k ++ _ = _
  rw [if_neg h, List.nil_append]
end Go.Proofs.YtenphgclongphaaGreatDoor.GBase
