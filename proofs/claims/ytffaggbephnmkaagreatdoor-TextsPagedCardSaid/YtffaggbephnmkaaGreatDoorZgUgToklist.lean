/- Part of the proof that the law textsPaged is true for every input. No conditions. Laid by a program of this session over the kit's print and words; declarations that nothing names are left out. -/
import Derived.Test.YtffaggbephnmkaaGreatDoorZgGBase
import Derived.Test.YtffaggbephnmkaaGreatDoorZgShelf
import Derived.Shelf.Strings.BuilderK
import Derived.Lib.SplitLaws
namespace Go.Proofs.YtffaggbephnmkaaGreatDoor.GBase
open Go.RowKit
def spl (c : UInt8) : List UInt8 → List (List UInt8)
  | [] => [[]]
  | b :: r => if b = c then [] :: spl c r else (b :: (spl c r).headD []) :: (spl c r).tail
theorem spl_ne (c : UInt8) : ∀ l, spl c l = (spl c l).headD [] :: (spl c l).tail
  | [] => rfl
  | b :: r => by
    unfold spl
    split <;> rfl
theorem splitK_spl (c : UInt8) : ∀ l : List UInt8, Lib.splitK [c] 0 (Lib.count l [c]) l = spl c l
  | [] => by rw [Lib.count_one]; rfl
  | b :: l => by
    have ih := splitK_spl c l
    by_cases h : b = c
    · subst h
      have hix : Lib.index (b :: l) [b] = 0 := by rw [Lib.index]; simp [List.isPrefixOf]
      rw [Lib.count_cons_eq, Nat.add_comm]
      unfold Lib.splitK
      rw [hix]
      simp only [spl, if_true]
      rw [← ih]
      rfl
    · have hp : ([c] : List UInt8).isPrefixOf (b :: l) = false := by simp [List.isPrefixOf, Ne.symm h]
      have hix : Lib.index (b :: l) [c] = if Lib.index l [c] == -1 then -1 else Lib.index l [c] + 1 := by rw [Lib.index, hp]; simp
      rw [Lib.count_cons_ne b c l h]
      simp only [spl, if_neg h]
      rw [← ih]
      cases hk : Lib.count l [c] with
      | zero => rfl
      | succ k =>
        have hge := Lib.index_ge l [c]
        have hm : Lib.index l [c] ≠ -1 := fun e => by rw [Lib.count_miss e] at hk; omega
        have h1 : (Lib.index l [c] == -1) = false := beq_eq_false_iff_ne.2 hm
        rw [h1] at hix
        simp only [Bool.false_eq_true, if_false] at hix
        have h2 : (Lib.index (b :: l) [c] == -1) = false := beq_eq_false_iff_ne.2 (by omega)
        have h3 : (Lib.index (b :: l) [c]).toNat = (Lib.index l [c]).toNat + 1 := by omega
        simp only [Lib.splitK, h1, h2, h3, Bool.false_eq_true, if_false, List.headD_cons, List.tail_cons, Nat.add_zero, List.take_succ_cons, List.length_cons, List.length_nil, Nat.zero_add, List.drop_succ_cons]
end Go.Proofs.YtffaggbephnmkaaGreatDoor.GBase
