/- Part of the proof that the law patchesLead is true for every input. No conditions. Laid by a program of this session over the kit's print and words; declarations that nothing names are left out. -/
import Derived.Test.YtomamgapdeggjaaDoorZlGJt
import Derived.Lib.SplitLaws
namespace Go.Proofs.YtomamgapdeggjaaDoor.Pl
open Go.RowKit Go.Proofs.YtomamgapdeggjaaDoor.GBase
set_option linter.unusedVariables false
def sz1 : List ByteArray → Nat
  | [] => 0
  | x :: r => x.size + 1 + sz1 r
def cost : List ByteArray → Nat
  | [] => 0
  | x :: r => x.size + 3 + cost r
theorem sz1_append (a b : List ByteArray) : sz1 (a ++ b) = sz1 a + sz1 b := by
  induction a with
  | nil => simp [sz1]
  | cons x a ih => simp only [List.cons_append, sz1, ih]; omega
theorem len_le_sz1 (a : List ByteArray) : a.length ≤ sz1 a := by
  induction a with
  | nil => exact Nat.le_refl _
  | cons x a ih => simp only [List.length_cons, sz1]; omega
theorem cost_le (a : List ByteArray) : cost a ≤ 3 * sz1 a := by
  induction a with
  | nil => exact Nat.le_refl _
  | cons x a ih => simp only [cost, sz1]; omega
theorem split_sz1 (sep : ByteArray) (h1 : 1 ≤ sep.size) : ∀ (k : Nat) (s : ByteArray), sz1 (Lib.splitB sep 0 k s) ≤ s.size + 1
  | 0, s => by rw [Lib.splitB_zero]; simp [sz1]
  | k + 1, s => by
    rcases Lib.indexB_cases s sep with hix | ⟨i, hix, hroom⟩
    · rw [Lib.splitB_miss sep 0 (k + 1) s hix]
      simp [sz1]
    · rw [Lib.splitB_hit sep 0 k s i hix]
      have ih := split_sz1 sep h1 k (s.extract (i + sep.size) s.size)
      have e1 : (s.extract 0 (i + 0)).size ≤ i := by rw [ByteArray.size_extract]; omega
      have e2 : (s.extract (i + sep.size) s.size).size = s.size - (i + sep.size) := by rw [ByteArray.size_extract]; omega
      simp only [sz1]
      omega
theorem jt_sz1 (l : List ByteArray) (k : Nat) : k ≤ l.length → (jt l k).length ≤ sz1 (l.take k) := by
  induction k with
  | zero => intro _; exact Nat.zero_le _
  | succ k ih =>
    intro h
    have h1 := ih (by omega)
    have hk : k < l.length := by omega
    have e : l.take (k + 1) = l.take k ++ [l[k]] := by rw [List.take_add_one, List.getElem?_eq_getElem hk]; rfl
    have e2 : l.getD k ByteArray.empty = l[k] := by simp [List.getD, hk]
    have e3 : ∀ (c : Prop) [Decidable c], (if c then [(32 : UInt8)] else []).length ≤ 1 := by intro c _; split <;> simp
    rw [e, sz1_append]
    show (jt l k ++ (_ ++ _)).length ≤ _
    rw [List.length_append, List.length_append, e2]
    have h4 := Lib.size_eq l[k]
    have h5 := e3 (0 < k ∧ ¬ (l[k]).toList = [10] ∧ ¬ (l.getD (k - 1) ByteArray.empty).toList = [10])
    simp only [sz1]
    omega
end Go.Proofs.YtomamgapdeggjaaDoor.Pl
