/- Part of the proof that the law patchesLead is true for every input. No conditions. Laid by a program of this session over the kit's print and words; declarations that nothing names are left out. -/
import Derived.Test.YtomamgapdeggjaaDoorZlUlWords
import Derived.Test.YtomamgapdeggjaaDoorZlPlx8
namespace Go.Proofs.YtomamgapdeggjaaDoor.Pl
open Go.RowKit Go.Proofs.YtomamgapdeggjaaDoor.GBase Go.Proofs.YtomamgapdeggjaaDoorW.PrintWords Go.Proofs.YtomamgapdeggjaaDoorW.PrintLast Go.Proofs.YtomamgapdeggjaaDoorW.PrintMore
set_option linter.unusedVariables false
set_option linter.unusedSimpArgs false
theorem lowA_size (s : ByteArray) : (lowA s).size = s.size := by
  show (s.data.map lowB).size = s.data.size
  exact Array.size_map
theorem wordsOf_size (s : ByteArray) : ∀ w ∈ wordsOf s, w.size ≤ s.size := by
  intro w hw
  obtain ⟨p, _, rfl⟩ := List.mem_map.1 hw
  unfold wd
  rw [lowA_size]
  exact ex_size s _ _
theorem joinTail_le (B : Nat) (sep : List UInt8) : ∀ l : List (List UInt8), (∀ x ∈ l, x.length ≤ B) → (Lib.joinTail sep l).length ≤ l.length * (B + sep.length)
  | [], _ => by simp [Lib.joinTail]
  | x :: r, h => by
    have h1 := joinTail_le B sep r (fun y hy => h y (List.mem_cons_of_mem _ hy))
    have h2 := h x List.mem_cons_self
    unfold Lib.joinTail at h1 ⊢
    simp only [List.map_cons, List.flatten_cons, List.length_append, List.length_cons]
    rw [Nat.succ_mul]
    omega
theorem join_le (B : Nat) (sep : List UInt8) (l : List (List UInt8)) (h : ∀ x ∈ l, x.length ≤ B) : (Lib.join l sep).length ≤ l.length * (B + sep.length) := by
  cases l with
  | nil => simp [Lib.join_nil]
  | cons x r =>
    rw [Lib.join_cons]
    have h1 := joinTail_le B sep r (fun y hy => h y (List.mem_cons_of_mem _ hy))
    have h2 := h x List.mem_cons_self
    simp only [List.length_append, List.length_cons]
    rw [Nat.succ_mul]
    omega
theorem joinS_le (B : Nat) (l : List ByteArray) (sep : ByteArray) (h : ∀ x ∈ l, x.size ≤ B) : (joinS l sep).size ≤ l.length * (B + sep.size) := by
  have := join_le B sep.data.toList (toL l) (fun x hx => by
    obtain ⟨y, hy, rfl⟩ := List.mem_map.1 hx
    have e : y.data.toList.length = y.size := Array.length_toList
    rw [e]
    exact h y hy)
  rw [toL_length] at this
  show ((Lib.join (toL l) sep.data.toList).toArray).size ≤ _
  rw [List.size_toArray]
  have e : sep.data.toList.length = sep.size := Array.length_toList
  rw [e] at this
  exact this
def gram (w : List ByteArray) (m i : Nat) : ByteArray := joinS ((w.take (i + m)).drop i) (⟨#[32]⟩ : ByteArray)
def grams (w : List ByteArray) (m : Nat) : List ByteArray := (List.range (w.length - m + 1)).map (gram w m)
def shinglesOf (s : ByteArray) (k : Nat) : List ByteArray := if (wordsOf s).length = 0 then [] else compactS (sortS (grams (wordsOf s) (min k (wordsOf s).length)))
theorem gram_join (s : ByteArray) (hs : s.size ≤ 1048576) (m i : Nat) (hm : m ≤ s.size) : strings_Join.f (((wordsOf s).take (i + m)).drop i) (⟨#[32]⟩ : ByteArray) = some (gram (wordsOf s) m i) := by
  have hl : (((wordsOf s).take (i + m)).drop i).length ≤ m := by simp; omega
  have hj := joinS_le s.size (((wordsOf s).take (i + m)).drop i) (⟨#[32]⟩ : ByteArray) (fun x hx => wordsOf_size s x (List.mem_of_mem_take (List.mem_of_mem_drop hx)))
  have h1 : (⟨#[32]⟩ : ByteArray).size = 1 := rfl
  rw [h1] at hj
  have h2 : (((wordsOf s).take (i + m)).drop i).length * (s.size + 1) ≤ 1048576 * 1048577 := Nat.mul_le_mul (by omega) (by omega)
  unfold strings_Join.f
  rw [if_pos ⟨by omega, by omega⟩]
  rfl
theorem mn_is (a b : Nat) : mn (a : Int) (b : Int) = ((min a b : Nat) : Int) := by unfold mn; split <;> omega
theorem range_snoc (f : Nat → ByteArray) (i : Nat) : (List.range (i + 1)).map f = (List.range i).map f ++ [f i] := by simp [List.range_succ]
theorem near_gr (s : ByteArray) (hs : s.size ≤ 1048576) (m : Nat) (hm : m ≤ (wordsOf s).length) (d : Nat) : ∀ i : Nat, (wordsOf s).length - m + 1 - i ≤ d → i ≤ (wordsOf s).length - m + 1 →
    Ev (fun k => near_shingles.l0 k (m : Int) (wordsOf s) ((List.range i).map (gram (wordsOf s) m)) (((wordsOf s).length - m + 1 : Nat) : Int) (i : Int)) (compactS (sortS (grams (wordsOf s) m))) := by
  have hc := wordsOf_count s
  induction d with
  | zero =>
    intro i hd hi
    obtain rfl : i = (wordsOf s).length - m + 1 := by omega
    refine Ev.step (fun _ => near_shingles.l0.eq_2 ..) (ev_neg (by omega) ?_)
    refine ev_bindc (a := sortS (grams (wordsOf s) m)) ?_ (ev_bindc (a := compactS (sortS (grams (wordsOf s) m))) rfl (ev_val rfl))
    unfold slices_Sort_string_string.f
    rw [if_pos (by simp; omega)]
    rfl
  | succ d ih =>
    intro i hd hi
    by_cases hlt : i < (wordsOf s).length - m + 1
    · have hw1 : wrap64 ((i : Int) + 1) = ((i + 1 : Nat) : Int) := by rw [wr64 (by omega) (by omega)]; omega
      have hw2 : wrap64 ((i : Int) + (m : Int)) = ((i + m : Nat) : Int) := by rw [wr64 (by omega) (by omega)]; omega
      have hj := gram_join s hs m i (by omega)
      have hn : (((i + m : Nat) : Int)).toNat = i + m := by omega
      have hn2 : ((i : Int)).toNat = i := by omega
      refine Ev.step (fun _ => near_shingles.l0.eq_2 ..) ?_
      rw [hw1, hw2, hn, hn2]
      refine ev_pos (by omega) (ev_pos (by omega) (ev_pos (by omega) (ev_pos (by omega) (ev_bindc hj (ev_pos (by simp; omega) ?_)))))
      rw [← range_snoc]
      exact ih (i + 1) (by omega) (by omega)
    · obtain rfl : i = (wordsOf s).length - m + 1 := by omega
      exact ih _ (by omega) (by omega)
theorem near_shingles_ev (s : ByteArray) (hs : s.size ≤ 1048576) (n : Nat) : Ev (fun k => near_shingles.f k s (n : Int)) (shinglesOf s n) := by
  have hc := wordsOf_count s
  unfold near_shingles.f shinglesOf
  refine Ev.bind (near_Words_ev s (by omega)) ?_
  by_cases hz : (wordsOf s).length = 0
  · rw [if_pos hz]
    exact ev_pos (by omega) (ev_val rfl)
  · rw [if_neg hz]
    have e1 : wrap64 (((wordsOf s).length : Int) - mn (n : Int) ((wordsOf s).length : Int)) = (((wordsOf s).length - min n (wordsOf s).length : Nat) : Int) := by rw [mn_is, wr64 (by omega) (by omega)]; omega
    have e2 : wrap64 ((((wordsOf s).length - min n (wordsOf s).length : Nat) : Int) + 1) = (((wordsOf s).length - min n (wordsOf s).length + 1 : Nat) : Int) := by rw [wr64 (by omega) (by omega)]; omega
    refine ev_neg (by omega) ?_
    rw [e1, e2, mn_is]
    exact near_gr s hs (min n (wordsOf s).length) (by omega) _ 0 (Nat.le_refl _) (by omega)
end Go.Proofs.YtomamgapdeggjaaDoor.Pl
