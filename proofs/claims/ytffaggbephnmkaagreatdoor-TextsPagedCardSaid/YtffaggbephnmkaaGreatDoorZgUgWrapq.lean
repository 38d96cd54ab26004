/- Part of the proof that the law textsPaged is true for every input. No conditions. Laid by a program of this session over the kit's print and words; declarations that nothing names are left out. -/
import Derived.Test.YtffaggbephnmkaaGreatDoorZgUgToklist
import Derived.Lib.ValidLaws
import Derived.Lib.MapLaws
namespace Go.Proofs.YtffaggbephnmkaaGreatDoor.GBase
open Go.RowKit Go.Lib
set_option linter.unusedVariables false
def Qv (l : List UInt8) : Prop := ∀ j, j < l.length → (l.getD j 0).toNat / 64 = 2 → ∃ i, i < j ∧ j ≤ i + 3 ∧ 192 ≤ (l.getD i 0).toNat ∧ ∀ m, i < m → m ≤ j → (l.getD m 0).toNat / 64 = 2
theorem dec_step4 (l : List UInt8) (hne : l ≠ []) (h : ¬ ((decodeL l).1 = 65533 ∧ (decodeL l).2 = 1)) :
    1 ≤ (decodeL l).2 ∧ (decodeL l).2 ≤ l.length ∧ (decodeL l).2 ≤ 4 ∧ (l.getD 0 0).toNat / 64 ≠ 2 ∧ (1 < (decodeL l).2 → 192 ≤ (l.getD 0 0).toNat) ∧ ∀ j, 0 < j → j < (decodeL l).2 → (l.getD j 0).toNat / 64 = 2 := by
  have h2 := decodeL_width l
  have h3 := decodeL_le l hne
  refine ⟨h2, h3, ?_⟩
  clear h2 h3
  rw [decodeL_N] at h ⊢
  rcases decodeN_shape l.length (l.getD 0 0).toNat (l.getD 1 0).toNat (l.getD 2 0).toNat (l.getD 3 0).toNat with ⟨c, e⟩ | ⟨c1, c2, c3, c4, e⟩ | ⟨c1, c2, c3, c4, c5, c6, e⟩ | ⟨c1, c2, c3, c4, c5, c6, c7, e⟩ | e
  · rw [e]
    exact ⟨by simp only []; omega, by omega, fun h => by simp only [] at h; omega, fun j h1 h2 => by simp only [] at h2; omega⟩
  · rw [e]
    refine ⟨by simp only []; omega, by omega, fun _ => by omega, fun j h1 h2 => ?_⟩
    simp only [] at h2
    obtain rfl : j = 1 := by omega
    exact c3
  · rw [e]
    refine ⟨by simp only []; omega, by omega, fun _ => by omega, fun j h1 h2 => ?_⟩
    simp only [] at h2
    obtain rfl | rfl : j = 1 ∨ j = 2 := by omega
    · exact c3
    · exact c4
  · rw [e]
    refine ⟨by simp only []; omega, by omega, fun _ => by omega, fun j h1 h2 => ?_⟩
    simp only [] at h2
    obtain rfl | rfl | rfl : j = 1 ∨ j = 2 ∨ j = 3 := by omega
    · exact c3
    · exact c4
    · exact c5
  · rw [e] at h
    exact absurd ⟨rfl, rfl⟩ h
theorem valid_Q : ∀ (n : Nat) (l : List UInt8), l.length ≤ n → validD l = true → Qv l
  | 0, l, hn, _ => fun j hj => by omega
  | n + 1, l, hn, hv => by
    intro j hj hc
    have hne : l ≠ [] := fun e => by rw [e] at hj; simp at hj
    rw [validD_step l hne] at hv
    by_cases hbad : (decodeL l).1 = 65533 ∧ (decodeL l).2 = 1
    · rw [if_pos hbad] at hv
      exact absurd hv (by decide)
    · rw [if_neg hbad] at hv
      obtain ⟨h1, h2, h4, h3, h5, h6⟩ := dec_step4 l hne hbad
      by_cases hw : j < (decodeL l).2
      · by_cases h0 : j = 0
        · subst h0
          exact absurd hc h3
        · exact ⟨0, by omega, by omega, h5 (by omega), fun m hm hmj => h6 m hm (by omega)⟩
      · have g : ∀ k, (l.drop (decodeL l).2).getD k 0 = l.getD ((decodeL l).2 + k) 0 := fun k => by simp [List.getD, List.getElem?_drop]
        have ih := valid_Q n (l.drop (decodeL l).2) (by rw [List.length_drop]; omega) hv (j - (decodeL l).2) (by rw [List.length_drop]; omega)
        rw [g, show (decodeL l).2 + (j - (decodeL l).2) = j by omega] at ih
        obtain ⟨i, i1, i2, i3, i4⟩ := ih hc
        rw [g] at i3
        refine ⟨(decodeL l).2 + i, by omega, by omega, i3, fun m hm hmj => ?_⟩
        have := i4 (m - (decodeL l).2) (by omega) (by omega)
        rwa [g, show (decodeL l).2 + (m - (decodeL l).2) = m by omega] at this
theorem Qv.piece {A x B : List UInt8} (h : Qv (A ++ x ++ B)) (hA : A = [] ∨ ∃ A', A = A' ++ [10]) : Qv x := by
  intro j hj hc
  have g : ∀ k, k < x.length → (A ++ x ++ B).getD (A.length + k) 0 = x.getD k 0 := fun k hk => by
    simp only [List.getD_eq_getElem?_getD]
    rw [List.append_assoc, List.getElem?_append_right (by omega), Nat.add_sub_cancel_left, List.getElem?_append_left hk]
  obtain ⟨i, i1, i2, i3, i4⟩ := h (A.length + j) (by simp only [List.length_append]; omega) (by rw [g j hj]; exact hc)
  have hi : A.length ≤ i := by
    rcases Nat.lt_or_ge i A.length with hlt | hge
    · exfalso
      rcases hA with rfl | ⟨A', rfl⟩
      · simp at hlt
      · have e10 : ((A' ++ [10]) ++ x ++ B).getD A'.length 0 = 10 := by
          simp only [List.getD_eq_getElem?_getD]
          rw [List.append_assoc, List.append_assoc, List.getElem?_append_right (Nat.le_refl _)]
          simp
        rw [List.length_append, List.length_singleton] at hlt i4 i1
        by_cases e : i = A'.length
        · rw [e, e10] at i3
          exact absurd i3 (by decide)
        · have := i4 A'.length (by omega) (by omega)
          rw [e10] at this
          exact absurd this (by decide)
    · exact hge
  refine ⟨i - A.length, by omega, by omega, ?_, fun m hm hmj => ?_⟩
  · rw [← g (i - A.length) (by omega), show A.length + (i - A.length) = i by omega]
    exact i3
  · rw [← g m (by omega)]
    exact i4 _ (by omega) (by omega)
theorem Qv.drop {l : List UInt8} (h : Qv l) (k : Nat) (hk : (l.getD k 0).toNat / 64 ≠ 2) : Qv (l.drop k) := by
  have g : ∀ m, (l.drop k).getD m 0 = l.getD (k + m) 0 := fun m => by simp [List.getD, List.getElem?_drop]
  intro j hj hc
  rw [List.length_drop] at hj
  rw [g] at hc
  obtain ⟨i, i1, i2, i3, i4⟩ := h (k + j) (by omega) hc
  have hi : k ≤ i := by
    rcases Nat.lt_or_ge i k with hlt | hge
    · exact absurd (i4 k hlt (by omega)) hk
    · exact hge
  refine ⟨i - k, by omega, by omega, by rw [g, show k + (i - k) = i by omega]; exact i3, fun m hm hmj => ?_⟩
  rw [g]
  exact i4 _ (by omega) (by omega)
theorem Qv.drop1 {l : List UInt8} (h : Qv l) (k : Nat) (hk : (l.getD k 0).toNat < 128) : Qv (l.drop (k + 1)) := by
  have g : ∀ m, (l.drop (k + 1)).getD m 0 = l.getD (k + 1 + m) 0 := fun m => by simp [List.getD, List.getElem?_drop]
  intro j hj hc
  rw [List.length_drop] at hj
  rw [g] at hc
  obtain ⟨i, i1, i2, i3, i4⟩ := h (k + 1 + j) (by omega) hc
  have hi : k + 1 ≤ i := by
    rcases Nat.lt_or_ge i k with hlt | hge
    · have := i4 k hlt (by omega)
      omega
    · rcases Nat.lt_or_ge k i with h2 | h2
      · exact h2
      · obtain rfl : i = k := by omega
        omega
  refine ⟨i - (k + 1), by omega, by omega, by rw [g, show k + 1 + (i - (k + 1)) = i by omega]; exact i3, fun m hm hmj => ?_⟩
  rw [g]
  exact i4 _ (by omega) (by omega)
theorem spl_head (c : UInt8) : ∀ l : List UInt8, ∃ B, l = (spl c l).headD [] ++ B
  | [] => ⟨[], rfl⟩
  | b :: r => by
    unfold spl
    split
    · exact ⟨b :: r, rfl⟩
    · obtain ⟨B, hB⟩ := spl_head c r
      refine ⟨B, ?_⟩
      show b :: r = b :: ((spl c r).headD [] ++ B)
      rw [← hB]
theorem spl_tail (c : UInt8) : ∀ (l x : List UInt8), x ∈ (spl c l).tail → ∃ A B, l = A ++ [c] ++ x ++ B
  | [], x, h => by simp [spl] at h
  | b :: r, x, h => by
    unfold spl at h
    split at h
    · rename_i e
      subst e
      rw [List.tail_cons, spl_ne] at h
      rcases List.mem_cons.1 h with rfl | h
      · obtain ⟨B, hB⟩ := spl_head b r
        exact ⟨[], B, by show b :: r = b :: ((spl b r).headD [] ++ B); rw [← hB]⟩
      · obtain ⟨A, B, hB⟩ := spl_tail b r x h
        exact ⟨b :: A, B, by rw [hB]; rfl⟩
    · rw [List.tail_cons] at h
      obtain ⟨A, B, hB⟩ := spl_tail c r x h
      exact ⟨b :: A, B, by rw [hB]; rfl⟩
theorem spl_Q {l : List UInt8} (h : Qv l) : ∀ x ∈ spl 10 l, Qv x := by
  intro x hx
  rw [spl_ne] at hx
  rcases List.mem_cons.1 hx with rfl | hx
  · obtain ⟨B, hB⟩ := spl_head 10 l
    exact Qv.piece (A := []) (B := B) (by rw [List.nil_append, ← hB]; exact h) (.inl rfl)
  · obtain ⟨A, B, hB⟩ := spl_tail 10 l x hx
    exact Qv.piece (A := A ++ [10]) (B := B) (by rw [← hB]; exact h) (.inr ⟨A, rfl⟩)
theorem spl_snoc (c : UInt8) : ∀ l : List UInt8, spl c (l ++ [c]) = spl c l ++ [[]]
  | [] => by simp [spl]
  | b :: r => by
    have ih := spl_snoc c r
    rw [List.cons_append]
    unfold spl
    split
    · rw [ih]; rfl
    · rw [ih]
      have hne := spl_ne c r
      rw [hne]
      rfl
end Go.Proofs.YtffaggbephnmkaaGreatDoor.GBase
