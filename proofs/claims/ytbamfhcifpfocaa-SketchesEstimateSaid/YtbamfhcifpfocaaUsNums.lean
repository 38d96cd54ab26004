/- Fractions, searches and sketches by hand: near's and the reference's are one function. -/
import Derived.Test.YtbamfhcifpfocaaUsSketch
import Derived.Test.YtbamfhcifpfocaaUsStream
import Derived.Test.YtbamfhcifpfocaaPsx7
import Derived.Test.YtbamfhcifpfocaaPsx9
import Derived.Test.YtbamfhcifpfocaaPsx5
namespace Go.Proofs.Ytbamfhcifpfocaa.Ps
open Go.RowKit Go.Proofs.Ytbamfhcifpfocaa.GBase Go.Proofs.YtbamfhcifpfocaaW.PrintWords Go.Proofs.YtbamfhcifpfocaaW.PrintLast Go.Proofs.YtbamfhcifpfocaaW.PrintMore
set_option linter.unusedVariables false
set_option linter.unusedSimpArgs false

/-! ### fractions -/
def fractionOf (n d : Nat) : Int × Int := if d = 0 then (1, 1) else (wrap64 (Int.tdiv n (Nat.gcd n d : Nat)), wrap64 (Int.tdiv d (Nat.gcd n d : Nat)))
theorem gcd_next (a b : Nat) : Nat.gcd b (a % b) = Nat.gcd a b := by
  rw [Nat.gcd_comm a b, Nat.gcd_rec b a, Nat.gcd_comm]
theorem near_gcd (n d : Nat) (x y : Int) (N : Nat) : ∀ a b : Nat, b ≤ N → Nat.gcd a b ≠ 0 → Ev (fun k => near_fraction.l0 k x y (a : Int) (b : Int)) (wrap64 (Int.tdiv x (Nat.gcd a b : Nat)), wrap64 (Int.tdiv y (Nat.gcd a b : Nat))) := by
  induction N with
  | zero =>
    intro a b hb hg
    obtain rfl : b = 0 := by omega
    rw [Nat.gcd_zero_right] at hg ⊢
    exact Ev.step (fun _ => near_fraction.l0.eq_2 ..) (ev_neg (by omega) (ev_neg (by omega) (ev_val rfl)))
  | succ N ih =>
    intro a b hb hg
    rcases Nat.eq_zero_or_pos b with h0 | h0
    · subst h0
      rw [Nat.gcd_zero_right] at hg ⊢
      exact Ev.step (fun _ => near_fraction.l0.eq_2 ..) (ev_neg (by omega) (ev_neg (by omega) (ev_val rfl)))
    · have hm := Nat.mod_lt a h0
      have e : Int.tmod (a : Int) (b : Int) = ((a % b : Nat) : Int) := by rw [Int.tmod_eq_emod_of_nonneg (by omega)]; rfl
      refine Ev.step (fun _ => near_fraction.l0.eq_2 ..) (ev_pos (by omega) (ev_neg (by omega) ?_))
      rw [e, ← gcd_next a b]
      exact ih b (a % b) (by omega) (by rw [gcd_next]; exact hg)
theorem near_fraction_ev (n d : Nat) : Ev (fun k => near_fraction.f k (n : Int) (d : Int)) (fractionOf n d) := by
  unfold near_fraction.f fractionOf
  by_cases h : d = 0
  · subst h
    exact ev_pos rfl (ev_val rfl)
  · rw [if_neg h]
    exact ev_neg (by omega) (near_gcd n d n d d n d (Nat.le_refl _) (fun e => h (Nat.eq_zero_of_gcd_eq_zero_right e)))
theorem ref_gcd (n d : Nat) (x y : Int) (N : Nat) : ∀ a b : Nat, b ≤ N → Nat.gcd a b ≠ 0 → Ev (fun k => chaseref1_part.l0 k x y (a : Int) (b : Int)) (wrap64 (Int.tdiv x (Nat.gcd a b : Nat)), wrap64 (Int.tdiv y (Nat.gcd a b : Nat))) := by
  induction N with
  | zero =>
    intro a b hb hg
    obtain rfl : b = 0 := by omega
    rw [Nat.gcd_zero_right] at hg ⊢
    exact Ev.step (fun _ => chaseref1_part.l0.eq_2 ..) (ev_pos (by omega) (ev_neg (by omega) (ev_val rfl)))
  | succ N ih =>
    intro a b hb hg
    rcases Nat.eq_zero_or_pos b with h0 | h0
    · subst h0
      rw [Nat.gcd_zero_right] at hg ⊢
      exact Ev.step (fun _ => chaseref1_part.l0.eq_2 ..) (ev_pos (by omega) (ev_neg (by omega) (ev_val rfl)))
    · have hm := Nat.mod_lt a h0
      have e : Int.tmod (a : Int) (b : Int) = ((a % b : Nat) : Int) := by rw [Int.tmod_eq_emod_of_nonneg (by omega)]; rfl
      refine Ev.step (fun _ => chaseref1_part.l0.eq_2 ..) (ev_neg (by omega) ?_)
      rw [e, ← gcd_next a b]
      exact ih b (a % b) (by omega) (by rw [gcd_next]; exact hg)
theorem ref_part_ev (n d : Nat) : Ev (fun k => chaseref1_part.f k (n : Int) (d : Int)) (fractionOf n d) := by
  unfold chaseref1_part.f fractionOf
  by_cases h : d = 0
  · subst h
    exact ev_pos rfl (ev_val rfl)
  · rw [if_neg h]
    exact ev_neg (by omega) (ref_gcd n d n d d n d (Nat.le_refl _) (fun e => h (Nat.eq_zero_of_gcd_eq_zero_right e)))

/-! ### rising lists and searches -/
theorem rd_nat (l : List Int) (j : Nat) (hj : j < l.length) : rd l (j : Int) = l[j] := by simp [rd, List.getD, hj]
def Rising (l : List Int) : Prop := ∀ j (h : j + 1 < l.length), l[j] < l[j + 1]
theorem Rising.lt {l : List Int} (h : Rising l) (i d : Nat) : ∀ hj : i + d + 1 < l.length, l[i] < l[i + d + 1] := by
  induction d with
  | zero => intro hj; exact h i hj
  | succ d ih => intro hj; have h1 := ih (by omega); have h2 := h (i + d + 1) hj; exact Int.lt_trans h1 h2
theorem Rising.lt' {l : List Int} (h : Rising l) {i j : Nat} (hij : i < j) (hj : j < l.length) : l[i] < l[j] := by
  obtain ⟨d, rfl⟩ : ∃ d, j = i + d + 1 := ⟨j - i - 1, by omega⟩
  exact h.lt i d hj
theorem Less_int (a b : Int) : cmp_Less_int.f a b = some (decide (a < b)) := by
  unfold cmp_Less_int.f cmp_isNaN_int.f
  simp
theorem bs_loop (l : List Int) (x : Int) (hl : Rising l) (hn : l.length ≤ 1048577) (d : Nat) : ∀ i j : Nat, j - i ≤ d → i ≤ j → j ≤ l.length → (∀ q (h : q < l.length), q < i → l[q] < x) → (∀ q (h : q < l.length), j ≤ q → x ≤ l[q]) →
    ∃ p, Ev (fun k => slices_BinarySearch_int_int.l0 k l x (l.length : Int) (i : Int) (j : Int)) (p, decide (x ∈ l)) := by
  have fin : ∀ i : Nat, i ≤ l.length → (∀ q (h : q < l.length), q < i → l[q] < x) → (∀ q (h : q < l.length), i ≤ q → x ≤ l[q]) → ∃ p, Ev (fun k => slices_BinarySearch_int_int.l0 k l x (l.length : Int) (i : Int) (i : Int)) (p, decide (x ∈ l)) := by
    intro i hi hlo hhi
    by_cases hlt : i < l.length
    · by_cases he : l[i] = x
      · refine ⟨(i : Int), Ev.step (fun _ => slices_BinarySearch_int_int.l0.eq_2 ..) (ev_neg (by omega) (ev_pos (by omega) (ev_pos (by omega) (ev_pos (by omega) (ev_pos (by rw [rd_nat l i hlt]; exact he) (ev_val ?_))))))⟩
        have : x ∈ l := he ▸ List.getElem_mem hlt
        simp [this]
      · refine ⟨(i : Int), Ev.step (fun _ => slices_BinarySearch_int_int.l0.eq_2 ..) (ev_neg (by omega) (ev_pos (by omega) (ev_pos (by omega) (ev_pos (by omega) (ev_neg (by rw [rd_nat l i hlt]; exact he) (ev_bindc (a := false) (by simp [slices_isNaN_int.f]) (ev_neg (by simp) (ev_val ?_))))))))⟩
        have : x ∉ l := by
          intro hm
          obtain ⟨q, hq, rfl⟩ := List.mem_iff_getElem.1 hm
          rcases Nat.lt_trichotomy q i with h1 | h1 | h1
          · have := hlo q hq h1; omega
          · subst h1; exact he rfl
          · have h2 := hhi i hlt (Nat.le_refl _)
            have h3 := hl.lt' h1 hq
            omega
        simp [this]
    · refine ⟨(i : Int), Ev.step (fun _ => slices_BinarySearch_int_int.l0.eq_2 ..) (ev_neg (by omega) (ev_neg (by omega) (ev_val ?_)))⟩
      have : x ∉ l := by
        intro hm
        obtain ⟨q, hq, rfl⟩ := List.mem_iff_getElem.1 hm
        have := hlo q hq (by omega)
        omega
      simp [this]
  induction d with
  | zero =>
    intro i j hd hij hj hlo hhi
    obtain rfl : i = j := by omega
    exact fin i hj hlo hhi
  | succ d ih =>
    intro i j hd hij hj hlo hhi
    by_cases hlt : i < j
    · have hm : wrap64 ((IntKind.u64.wrap (wrap64 ((i : Int) + (j : Int)))) / 2) = (((i + j) / 2 : Nat) : Int) := by
        rw [wr64 (x := (i : Int) + (j : Int)) (by omega) (by omega), u64_id (by omega) (by omega), wr64 (by omega) (by omega)]
        omega
      have hh : (i + j) / 2 < l.length := by omega
      have hw : wrap64 ((((i + j) / 2 : Nat) : Int) + 1) = (((i + j) / 2 + 1 : Nat) : Int) := by rw [wr64 (by omega) (by omega)]; omega
      by_cases hc : l[(i + j) / 2] < x
      · obtain ⟨p, hp⟩ := ih ((i + j) / 2 + 1) j (by omega) (by omega) hj (fun q hq h1 => by
          by_cases h2 : q = (i + j) / 2
          · subst h2; exact hc
          · exact Int.lt_trans (hl.lt' (by omega) hh) hc) hhi
        refine ⟨p, Ev.step (fun _ => slices_BinarySearch_int_int.l0.eq_2 ..) ?_⟩
        rw [hm, hw, rd_nat l _ hh]
        exact ev_pos (by omega) (ev_pos (by omega) (ev_pos (by omega) (ev_bindc (Less_int _ _) (ev_pos (by simp [hc]) hp))))
      · obtain ⟨p, hp⟩ := ih i ((i + j) / 2) (by omega) (by omega) (by omega) hlo (fun q hq h1 => by
          by_cases h2 : q = (i + j) / 2
          · subst h2; omega
          · have := hl.lt' (show (i + j) / 2 < q by omega) hq
            omega)
        refine ⟨p, Ev.step (fun _ => slices_BinarySearch_int_int.l0.eq_2 ..) ?_⟩
        rw [hm, hw, rd_nat l _ hh]
        exact ev_pos (by omega) (ev_pos (by omega) (ev_pos (by omega) (ev_bindc (Less_int _ _) (ev_neg (by simp [hc]) hp))))
    · obtain rfl : i = j := by omega
      exact fin i hj hlo hhi
theorem bs_ev (l : List Int) (x : Int) (hl : Rising l) (hn : l.length ≤ 1048577) : ∃ p, Ev (fun k => slices_BinarySearch_int_int.f k l x) (p, decide (x ∈ l)) :=
  bs_loop l x hl hn _ 0 l.length (Nat.le_refl _) (by omega) (Nat.le_refl _) (fun _ _ h => by omega) (fun _ h1 h => by omega)
theorem idx_loop (l : List Int) (x : Int) (hn : l.length ≤ 1048577) (d : Nat) : ∀ j : Nat, l.length - j ≤ d → j ≤ l.length → ∃ p, Ev (fun k => slices_Index_int_int.l0 k l x (l.length : Int) (j : Int)) p ∧ (0 ≤ p ↔ x ∈ l.drop j) := by
  induction d with
  | zero =>
    intro j hd hj
    obtain rfl : j = l.length := by omega
    exact ⟨-1, Ev.step (fun _ => slices_Index_int_int.l0.eq_2 ..) (ev_neg (by omega) (ev_val rfl)), by simp⟩
  | succ d ih =>
    intro j hd hj
    by_cases hlt : j < l.length
    · have hw : wrap64 ((j : Int) + 1) = ((j + 1 : Nat) : Int) := by rw [wr64 (by omega) (by omega)]; omega
      by_cases he : x = l[j]
      · refine ⟨(j : Int), Ev.step (fun _ => slices_Index_int_int.l0.eq_2 ..) (ev_pos (by omega) (ev_pos (by omega) (ev_pos (by omega) (ev_pos (by rw [rd_nat l j hlt]; exact he) (ev_val rfl))))), ?_⟩
        rw [List.drop_eq_getElem_cons hlt]
        exact ⟨fun _ => by rw [he]; exact List.mem_cons_self, fun _ => by omega⟩
      · obtain ⟨p, hp, h1⟩ := ih (j + 1) (by omega) (by omega)
        refine ⟨p, Ev.step (fun _ => slices_Index_int_int.l0.eq_2 ..) (ev_pos (by omega) (ev_pos (by omega) (ev_pos (by omega) (ev_neg (by rw [rd_nat l j hlt]; exact he) ?_)))), ?_⟩
        · rw [hw]; exact hp
        · rw [List.drop_eq_getElem_cons hlt, h1, List.mem_cons]
          exact ⟨.inr, fun h => h.resolve_left he⟩
    · obtain rfl : j = l.length := by omega
      exact ih _ (by omega) (by omega)
theorem contains_ev (l : List Int) (x : Int) (hn : l.length ≤ 1048577) : Ev (fun k => slices_Contains_int_int.f k l x) (decide (x ∈ l)) := by
  obtain ⟨p, hp, h⟩ := idx_loop l x hn _ 0 (Nat.le_refl _) (by omega)
  unfold slices_Contains_int_int.f
  refine Ev.bind (g := fun k => slices_Index_int_int.f k l x) hp (ev_val ?_)
  rw [List.drop_zero] at h
  simp only [ge_iff_le, h]

/-! ### two lists in one -/
theorem rd2_0 (a b : List Int) : rd_L3 [a, b] ((0 : Nat) : Int) = a := rfl
theorem rd2_1 (a b : List Int) : rd_L3 [a, b] ((1 : Nat) : Int) = b := rfl
theorem concat_ev (a b : List Int) (ha : a.length ≤ 1000000) (hb : b.length ≤ 1000000) : Ev (fun k => slices_Concat_int_int.f k [a, b]) (a ++ b) := by
  have w1 : wrap64 (0 + (a.length : Int)) = (a.length : Int) := by rw [wr64 (by omega) (by omega)]; omega
  have w2 : wrap64 ((a.length : Int) + (b.length : Int)) = ((a.length + b.length : Nat) : Int) := by rw [wr64 (by omega) (by omega)]; omega
  have o1 : wrap64 (((0 : Nat) : Int) + 1) = ((1 : Nat) : Int) := by rw [wr64 (by omega) (by omega)]; rfl
  have o2 : wrap64 (((1 : Nat) : Int) + 1) = ((2 : Nat) : Int) := by rw [wr64 (by omega) (by omega)]; rfl
  have l2 : (([a, b] : List (List Int)).length : Int) = ((2 : Nat) : Int) := rfl
  have t : Ev (fun k => slices_Concat_int_int.l1 k [] [a, b] ((2 : Nat) : Int) ((0 : Nat) : Int)) (a ++ b) := by
    refine Ev.step (fun _ => slices_Concat_int_int.l1.eq_2 ..) (ev_pos (by omega) (ev_pos (by omega) (ev_pos (by rw [l2]; omega) ?_)))
    rw [rd2_0, o1]
    refine ev_pos (by simp; omega) (Ev.step (fun _ => slices_Concat_int_int.l1.eq_2 ..) (ev_pos (by omega) (ev_pos (by omega) (ev_pos (by rw [l2]; omega) ?_))))
    rw [rd2_1, o2]
    refine ev_pos (by simp; omega) (Ev.step (fun _ => slices_Concat_int_int.l1.eq_2 ..) (ev_neg (by omega) (ev_val (by simp))))
  unfold slices_Concat_int_int.f
  rw [l2]
  refine Ev.step (fun _ => slices_Concat_int_int.l0.eq_2 _ _ _ _ ((0 : Nat) : Int) _) (ev_pos (by omega) (ev_pos (by omega) (ev_pos (by rw [l2]; omega) ?_)))
  rw [rd2_0, o1, w1]
  refine ev_neg (by omega) (Ev.step (fun _ => slices_Concat_int_int.l0.eq_2 ..) (ev_pos (by omega) (ev_pos (by omega) (ev_pos (by rw [l2]; omega) ?_))))
  rw [rd2_1, o2, w2]
  refine ev_neg (by omega) (Ev.step (fun _ => slices_Concat_int_int.l0.eq_2 ..) (ev_neg (by omega) (ev_bindc (a := []) ?_ ?_)))
  · unfold slices_Grow_int_int.f
    rw [if_pos ⟨by omega, by simp; omega⟩]
  · rw [l2]
    exact t

/-! ### sketches by hand -/
/-- The first error of a list from place j on. -/
def chk (l : List Int) (j : Nat) : Int := if h : j < l.length then (if l[j] < 0 then 1 else if h2 : 0 < j then (if l[j] ≤ l[j - 1] then 7 else chk l (j + 1)) else chk l (j + 1)) else 0
  termination_by l.length - j
theorem chk_rising (l : List Int) (d : Nat) : ∀ j, l.length - j ≤ d → chk l j = 0 → ∀ q (h : q + 1 < l.length), j ≤ q + 1 → l[q] < l[q + 1] := by
  induction d with
  | zero => intro j hd _ q h hq; omega
  | succ d ih =>
    intro j hd hc q h hq
    rw [chk, dif_pos (by omega)] at hc
    split at hc
    · omega
    · split at hc
      · split at hc
        · omega
        · by_cases e : j = q + 1
          · subst e
            rename_i h3
            simp only [Nat.add_sub_cancel] at h3
            omega
          · exact ih (j + 1) (by omega) hc q h (by omega)
      · exact ih (j + 1) (by omega) hc q h (by omega)
theorem chk_range (l : List Int) (d : Nat) : ∀ j, l.length - j ≤ d → chk l j = 0 ∨ chk l j = 1 ∨ chk l j = 7 := by
  induction d with
  | zero => intro j hd; rw [chk, dif_neg (by omega)]; exact .inl rfl
  | succ d ih =>
    intro j hd
    rw [chk]
    split
    · split
      · exact .inr (.inl rfl)
      · split
        · split
          · exact .inr (.inr rfl)
          · exact ih (j + 1) (by omega)
        · exact ih (j + 1) (by omega)
    · exact .inl rfl
theorem first2 (x y : Int) : Ev (fun k => base_First.f k [x, y]) (if x = 0 then y else x) := by
  refine ev_eq (First_ev [x, y] (by simp)) ?_
  by_cases h : x = 0
  · by_cases h2 : y = 0 <;> simp [firstOf, h, h2]
  · simp [firstOf, h]
theorem When_is (b : Bool) (e : Int) : base_When.f b e = some (if b = true then e else 0) := by
  unfold base_When.f
  cases b <;> rfl
theorem near_chk (a b l : List Int) (n i : Int) (xs : List (List Int)) (m : Int) (hl : l.length ≤ 1048577) (r : Int × Int × Int) (hr : chk l 0 = 0 → Ev (fun k => near_Estimate.l0 k a b n xs m (wrap64 (i + 1))) r) (d : Nat) : ∀ j : Nat, l.length - j ≤ d → j ≤ l.length → chk l j = chk l 0 →
    Ev (fun k => near_Estimate.l1 k a b n l xs m i l (l.length : Int) (j : Int)) (if chk l 0 = 0 then r else (0, 0, chk l 0)) := by
  induction d with
  | zero =>
    intro j hd hj he
    have h0 : chk l 0 = 0 := by rw [← he, chk, dif_neg (by omega)]
    rw [if_pos h0]
    exact Ev.step (fun _ => near_Estimate.l1.eq_2 ..) (ev_neg (by omega) (hr h0))
  | succ d ih =>
    intro j hd hj he
    by_cases hlt : j < l.length
    · have hw : wrap64 ((j : Int) + 1) = ((j + 1 : Nat) : Int) := by rw [wr64 (by omega) (by omega)]; omega
      have hc := chk.eq_1 l j
      rw [dif_pos hlt] at hc
      refine Ev.step (fun _ => near_Estimate.l1.eq_2 ..) (ev_pos (by omega) (ev_pos (by omega) (ev_pos (by omega) (ev_bindc (When_is _ _) ?_))))
      rw [rd_nat l j hlt, hw]
      by_cases hj0 : 0 < j
      · have hp : wrap64 (mx (j : Int) 1 - 1) = ((j - 1 : Nat) : Int) := by
          have : mx (j : Int) 1 = (j : Int) := by unfold mx; split <;> omega
          rw [this, wr64 (by omega) (by omega)]; omega
        refine ev_pos (by omega) ?_
        rw [hp, rd_nat l (j - 1) (by omega)]
        refine ev_pos (by omega) (ev_pos (by omega) (ev_bindc (When_is _ _) (Ev.bind (first2 _ _) ?_)))
        rw [dif_pos hj0] at hc
        by_cases h1 : l[j] < 0
        · rw [if_pos h1] at hc
          have h0 : chk l 0 = 1 := by rw [← he, hc]
          simp only [h1, h0, decide_true, if_true]
          exact ev_neg (by omega) (ev_val rfl)
        · rw [if_neg h1] at hc
          by_cases h2 : l[j] ≤ l[j - 1]
          · rw [if_pos h2] at hc
            have h0 : chk l 0 = 7 := by rw [← he, hc]
            simp only [h1, h2, h0, decide_true, decide_false, if_true]
            exact ev_neg (by simp) (ev_val rfl)
          · rw [if_neg h2] at hc
            simp only [h1, h2, decide_false]
            exact ev_pos (by simp) (ih (j + 1) (by omega) (by omega) (by rw [← hc, he]))
      · obtain rfl : j = 0 := by omega
        refine ev_neg (by omega) (ev_bindc (When_is _ _) (Ev.bind (first2 _ _) ?_))
        rw [dif_neg hj0] at hc
        by_cases h1 : l[0] < 0
        · rw [if_pos h1] at hc
          simp only [h1, hc, decide_true, if_true]
          exact ev_neg (by omega) (ev_val rfl)
        · rw [if_neg h1] at hc
          simp only [h1, decide_false]
          exact ev_pos (by simp) (ih 1 (by omega) (by omega) (by rw [← hc]))
    · obtain rfl : j = l.length := by omega
      exact ih _ (by omega) (by omega) he
theorem ref_chk (a b l : List Int) (n i : Int) (xs : List (List Int)) (m : Int) (hl : l.length ≤ 1048577) (r : Int × Int × Int) (hr : chk l 0 = 0 → Ev (fun k => chaseref1_EstimateOf.l0 k a b n xs m (wrap64 (i + 1))) r) (d : Nat) : ∀ j : Nat, l.length - j ≤ d → j ≤ l.length → chk l j = chk l 0 →
    Ev (fun k => chaseref1_EstimateOf.l1 k a b n l xs m i l (l.length : Int) (j : Int)) (if chk l 0 = 0 then r else (0, 0, chk l 0)) := by
  induction d with
  | zero =>
    intro j hd hj he
    have h0 : chk l 0 = 0 := by rw [← he, chk, dif_neg (by omega)]
    rw [if_pos h0]
    exact Ev.step (fun _ => chaseref1_EstimateOf.l1.eq_2 ..) (ev_neg (by omega) (hr h0))
  | succ d ih =>
    intro j hd hj he
    by_cases hlt : j < l.length
    · have hw : wrap64 ((j : Int) + 1) = ((j + 1 : Nat) : Int) := by rw [wr64 (by omega) (by omega)]; omega
      have hc := chk.eq_1 l j
      rw [dif_pos hlt] at hc
      refine Ev.step (fun _ => chaseref1_EstimateOf.l1.eq_2 ..) (ev_pos (by omega) (ev_pos (by omega) (ev_pos (by omega) ?_)))
      rw [rd_nat l j hlt, hw]
      by_cases h1 : l[j] < 0
      · rw [if_pos h1] at hc
        have h0 : chk l 0 = 1 := by rw [← he, hc]
        rw [h0]
        exact ev_pos h1 (ev_val rfl)
      · rw [if_neg h1] at hc
        refine ev_neg h1 ?_
        by_cases hj0 : 0 < j
        · have hp : wrap64 ((j : Int) - 1) = ((j - 1 : Nat) : Int) := by rw [wr64 (by omega) (by omega)]; omega
          refine ev_pos (by omega) ?_
          rw [hp, rd_nat l (j - 1) (by omega)]
          refine ev_pos (by omega) (ev_pos (by omega) ?_)
          rw [dif_pos hj0] at hc
          by_cases h2 : l[j] ≤ l[j - 1]
          · rw [if_pos h2] at hc
            have h0 : chk l 0 = 7 := by rw [← he, hc]
            rw [h0]
            exact ev_pos h2 (ev_val rfl)
          · rw [if_neg h2] at hc
            exact ev_neg h2 (ih (j + 1) (by omega) (by omega) (by rw [← hc, he]))
        · obtain rfl : j = 0 := by omega
          rw [dif_neg hj0] at hc
          exact ev_neg (by omega) (ih 1 (by omega) (by omega) (by rw [← hc]))
    · obtain rfl : j = l.length := by omega
      exact ih _ (by omega) (by omega) he
def allOf (a b : List Int) (n : Nat) : List Int := (Lib.compact (sortI (a ++ b))).take (min n (Lib.compact (sortI (a ++ b))).length)
def cnt (a b l : List Int) : Nat := (l.filter fun x => decide (x ∈ a) && decide (x ∈ b)).length
theorem cnt_le (a b l : List Int) : cnt a b l ≤ l.length := List.length_filter_le _ _
theorem cnt_snoc (a b l : List Int) (j : Nat) (h : j < l.length) : cnt a b (l.take (j + 1)) = cnt a b (l.take j) + if (decide (l[j] ∈ a) && decide (l[j] ∈ b)) = true then 1 else 0 := by
  unfold cnt
  rw [List.take_succ_eq_append_getElem h, List.filter_append, List.length_append]
  congr 1
  by_cases hc : (decide (l[j] ∈ a) && decide (l[j] ∈ b)) = true
  · rw [if_pos hc]; simp [List.filter_cons, hc]
  · rw [if_neg hc]; simp [List.filter_cons, hc]
theorem near_cnt (a b l : List Int) (ha : Rising a) (hb : Rising b) (la : a.length ≤ 1048577) (lb : b.length ≤ 1048577) (hl : l.length ≤ 1048577) (d : Nat) : ∀ j : Nat, l.length - j ≤ d → j ≤ l.length →
    Ev (fun k => near_Estimate.l2 k a b l (cnt a b (l.take j) : Int) l (l.length : Int) (j : Int)) ((fractionOf (cnt a b l) l.length).1, (fractionOf (cnt a b l) l.length).2, 0) := by
  induction d with
  | zero =>
    intro j hd hj
    obtain rfl : j = l.length := by omega
    rw [List.take_length]
    exact Ev.step (fun _ => near_Estimate.l2.eq_2 ..) (ev_neg (by omega) (Ev.bind (near_fraction_ev _ _) (ev_val rfl)))
  | succ d ih =>
    intro j hd hj
    by_cases hlt : j < l.length
    · have hw : wrap64 ((j : Int) + 1) = ((j + 1 : Nat) : Int) := by rw [wr64 (by omega) (by omega)]; omega
      have h1 := cnt_le a b (l.take j)
      have h2 : (l.take j).length = j := by simp; omega
      have hw2 : wrap64 ((cnt a b (l.take j) : Int) + 1) = ((cnt a b (l.take j) + 1 : Nat) : Int) := by rw [wr64 (by omega) (by omega)]; omega
      obtain ⟨p, hp⟩ := bs_ev a l[j] ha la
      obtain ⟨q, hq⟩ := bs_ev b l[j] hb lb
      have hn := ih (j + 1) (by omega) (by omega)
      rw [cnt_snoc a b l j hlt] at hn
      refine Ev.step (fun _ => near_Estimate.l2.eq_2 ..) (ev_pos (by omega) (ev_pos (by omega) (ev_pos (by omega) ?_)))
      rw [rd_nat l j hlt, hw, hw2]
      refine Ev.bind hp (Ev.bind hq ?_)
      by_cases m1 : l[j] ∈ a
      · refine ev_pos (by simp [m1]) ?_
        by_cases m2 : l[j] ∈ b
        · rw [if_pos (by simp [m1, m2])] at hn
          exact ev_pos (by simp [m2]) hn
        · rw [if_neg (by simp [m1, m2]), Nat.add_zero] at hn
          exact ev_neg (by simp [m2]) hn
      · rw [if_neg (by simp [m1]), Nat.add_zero] at hn
        exact ev_neg (by simp [m1]) hn
    · obtain rfl : j = l.length := by omega
      exact ih _ (by omega) (by omega)
theorem ref_cnt (a b l : List Int) (la : a.length ≤ 1048577) (lb : b.length ≤ 1048577) (hl : l.length ≤ 1048577) (d : Nat) : ∀ j : Nat, l.length - j ≤ d → j ≤ l.length →
    Ev (fun k => chaseref1_EstimateOf.l2 k a b l (cnt a b (l.take j) : Int) l (l.length : Int) (j : Int)) ((fractionOf (cnt a b l) l.length).1, (fractionOf (cnt a b l) l.length).2, 0) := by
  induction d with
  | zero =>
    intro j hd hj
    obtain rfl : j = l.length := by omega
    rw [List.take_length]
    exact Ev.step (fun _ => chaseref1_EstimateOf.l2.eq_2 ..) (ev_neg (by omega) (Ev.bind (ref_part_ev _ _) (ev_val rfl)))
  | succ d ih =>
    intro j hd hj
    by_cases hlt : j < l.length
    · have hw : wrap64 ((j : Int) + 1) = ((j + 1 : Nat) : Int) := by rw [wr64 (by omega) (by omega)]; omega
      have h1 := cnt_le a b (l.take j)
      have h2 : (l.take j).length = j := by simp; omega
      have hw2 : wrap64 ((cnt a b (l.take j) : Int) + 1) = ((cnt a b (l.take j) + 1 : Nat) : Int) := by rw [wr64 (by omega) (by omega)]; omega
      have hn := ih (j + 1) (by omega) (by omega)
      rw [cnt_snoc a b l j hlt] at hn
      refine Ev.step (fun _ => chaseref1_EstimateOf.l2.eq_2 ..) (ev_pos (by omega) (ev_pos (by omega) (ev_pos (by omega) ?_)))
      rw [rd_nat l j hlt, hw, hw2]
      refine Ev.bind (contains_ev a l[j] la) ?_
      by_cases m1 : l[j] ∈ a
      · refine ev_pos (by simp [m1]) (Ev.bind (contains_ev b l[j] lb) ?_)
        by_cases m2 : l[j] ∈ b
        · rw [if_pos (by simp [m1, m2])] at hn
          exact ev_pos (by simp [m2]) hn
        · rw [if_neg (by simp [m1, m2]), Nat.add_zero] at hn
          exact ev_neg (by simp [m2]) hn
      · rw [if_neg (by simp [m1]), Nat.add_zero] at hn
        exact ev_neg (by simp [m1]) hn
    · obtain rfl : j = l.length := by omega
      exact ih _ (by omega) (by omega)
/-- What Estimate answers. -/
def estOf (a b : List Int) (n : Int) : Int × Int × Int :=
  if n < 1 ∨ n > 200 then (0, 0, 1) else if (a.length : Int) > n then (0, 0, 2) else if chk a 0 = 0 then (if (b.length : Int) > n then (0, 0, 2) else if chk b 0 = 0 then ((fractionOf (cnt a b (allOf a b n.toNat)) (allOf a b n.toNat).length).1, (fractionOf (cnt a b (allOf a b n.toNat)) (allOf a b n.toNat).length).2, 0) else (0, 0, chk b 0)) else (0, 0, chk a 0)
theorem allOf_len (a b : List Int) (n : Nat) : (allOf a b n).length ≤ a.length + b.length := by
  have := compact_le (sortI (a ++ b))
  rw [sortI_length, List.length_append] at this
  unfold allOf
  rw [List.length_take]
  omega
theorem rising_of (l : List Int) (h : chk l 0 = 0) : Rising l := fun j hj => chk_rising l _ 0 (Nat.le_refl _) h j hj (by omega)
theorem near_tail (a b : List Int) (n : Nat) (hn : n ≤ 200) (ha : a.length ≤ n) (hb : b.length ≤ n) (ca : chk a 0 = 0) (cb : chk b 0 = 0) :
    Ev (fun k => near_Estimate.l0 k a b (n : Int) [a, b] ((2 : Nat) : Int) ((2 : Nat) : Int)) ((fractionOf (cnt a b (allOf a b n)) (allOf a b n).length).1, (fractionOf (cnt a b (allOf a b n)) (allOf a b n).length).2, 0) := by
  have hl := allOf_len a b n
  refine Ev.step (fun _ => near_Estimate.l0.eq_2 ..) (ev_neg (by omega) (Ev.bind (concat_ev a b (by omega) (by omega)) (ev_bindc (a := sortI (a ++ b)) ?_ (ev_bindc (a := Lib.compact (sortI (a ++ b))) rfl ?_))))
  · unfold slices_Sort_int_int.f
    rw [if_pos (by simp; omega)]
  · rw [mn_is]
    refine ev_pos (by omega) (ev_pos (by omega) (ev_bindc (a := allOf a b n) ?_ ?_))
    · rw [Int.toNat_natCast]; rfl
    · exact near_cnt a b (allOf a b n) (rising_of a ca) (rising_of b cb) (by omega) (by omega) (by omega) _ 0 (Nat.le_refl _) (by omega)
theorem ref_tail (a b : List Int) (n : Nat) (hn : n ≤ 200) (ha : a.length ≤ n) (hb : b.length ≤ n) (ca : chk a 0 = 0) (cb : chk b 0 = 0) :
    Ev (fun k => chaseref1_EstimateOf.l0 k a b (n : Int) [a, b] ((2 : Nat) : Int) ((2 : Nat) : Int)) ((fractionOf (cnt a b (allOf a b n)) (allOf a b n).length).1, (fractionOf (cnt a b (allOf a b n)) (allOf a b n).length).2, 0) := by
  have hl := allOf_len a b n
  refine Ev.step (fun _ => chaseref1_EstimateOf.l0.eq_2 ..) (ev_neg (by omega) (Ev.bind (concat_ev a b (by omega) (by omega)) (ev_bindc (a := sortI (a ++ b)) ?_ (ev_bindc (a := Lib.compact (sortI (a ++ b))) rfl ?_))))
  · unfold slices_Sort_int_int.f
    rw [if_pos (by simp; omega)]
  · rw [mn_is]
    refine ev_pos (by omega) (ev_pos (by omega) (ev_bindc (a := allOf a b n) ?_ ?_))
    · rw [Int.toNat_natCast]; rfl
    · exact ref_cnt a b (allOf a b n) (by omega) (by omega) (by omega) _ 0 (Nat.le_refl _) (by omega)
theorem near_Estimate_ev (a b : List Int) (n : Int) (ha : a.length ≤ 1048577) (hb : b.length ≤ 1048577) : Ev (fun k => near_Estimate.f k a b n) (estOf a b n) := by
  have l2 : (([a, b] : List (List Int)).length : Int) = ((2 : Nat) : Int) := rfl
  have o1 : wrap64 (((0 : Nat) : Int) + 1) = ((1 : Nat) : Int) := by rw [wr64 (by omega) (by omega)]; rfl
  have o2 : wrap64 (((1 : Nat) : Int) + 1) = ((2 : Nat) : Int) := by rw [wr64 (by omega) (by omega)]; rfl
  unfold near_Estimate.f estOf
  refine ev_bindc (sizeError_is n) ?_
  by_cases h1 : n < 1 ∨ n > 200
  · rw [if_pos h1, if_pos h1]
    exact ev_neg (by omega) (ev_val rfl)
  · rw [if_neg h1, if_neg h1]
    obtain ⟨m, rfl⟩ := Int.eq_ofNat_of_zero_le (show 0 ≤ n by omega)
    refine ev_pos rfl (ev_bindc rfl ?_)
    rw [l2, Int.toNat_natCast]
    refine Ev.step (fun _ => near_Estimate.l0.eq_2 _ _ _ _ _ ((0 : Nat) : Int) _) (ev_pos (by omega) (ev_pos (by omega) (ev_pos (by rw [l2]; omega) ?_)))
    rw [rd2_0]
    by_cases h2 : (a.length : Int) > (m : Int)
    · rw [if_pos h2]
      exact ev_pos h2 (ev_val rfl)
    · rw [if_neg h2]
      refine ev_neg h2 (near_chk a b a m ((0 : Nat) : Int) [a, b] ((2 : Nat) : Int) ha _ (fun ca => ?_) _ 0 (Nat.le_refl _) (by omega) rfl)
      rw [o1]
      refine Ev.step (fun _ => near_Estimate.l0.eq_2 ..) (ev_pos (by omega) (ev_pos (by omega) (ev_pos (by rw [l2]; omega) ?_)))
      rw [rd2_1]
      by_cases h3 : (b.length : Int) > (m : Int)
      · rw [if_pos h3]
        exact ev_pos h3 (ev_val rfl)
      · rw [if_neg h3]
        refine ev_neg h3 (near_chk a b b m ((1 : Nat) : Int) [a, b] ((2 : Nat) : Int) hb _ (fun cb => ?_) _ 0 (Nat.le_refl _) (by omega) rfl)
        rw [o2]
        exact near_tail a b m (by omega) (by omega) (by omega) ca cb
theorem ref_Estimate_ev (a b : List Int) (n : Int) (ha : a.length ≤ 1048577) (hb : b.length ≤ 1048577) : Ev (fun k => chaseref1_EstimateOf.f k a b n) (estOf a b n) := by
  have l2 : (([a, b] : List (List Int)).length : Int) = ((2 : Nat) : Int) := rfl
  have o1 : wrap64 (((0 : Nat) : Int) + 1) = ((1 : Nat) : Int) := by rw [wr64 (by omega) (by omega)]; rfl
  have o2 : wrap64 (((1 : Nat) : Int) + 1) = ((2 : Nat) : Int) := by rw [wr64 (by omega) (by omega)]; rfl
  have hj : Ev (fun q => chaseref1_EstimateOf.j0 q a b n true) (0, 0, 1) := Ev.step (fun _ => chaseref1_EstimateOf.j0.eq_2 ..) (ev_pos rfl (ev_val rfl))
  unfold chaseref1_EstimateOf.f estOf
  by_cases h1 : n < 1
  · rw [if_pos (.inl h1)]
    exact ev_pos h1 hj
  · refine ev_neg h1 ?_
    by_cases h1' : n > 200
    · rw [if_pos (.inr h1'), decide_eq_true h1']
      exact hj
    · rw [if_neg (by omega), decide_eq_false h1']
      obtain ⟨m, rfl⟩ := Int.eq_ofNat_of_zero_le (show 0 ≤ n by omega)
      refine Ev.step (fun _ => chaseref1_EstimateOf.j0.eq_2 ..) (ev_neg (by simp) (ev_bindc rfl ?_))
      rw [l2, Int.toNat_natCast]
      refine Ev.step (fun _ => chaseref1_EstimateOf.l0.eq_2 _ _ _ _ _ ((0 : Nat) : Int) _) (ev_pos (by omega) (ev_pos (by omega) (ev_pos (by rw [l2]; omega) ?_)))
      rw [rd2_0]
      by_cases h2 : (a.length : Int) > (m : Int)
      · rw [if_pos h2]
        exact ev_pos h2 (ev_val rfl)
      · rw [if_neg h2]
        refine ev_neg h2 (ref_chk a b a m ((0 : Nat) : Int) [a, b] ((2 : Nat) : Int) ha _ (fun ca => ?_) _ 0 (Nat.le_refl _) (by omega) rfl)
        rw [o1]
        refine Ev.step (fun _ => chaseref1_EstimateOf.l0.eq_2 ..) (ev_pos (by omega) (ev_pos (by omega) (ev_pos (by rw [l2]; omega) ?_)))
        rw [rd2_1]
        by_cases h3 : (b.length : Int) > (m : Int)
        · rw [if_pos h3]
          exact ev_pos h3 (ev_val rfl)
        · rw [if_neg h3]
          refine ev_neg h3 (ref_chk a b b m ((1 : Nat) : Int) [a, b] ((2 : Nat) : Int) hb _ (fun cb => ?_) _ 0 (Nat.le_refl _) (by omega) rfl)
          rw [o2]
          exact ref_tail a b m (by omega) (by omega) (by omega) ca cb

/-! ### numbers that are made -/
theorem Numbers_loop (l : List Int) (hl : Nums l) (n : Int) (hn : n ≤ 9) (d : Nat) : ∀ (i at_ : Int) (acc : List Int), 0 ≤ i → n - i ≤ d → d ≤ 9 → 0 ≤ at_ → at_ + d < 1099511627000 → acc.length + d ≤ 10 →
    ∃ (xs : List Int) (at' : Int), Ev (fun k => chasemake_Stream_Numbers.l0 k acc n i l at_) (xs, at') ∧ xs.length ≤ 12 ∧ at_ ≤ at' ∧ at' ≤ at_ + d + 2 := by
  have fin : ∀ (i at_ : Int) (acc : List Int), ¬ i < n → 0 ≤ at_ → at_ < 1099511627700 → acc.length ≤ 10 → ∃ (xs : List Int) (at' : Int), Ev (fun k => chasemake_Stream_Numbers.l0 k acc n i l at_) (xs, at') ∧ xs.length ≤ 12 ∧ at_ ≤ at' ∧ at' ≤ at_ + 2 := by
    intro i at_ acc hi h0 h1 ha
    have hc := compact_le (sortI acc)
    rw [sortI_length] at hc
    obtain ⟨b, hb⟩ := Flip_is l at_ 10 hl h0 (by omega) (by omega)
    have hs : slices_Sort_int_int.f acc = some (sortI acc) := by
      unfold slices_Sort_int_int.f
      rw [if_pos (by omega)]
    cases b with
    | false => exact ⟨_, _, Ev.step (fun _ => chasemake_Stream_Numbers.l0.eq_2 ..) (ev_neg hi (ev_bindc hs (ev_bindc rfl (ev_bindc hb (ev_neg (by simp) (ev_val rfl)))))), by omega, by omega, by omega⟩
    | true =>
      obtain ⟨x, _, hx⟩ := Pick_is l (at_ + 1) [(-1), 0, 99] hl (by omega) (by omega) (by simp) (by simp)
      exact ⟨_, _, Ev.step (fun _ => chasemake_Stream_Numbers.l0.eq_2 ..) (ev_neg hi (ev_bindc hs (ev_bindc rfl (ev_bindc hb (ev_pos rfl (ev_bindc hx (ev_pos (by omega) (ev_val rfl)))))))), by simp; omega, by omega, by omega⟩
  induction d with
  | zero =>
    intro i at_ acc h0 hd _ ha hb hs
    obtain ⟨xs, at', h, h1, h2, h3⟩ := fin i at_ acc (by omega) ha (by omega) (by omega)
    exact ⟨xs, at', h, h1, h2, by omega⟩
  | succ d ih =>
    intro i at_ acc h0 hd hd9 ha hb hs
    by_cases hlt : i < n
    · have hw : wrap64 (i + 1) = i + 1 := wr64 (by omega) (by omega)
      obtain ⟨r, hr, _⟩ := Next_is l at_ 20 hl ha (by omega) (by omega)
      obtain ⟨xs, at', h, h1, h2, h3⟩ := ih (i + 1) (at_ + 1) (acc ++ [r]) (by omega) (by omega) (by omega) (by omega) (by omega) (by simp; omega)
      refine ⟨xs, at', Ev.step (fun _ => chasemake_Stream_Numbers.l0.eq_2 ..) (ev_pos hlt (ev_bindc hr (ev_pos (by omega) ?_))), h1, by omega, by omega⟩
      rw [hw]
      exact h
    · obtain ⟨xs, at', h, h1, h2, h3⟩ := fin i at_ acc hlt ha (by omega) (by omega)
      exact ⟨xs, at', h, h1, h2, by omega⟩
theorem Numbers_ev (l : List Int) (at_ n : Int) (hl : Nums l) (h0 : 0 ≤ at_) (h1 : at_ < 1099511626000) :
    ∃ (xs : List Int) (at' : Int), Ev (fun k => chasemake_Stream_Numbers.f k l at_ n) (xs, at') ∧ xs.length ≤ 12 ∧ at_ ≤ at' ∧ at' ≤ at_ + 20 := by
  have hm : mn (mx n 1) 8 + 1 ≤ 9 ∧ 2 ≤ mn (mx n 1) 8 + 1 := by unfold mn mx; split <;> split <;> omega
  obtain ⟨r, hr, h2, h3, _⟩ := Next_is l at_ (mn (mx n 1) 8 + 1) hl h0 (by omega) (by omega)
  have h4 := h3 (by omega)
  obtain ⟨xs, at', h, g1, g2, g3⟩ := Numbers_loop l hl r (by omega) 9 0 (at_ + 1) [] (by omega) (by omega) (by omega) (by omega) (by omega) (by simp)
  exact ⟨xs, at', ev_bindc hr h, g1, by omega, by omega⟩
end Go.Proofs.Ytbamfhcifpfocaa.Ps
