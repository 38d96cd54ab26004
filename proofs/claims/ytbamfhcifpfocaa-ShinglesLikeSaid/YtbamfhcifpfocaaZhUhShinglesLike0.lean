/- Part of the proof that the law shinglesLike is true for every input. No conditions. Laid by a program of this session over the kit's print and words; declarations that nothing names are left out. -/
import Derived.Test.YtbamfhcifpfocaaZhUhLikes
import Derived.Test.YtbamfhcifpfocaaZhUhStream
import Derived.Test.YtbamfhcifpfocaaZhPhx10
namespace Go.Proofs.Ytbamfhcifpfocaa.Pure
open Go.RowKit Go.Proofs.Ytbamfhcifpfocaa.GBase Go.Proofs.Ytbamfhcifpfocaa.Ph Go.Proofs.YtbamfhcifpfocaaW.PrintWords Go.Proofs.YtbamfhcifpfocaaW.PrintLast
set_option linter.unusedVariables false
set_option linter.unusedSimpArgs false
theorem words_abc : wordsOf ⟨#[97, 32, 98, 32, 99]⟩ = [⟨#[97]⟩, ⟨#[98]⟩, ⟨#[99]⟩] := by decide +kernel
theorem grams_abc : grams [⟨#[97]⟩, ⟨#[98]⟩, ⟨#[99]⟩] 2 = [⟨#[97, 32, 98]⟩, ⟨#[98, 32, 99]⟩] := by decide +kernel
theorem sort_abc : sortS [⟨#[97, 32, 98]⟩, ⟨#[98, 32, 99]⟩] = [⟨#[97, 32, 98]⟩, ⟨#[98, 32, 99]⟩] := by
  unfold sortS toL
  rw [List.mergeSort_of_pairwise (by decide +kernel)]
  decide +kernel
theorem compact_abc : compactS [⟨#[97, 32, 98]⟩, ⟨#[98, 32, 99]⟩] = [⟨#[97, 32, 98]⟩, ⟨#[98, 32, 99]⟩] := by decide +kernel
theorem shingles_abc : shinglesOf ⟨#[97, 32, 98, 32, 99]⟩ 2 = [⟨#[97, 32, 98]⟩, ⟨#[98, 32, 99]⟩] := by
  unfold shinglesOf
  rw [words_abc]
  show (if (3 : Nat) = 0 then [] else compactS (sortS (grams [⟨#[97]⟩, ⟨#[98]⟩, ⟨#[99]⟩] 2))) = _
  rw [if_neg (by decide), grams_abc, sort_abc, compact_abc]
theorem eqS_loop (l : List ByteArray) (hn : l.length ≤ 1048577) (d : Nat) : ∀ j : Nat, l.length - j ≤ d → j ≤ l.length → Ev (fun k => slices_Equal_string_string.l0 k l l (l.length : Int) (j : Int)) true := by
  induction d with
  | zero =>
    intro j hd hj
    obtain rfl : j = l.length := by omega
    exact Ev.step (fun _ => slices_Equal_string_string.l0.eq_2 ..) (ev_neg (by omega) (ev_val rfl))
  | succ d ih =>
    intro j hd hj
    by_cases hlt : j < l.length
    · have hw : wrap64 ((j : Int) + 1) = ((j + 1 : Nat) : Int) := by rw [wr64 (by omega) (by omega)]; omega
      refine Ev.step (fun _ => slices_Equal_string_string.l0.eq_2 ..) (ev_pos (by omega) (ev_pos (by omega) (ev_pos (by omega) (ev_pos (by omega) (ev_pos rfl ?_)))))
      rw [hw]
      exact ih (j + 1) (by omega) (by omega)
    · obtain rfl : j = l.length := by omega
      exact ih _ (by omega) (by omega)
theorem eqS_ev (l : List ByteArray) (hn : l.length ≤ 1048577) : Ev (fun k => slices_Equal_string_string.f k l l) true :=
  ev_pos rfl (eqS_loop l hn _ 0 (Nat.le_refl _) (by omega))
theorem nears_ev : Ev (fun k => chaselaw1_nears.f k) true := by
  unfold chaselaw1_nears.f
  have h := Shingles_ev ⟨#[97, 32, 98, 32, 99]⟩ (by decide) 2
  rw [shingles_abc, if_pos (by decide)] at h
  exact Ev.bind h (ev_pos rfl (Ev.bind (eqS_ev _ (by decide)) (ev_val rfl)))
def cmpI (x y : Int) : Int := if x < y then -1 else if x > y then 1 else 0
theorem Compare_int (x y : Int) : cmp_Compare_int.f x y = some (cmpI x y) := by
  unfold cmp_Compare_int.f cmp_isNaN_int.f cmpI
  simp
  split <;> try rfl
  split <;> rfl
theorem In_is (a lo hi : Int) : base_In.f a lo hi = some (decide (lo ≤ a) && decide (a ≤ hi)) := by
  unfold base_In.f
  by_cases h : a ≥ lo
  · rw [if_pos h]
    simp [show lo ≤ a from h]
  · rw [if_neg h]
    simp
    omega
def right (n d : Int) : Bool := decide (1 ≤ d) && (decide (d ≤ 1000000) && (decide (0 ≤ n) && (decide (n ≤ 1000000) && ((fractionOf n.toNat d.toNat).1 == n && (fractionOf n.toNat d.toNat).2 == d))))
theorem near_right_ev (n d : Int) : Ev (fun k => near_rightFraction.f k n d) (right n d) := by
  unfold near_rightFraction.f right
  refine ev_bindc (In_is _ _ _) ?_
  by_cases hd : 1 ≤ d ∧ d ≤ 1000000
  · refine ev_pos (by simp [hd]) (ev_bindc (In_is _ _ _) ?_)
    by_cases hn : 0 ≤ n ∧ n ≤ 1000000
    · obtain ⟨n', rfl⟩ := Int.eq_ofNat_of_zero_le hn.1
      obtain ⟨d', rfl⟩ := Int.eq_ofNat_of_zero_le (show 0 ≤ d by omega)
      refine ev_pos (by simp [hn]) (Ev.bind (near_fraction_ev n' d') (ev_val ?_))
      simp [hn, hd]
    · refine ev_neg (by simp; omega) (ev_val ?_)
      have : ¬ (0 ≤ n ∧ n ≤ 1000000) := hn
      by_cases h0 : 0 ≤ n
      · have h1 : ¬ n ≤ 1000000 := fun h => hn ⟨h0, h⟩
        simp [h1]
      · simp [h0]
  · refine ev_neg (by simp; omega) (ev_val ?_)
    by_cases h0 : 1 ≤ d
    · have h1 : ¬ d ≤ 1000000 := fun h => hd ⟨h0, h⟩
      simp [h1]
    · simp [h0]
theorem ref_right_ev (n d : Int) : Ev (fun k => chaseref1_FractionRight.f k n d) (right n d) := by
  unfold chaseref1_FractionRight.f right
  by_cases h1 : 1 ≤ d
  · refine ev_pos h1 ?_
    by_cases h2 : d ≤ 1000000
    · refine ev_pos h2 ?_
      by_cases h3 : 0 ≤ n
      · refine ev_pos h3 ?_
        by_cases h4 : n ≤ 1000000
        · obtain ⟨n', rfl⟩ := Int.eq_ofNat_of_zero_le h3
          obtain ⟨d', rfl⟩ := Int.eq_ofNat_of_zero_le (show 0 ≤ d by omega)
          refine ev_pos h4 (Ev.bind (ref_part_ev n' d') (ev_val ?_))
          simp [h1, h2, h4]
        · exact ev_neg h4 (ev_val (by simp [h4]))
      · exact ev_neg h3 (ev_val (by simp [h3]))
    · exact ev_neg h2 (ev_val (by simp [h2]))
  · exact ev_neg h1 (ev_val (by simp [h1]))
theorem near_Compare_ev (a b c d : Int) : Ev (fun k => near_Compare.f k a b c d) (if right a b = true then (if right c d = true then (cmpI (wrap64 (a * d)) (wrap64 (c * b)), 0) else (0, 3)) else (0, 3)) := by
  unfold near_Compare.f
  refine Ev.bind (near_right_ev a b) ?_
  by_cases h1 : right a b = true
  · rw [if_pos h1]
    refine ev_pos h1 (Ev.bind (near_right_ev c d) ?_)
    by_cases h2 : right c d = true
    · exact ev_pos h2 (ev_bindc (Compare_int _ _) (ev_val (by rw [if_pos h2])))
    · exact ev_neg h2 (ev_val (by rw [if_neg h2]))
  · rw [if_neg h1]
    exact ev_neg h1 (ev_val rfl)
theorem CompareOf_is (a b c d : Int) : chaseref1_CompareOf.f a b c d = some (cmpI (wrap64 (a * d)) (wrap64 (c * b))) := by
  unfold chaseref1_CompareOf.f
  rw [Compare_int]
  rfl
theorem j2_true (x a b c d : Int) : Ev (fun k => chaselaw1_ShinglesLike.j2 k x 3 true a b c d) true :=
  Ev.step (fun _ => chaselaw1_ShinglesLike.j2.eq_2 ..) (ev_pos rfl (Ev.bind nears_ev (ev_pos rfl (Ev.step (fun _ => chaselaw1_ShinglesLike.j3.eq_2 ..) (ev_val rfl)))))
theorem j2_false (a b c d : Int) : Ev (fun k => chaselaw1_ShinglesLike.j2 k (cmpI (wrap64 (a * d)) (wrap64 (c * b))) 0 false a b c d) true :=
  Ev.step (fun _ => chaselaw1_ShinglesLike.j2.eq_2 ..) (ev_neg (by simp) (Ev.bind nears_ev (ev_pos rfl (ev_pos rfl (ev_bindc (CompareOf_is a b c d) (Ev.step (fun _ => chaselaw1_ShinglesLike.j4.eq_2 ..) (ev_val (by simp))))))))
theorem j1_ev (l : List Int) (at_ : Int) (hl : Nums l) (h0 : 0 ≤ at_) (h1 : at_ < 1099511627000) : Ev (fun k => chaselaw1_ShinglesLike.j1 k false l at_) true := by
  obtain ⟨x, hx, _⟩ := Next_is l at_ 9 hl h0 (by omega) (by omega)
  obtain ⟨y, hy, _⟩ := Range_is l (at_ + 1) 0 8 hl (by omega) (by omega) (by omega) (by omega) (by omega)
  obtain ⟨u, _, hu⟩ := Pick_is l (at_ + 1 + 1) [0, 1, 1000000, 1000001, (-1)] hl (by omega) (by omega) (by simp) (by simp)
  obtain ⟨v, _, hv⟩ := Pick_is l (at_ + 1 + 1 + 1) [1, 7, 999999, 1000000, 1000001] hl (by omega) (by omega) (by simp) (by simp)
  refine Ev.step (fun _ => chaselaw1_ShinglesLike.j1.eq_2 ..) (ev_neg (by simp) (ev_bindc hx (ev_bindc hy (ev_bindc hu (ev_bindc hv (Ev.bind (near_Compare_ev x y u v) (Ev.bind (ref_right_ev x y) ?_)))))))
  by_cases r1 : right x y = true
  · refine ev_pos r1 (Ev.bind (ref_right_ev u v) ?_)
    rw [if_pos r1]
    by_cases r2 : right u v = true
    · rw [if_pos r2, r2]
      exact j2_false x y u v
    · rw [if_neg r2, Bool.not_eq_true _ |>.mp r2]
      exact j2_true 0 x y u v
  · refine ev_neg r1 ?_
    rw [if_neg r1]
    exact j2_true 0 x y u v
theorem like_ev (l : List Int) (hl : Nums l) : Ev (fun k => chaselaw1_ShinglesLike.f k l) true := by
  obtain ⟨t, a1, ht, hts, a1l, a1u⟩ := Prose_ev l 0 12 hl (by omega) (by omega) (by omega) (by omega)
  obtain ⟨n0, hn, n1, n2⟩ := Size_is l a1 hl (by omega) (by omega)
  obtain ⟨n, rfl⟩ := Int.eq_ofNat_of_zero_le n1
  have e4 : (⟨#[97, 98, 32, 120]⟩ : ByteArray).size = 4 := rfl
  obtain ⟨c, a3, hc, hcs, a3l, a3u⟩ := Changed_ev l (a1 + 2) t ⟨#[97, 98, 32, 120]⟩ hl (by omega) (by omega) (by omega) (by omega) (by omega)
  have s1 : t.size ≤ 20000 := by omega
  have s2 : c.size ≤ 20000 := by omega
  have hf : chaseref1_ShinglesFault.f t (n : Int) = some (kErr (n : Int)) := by
    unfold chaseref1_ShinglesFault.f kErr
    rw [if_neg (by omega)]
    by_cases k1 : (n : Int) < 1
    · rw [if_pos k1, if_pos (.inl k1)]
    · by_cases k2 : (n : Int) > 10
      · rw [if_neg k1, if_pos k2, if_pos (.inr k2)]
      · rw [if_neg k1, if_neg k2, if_neg (by omega)]
  have hj := j1_ev l a3 hl (by omega) (by omega)
  unfold chaselaw1_ShinglesLike.f
  refine Ev.bind ht (ev_bindc hn (Ev.bind hc (Ev.bind (Shingles_ev t s1 n) (Ev.bind (Resemblance_ev t c s1 s2 n) (Ev.bind (Containment_ev t c s1 s2 n) (ev_bindc hf ?_))))))
  by_cases hz : kErr (n : Int) = 0
  · refine ev_pos hz ?_
    simp only [if_pos hz]
    refine ev_pos (by simp) (ev_pos (by simp) (ev_pos (by simp) (Ev.bind (ShinglesOf_ev t (by omega) n) (Ev.bind (eqS_ev _ ?_) (ev_pos rfl (Ev.bind (ref_Like_ev t c s1 s2 n) (ev_neg (by simp) (Ev.bind (ref_Cont_ev t c s1 s2 n) ?_))))))))
    · have := shinglesOf_count t n
      omega
    · have e : ∀ p : Int × Int, (!(p.1 == p.1) || !(p.2 == p.2)) = false := by simp
      rw [e]
      exact hj
  · refine ev_neg hz (Ev.bind nears_ev (ev_pos rfl ?_))
    simp only [if_neg hz]
    refine ev_pos (by simp) (ev_pos (by simp) (Ev.step (fun _ => chaselaw1_ShinglesLike.j0.eq_2 ..) (ev_val (by simp))))
end Go.Proofs.Ytbamfhcifpfocaa.Pure
