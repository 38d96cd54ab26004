/- The law SketchesEstimate is true for every list of numbers that came in. -/
import Derived.Test.YtbamfhcifpfocaaUsNums
import Derived.Test.YtbamfhcifpfocaaPsx10
namespace Go.Proofs.Ytbamfhcifpfocaa.Pure
open Go.RowKit Go.Proofs.Ytbamfhcifpfocaa.GBase Go.Proofs.Ytbamfhcifpfocaa.Ps Go.Proofs.YtbamfhcifpfocaaW.PrintWords Go.Proofs.YtbamfhcifpfocaaW.PrintLast
set_option linter.unusedVariables false
set_option linter.unusedSimpArgs false

theorem words_abc : wordsOf ⟨#[97, 32, 98, 32, 99]⟩ = [⟨#[97]⟩, ⟨#[98]⟩, ⟨#[99]⟩] := by decide +kernel
theorem grams_abc : grams [⟨#[97]⟩, ⟨#[98]⟩, ⟨#[99]⟩] 2 = [⟨#[97, 32, 98]⟩, ⟨#[98, 32, 99]⟩] := by decide +kernel
theorem sort_abc : sortS [⟨#[97, 32, 98]⟩, ⟨#[98, 32, 99]⟩] = [⟨#[97, 32, 98]⟩, ⟨#[98, 32, 99]⟩] := by
  unfold sortS toL
  rw [List.mergeSort_of_pairwise (by decide +kernel)]
  decide +kernel
theorem compact_abc : compactS [⟨#[97, 32, 98]⟩, ⟨#[98, 32, 99]⟩] = [⟨#[97, 32, 98]⟩, ⟨#[98, 32, 99]⟩] := by decide +kernel
theorem shingles_abc : shinglesOf ⟨#[97, 32, 98, 32, 99]⟩ 2 = [⟨#[97, 32, 98]⟩, ⟨#[98, 32, 99]⟩] := by
  unfold shinglesOf
  rw [words_abc]
  show (if (3 : Nat) = 0 then [] else compactS (sortS (grams [⟨#[97]⟩, ⟨#[98]⟩, ⟨#[99]⟩] 2))) = _
  rw [if_neg (by decide), grams_abc, sort_abc, compact_abc]
theorem eqS_loop (l : List ByteArray) (hn : l.length ≤ 1048577) (d : Nat) : ∀ j : Nat, l.length - j ≤ d → j ≤ l.length → Ev (fun k => slices_Equal_string_string.l0 k l l (l.length : Int) (j : Int)) true := by
  induction d with
  | zero =>
    intro j hd hj
    obtain rfl : j = l.length := by omega
    exact Ev.step (fun _ => slices_Equal_string_string.l0.eq_2 ..) (ev_neg (by omega) (ev_val rfl))
  | succ d ih =>
    intro j hd hj
    by_cases hlt : j < l.length
    · have hw : wrap64 ((j : Int) + 1) = ((j + 1 : Nat) : Int) := by rw [wr64 (by omega) (by omega)]; omega
      refine Ev.step (fun _ => slices_Equal_string_string.l0.eq_2 ..) (ev_pos (by omega) (ev_pos (by omega) (ev_pos (by omega) (ev_pos (by omega) (ev_pos rfl ?_)))))
      rw [hw]
      exact ih (j + 1) (by omega) (by omega)
    · obtain rfl : j = l.length := by omega
      exact ih _ (by omega) (by omega)
theorem eqS_ev (l : List ByteArray) (hn : l.length ≤ 1048577) : Ev (fun k => slices_Equal_string_string.f k l l) true :=
  ev_pos rfl (eqS_loop l hn _ 0 (Nat.le_refl _) (by omega))
theorem eqI_loop (l : List Int) (hn : l.length ≤ 1048577) (d : Nat) : ∀ j : Nat, l.length - j ≤ d → j ≤ l.length → Ev (fun k => slices_Equal_int_int.l0 k l l (l.length : Int) (j : Int)) true := by
  induction d with
  | zero =>
    intro j hd hj
    obtain rfl : j = l.length := by omega
    exact Ev.step (fun _ => slices_Equal_int_int.l0.eq_2 ..) (ev_neg (by omega) (ev_val rfl))
  | succ d ih =>
    intro j hd hj
    by_cases hlt : j < l.length
    · have hw : wrap64 ((j : Int) + 1) = ((j + 1 : Nat) : Int) := by rw [wr64 (by omega) (by omega)]; omega
      refine Ev.step (fun _ => slices_Equal_int_int.l0.eq_2 ..) (ev_pos (by omega) (ev_pos (by omega) (ev_pos (by omega) (ev_pos (by omega) (ev_pos rfl ?_)))))
      rw [hw]
      exact ih (j + 1) (by omega) (by omega)
    · obtain rfl : j = l.length := by omega
      exact ih _ (by omega) (by omega)
theorem eqI_ev (l : List Int) (hn : l.length ≤ 1048577) : Ev (fun k => slices_Equal_int_int.f k l l) true :=
  ev_pos rfl (eqI_loop l hn _ 0 (Nat.le_refl _) (by omega))
theorem near_Shingles_ev (s : ByteArray) (hs : s.size ≤ 20000) (n : Nat) (h1 : 1 ≤ n) (h2 : n ≤ 10) : Ev (fun q => near_Shingles.f q s (n : Int)) (shinglesOf s n, 0) := by
  unfold near_Shingles.f
  refine ev_bindc (large_is s) (ev_bindc (kError_is _) (Ev.bind (First_ev _ (by simp)) ?_))
  have e : firstOf [if (s.size : Int) > 20000 then 2 else 0, if (n : Int) < 1 ∨ (n : Int) > 10 then 1 else 0] = 0 := by
    have c1 : ¬ (s.size : Int) > 20000 := by omega
    have c2 : ¬ ((n : Int) < 1 ∨ (n : Int) > 10) := by omega
    rw [if_neg c1, if_neg c2]
    rfl
  rw [e]
  exact ev_pos rfl (Ev.bind (near_shingles_ev s (by omega) n) (ev_val rfl))
theorem nears_ev : Ev (fun k => chaselaw1_nears.f k) true := by
  unfold chaselaw1_nears.f
  have h := near_Shingles_ev ⟨#[97, 32, 98, 32, 99]⟩ (by decide) 2 (by omega) (by omega)
  rw [shingles_abc] at h
  exact Ev.bind h (ev_pos rfl (Ev.bind (eqS_ev _ (by decide)) (ev_val rfl)))
theorem sketchOf_len (s : ByteArray) (hs : s.size ≤ 1048576) (k n : Nat) : (sketchOf s k n).length ≤ 1048577 := by
  have h1 := shinglesOf_count s k
  have h2 := compact_le (sortI ((shinglesOf s k).map hashOf))
  rw [sortI_length, List.length_map] at h2
  unfold sketchOf
  rw [List.length_take]
  omega
theorem SketchesEstimate : chaselaw1_SketchesEstimate.Pure := by
  intro l _ hn hw
  have hl : Nums l := ⟨hn, hw⟩
  obtain ⟨t, a1, ht, hts, a1l, a1u⟩ := Prose_ev l 0 12 hl (by omega) (by omega) (by omega) (by omega)
  obtain ⟨k, hk, _⟩ := Size_is l a1 hl (by omega) (by omega)
  obtain ⟨n, _, hp⟩ := Pick_is l (a1 + 2) [1, 2, 5, 20, 200, 0, 201] hl (by omega) (by omega) (by simp) (by simp)
  obtain ⟨xs, a2, hx, hxs, a2l, a2u⟩ := Numbers_ev l (a1 + 2 + 1) n hl (by omega) (by omega)
  obtain ⟨ys, a3, hy, hys, _, _⟩ := Numbers_ev l a2 n hl (by omega) (by omega)
  have hj : Ev (fun q => chaselaw1_SketchesEstimate.j0 q n false l (a1 + 2 + 1)) true := by
    refine Ev.step (fun _ => chaselaw1_SketchesEstimate.j0.eq_2 ..) (ev_neg (by simp) (Ev.bind hx (Ev.bind hy (Ev.bind (near_Estimate_ev xs ys n (by omega) (by omega)) (Ev.bind (ref_Estimate_ev xs ys n (by omega) (by omega)) (Ev.bind nears_ev (ev_pos rfl (ev_pos rfl (ev_val ?_))))))))) 
    simp
  refine Ev.rounds ?_
  unfold chaselaw1_SketchesEstimate.f
  refine Ev.bind ht (ev_bindc hk (ev_bindc hp (Ev.bind (near_Sketch_ev t (by omega) k n) (Ev.bind (ref_Sketch_ev t (by omega) k n) (ev_pos rfl (Ev.bind (eqI_ev _ ?_) hj))))))
  by_cases hz : skErr t k n = 0
  · rw [if_pos hz]
    exact sketchOf_len t (by omega) _ _
  · rw [if_neg hz]
    simp
end Go.Proofs.Ytbamfhcifpfocaa.Pure
