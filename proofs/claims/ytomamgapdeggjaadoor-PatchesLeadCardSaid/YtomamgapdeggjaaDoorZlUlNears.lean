/- Part of the proof that the law patchesLead is true for every input. No conditions. Laid by a program of this session over the kit's print and words; declarations that nothing names are left out. -/
import Derived.Test.YtomamgapdeggjaaDoorZlUlShingles
import Derived.Test.YtomamgapdeggjaaDoorZlPlx8
import Derived.Test.YtomamgapdeggjaaDoorZlPlx7
namespace Go.Proofs.YtomamgapdeggjaaDoor.Pl
open Go.RowKit Go.Proofs.YtomamgapdeggjaaDoor.GBase Go.Proofs.YtomamgapdeggjaaDoorW.PrintWords Go.Proofs.YtomamgapdeggjaaDoorW.PrintLast Go.Proofs.YtomamgapdeggjaaDoorW.PrintMore
set_option linter.unusedVariables false
set_option linter.unusedSimpArgs false
theorem large_is (s : ByteArray) : near_large.f s = some (if (s.size : Int) > 20000 then 2 else 0) := by
  unfold near_large.f base_When.f
  by_cases h : (s.size : Int) > 20000 <;> simp [h]
theorem kError_is (k : Int) : near_kError.f k = some (if k < 1 ∨ k > 10 then 1 else 0) := by
  unfold near_kError.f base_In.f base_When.f
  by_cases h : k ≥ 1
  · by_cases h2 : k ≤ 10
    · have : ¬ (k < 1 ∨ k > 10) := by omega
      simp [h, h2, this]
    · have : k < 1 ∨ k > 10 := by omega
      simp [h, h2, this]
  · have : k < 1 ∨ k > 10 := by omega
    simp [h, this]
def firstOf : List Int → Int
  | [] => 0
  | x :: r => if x = 0 then firstOf r else x
theorem First_loop (l : List Int) (hl : l.length < 1000000) (d : Nat) : ∀ j : Nat, l.length - j ≤ d → j ≤ l.length → Ev (fun k => base_First.l0 k l (l.length : Int) (j : Int)) (firstOf (l.drop j)) := by
  induction d with
  | zero =>
    intro j hd hj
    obtain rfl : j = l.length := by omega
    rw [List.drop_length]
    exact Ev.step (fun _ => base_First.l0.eq_2 ..) (ev_neg (by omega) (ev_val rfl))
  | succ d ih =>
    intro j hd hj
    by_cases hlt : j < l.length
    · have hw : wrap64 ((j : Int) + 1) = ((j + 1 : Nat) : Int) := by rw [wr64 (by omega) (by omega)]; omega
      have hr : rd l (j : Int) = l[j] := by simp [rd, List.getD, hlt]
      rw [List.drop_eq_getElem_cons hlt]
      refine Ev.step (fun _ => base_First.l0.eq_2 ..) (ev_pos (by omega) (ev_pos (by omega) (ev_pos (by omega) ?_)))
      rw [hr]
      unfold firstOf
      by_cases hz : l[j] = 0
      · rw [if_pos hz]
        refine ev_pos hz ?_
        rw [hw]
        exact ih (j + 1) (by omega) (by omega)
      · rw [if_neg hz]
        exact ev_neg hz (ev_val rfl)
    · obtain rfl : j = l.length := by omega
      exact ih _ (by omega) (by omega)
theorem First_ev (l : List Int) (hl : l.length < 1000000) : Ev (fun k => base_First.f k l) (firstOf l) := First_loop l hl _ 0 (Nat.le_refl _) (by omega)
def kErr (k : Int) : Int := if k < 1 ∨ k > 10 then 1 else 0
theorem Shingles_ev (s : ByteArray) (hs : s.size ≤ 20000) (n : Nat) : Ev (fun q => near_Shingles.f q s (n : Int)) (if kErr (n : Int) = 0 then (shinglesOf s n, 0) else ([], kErr (n : Int))) := by
  have c1 : ¬ (s.size : Int) > 20000 := by omega
  unfold near_Shingles.f
  refine ev_bindc (large_is s) (ev_bindc (kError_is _) (Ev.bind (First_ev _ (by simp)) ?_))
  have e : firstOf [if (s.size : Int) > 20000 then 2 else 0, if (n : Int) < 1 ∨ (n : Int) > 10 then 1 else 0] = kErr (n : Int) := by
    rw [if_neg c1]
    unfold kErr
    split <;> rfl
  rw [e]
  by_cases hz : kErr (n : Int) = 0
  · rw [if_pos hz]
    exact ev_pos hz (Ev.bind (near_shingles_ev s (by omega) n) (ev_val rfl))
  · rw [if_neg hz]
    exact ev_neg hz (ev_val rfl)
theorem words_abc : wordsOf ⟨#[97, 32, 98, 32, 99]⟩ = [⟨#[97]⟩, ⟨#[98]⟩, ⟨#[99]⟩] := by decide +kernel
theorem grams_abc : grams [⟨#[97]⟩, ⟨#[98]⟩, ⟨#[99]⟩] 2 = [⟨#[97, 32, 98]⟩, ⟨#[98, 32, 99]⟩] := by decide +kernel
theorem sort_abc : sortS [⟨#[97, 32, 98]⟩, ⟨#[98, 32, 99]⟩] = [⟨#[97, 32, 98]⟩, ⟨#[98, 32, 99]⟩] := by
  unfold sortS toL
  rw [List.mergeSort_of_pairwise (by decide +kernel)]
  decide +kernel
theorem compact_abc : compactS [⟨#[97, 32, 98]⟩, ⟨#[98, 32, 99]⟩] = [⟨#[97, 32, 98]⟩, ⟨#[98, 32, 99]⟩] := by decide +kernel
theorem shingles_abc : shinglesOf ⟨#[97, 32, 98, 32, 99]⟩ 2 = [⟨#[97, 32, 98]⟩, ⟨#[98, 32, 99]⟩] := by
  unfold shinglesOf
  rw [words_abc]
  show (if (3 : Nat) = 0 then [] else compactS (sortS (grams [⟨#[97]⟩, ⟨#[98]⟩, ⟨#[99]⟩] 2))) = _
  rw [if_neg (by decide), grams_abc, sort_abc, compact_abc]
theorem eqS_loop (l : List ByteArray) (hn : l.length ≤ 4000000000) (d : Nat) : ∀ j : Nat, l.length - j ≤ d → j ≤ l.length → Ev (fun k => slices_Equal_string_string.l0 k l l (l.length : Int) (j : Int)) true := by
  induction d with
  | zero =>
    intro j hd hj
    obtain rfl : j = l.length := by omega
    exact Ev.step (fun _ => slices_Equal_string_string.l0.eq_2 ..) (ev_neg (by omega) (ev_val rfl))
  | succ d ih =>
    intro j hd hj
    by_cases hlt : j < l.length
    · have hw : wrap64 ((j : Int) + 1) = ((j + 1 : Nat) : Int) := by rw [wr64 (by omega) (by omega)]; omega
      refine Ev.step (fun _ => slices_Equal_string_string.l0.eq_2 ..) (ev_pos (by omega) (ev_pos (by omega) (ev_pos (by omega) (ev_pos (by omega) (ev_pos rfl ?_)))))
      rw [hw]
      exact ih (j + 1) (by omega) (by omega)
    · obtain rfl : j = l.length := by omega
      exact ih _ (by omega) (by omega)
theorem eqS_ev (l : List ByteArray) (hn : l.length ≤ 4000000000) : Ev (fun k => slices_Equal_string_string.f k l l) true :=
  ev_pos rfl (eqS_loop l hn _ 0 (Nat.le_refl _) (by omega))
theorem nears_ev : Ev (fun k => chasekeep1_nears.f k) true := by
  unfold chasekeep1_nears.f
  have h := Shingles_ev ⟨#[97, 32, 98, 32, 99]⟩ (by decide) 2
  rw [shingles_abc, if_pos (by decide)] at h
  exact Ev.bind h (ev_pos rfl (Ev.bind (eqS_ev _ (by decide)) (ev_val rfl)))
end Go.Proofs.YtomamgapdeggjaaDoor.Pl
