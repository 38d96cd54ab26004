/- Part of the proof that the law phrasesFound is true for every input. No conditions. Laid by a program of this session over the kit's print and words; declarations that nothing names are left out. -/
import Derived.Test.YtbamfhcifpfocaaDoorZpUpSpans2
import Derived.Test.YtbamfhcifpfocaaDoorZpPpx9
import Derived.Test.YtbamfhcifpfocaaDoorZpPpx8
import Derived.Test.YtbamfhcifpfocaaDoorZpPpx6
import Derived.Test.YtbamfhcifpfocaaDoorZpPpx5
namespace Go.Proofs.YtbamfhcifpfocaaDoor.Pp
open Go.RowKit Go.Proofs.YtbamfhcifpfocaaDoor.GBase Go.Proofs.YtbamfhcifpfocaaDoorW.PrintWords Go.Proofs.YtbamfhcifpfocaaDoorW.PrintLast
set_option linter.unusedVariables false
set_option linter.unusedSimpArgs false
theorem rdB_at (l : List Bool) (j : Nat) (hj : j < l.length) : rdOf false l (j : Int) = l[j] := by
  simp [rdOf, List.getD_eq_getElem?_getD, List.getElem?_eq_getElem hj]
def paintN (b : List Bool) (f : Nat) : Nat → List Bool
  | 0 => b
  | n + 1 => paintN (b.set f true) (f + 1) n
theorem paintN_length (n : Nat) : ∀ (b : List Bool) (f : Nat), (paintN b f n).length = b.length := by
  induction n with
  | zero => intro b f; rfl
  | succ n ih => intro b f; rw [paintN, ih, List.length_set]
theorem paintN_get (n : Nat) : ∀ (b : List Bool) (f i : Nat), f + n ≤ b.length → (paintN b f n).getD i false = (b.getD i false || (decide (f ≤ i) && decide (i < f + n))) := by
  induction n with
  | zero => intro b f i _; have : (decide (f ≤ i) && decide (i < f + 0)) = false := by simp
            rw [this]; simp [paintN]
  | succ n ih =>
    intro b f i h
    rw [paintN, ih _ _ _ (by rw [List.length_set]; omega), List.getD_eq_getElem?_getD, List.getD_eq_getElem?_getD, List.getElem?_set]
    by_cases e : f = i
    · subst e
      have hlt : f < b.length := by omega
      simp [hlt]
    · rw [if_neg e]
      congr 1
      rw [Bool.eq_iff_iff]
      simp only [Bool.and_eq_true, decide_eq_true_eq]
      omega
def paintAll : List (Nat × Nat) → List Bool → List Bool
  | [], b => b
  | p :: m, b => paintAll m (paintN b p.1 (p.2 - p.1))
theorem paintAll_length (m : List (Nat × Nat)) : ∀ b, (paintAll m b).length = b.length := by
  induction m with
  | nil => intro b; rfl
  | cons p m ih => intro b; rw [paintAll, ih, paintN_length]
theorem paintAll_get (m : List (Nat × Nat)) : ∀ b : List Bool, (∀ p ∈ m, p.1 < p.2 ∧ p.2 ≤ b.length) → ∀ i, (paintAll m b).getD i false = (b.getD i false || cov m i) := by
  induction m with
  | nil => intro b _ i; simp [paintAll, cov_nil]
  | cons p m ih =>
    intro b h i
    have hp := h p List.mem_cons_self
    rw [paintAll, ih _ (fun q hq => by rw [paintN_length]; exact h q (List.mem_cons_of_mem _ hq)), paintN_get _ _ _ _ (by omega), cov_cons]
    have : p.1 + (p.2 - p.1) = p.2 := by omega
    rw [this, Bool.or_assoc]
theorem from_loop (p : List Bool) (hp : p.length ≤ 1000000) (d : Nat) : ∀ (j : Nat) (o : List (Nat × Nat)), p.length - j ≤ d → j ≤ p.length → o.length ≤ j → (0 < j → p.getD (j - 1) false = true → ∃ q o', o = q :: o' ∧ q.2 = j) →
    Ev (fun k => chaseref1_spansFrom.l0 k p (o.reverse.map spn) p (p.length : Int) (j : Int)) ((sfR (decide (0 < j) && p.getD (j - 1) false) j o (p.drop j)).reverse.map spn) := by
  induction d with
  | zero =>
    intro j o hd hj _ _
    obtain rfl : j = p.length := by omega
    rw [List.drop_length]
    exact Ev.step (fun _ => chaseref1_spansFrom.l0.eq_2 ..) (ev_neg (by omega) (ev_val rfl))
  | succ d ih =>
    intro j o hd hj ho hl
    by_cases hlt : j < p.length
    · have hw : wrap64 ((j : Int) + 1) = ((j + 1 : Nat) : Int) := by rw [wr64 (by omega) (by omega)]; omega
      have hgd : p.getD j false = p[j] := by simp [List.getD_eq_getElem?_getD, hlt]
      rw [List.drop_eq_getElem_cons hlt]
      refine Ev.step (fun _ => chaseref1_spansFrom.l0.eq_2 ..) (ev_pos (by omega) (ev_pos (by omega) (ev_pos (by omega) ?_)))
      rw [rdB_at p j hlt]
      have hnx := fun o' => ih (j + 1) o' (by omega) (by omega)
      simp only [Nat.add_sub_cancel, Nat.zero_lt_succ, decide_true, Bool.true_and, hgd] at hnx
      by_cases hon : p[j] = true
      · rw [hon] at hnx ⊢
        refine ev_pos rfl ?_
        simp only [sfR]
        rw [if_pos trivial]
        have fresh : (decide (0 < j) && p.getD (j - 1) false) = false → Ev (fun k => chaseref1_spansFrom.j1 k p (o.reverse.map spn) (j : Int) true p (p.length : Int) (j : Int) true) ((if (decide (0 < j) && p.getD (j - 1) false) = true then sfR true (j + 1) (((o.headD (0, 0)).1, j + 1) :: o.tail) (p.drop (j + 1)) else sfR true (j + 1) ((j, j + 1) :: o) (p.drop (j + 1))).reverse.map spn) := fun hf => by
          rw [if_neg (by rw [hf]; simp)]
          refine Ev.step (fun _ => chaseref1_spansFrom.j1.eq_2 ..) (ev_pos rfl (ev_pos (by simp; omega) (ev_bindc rfl (ev_pos rfl ?_))))
          have ha : o.reverse.map spn ++ [(⟨(j : Int), 0⟩ : S46)] = (((j, 0) :: o).reverse).map spn := by
            rw [List.reverse_cons, List.map_append]
            rfl
          have hlo : ((((j, 0) :: o).reverse).map spn).length = o.length + 1 := by simp
          rw [ha]
          have e : wrap64 ((((((j, 0) :: o).reverse.map spn).length : Nat) : Int) - 1) = ((((((j, 0) :: o).reverse).map spn).length - 1 : Nat) : Int) := by
            rw [hlo, wr64 (by omega) (by omega)]
            omega
          rw [e]
          refine ev_pos (by omega) (ev_pos (by omega) ?_)
          rw [rd_last, Int.toNat_natCast, hw]
          have hq : (⟨(spn (j, 0)).f0, ((j + 1 : Nat) : Int)⟩ : S46) = spn (j, j + 1) := rfl
          rw [hq, set_last]
          exact hnx _ (by simpa using ho) (fun _ _ => ⟨_, _, rfl, rfl⟩)
        by_cases hj0 : (j : Int) = 0
        · refine ev_pos hj0 ?_
          have : j = 0 := by omega
          subst this
          exact fresh (by simp)
        · have hm : wrap64 ((j : Int) - 1) = ((j - 1 : Nat) : Int) := by rw [wr64 (by omega) (by omega)]; omega
          refine ev_neg hj0 ?_
          rw [hm]
          refine ev_pos (by omega) (ev_pos (by omega) ?_)
          rw [rdB_at p (j - 1) (by omega)]
          have hg2 : p.getD (j - 1) false = p[j - 1] := by
            have : j - 1 < p.length := by omega
            simp [List.getD_eq_getElem?_getD, this]
          have hdj : decide (0 < j) = true := by simp; omega
          by_cases hpr : p[j - 1] = true
          · obtain ⟨q, o', rfl, hqj⟩ := hl (by omega) (by rw [hg2]; exact hpr)
            rw [hg2, hpr, hdj]
            simp only [Bool.and_true, Bool.not_true]
            rw [if_pos trivial]
            have hlo : (((q :: o').reverse).map spn).length = o'.length + 1 := by simp
            refine Ev.step (fun _ => chaseref1_spansFrom.j1.eq_2 ..) (ev_neg (by simp) (ev_pos rfl ?_))
            have e : wrap64 (((((q :: o').reverse.map spn).length : Nat) : Int) - 1) = (((((q :: o').reverse).map spn).length - 1 : Nat) : Int) := by
              simp only [List.length_cons] at ho
              rw [hlo, wr64 (by omega) (by omega)]
              omega
            rw [e]
            refine ev_pos (by omega) (ev_pos (by omega) ?_)
            rw [rd_last, Int.toNat_natCast, hw]
            have hq : (⟨(spn q).f0, ((j + 1 : Nat) : Int)⟩ : S46) = spn (q.1, j + 1) := rfl
            rw [hq, set_last]
            exact hnx _ (by simpa using Nat.le_trans ho (Nat.le_succ j)) (fun _ _ => ⟨_, _, rfl, rfl⟩)
          · have hpf : p[j - 1] = false := by simpa using hpr
            have := fresh (by rw [hg2, hpf]; simp)
            rw [hpf]
            exact this
      · have hof : p[j] = false := by simpa using hon
        rw [hof] at hnx ⊢
        refine ev_neg (by simp) (Ev.step (fun _ => chaseref1_spansFrom.j1.eq_2 ..) (ev_neg (by simp) (ev_neg (by simp) ?_)))
        rw [hw]
        simp only [sfR]
        rw [if_neg (by simp)]
        exact hnx o (by omega) (fun _ h => by cases h)
    · obtain rfl : j = p.length := by omega
      exact ih _ o (by omega) (by omega) ho hl
theorem from_ev (p : List Bool) (hp : p.length ≤ 1000000) : ∃ r : List (Nat × Nat), Ev (fun k => chaseref1_spansFrom.f k p) (r.map spn) ∧ Norm r ∧ ∀ i, cov r i = p.getD i false := by
  obtain ⟨h1, h2⟩ := sfR_law p false 0 [] ⟨by simp, by simp⟩ (by simp) (fun h => by cases h) (by simp)
  refine ⟨(sfR false 0 [] p).reverse, ?_, h1.norm, fun i => ?_⟩
  · have := from_loop p hp _ 0 [] (Nat.le_refl _) (by omega) (by simp) (fun h => absurd h (by omega))
    unfold chaseref1_spansFrom.f
    simpa using this
  · rw [cov_reverse, h2, cov_nil]
    simp
end Go.Proofs.YtbamfhcifpfocaaDoor.Pp
