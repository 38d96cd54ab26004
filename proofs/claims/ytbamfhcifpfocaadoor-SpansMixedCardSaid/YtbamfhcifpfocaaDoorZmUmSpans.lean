/- Part of the proof that the law spansMixed is true for every input. No conditions. Laid by a program of this session over the kit's print and words; declarations that nothing names are left out. -/
import Derived.Test.YtbamfhcifpfocaaDoorZmUmSmall
import Derived.Test.YtbamfhcifpfocaaDoorZmUmSpanlib
import Derived.Test.YtbamfhcifpfocaaDoorZmPmx2
import Derived.Test.YtbamfhcifpfocaaDoorZmPmx6
import Derived.Test.YtbamfhcifpfocaaDoorZmPmx7
import Derived.Test.YtbamfhcifpfocaaDoorZmPmx8
namespace Go.Proofs.YtbamfhcifpfocaaDoor.Pm
open Go.RowKit Go.Proofs.YtbamfhcifpfocaaDoor.GBase Go.Proofs.YtbamfhcifpfocaaDoorW.PrintWords Go.Proofs.YtbamfhcifpfocaaDoorW.PrintLast
set_option linter.unusedVariables false
set_option linter.unusedSimpArgs false
def spn (p : Nat × Nat) : S46 := ⟨p.1, p.2⟩
theorem rdT_at (l : List S46) (j : Nat) (hj : j < l.length) : rd_T46 l (j : Int) = l[j] := by
  simp [rd_T46, List.getD_eq_getElem?_getD, List.getElem?_eq_getElem hj]
theorem rdT_spn (l : List (Nat × Nat)) (j : Nat) (hj : j < l.length) : rd_T46 (l.map spn) (j : Int) = spn l[j] := by
  rw [rdT_at _ _ (by simpa using hj)]
  simp
theorem mx_nat (j : Nat) (h : 0 < j) (h2 : j ≤ 1000000) : wrap64 (mx (j : Int) 1 - 1) = ((j - 1 : Nat) : Int) := by
  have : mx (j : Int) 1 = (j : Int) := by unfold mx; split <;> omega
  rw [this]
  unfold wrap64
  omega
def prevOf (l : List S46) (j : Nat) : Option Int := if j = 0 then none else some (rd_T46 l ((j - 1 : Nat) : Int)).f1
def afterB : Option Int → Int → Bool
  | none, _ => false
  | some t, x => decide (x ≤ t)
def chkL (size : Int) : Option Int → List S46 → Int
  | _, [] => 0
  | prev, s :: l => if s.f0 < 0 ∨ s.f0 ≥ s.f1 ∨ s.f1 > size then 1 else if afterB prev s.f0 = true then 7 else chkL size (some s.f1) l
def chk (l : List S46) (size : Int) : Int := if size < 0 ∨ size > 200000 then 1 else if (l.length : Int) > 1000 then 2 else chkL size none l
theorem prev_zero (l : List S46) : prevOf l 0 = none := rfl
theorem prev_pos (l : List S46) (j : Nat) (h : 0 < j) : prevOf l j = some (rd_T46 l ((j - 1 : Nat) : Int)).f1 := by
  unfold prevOf
  rw [if_neg (by omega)]
theorem prev_succ (l : List S46) (j : Nat) (h : j < l.length) : prevOf l (j + 1) = some l[j].f1 := by
  rw [prev_pos _ _ (by omega)]
  show some (rd_T46 l ((j : Nat) : Int)).f1 = _
  rw [rdT_at l j h]
theorem check_loop (l : List S46) (hl : l.length < 1000000) (size : Int) (d : Nat) : ∀ j : Nat, l.length - j ≤ d → j ≤ l.length → Ev (fun k => privilege_CheckSpans.l0 k l size l (l.length : Int) (j : Int)) (chkL size (prevOf l j) (l.drop j)) := by
  induction d with
  | zero =>
    intro j hd hj
    obtain rfl : j = l.length := by omega
    rw [List.drop_length]
    exact Ev.step (fun _ => privilege_CheckSpans.l0.eq_2 ..) (ev_neg (by omega) (ev_val rfl))
  | succ d ih =>
    intro j hd hj
    by_cases hlt : j < l.length
    · have hw : wrap64 ((j : Int) + 1) = ((j + 1 : Nat) : Int) := by rw [wr64 (by omega) (by omega)]; omega
      have hn := ih (j + 1) (by omega) (by omega)
      rw [prev_succ l j hlt] at hn
      rw [List.drop_eq_getElem_cons hlt]
      refine Ev.step (fun _ => privilege_CheckSpans.l0.eq_2 ..) (ev_pos (by omega) (ev_pos (by omega) (ev_pos (by omega) ?_)))
      rw [rdT_at l j hlt, hw]
      generalize l[j] = s at *
      simp only [chkL]
      have tail : ∀ v : Int, (v = if s.f0 < 0 ∨ s.f0 ≥ s.f1 ∨ s.f1 > size then 1 else 0) → ∀ w : Int, (w = if afterB (prevOf l j) s.f0 = true then 7 else 0) →
          Ev (fun k => (base_First.f k [v, w]).bind fun t => if t = 0 then privilege_CheckSpans.l0 k l size l (l.length : Int) ((j + 1 : Nat) : Int) else some t) (if s.f0 < 0 ∨ s.f0 ≥ s.f1 ∨ s.f1 > size then 1 else if afterB (prevOf l j) s.f0 = true then 7 else chkL size (some s.f1) (l.drop (j + 1))) := by
        intro v hv w hw2
        refine Ev.bind (First_ev [v, w] (by simp)) ?_
        by_cases h1 : s.f0 < 0 ∨ s.f0 ≥ s.f1 ∨ s.f1 > size
        · rw [if_pos h1] at hv ⊢
          subst hv
          exact ev_neg (by simp [firstOf]) (ev_val (by simp [firstOf]))
        · rw [if_neg h1] at hv ⊢
          subst hv
          by_cases h2 : afterB (prevOf l j) s.f0 = true
          · rw [if_pos h2] at hw2 ⊢
            subst hw2
            exact ev_neg (by simp [firstOf]) (ev_val (by simp [firstOf]))
          · rw [if_neg h2] at hw2 ⊢
            subst hw2
            exact ev_pos (by simp [firstOf]) hn
      rcases Nat.eq_zero_or_pos j with hj0 | hj0
      · have hp : prevOf l j = none := by rw [hj0]; rfl
        simp only [hp] at tail ⊢
        have hjn : ¬ (j : Int) > 0 := by omega
        by_cases h1 : s.f0 < 0
        · exact ev_pos h1 (ev_bindc (When_is _ _) (ev_neg hjn (ev_bindc (When_is _ _) (tail _ (by rw [if_pos rfl, if_pos (.inl h1)]) _ (by simp [afterB])))))
        · refine ev_neg h1 ?_
          by_cases h2 : s.f0 ≥ s.f1
          · exact ev_pos h2 (ev_bindc (When_is _ _) (ev_neg hjn (ev_bindc (When_is _ _) (tail _ (by rw [if_pos rfl, if_pos (.inr (.inl h2))]) _ (by simp [afterB])))))
          · refine ev_neg h2 (ev_bindc (When_is _ _) (ev_neg hjn (ev_bindc (When_is _ _) (tail _ ?_ _ (by simp [afterB])))))
            by_cases h3 : s.f1 > size
            · rw [if_pos (by simpa using h3), if_pos (.inr (.inr h3))]
            · rw [if_neg (by simpa using h3), if_neg (by rintro (h | h | h) <;> contradiction)]
      · have hp := prev_pos l j hj0
        have hm := mx_nat j hj0 (by omega)
        have hjp : (j : Int) > 0 := by omega
        simp only [hp] at tail ⊢
        simp only [hm]
        generalize (rd_T46 l ((j - 1 : Nat) : Int)).f1 = t at *
        by_cases h1 : s.f0 < 0
        · exact ev_pos h1 (ev_bindc (When_is _ _) (ev_pos hjp (ev_pos (by omega) (ev_pos (by omega) (ev_bindc (When_is _ _) (tail _ (by rw [if_pos rfl, if_pos (.inl h1)]) _ rfl))))))
        · refine ev_neg h1 ?_
          by_cases h2 : s.f0 ≥ s.f1
          · exact ev_pos h2 (ev_bindc (When_is _ _) (ev_pos hjp (ev_pos (by omega) (ev_pos (by omega) (ev_bindc (When_is _ _) (tail _ (by rw [if_pos rfl, if_pos (.inr (.inl h2))]) _ rfl))))))
          · refine ev_neg h2 (ev_bindc (When_is _ _) (ev_pos hjp (ev_pos (by omega) (ev_pos (by omega) (ev_bindc (When_is _ _) (tail _ ?_ _ rfl))))))
            by_cases h3 : s.f1 > size
            · rw [if_pos (by simpa using h3), if_pos (.inr (.inr h3))]
            · rw [if_neg (by simpa using h3), if_neg (by rintro (h | h | h) <;> contradiction)]
    · obtain rfl : j = l.length := by omega
      exact ih _ (by omega) (by omega)
theorem CheckSpans_ev (l : List S46) (hl : l.length < 1000000) (size : Int) : Ev (fun k => privilege_CheckSpans.f k l size) (chk l size) := by
  unfold privilege_CheckSpans.f
  refine ev_bindc (In_is _ _ _) (ev_bindc (When_is _ _) (ev_bindc (When_is _ _) (Ev.bind (First_ev _ (by simp)) ?_)))
  unfold chk
  by_cases h1 : size < 0 ∨ size > 200000
  · have hb : (!(decide (0 ≤ size) && decide (size ≤ 200000))) = true := by simp; omega
    rw [if_pos h1]
    simp only [hb, if_true, firstOf]
    exact ev_neg (by simp) (ev_val (by simp))
  · have hb : (!(decide (0 ≤ size) && decide (size ≤ 200000))) = false := by simp; omega
    rw [if_neg h1]
    by_cases h2 : (l.length : Int) > 1000
    · rw [if_pos h2]
      simp only [hb, h2, decide_true, if_true, firstOf]
      exact ev_neg (by simp) (ev_val (by simp))
    · rw [if_neg h2]
      simp only [hb, h2, decide_false, firstOf]
      exact ev_pos (by simp) (check_loop l hl size _ 0 (Nat.le_refl _) (by omega))
theorem fault_loop (l : List S46) (hl : l.length < 1000000) (size : Int) (d : Nat) : ∀ j : Nat, l.length - j ≤ d → j ≤ l.length → Ev (fun k => chaseref1_SpansFault.l0 k l size l (l.length : Int) (j : Int)) (chkL size (prevOf l j) (l.drop j)) := by
  induction d with
  | zero =>
    intro j hd hj
    obtain rfl : j = l.length := by omega
    rw [List.drop_length]
    exact Ev.step (fun _ => chaseref1_SpansFault.l0.eq_2 ..) (ev_neg (by omega) (ev_val rfl))
  | succ d ih =>
    intro j hd hj
    by_cases hlt : j < l.length
    · have hw : wrap64 ((j : Int) + 1) = ((j + 1 : Nat) : Int) := by rw [wr64 (by omega) (by omega)]; omega
      have hn := ih (j + 1) (by omega) (by omega)
      rw [prev_succ l j hlt] at hn
      rw [List.drop_eq_getElem_cons hlt]
      refine Ev.step (fun _ => chaseref1_SpansFault.l0.eq_2 ..) (ev_pos (by omega) (ev_pos (by omega) (ev_pos (by omega) ?_)))
      rw [rdT_at l j hlt]
      generalize l[j] = s at *
      simp only [chkL]
      by_cases h1 : s.f0 < 0
      · rw [if_pos (.inl h1)]
        exact ev_pos h1 (Ev.step (fun _ => chaseref1_SpansFault.j2.eq_2 ..) (ev_pos rfl (ev_val rfl)))
      · refine ev_neg h1 ?_
        by_cases h2 : s.f0 ≥ s.f1
        · rw [if_pos (.inr (.inl h2))]
          exact ev_pos h2 (Ev.step (fun _ => chaseref1_SpansFault.j2.eq_2 ..) (ev_pos rfl (ev_val rfl)))
        · refine ev_neg h2 (Ev.step (fun _ => chaseref1_SpansFault.j2.eq_2 ..) ?_)
          by_cases h3 : s.f1 > size
          · rw [if_pos (.inr (.inr h3))]
            exact ev_pos (by simpa using h3) (ev_val rfl)
          · rw [if_neg (by rintro (h | h | h) <;> contradiction)]
            refine ev_neg (by simpa using h3) ?_
            rw [hw]
            rcases Nat.eq_zero_or_pos j with hj0 | hj0
            · subst hj0
              exact ev_neg (by omega) (ev_eq hn (by simp [prev_zero, afterB]))
            · have hp := prev_pos l j hj0
              have hm : wrap64 ((j : Int) - 1) = ((j - 1 : Nat) : Int) := by unfold wrap64; omega
              rw [hm, hp]
              refine ev_pos (by omega) (ev_pos (by omega) (ev_pos (by omega) ?_))
              by_cases h4 : s.f0 ≤ (rd_T46 l ((j - 1 : Nat) : Int)).f1
              · rw [if_pos (by simpa [afterB] using h4)]
                exact ev_pos h4 (ev_val rfl)
              · rw [if_neg (by simpa [afterB] using h4)]
                exact ev_neg h4 hn
    · obtain rfl : j = l.length := by omega
      exact ih _ (by omega) (by omega)
theorem SpansFault_ev (l : List S46) (hl : l.length < 1000000) (size : Int) : Ev (fun k => chaseref1_SpansFault.f k l size) (chk l size) := by
  unfold chaseref1_SpansFault.f chk
  by_cases h0 : size < 0
  · rw [if_pos (.inl h0)]
    exact ev_pos h0 (Ev.step (fun _ => chaseref1_SpansFault.j0.eq_2 ..) (ev_pos rfl (ev_val rfl)))
  · refine ev_neg h0 (Ev.step (fun _ => chaseref1_SpansFault.j0.eq_2 ..) ?_)
    by_cases h1 : size > 200000
    · rw [if_pos (.inr h1)]
      exact ev_pos (by simpa using h1) (ev_val rfl)
    · rw [if_neg (by omega)]
      refine ev_neg (by simpa using h1) ?_
      by_cases h2 : (l.length : Int) > 1000
      · rw [if_pos h2]
        exact ev_pos h2 (ev_val rfl)
      · rw [if_neg h2]
        exact ev_neg h2 (fault_loop l hl size _ 0 (Nat.le_refl _) (by omega))
theorem chkL_norm (size : Int) (l : List S46) : ∀ prev, chkL size prev l = 0 → ∃ m : List (Nat × Nat), l = m.map spn ∧ Norm m ∧ (∀ p ∈ m, (p.2 : Int) ≤ size) ∧ ∀ t, prev = some t → ∀ p ∈ m, t < (p.1 : Int) := by
  induction l with
  | nil => intro prev _; exact ⟨[], rfl, ⟨by simp, by simp⟩, by simp, by simp⟩
  | cons s l ih =>
    intro prev h
    simp only [chkL] at h
    by_cases h1 : s.f0 < 0 ∨ s.f0 ≥ s.f1 ∨ s.f1 > size
    · rw [if_pos h1] at h; exact absurd h (by decide)
    · rw [if_neg h1] at h
      by_cases h2 : afterB prev s.f0 = true
      · rw [if_pos h2] at h; exact absurd h (by decide)
      · rw [if_neg h2] at h
        obtain ⟨m, rfl, hm, hs, hp⟩ := ih _ h
        refine ⟨(s.f0.toNat, s.f1.toNat) :: m, ?_, ⟨fun p hq => ?_, List.pairwise_cons.2 ⟨fun q hq => ?_, hm.2⟩⟩, fun p hq => ?_, fun t ht p hq => ?_⟩
        · rw [List.map_cons]
          congr 1
          obtain ⟨a, b⟩ := s
          simp only [spn]
          congr 1 <;> (simp only at h1; omega)
        · rcases List.mem_cons.1 hq with rfl | hq
          · simp only; omega
          · exact hm.1 p hq
        · have := hp _ rfl q hq
          simp only; omega
        · rcases List.mem_cons.1 hq with rfl | hq
          · simp only; omega
          · exact hs p hq
        · subst ht
          have h3 : ¬ s.f0 ≤ t := by simpa [afterB] using h2
          rcases List.mem_cons.1 hq with rfl | hq
          · simp only; omega
          · have := hp _ rfl p hq; omega
theorem chk_norm {l : List S46} {size : Int} (h : chk l size = 0) : ∃ m : List (Nat × Nat), l = m.map spn ∧ Norm m ∧ (∀ p ∈ m, (p.2 : Int) ≤ size) ∧ 0 ≤ size ∧ size ≤ 200000 ∧ l.length ≤ 1000 := by
  unfold chk at h
  by_cases h1 : size < 0 ∨ size > 200000
  · rw [if_pos h1] at h; exact absurd h (by decide)
  · rw [if_neg h1] at h
    by_cases h2 : (l.length : Int) > 1000
    · rw [if_pos h2] at h; exact absurd h (by decide)
    · rw [if_neg h2] at h
      obtain ⟨m, e, hm, hs, _⟩ := chkL_norm size l none h
      exact ⟨m, e, hm, hs, by omega, by omega, by omega⟩
end Go.Proofs.YtbamfhcifpfocaaDoor.Pm
