/- Part of the proof that the law spansMixed is true for every input. No conditions. Laid by a program of this session over the kit's print and words; declarations that nothing names are left out. -/
import Derived.Test.YtbamfhcifpfocaaDoorZmUmSpans3
namespace Go.Proofs.YtbamfhcifpfocaaDoor.Pm
open Go.RowKit Go.Proofs.YtbamfhcifpfocaaDoor.GBase Go.Proofs.YtbamfhcifpfocaaDoorW.PrintWords Go.Proofs.YtbamfhcifpfocaaDoorW.PrintLast
set_option linter.unusedVariables false
set_option linter.unusedSimpArgs false
def fewL (l : List S46) : List S46 × Int := if (l.length : Int) > 1000 then ([], 2) else (l, 0)
theorem few_is (l : List S46) : privilege_few.f l = some (fewL l) := by
  unfold privilege_few.f fewL
  split <;> rfl
theorem bounded_is (l : List S46) : chaseref1_bounded.f l = some (fewL l) := by
  unfold chaseref1_bounded.f fewL
  split <;> rfl
def mixB (w a b : Bool) : Bool := if w = true then a && !b else a || b
theorem mixed_loop (w : Bool) (x y T : List Bool) (n : Nat) (hn : n ≤ 1000000) (hx : x.length = n) (hy : y.length = n) (hT : T.length = n) (hTg : ∀ i, i < n → T.getD i false = mixB w (x.getD i false) (y.getD i false))
    (R : List S46 × Int) (hR : Ev (fun k => (chaseref1_spansFrom.f k T).bind fun t => (chaseref1_bounded.f t).bind fun bt => some (bt.1, bt.2)) R) (d : Nat) :
    ∀ (j : Nat) (c : List Bool), n - j ≤ d → j ≤ n → c.length = n → (∀ i, j ≤ i → c.getD i false = x.getD i false) → (∀ i, i < j → c.getD i false = T.getD i false) →
    Ev (fun k => chaseref1_MixedOf.l0 k w c y (n : Int) (j : Int)) R := by
  have fin : ∀ c : List Bool, c.length = n → (∀ i, i < n → c.getD i false = T.getD i false) → Ev (fun k => chaseref1_MixedOf.l0 k w c y (n : Int) (n : Int)) R := fun c hc h => by
    have e : c = T := by
      apply List.ext_getElem (by omega)
      intro i h1 h2
      have := h i (by omega)
      simpa [List.getD_eq_getElem?_getD, h1, h2] using this
    subst e
    exact Ev.step (fun _ => chaseref1_MixedOf.l0.eq_2 ..) (ev_neg (by omega) hR)
  induction d with
  | zero =>
    intro j c hd hj hc _ h2
    obtain rfl : j = n := by omega
    exact fin c hc h2
  | succ d ih =>
    intro j c hd hj hc h1 h2
    by_cases hlt : j < n
    · have hw : wrap64 ((j : Int) + 1) = ((j + 1 : Nat) : Int) := by rw [wr64 (by omega) (by omega)]; omega
      have hcj : rdOf false c (j : Int) = x.getD j false := by
        rw [← h1 j (Nat.le_refl _)]
        simp [rdOf]
      have hyj : rdOf false y (j : Int) = y.getD j false := by simp [rdOf]
      have hTj := hTg j hlt
      have next : ∀ v : Bool, v = T.getD j false → Ev (fun k => chaseref1_MixedOf.l0 k w (c.set j v) y (n : Int) ((j + 1 : Nat) : Int)) R := fun v hv => by
        refine ih (j + 1) _ (by omega) (by omega) (by rw [List.length_set]; exact hc) (fun i hi => ?_) (fun i hi => ?_)
        · rw [List.getD_eq_getElem?_getD, List.getElem?_set_ne (by omega), ← List.getD_eq_getElem?_getD]
          exact h1 i (by omega)
        · by_cases e : i = j
          · subst e
            rw [← hv, List.getD_eq_getElem?_getD, List.getElem?_set_self (by omega)]
            rfl
          · rw [List.getD_eq_getElem?_getD, List.getElem?_set_ne (by omega), ← List.getD_eq_getElem?_getD]
            exact h2 i (by omega)
      refine Ev.step (fun _ => chaseref1_MixedOf.l0.eq_2 ..) (ev_pos (by omega) ?_)
      rw [hcj, hyj, hw, Int.toNat_natCast]
      cases w with
      | true =>
        refine ev_pos rfl (ev_pos (by omega) (ev_pos (by omega) ?_))
        by_cases hxj : x.getD j false = true
        · refine ev_pos hxj (ev_pos (by omega) (next _ ?_))
          rw [hTj, hxj]
          simp [mixB]
        · refine ev_neg hxj (next _ ?_)
          have : x.getD j false = false := by simpa using hxj
          rw [hTj, this]
          simp [mixB]
      | false =>
        refine ev_neg (by simp) (ev_pos (by omega) (ev_pos (by omega) ?_))
        by_cases hxj : x.getD j false = true
        · refine ev_pos hxj (next _ ?_)
          rw [hTj, hxj]
          simp [mixB]
        · refine ev_neg hxj (ev_pos (by omega) (next _ ?_))
          have : x.getD j false = false := by simpa using hxj
          rw [hTj, this]
          simp [mixB]
    · obtain rfl : j = n := by omega
      exact fin c hc h2
theorem OrFirst_ev (a b : Int) : Ev (fun k => api_Errno.f k [a, b]) (firstOf [a, b]) := by
  have hl : (([a, b] : List Int).length : Int) = 2 := rfl
  have r0 : rd [a, b] 0 = a := rfl
  have r1 : rd [a, b] 1 = b := rfl
  have e0 : wrap64 ((0 : Int) + 1) = 1 := by rw [wr64 (by omega) (by omega)]; rfl
  have e1 : wrap64 ((1 : Int) + 1) = 2 := by rw [wr64 (by omega) (by omega)]; rfl
  unfold api_Errno.f
  rw [hl]
  refine Ev.step (fun _ => api_Errno.l0.eq_2 ..) (ev_pos (by decide) (ev_pos (by decide) (ev_pos (by rw [hl]; decide) ?_)))
  rw [r0, e0]
  by_cases ha : a = 0
  · refine ev_pos ha (Ev.step (fun _ => api_Errno.l0.eq_2 ..) (ev_pos (by decide) (ev_pos (by decide) (ev_pos (by rw [hl]; decide) ?_))))
    rw [r1, e1]
    by_cases hb : b = 0
    · exact ev_pos hb (Ev.step (fun _ => api_Errno.l0.eq_2 ..) (ev_neg (by decide) (ev_val (by simp [firstOf, ha, hb]))))
    · exact ev_neg hb (ev_val (by simp [firstOf, ha, hb]))
  · exact ev_neg ha (ev_val (by simp [firstOf, ha]))
theorem Mixed_ev (w : Bool) (a b : List (Nat × Nat)) (n : Nat) (hn : n ≤ 1000000) (ha : a.length ≤ 100000) (hb : b.length ≤ 100000) (hav : ∀ p ∈ a, p.1 < p.2 ∧ p.2 ≤ n) (hbv : ∀ p ∈ b, p.1 < p.2 ∧ p.2 ≤ n) (h1 : chk (a.map spn) n = 0) (h2 : chk (b.map spn) n = 0) :
    ∃ r : List (Nat × Nat), Norm r ∧ (∀ i, cov r i = (decide (i < n) && mixB w (cov a i) (cov b i))) ∧ Ev (fun k => chaseref1_MixedOf.f k (a.map spn) (b.map spn) (n : Int) w) (fewL (r.map spn)) := by
  have hT : ((List.range n).map fun i => mixB w (cov a i) (cov b i)).length = n := by simp
  obtain ⟨r, hr, hr1, hr2⟩ := from_ev ((List.range n).map fun i => mixB w (cov a i) (cov b i)) (by omega)
  have hg : ∀ i, i < n → ((List.range n).map fun i => mixB w (cov a i) (cov b i)).getD i false = mixB w (cov a i) (cov b i) := fun i hi => by simp [List.getD_eq_getElem?_getD, hi]
  have hm : ∀ (m : List (Nat × Nat)) i, i < n → (marks m n).getD i false = cov m i := fun m i hi => by simp [marks, List.getD_eq_getElem?_getD, hi]
  refine ⟨r, hr1, fun i => ?_, ?_⟩
  · rw [hr2]
    by_cases hi : i < n
    · rw [hg i hi]; simp [hi]
    · rw [List.getD_eq_getElem?_getD, List.getElem?_eq_none (by omega)]; simp [hi]
  · unfold chaseref1_MixedOf.f
    refine Ev.bind (SpansFault_ev _ (by simp; omega) _) (Ev.bind (SpansFault_ev _ (by simp; omega) _) (Ev.bind (OrFirst_ev _ _) ?_))
    rw [h1, h2]
    refine ev_pos (by simp [firstOf]) (Ev.bind (painted_ev a (by omega) n hn hav) (Ev.bind (painted_ev b (by omega) n hn hbv) ?_))
    rw [marks_length]
    refine mixed_loop w (marks a n) (marks b n) _ n hn (marks_length _ _) (marks_length _ _) hT (fun i hi => by rw [hg i hi, hm a i hi, hm b i hi]) _ ?_ _ 0 _ (Nat.le_refl _) (by omega) (marks_length _ _) (fun i _ => rfl) (fun i h => absurd h (by omega))
    exact Ev.bind hr (ev_bindc (bounded_is _) (ev_val rfl))
theorem Union_ev (a b : List (Nat × Nat)) (n : Nat) (hn : n ≤ 1000000) (ha : a.length ≤ 100000) (hb : b.length ≤ 100000) (hav : ∀ p ∈ a, p.1 < p.2 ∧ p.2 ≤ n) (hbv : ∀ p ∈ b, p.1 < p.2 ∧ p.2 ≤ n) (h1 : chk (a.map spn) n = 0) (h2 : chk (b.map spn) n = 0) :
    ∃ r : List (Nat × Nat), Norm r ∧ (∀ i, cov r i = (cov a i || cov b i)) ∧ Ev (fun k => privilege_Union.f k (a.map spn) (b.map spn) (n : Int)) (fewL (r.map spn)) := by
  obtain ⟨r, hr, hr1, hr2⟩ := put_ev (a ++ b) (by simp; omega) (fun p hp => by
    rcases List.mem_append.1 hp with h | h
    · exact (hav p h).1
    · exact (hbv p h).1) (fun p hp => by
    rcases List.mem_append.1 hp with h | h
    · have := (hav p h).2; omega
    · have := (hbv p h).2; omega)
  refine ⟨r, hr1, fun i => by rw [hr2, cov_append], ?_⟩
  unfold privilege_Union.f
  refine Ev.bind (CheckSpans_ev _ (by simp; omega) _) (Ev.bind (CheckSpans_ev _ (by simp; omega) _) (Ev.bind (First_ev _ (by simp)) ?_))
  rw [h1, h2]
  refine ev_pos (by simp [firstOf]) (Ev.bind (Concat_ev _ _ (by simp; omega) (by simp; omega)) ?_)
  rw [← List.map_append]
  exact Ev.bind hr (ev_bindc (few_is _) (ev_val rfl))
theorem outR_len (t : Nat) (b : List (Nat × Nat)) : ∀ (acc : List (Nat × Nat)) (a : Nat), (outR t acc a b).length ≤ acc.length + b.length + 1 := by
  induction b with
  | nil => intro acc a; simp only [outR]; split <;> simp
  | cons x b ih =>
    intro acc a
    simp only [outR, List.length_cons]
    split
    · have := ih acc a; omega
    · split
      · have := ih ((a, x.1) :: acc) x.2; simp only [List.length_cons] at this; omega
      · have := ih acc x.2; omega
theorem snoc_spn (o : List (Nat × Nat)) (a t : Nat) : o.reverse.map spn ++ [(⟨(a : Int), (t : Int)⟩ : S46)] = (((a, t) :: o).reverse).map spn := by
  rw [List.reverse_cons, List.map_append]
  rfl
theorem out_in (A : List S46) (m : Int) (b : List (Nat × Nat)) (hb : b.length ≤ 1000000) (j : Nat) (hj : j < 1000000) (s0 : Int) (t : Nat) (R : List S46 × Int) (d : Nat) : ∀ (i : Nat) (acc : List (Nat × Nat)) (a : Nat), b.length - i ≤ d → i ≤ b.length → acc.length + (b.length - i) ≤ 4000000000000 →
    Ev (fun k => privilege_Without.l0 k (b.map spn) ((outR t acc a (b.drop i)).reverse.map spn) A m ((j + 1 : Nat) : Int)) R →
    Ev (fun k => privilege_Without.l1 k (b.map spn) (acc.reverse.map spn) (a : Int) A m (j : Int) (b.map spn) ((b.map spn).length : Int) (i : Int) s0 (t : Int)) R := by
  have hwj : wrap64 ((j : Int) + 1) = ((j + 1 : Nat) : Int) := by rw [wr64 (by omega) (by omega)]; omega
  have fin : ∀ (acc : List (Nat × Nat)) (a : Nat), acc.length ≤ 4000000000000 → Ev (fun k => privilege_Without.l0 k (b.map spn) ((outR t acc a []).reverse.map spn) A m ((j + 1 : Nat) : Int)) R →
      Ev (fun k => privilege_Without.l1 k (b.map spn) (acc.reverse.map spn) (a : Int) A m (j : Int) (b.map spn) ((b.map spn).length : Int) (b.length : Int) s0 (t : Int)) R := fun acc a ha h => by
    simp only [outR] at h
    refine Ev.step (fun _ => privilege_Without.l1.eq_2 ..) (ev_neg (by simp) ?_)
    rw [hwj]
    by_cases hlt : a < t
    · rw [if_pos hlt] at h
      refine ev_pos (by omega) (ev_pos (by simp; omega) ?_)
      rw [snoc_spn]
      exact h
    · rw [if_neg hlt] at h
      exact ev_neg (by omega) h
  induction d with
  | zero =>
    intro i acc a hd hi ha h
    obtain rfl : i = b.length := by omega
    rw [List.drop_length] at h
    exact fin acc a (by omega) h
  | succ d ih =>
    intro i acc a hd hi ha h
    by_cases hlt : i < b.length
    · have hwi : wrap64 ((i : Int) + 1) = ((i + 1 : Nat) : Int) := by rw [wr64 (by omega) (by omega)]; omega
      have hlen : ((b.map spn).length : Int) = (b.length : Int) := by simp
      rw [List.drop_eq_getElem_cons hlt] at h
      refine Ev.step (fun _ => privilege_Without.l1.eq_2 ..) (ev_pos (by omega) (ev_pos (by omega) (ev_pos (by omega) ?_)))
      rw [rdT_spn b i hlt]
      generalize b[i] = x at *
      simp only [outR] at h
      have skip : (x.2 ≤ a ∨ x.1 ≥ t) → Ev (fun k => privilege_Without.j2 k (b.map spn) (acc.reverse.map spn) (a : Int) A m (j : Int) (b.map spn) ((b.map spn).length : Int) (i : Int) true s0 (t : Int) (spn x).f0 (spn x).f1) R := fun hs => by
        rw [if_pos hs] at h
        refine Ev.step (fun _ => privilege_Without.j2.eq_2 ..) (ev_pos rfl ?_)
        rw [hwi]
        exact ih (i + 1) acc a (by omega) (by omega) (by omega) h
      by_cases h1 : x.2 ≤ a
      · exact ev_pos (by simp only [spn]; omega) (skip (.inl h1))
      · refine ev_neg (by simp only [spn]; omega) ?_
        by_cases h2 : x.1 ≥ t
        · have : decide ((spn x).f0 ≥ (t : Int)) = true := by simp [spn]; omega
          rw [this]
          exact skip (.inr h2)
        · have : decide ((spn x).f0 ≥ (t : Int)) = false := by simp [spn]; omega
          rw [this]
          rw [if_neg (by omega)] at h
          refine Ev.step (fun _ => privilege_Without.j2.eq_2 ..) (ev_neg (by simp) ?_)
          rw [hwi]
          by_cases h3 : x.1 > a
          · rw [if_pos h3] at h
            refine ev_pos (by simp only [spn]; omega) (ev_pos (by simp; omega) ?_)
            have e : (⟨(a : Int), (spn x).f0⟩ : S46) = ⟨(a : Int), (x.1 : Int)⟩ := rfl
            rw [e, snoc_spn]
            exact ih (i + 1) ((a, x.1) :: acc) x.2 (by omega) (by omega) (by simp only [List.length_cons]; omega) h
          · rw [if_neg h3] at h
            refine ev_neg (by simp only [spn]; omega) ?_
            exact ih (i + 1) acc x.2 (by omega) (by omega) (by omega) h
    · obtain rfl : i = b.length := by omega
      exact ih _ acc a (by omega) (by omega) ha h
theorem out_loop (a b : List (Nat × Nat)) (ha : a.length ≤ 1000) (hb : b.length ≤ 1000) (d : Nat) : ∀ (j : Nat) (acc : List (Nat × Nat)), a.length - j ≤ d → j ≤ a.length → acc.length ≤ j * 1001 →
    Ev (fun k => privilege_Without.l0 k (b.map spn) (acc.reverse.map spn) (a.map spn) (a.length : Int) (j : Int)) (fewL ((outAll b acc (a.drop j)).reverse.map spn)) := by
  induction d with
  | zero =>
    intro j acc hd hj _
    obtain rfl : j = a.length := by omega
    rw [List.drop_length]
    exact Ev.step (fun _ => privilege_Without.l0.eq_2 ..) (ev_neg (by omega) (ev_bindc (few_is _) (ev_val rfl)))
  | succ d ih =>
    intro j acc hd hj hacc
    by_cases hlt : j < a.length
    · have hlen : ((a.map spn).length : Int) = (a.length : Int) := by simp
      rw [List.drop_eq_getElem_cons hlt]
      refine Ev.step (fun _ => privilege_Without.l0.eq_2 ..) (ev_pos (by omega) (ev_pos (by omega) (ev_pos (by omega) ?_)))
      rw [rdT_spn a j hlt]
      have hl := outR_len a[j].2 b acc a[j].1
      refine out_in (a.map spn) _ b (by omega) j (by omega) _ a[j].2 _ _ 0 acc a[j].1 (Nat.le_refl _) (by omega) (by omega) ?_
      rw [List.drop_zero]
      exact ih (j + 1) _ (by omega) (by omega) (by omega)
    · obtain rfl : j = a.length := by omega
      exact ih _ acc (by omega) (by omega) hacc
theorem Without_ev (a b : List (Nat × Nat)) (n : Nat) (ha : Norm a) (hb : Norm b) (hal : a.length ≤ 1000) (hbl : b.length ≤ 1000) (h1 : chk (a.map spn) n = 0) (h2 : chk (b.map spn) n = 0) :
    ∃ r : List (Nat × Nat), Norm r ∧ (∀ i, cov r i = (cov a i && !cov b i)) ∧ Ev (fun k => privilege_Without.f k (a.map spn) (b.map spn) (n : Int)) (fewL (r.map spn)) := by
  obtain ⟨p1, p2⟩ := outAll_law b hb a [] ha ⟨by simp, by simp⟩ (by simp)
  refine ⟨(outAll b [] a).reverse, p1.norm, fun i => by rw [cov_reverse, p2, cov_nil]; simp, ?_⟩
  unfold privilege_Without.f
  refine Ev.bind (CheckSpans_ev _ (by simp; omega) _) (Ev.bind (CheckSpans_ev _ (by simp; omega) _) (Ev.bind (First_ev _ (by simp)) ?_))
  rw [h1, h2]
  refine ev_pos (by simp [firstOf]) ?_
  have := out_loop a b hal hbl _ 0 [] (Nat.le_refl _) (by omega) (by simp)
  simpa using this
theorem eqN_loop (l : List S46) (hn : l.length ≤ 1048577) (d : Nat) : ∀ j : Nat, l.length - j ≤ d → j ≤ l.length → Ev (fun k => api_Span_27.l0 k l l (l.length : Int) (j : Int)) true := by
  induction d with
  | zero => intro j hd hj; exact Ev.step (fun _ => api_Span_27.l0.eq_2 ..) (ev_neg (by omega) (ev_val rfl))
  | succ d ih =>
    intro j hd hj
    by_cases hlt : j < l.length
    · have hw : wrap64 ((j : Int) + 1) = ((j + 1 : Nat) : Int) := by rw [wr64 (by omega) (by omega)]; omega
      refine Ev.step (fun _ => api_Span_27.l0.eq_2 ..) (ev_pos (by omega) (ev_pos (by omega) (ev_pos (by omega) (ev_pos (by omega) (ev_neg (by simp) ?_)))))
      rw [hw]
      exact ih (j + 1) (by omega) (by omega)
    · exact Ev.step (fun _ => api_Span_27.l0.eq_2 ..) (ev_neg (by omega) (ev_val rfl))
theorem eqN_ev (l : List S46) (hn : l.length ≤ 1048577) : Ev (fun k => api_Span_27.f k l l) true := by
  unfold api_Span_27.f
  exact ev_pos rfl (eqN_loop l hn _ 0 (Nat.le_refl _) (by omega))
end Go.Proofs.YtbamfhcifpfocaaDoor.Pm
