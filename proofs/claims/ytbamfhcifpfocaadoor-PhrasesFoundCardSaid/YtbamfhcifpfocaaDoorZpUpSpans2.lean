/- Part of the proof that the law phrasesFound is true for every input. No conditions. Laid by a program of this session over the kit's print and words; declarations that nothing names are left out. -/
import Derived.Test.YtbamfhcifpfocaaDoorZpUpSpans
namespace Go.Proofs.YtbamfhcifpfocaaDoor.Pp
open Go.RowKit Go.Proofs.YtbamfhcifpfocaaDoor.GBase Go.Proofs.YtbamfhcifpfocaaDoorW.PrintWords Go.Proofs.YtbamfhcifpfocaaDoorW.PrintLast
set_option linter.unusedVariables false
set_option linter.unusedSimpArgs false
theorem sort_is (l : List S46) (h : ∀ x ∈ l, 0 ≤ x.f0 ∧ x.f0 ≤ 1099511627776) (hl : l.length < 4611686018427387904) :
    ∃ r, api_Span_141.f l 142 = some r ∧ r.Perm l ∧ r.Pairwise (fun x y => x.f0 ≤ y.f0) := by
  unfold api_Span_141.f
  have hc : 142 = 142 ∧ (∀ x ∈ l, api_Span_141.ok x) ∧ l.length < 4611686018427387904 := ⟨rfl, h, hl⟩
  rw [dif_pos hc]
  obtain ⟨L, hL⟩ : ∃ L, l.attachWith api_Span_141.ok hc.2.1 = L := ⟨_, rfl⟩
  have hm : L.map (fun x => x.1) = l := by rw [← hL]; simp
  rw [hL]
  have hP := Go.Sort.pdq_sorts (ltOf api_Span_141.cf) api_Span_141.swo L.toArray 0 L.toArray.size (Lib.bitLen L.toArray.size) true true (Nat.zero_le _) (Nat.le_refl _) (Or.inl rfl)
  generalize Go.Sort.pdq (ltOf api_Span_141.cf) L.toArray 0 L.toArray.size (Lib.bitLen L.toArray.size) true true = d' at hP
  obtain ⟨⟨hsz, _, hperm⟩, hsort⟩ := hP
  refine ⟨_, rfl, ?_, ?_⟩
  · rw [← hm]
    refine List.Perm.map _ ?_
    have e1 : (d'.extract 0 L.toArray.size).toList = d'.toList := by
      rw [← hsz]
      simp
    have e2 : (L.toArray.extract 0 L.toArray.size).toList = L := by simp
    rw [e1, e2] at hperm
    exact hperm
  · rw [List.pairwise_map, List.pairwise_iff_getElem]
    intro i j hi hj hij
    have hi' : i < d'.size := by simpa using hi
    have hj' : j < d'.size := by simpa using hj
    have hs := hsort i j (Nat.zero_le _) hij (by omega)
    rw [getElem!_pos d' i hi', getElem!_pos d' j hj'] at hs
    have h2 : ¬ (d'[j].1.f0 - d'[i].1.f0 < 0) := of_decide_eq_false hs
    simp only [Array.getElem_toList]
    omega
theorem perm_spn {r : List S46} {m : List (Nat × Nat)} (h : r.Perm (m.map spn)) : ∃ q : List (Nat × Nat), r = q.map spn ∧ q.Perm m := by
  refine ⟨r.map fun s => (s.f0.toNat, s.f1.toNat), ?_, ?_⟩
  · rw [List.map_map]
    refine (List.map_id r).symm.trans (List.map_congr_left fun s hs => ?_)
    obtain ⟨p, _, rfl⟩ := List.mem_map.1 (h.mem_iff.1 hs)
    simp [spn]
  · have := h.map fun s : S46 => (s.f0.toNat, s.f1.toNat)
    rw [List.map_map] at this
    have e : m.map ((fun s : S46 => (s.f0.toNat, s.f1.toNat)) ∘ spn) = m := (List.map_congr_left (fun p _ => by simp [spn])).trans (List.map_id m)
    rwa [e] at this
theorem rd_last (o : List (Nat × Nat)) (p : Nat × Nat) : rd_T46 (((p :: o).reverse).map spn) (((((p :: o).reverse).map spn).length - 1 : Nat) : Int) = spn p := by
  have h : (((p :: o).reverse).map spn).length = o.length + 1 := by simp
  rw [rdT_at _ _ (by omega)]
  simp
theorem set_last (o : List (Nat × Nat)) (p q : Nat × Nat) : (((p :: o).reverse).map spn).set ((((p :: o).reverse).map spn).length - 1) (spn q) = ((q :: o).reverse).map spn := by
  simp only [List.reverse_cons, List.map_append, List.map_cons, List.map_nil, List.length_append, List.length_map, List.length_reverse, List.length_singleton, Nat.add_sub_cancel]
  rw [List.set_append_right _ _ (by simp)]
  simp
theorem put_loop (q : List (Nat × Nat)) (hq : q.length ≤ 1000000) (d : Nat) : ∀ (j : Nat) (o : List (Nat × Nat)), q.length - j ≤ d → j ≤ q.length → o.length ≤ j →
    Ev (fun k => privilege_put.l0 k (o.reverse.map spn) (q.map spn) (q.length : Int) (j : Int)) ((putR o (q.drop j)).reverse.map spn) := by
  induction d with
  | zero =>
    intro j o hd hj ho
    obtain rfl : j = q.length := by omega
    rw [List.drop_length]
    exact Ev.step (fun _ => privilege_put.l0.eq_2 ..) (ev_neg (by omega) (ev_val (by cases o <;> rfl)))
  | succ d ih =>
    intro j o hd hj ho
    by_cases hlt : j < q.length
    · have hw : wrap64 ((j : Int) + 1) = ((j + 1 : Nat) : Int) := by rw [wr64 (by omega) (by omega)]; omega
      have hlen : ((q.map spn).length : Int) = (q.length : Int) := by simp
      rw [List.drop_eq_getElem_cons hlt]
      refine Ev.step (fun _ => privilege_put.l0.eq_2 ..) (ev_pos (by omega) (ev_pos (by omega) (ev_pos (by omega) ?_)))
      rw [rdT_spn q j hlt, hw]
      generalize q[j] = s at *
      cases o with
      | nil =>
        have e : wrap64 ((((([] : List (Nat × Nat)).reverse.map spn).length : Nat) : Int) - 1) = -1 := by
          show wrap64 ((0 : Int) - 1) = -1
          rw [wr64 (by omega) (by omega)]
          rfl
        rw [e]
        refine ev_neg (by decide) (ev_pos (by simp) ?_)
        exact ih (j + 1) [s] (by omega) (by omega) (by simp)
      | cons p o =>
        have hlo : (((p :: o).reverse).map spn).length = o.length + 1 := by simp
        have e : wrap64 (((((p :: o).reverse.map spn).length : Nat) : Int) - 1) = (((((p :: o).reverse).map spn).length - 1 : Nat) : Int) := by
          rw [hlo]
          simp only [List.length_cons] at ho
          rw [wr64 (by omega) (by omega)]
          omega
        rw [e]
        refine ev_pos (by omega) (ev_pos (by omega) (ev_pos (by omega) ?_))
        rw [rd_last, Int.toNat_natCast]
        simp only [putR]
        by_cases hle : s.1 ≤ p.2
        · rw [if_pos hle]
          refine ev_pos (by simp only [spn]; omega) ?_
          have hm : (⟨(spn p).f0, mx (spn p).f1 (spn s).f1⟩ : S46) = spn (p.1, max p.2 s.2) := by
            simp only [spn]
            congr 1
            unfold mx
            split <;> omega
          rw [hm, set_last]
          exact ih (j + 1) ((p.1, max p.2 s.2) :: o) (by omega) (by omega) (by simpa using Nat.le_trans ho (Nat.le_succ j))
        · rw [if_neg hle]
          refine ev_neg (by simp only [spn]; omega) (ev_pos (by rw [hlo]; simp only [List.length_cons] at ho; omega) ?_)
          have ha : ((p :: o).reverse).map spn ++ [(⟨(spn s).f0, (spn s).f1⟩ : S46)] = ((s :: p :: o).reverse).map spn := by
            rw [List.reverse_cons (a := s), List.map_append]
            rfl
          rw [ha]
          exact ih (j + 1) (s :: p :: o) (by omega) (by omega) (by simpa using ho)
    · obtain rfl : j = q.length := by omega
      exact ih _ o (by omega) (by omega) ho
theorem put_ev (m : List (Nat × Nat)) (hm : m.length ≤ 1000000) (hv : ∀ p ∈ m, p.1 < p.2) (hb : ∀ p ∈ m, p.2 ≤ 1000000) :
    ∃ r : List (Nat × Nat), Ev (fun k => privilege_put.f k (m.map spn)) (r.map spn) ∧ Norm r ∧ ∀ i, cov r i = cov m i := by
  obtain ⟨x, hx, hp, hs⟩ := sort_is (m.map spn) (fun x hx => by
    obtain ⟨p, hp, rfl⟩ := List.mem_map.1 hx
    have h1 := hv p hp
    have h2 := hb p hp
    simp only [spn]
    omega) (by simp; omega)
  obtain ⟨q, rfl, hq⟩ := perm_spn hp
  have hlen : q.length = m.length := hq.length_eq
  have hs2 : q.Pairwise (fun a b => a.1 ≤ b.1) := by
    rw [List.pairwise_map] at hs
    exact hs.imp fun {a b} h => by simp only [spn] at h; omega
  obtain ⟨h1, h2⟩ := putR_law q [] ⟨by simp, by simp⟩ (fun s hsq => hv s (hq.mem_iff.1 hsq)) hs2 (by simp)
  refine ⟨(putR [] q).reverse, ?_, h1.norm, fun i => ?_⟩
  · unfold privilege_put.f
    refine ev_bindc hx ?_
    have := put_loop q (by omega) _ 0 [] (Nat.le_refl _) (by omega) (by simp)
    simpa [hlen] using this
  · rw [cov_reverse, h2, cov_nil, Bool.false_or]
    exact cov_perm hq i
end Go.Proofs.YtbamfhcifpfocaaDoor.Pp
