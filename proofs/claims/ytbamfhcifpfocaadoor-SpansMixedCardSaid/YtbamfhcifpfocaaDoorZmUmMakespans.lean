/- Part of the proof that the law spansMixed is true for every input. No conditions. Laid by a program of this session over the kit's print and words; declarations that nothing names are left out. -/
import Derived.Test.YtbamfhcifpfocaaDoorZmUmStream
import Derived.Test.YtbamfhcifpfocaaDoorZmPmx5
namespace Go.Proofs.YtbamfhcifpfocaaDoor.Pm
open Go.RowKit Go.Proofs.YtbamfhcifpfocaaDoor.GBase Go.Proofs.YtbamfhcifpfocaaDoorW.PrintWords Go.Proofs.YtbamfhcifpfocaaDoorW.PrintLast
set_option linter.unusedVariables false
set_option linter.unusedSimpArgs false
theorem SpanList_loop (l : List Int) (hl : Nums l) (size n : Int) (d : Nat) (hd5 : d ≤ 100) : ∀ (i at_ x6 : Int) (x5 : List S46), 0 ≤ i → n - i ≤ d → i + d ≤ 1000 → x5.length + d ≤ 1000 → 0 ≤ at_ → at_ < 1099511627776 - 2 * (d + 1) →
    ∃ (r : List S46) (a' : Int), Ev (fun k => chasemake_Stream_SpanList.l0 k size x5 x6 n i l at_) (r, a') ∧ r.length ≤ x5.length + d ∧ at_ ≤ a' ∧ a' ≤ at_ + 2 * d := by
  induction d with
  | zero =>
    intro i at_ x6 x5 h0 hn hi h5 ha hb
    exact ⟨x5, at_, Ev.step (fun _ => chasemake_Stream_SpanList.l0.eq_2 ..) (ev_neg (by omega) (ev_val rfl)), by omega, by omega, by omega⟩
  | succ d ih =>
    intro i at_ x6 x5 h0 hn hi h5 ha hb
    by_cases hlt : i < n
    · obtain ⟨p, _, hp⟩ := Pick_is l at_ [0, 1, 2, 5] hl ha (by omega) (by decide) (by decide)
      obtain ⟨q, _, hq⟩ := Pick_is l (at_ + 1) [1, 1, 2, 4, 9] hl (by omega) (by omega) (by decide) (by decide)
      by_cases hbig : (wrap64 ((wrap64 (x6 + p)) + q)) > size
      · exact ⟨x5, at_ + 1 + 1, Ev.step (fun _ => chasemake_Stream_SpanList.l0.eq_2 ..) (ev_pos hlt (ev_bindc hp (ev_bindc hq (ev_pos hbig (ev_val rfl))))), by omega, by omega, by omega⟩
      · have hw : wrap64 (i + 1) = i + 1 := wr64 (by omega) (by omega)
        obtain ⟨r, a', hr, h1, h2, h3⟩ := ih (by omega) (i + 1) (at_ + 1 + 1) (wrap64 ((wrap64 ((wrap64 (x6 + p)) + q)) + 1)) (x5 ++ [⟨wrap64 (x6 + p), wrap64 ((wrap64 (x6 + p)) + q)⟩]) (by omega) (by omega) (by omega) (by simp only [List.length_append, List.length_singleton]; omega) (by omega) (by omega)
        refine ⟨r, a', Ev.step (fun _ => chasemake_Stream_SpanList.l0.eq_2 ..) (ev_pos hlt (ev_bindc hp (ev_bindc hq (ev_neg hbig (ev_pos (by omega) ?_))))), by simp only [List.length_append, List.length_singleton] at h1; omega, by omega, by omega⟩
        rw [hw]
        exact hr
    · exact ⟨x5, at_, Ev.step (fun _ => chasemake_Stream_SpanList.l0.eq_2 ..) (ev_neg hlt (ev_val rfl)), by omega, by omega, by omega⟩
theorem SpanList_ev (l : List Int) (hl : Nums l) (at_ size : Int) (h0 : 0 ≤ at_) (h1 : at_ < 1099511627000) :
    ∃ (r : List S46) (a' : Int), Ev (fun k => chasemake_Stream_SpanList.f k l at_ size) (r, a') ∧ r.length ≤ 5 ∧ at_ ≤ a' ∧ a' ≤ at_ + 11 := by
  obtain ⟨n, hn, n0, n1, _⟩ := Next_is l at_ 5 hl h0 (by omega) (by omega)
  have n2 := n1 (by omega)
  obtain ⟨r, a', hr, g1, g2, g3⟩ := SpanList_loop l hl size n 5 (by omega) 0 (at_ + 1) 0 [] (by omega) (by omega) (by omega) (by simp) (by omega) (by omega)
  refine ⟨r, a', ?_, by simpa using g1, by omega, by omega⟩
  unfold chasemake_Stream_SpanList.f
  exact ev_bindc hn hr
theorem AnySpans_ev (l : List Int) (hl : Nums l) (at_ size : Int) (h0 : 0 ≤ at_) (h1 : at_ < 1099511627000) :
    ∃ (r : List S46) (a' : Int), Ev (fun k => chasemake_Stream_AnySpans.f k l at_ size) (r, a') ∧ r.length ≤ 6 ∧ at_ ≤ a' ∧ a' ≤ at_ + 14 := by
  obtain ⟨r, a1, hr, g1, g2, g3⟩ := SpanList_ev l hl at_ size h0 h1
  obtain ⟨b, hb⟩ := Flip_is l a1 10 hl (by omega) (by omega) (by omega)
  unfold chasemake_Stream_AnySpans.f
  by_cases hbt : b = true
  · obtain ⟨p, _, hp⟩ := Pick_is l (a1 + 1) [(-1), 0, size, wrap64 (size - 1)] hl (by omega) (by omega) (by simp) (by simp)
    obtain ⟨q, _, hq⟩ := Pick_is l (a1 + 1 + 1) [0, size, wrap64 (size + 1)] hl (by omega) (by omega) (by simp) (by simp)
    exact ⟨r ++ [⟨p, q⟩], a1 + 1 + 1 + 1, Ev.bind hr (ev_bindc hb (ev_pos hbt (ev_bindc hp (ev_bindc hq (ev_pos (by simp only; omega) (ev_val rfl)))))), by simp; omega, by omega, by omega⟩
  · exact ⟨r, a1 + 1, Ev.bind hr (ev_bindc hb (ev_neg hbt (ev_val rfl))), by omega, by omega, by omega⟩
end Go.Proofs.YtbamfhcifpfocaaDoor.Pm
