/- Part of the proof that the law spansMixed is true for every input. No conditions. Laid by a program of this session over the kit's print and words; declarations that nothing names are left out. -/
import Derived.Test.YtbamfhcifpfocaaDoorZmUmSpans4
import Derived.Test.YtbamfhcifpfocaaDoorZmUmMakespans
import Derived.Test.YtbamfhcifpfocaaDoorZmUmPrivileges
import Derived.Test.YtbamfhcifpfocaaDoorZmPmx10
namespace Go.Proofs.YtbamfhcifpfocaaDoor.Pm
open Go.RowKit Go.Proofs.YtbamfhcifpfocaaDoor.GBase Go.Proofs.YtbamfhcifpfocaaDoorW.PrintWords Go.Proofs.YtbamfhcifpfocaaDoorW.PrintLast
set_option linter.unusedVariables false
set_option linter.unusedSimpArgs false
theorem nz_first {a b : Int} (h : ¬ (a = 0 ∧ b = 0)) : ¬ firstOf [a, b] = 0 := by
  simp only [firstOf]
  by_cases ha : a = 0
  · rw [if_pos ha]
    by_cases hb : b = 0
    · exact absurd ⟨ha, hb⟩ h
    · rw [if_neg hb]; exact hb
  · rw [if_neg ha]; exact ha
theorem Union_err (a b : List S46) (size : Int) (ha : a.length < 1000000) (hb : b.length < 1000000) (h : ¬ (chk a size = 0 ∧ chk b size = 0)) : Ev (fun k => privilege_Union.f k a b size) ([], firstOf [chk a size, chk b size]) := by
  unfold privilege_Union.f
  exact Ev.bind (CheckSpans_ev _ ha _) (Ev.bind (CheckSpans_ev _ hb _) (Ev.bind (First_ev _ (by simp)) (ev_neg (nz_first h) (ev_val rfl))))
theorem Without_err (a b : List S46) (size : Int) (ha : a.length < 1000000) (hb : b.length < 1000000) (h : ¬ (chk a size = 0 ∧ chk b size = 0)) : Ev (fun k => privilege_Without.f k a b size) ([], firstOf [chk a size, chk b size]) := by
  unfold privilege_Without.f
  exact Ev.bind (CheckSpans_ev _ ha _) (Ev.bind (CheckSpans_ev _ hb _) (Ev.bind (First_ev _ (by simp)) (ev_neg (nz_first h) (ev_val rfl))))
theorem Mixed_err (a b : List S46) (size : Int) (w : Bool) (ha : a.length < 1000000) (hb : b.length < 1000000) (h : ¬ (chk a size = 0 ∧ chk b size = 0)) : Ev (fun k => chaseref1_MixedOf.f k a b size w) ([], firstOf [chk a size, chk b size]) := by
  unfold chaseref1_MixedOf.f
  exact Ev.bind (SpansFault_ev _ ha _) (Ev.bind (SpansFault_ev _ hb _) (Ev.bind (OrFirst_ev _ _) (ev_neg (nz_first h) (ev_val rfl))))
theorem four_ev (a b : List S46) (size : Int) (ha : a.length ≤ 1000) (hb : b.length ≤ 1000) : ∃ u w : List S46 × Int, u.1.length ≤ 1000 ∧ w.1.length ≤ 1000 ∧
    Ev (fun k => privilege_Union.f k a b size) u ∧ Ev (fun k => privilege_Without.f k a b size) w ∧ Ev (fun k => chaseref1_MixedOf.f k a b size false) u ∧ Ev (fun k => chaseref1_MixedOf.f k a b size true) w := by
  have few_len : ∀ r : List S46, (fewL r).1.length ≤ 1000 := fun r => by
    unfold fewL
    split
    · simp
    · simp only; omega
  by_cases h : chk a size = 0 ∧ chk b size = 0
  · obtain ⟨h1, h2⟩ := h
    obtain ⟨m, rfl, hm, hms, hs0, hs1, _⟩ := chk_norm h1
    obtain ⟨q, rfl, hq, hqs, _, _, _⟩ := chk_norm h2
    obtain ⟨n, rfl⟩ := Int.eq_ofNat_of_zero_le hs0
    have hmv : ∀ p ∈ m, p.1 < p.2 ∧ p.2 ≤ n := fun p hp => ⟨hm.1 p hp, by have := hms p hp; omega⟩
    have hqv : ∀ p ∈ q, p.1 < p.2 ∧ p.2 ≤ n := fun p hp => ⟨hq.1 p hp, by have := hqs p hp; omega⟩
    have hin : ∀ {l : List (Nat × Nat)}, (∀ p ∈ l, p.1 < p.2 ∧ p.2 ≤ n) → ∀ i, ¬ i < n → cov l i = false := fun {l} hv i hi => by
      cases hc : cov l i with
      | false => rfl
      | true =>
        obtain ⟨p, hp, h3, h4⟩ := cov_iff.1 hc
        have := (hv p hp).2
        omega
    simp only [List.length_map] at ha hb
    obtain ⟨u, hu, uc, ue⟩ := Union_ev m q n (by omega) (by omega) (by omega) hmv hqv h1 h2
    obtain ⟨w, hw, wc, we⟩ := Without_ev m q n hm hq ha hb h1 h2
    obtain ⟨x, hx, xc, xe⟩ := Mixed_ev false m q n (by omega) (by omega) (by omega) hmv hqv h1 h2
    obtain ⟨y, hy, yc, ye⟩ := Mixed_ev true m q n (by omega) (by omega) (by omega) hmv hqv h1 h2
    have e1 : x = u := hx.unique hu (fun i => by
      rw [xc, uc]
      by_cases hi : i < n
      · simp [mixB, hi]
      · rw [hin hmv i hi, hin hqv i hi]; simp [hi])
    have e2 : y = w := hy.unique hw (fun i => by
      rw [yc, wc]
      by_cases hi : i < n
      · simp [mixB, hi]
      · rw [hin hmv i hi]; simp [hi])
    subst e1
    subst e2
    exact ⟨_, _, few_len _, few_len _, ue, we, xe, ye⟩
  · exact ⟨_, _, by simp, by simp, Union_err a b size (by omega) (by omega) h, Without_err a b size (by omega) (by omega) h, Mixed_err a b size false (by omega) (by omega) h, Mixed_err a b size true (by omega) (by omega) h⟩
theorem mixed_ev (l : List Int) (hl : Nums l) : Ev (fun k => chaselaw1_SpansMixed.f k l) true := by
  unfold chaselaw1_SpansMixed.f
  obtain ⟨size, _, hsz⟩ := Pick_is l 0 [0, 5, 20, 40, 200000, (-1), 200001] hl (by omega) (by omega) (by decide) (by decide)
  obtain ⟨a, a1, ha, al, _, _⟩ := AnySpans_ev l hl (0 + 1) (mx size 0) (by omega) (by omega)
  obtain ⟨b, b1, hb, bl, _, _⟩ := AnySpans_ev l hl a1 (mx size 0) (by omega) (by omega)
  obtain ⟨u, w, ul, wl, hu, hw, hx, hy⟩ := four_ev a b size (by omega) (by omega)
  refine ev_bindc hsz (Ev.bind ha (Ev.bind hb (Ev.bind (CheckSpans_ev a (by omega) size) (Ev.bind (SpansFault_ev a (by omega) size) (ev_pos rfl (Ev.bind hu (Ev.bind hw (Ev.bind hx (Ev.bind hy (Ev.bind privileges_ev (ev_pos rfl (ev_pos rfl (ev_pos rfl (Ev.bind (eqN_ev u.1 (by omega)) (ev_pos rfl (Ev.bind (eqN_ev w.1 (by omega)) ?_))))))))))))))))
  exact Ev.step (fun _ => chaselaw1_SpansMixed.j0.eq_2 ..) (ev_val rfl)
end Go.Proofs.YtbamfhcifpfocaaDoor.Pm
