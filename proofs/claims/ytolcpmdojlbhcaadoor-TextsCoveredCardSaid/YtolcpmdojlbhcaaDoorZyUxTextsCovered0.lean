/- A part of the proof of textsCovered. No conditions. Laid by program over the kit's print and words. -/
import Derived.Test.YtolcpmdojlbhcaaDoorZyUAll
import Derived.Test.YtolcpmdojlbhcaaDoorZyPxx16
namespace Go.Proofs.YtolcpmdojlbhcaaDoor.Px
open Go.RowKit Go.Proofs.YtolcpmdojlbhcaaDoor.GBase Go.Proofs.YtolcpmdojlbhcaaDoorW.PrintWords Go.Proofs.YtolcpmdojlbhcaaDoorW.PrintLast
set_option linter.unusedVariables false
set_option linter.unusedSimpArgs false
theorem eqS_loop (l : List ByteArray) (hn : l.length ≤ 1048577) (d : Nat) : ∀ j : Nat, l.length - j ≤ d → j ≤ l.length → Ev (fun k => Z23.l0 k l l (l.length : Int) (j : Int)) true := by
  induction d with
  | zero =>
    intro j hd hj
    obtain rfl : j = l.length := by omega
    exact Ev.step (fun _ => Z23.l0.eq_2 ..) (ev_neg (by omega) (ev_val rfl))
  | succ d ih =>
    intro j hd hj
    by_cases hlt : j < l.length
    · have hw : wrap64 ((j : Int) + 1) = ((j + 1 : Nat) : Int) := by rw [wr64 (by omega) (by omega)]; omega
      refine Ev.step (fun _ => Z23.l0.eq_2 ..) (ev_pos (by omega) (ev_pos (by omega) (ev_pos (by omega) (ev_pos (by omega) (ev_pos rfl ?_)))))
      rw [hw]
      exact ih (j + 1) (by omega) (by omega)
    · obtain rfl : j = l.length := by omega
      exact ih _ (by omega) (by omega)
theorem eqS_ev (l : List ByteArray) (hn : l.length ≤ 1048577) : Ev (fun k => Z23.f k l l) true :=
  ev_pos rfl (eqS_loop l hn _ 0 (Nat.le_refl _) (by omega))
def terr (t : ByteArray) (l : List S46) : Int := firstOf [if (t.size : Int) > 20000 then 2 else 0, if (!textOk t) = true then 3 else 0, chk l (t.size : Int)]
theorem textError_gen (t : ByteArray) (ht : t.size ≤ 30000) (l : List S46) (hl : l.length < 1000000) : Ev (fun k => Z29.f k t l) (terr t l) := by
  unfold Z29.f
  exact ev_bindc (privilege_large_is t) (Ev.bind (Text_ev t (by omega)) (ev_bindc (When_is _ _) (Ev.bind (CheckSpans_ev l hl _) (Ev.bind (First_ev _ (by simp)) (ev_val rfl)))))
theorem terr_large {t : ByteArray} {l : List S46} (h : (t.size : Int) > 20000) : terr t l = 2 := by
  unfold terr
  rw [if_pos h]
  exact if_neg (by decide)
theorem terr_form {t : ByteArray} {l : List S46} (h : ¬ (t.size : Int) > 20000) (hk : textOk t = false) : terr t l = 3 := by
  unfold terr
  rw [if_neg h, hk, if_pos (by decide)]
  exact (if_pos rfl).trans (if_neg (by decide))
theorem terr_spans {t : ByteArray} {l : List S46} (h : ¬ (t.size : Int) > 20000) (hk : textOk t = true) : terr t l = chk l (t.size : Int) := by
  unfold terr
  rw [if_neg h, hk, if_neg (by decide)]
  refine (if_pos rfl).trans ((if_pos rfl).trans ?_)
  show (if chk l (t.size : Int) = 0 then firstOf [] else chk l (t.size : Int)) = _
  by_cases q : chk l (t.size : Int) = 0
  · rw [if_pos q, q]
    rfl
  · rw [if_neg q]
theorem CoverFault_ev (t : ByteArray) (l : List S46) (hl : l.length < 1000000) : Ev (fun k => Z39.f k t l) (terr t l) := by
  refine Ev.congr (fun _ => Z39.f.eq_1 ..) (ev_bindc (BodyFault_is t) ?_)
  by_cases h : (t.size : Int) > 20000
  · rw [terr_large h]
    unfold bodyFault
    rw [if_pos h]
    exact ev_neg (by decide) (Ev.now _)
  · cases hk : textOk t with
    | false =>
      rw [terr_form h hk]
      unfold bodyFault
      rw [if_neg h, hk, if_neg (by decide)]
      exact ev_neg (by decide) (Ev.now _)
    | true =>
      rw [terr_spans h hk]
      unfold bodyFault
      rw [if_neg h, hk, if_pos rfl]
      exact ev_pos rfl (Ev.bind (SpansFault_ev l hl _) (Ev.now _))
theorem terr_zero {t : ByteArray} {l : List S46} (h : terr t l = 0) : t.size ≤ 20000 ∧ textOk t = true ∧ chk l (t.size : Int) = 0 := by
  by_cases h1 : (t.size : Int) > 20000
  · rw [terr_large h1] at h
    exact absurd h (by decide)
  · cases hk : textOk t with
    | false =>
      rw [terr_form h1 hk] at h
      exact absurd h (by decide)
    | true =>
      rw [terr_spans h1 hk] at h
      exact ⟨by omega, rfl, h⟩
theorem texts_ev (l : List Int) (hl : Nums l) : Ev (fun k => Z2.f k l) true := by
  obtain ⟨t, a1, ht, hs, h0, h1⟩ := Memo_ev l 0 hl (by omega) (by omega)
  obtain ⟨c, a2, hc, hcl, _, _⟩ := AnySpans_ev l hl a1 (mn (t.size : Int) 60) (by omega) (by omega)
  have hte := textError_gen t (by omega) c (by omega)
  have hcf := CoverFault_ev t c (by omega)
  refine Ev.congr (fun _ => Z2.f.eq_1 ..) (Ev.bind ht (Ev.bind hc ?_))
  by_cases he : terr t c = 0
  · rw [he] at hte hcf
    obtain ⟨e1, e2, e3⟩ := terr_zero he
    have hs1 : t.size ≤ 1000 := by omega
    obtain ⟨m, rfl, mN, mb, _, _, ml⟩ := chk_norm e3
    rw [List.length_map] at ml
    have mv : ∀ p ∈ m, p.1 < p.2 ∧ p.2 ≤ t.size := fun p hp => ⟨mN.1 p hp, by have := mb p hp; omega⟩
    obtain ⟨r, w1, w2, w3, w4⟩ := widen_both t (by omega) m ml mv hte
    have hrl : r.length ≤ 1000 := by
      have := norm_len t.size r 0 w3 (fun p hp => ⟨Nat.zero_le _, w4 p hp⟩)
      omega
    obtain ⟨x, x1, x2⟩ := Redact_ev t e1 e2 m mN (fun p hp => (mv p hp).2) ml
    have x3 := RedactOf_ev t e1 e2 m ml mv x2
    obtain ⟨q, s1, s2, s3⟩ := seen_both t e1 e2 m ml mv hte
    have hql : q.length ≤ 1000000 := Nat.le_trans s3 (Nat.mul_le_mul hs1 hs1)
    obtain ⟨K, k1, k2, k3⟩ := leaks_both t e1 e2 m ml mv hte
    have fewK : fewL (K.map spn) = (K.map spn, 0) := by
      unfold fewL
      rw [if_neg (by rw [List.length_map]; omega)]
    rw [fewK] at k1 k2
    refine Ev.bind w1 (Ev.bind x1 (Ev.bind s1 (Ev.bind k1 (Ev.bind hcf (ev_pos rfl (Ev.bind k2 (Ev.bind privileges_ev (ev_pos rfl (ev_pos rfl (ev_pos rfl (ev_pos rfl (Ev.bind w2 (Ev.bind (eqN_ev (r.map spn) (by rw [List.length_map]; omega)) (ev_pos rfl (Ev.bind x3 (ev_pos rfl (Ev.bind s2 (Ev.bind (eqS_ev q (by omega)) (ev_pos rfl (ev_pos rfl ?_))))))))))))))))))))
    exact Ev.bind (eqN_ev (K.map spn) (by rw [List.length_map]; omega)) (Ev.step (fun _ => Z2.j1.eq_2 ..) (ev_val rfl))
  · have hz : t.size ≤ 140737488355328 := by omega
    have W : Ev (fun k => Z5.f k t c) ([], terr t c) := by
      unfold Z5.f
      exact Ev.bind hte (ev_neg he (ev_val rfl))
    have X : Ev (fun k => Z26.f k t c) ((⟨#[]⟩ : ByteArray), terr t c) := by
      unfold Z26.f
      exact ev_pos hz (Ev.bind hte (ev_neg he (ev_val rfl)))
    have S : Ev (fun k => Z24.f k t c) ([], terr t c) := by
      unfold Z24.f
      exact Ev.bind hte (ev_neg he (ev_val rfl))
    have K : Ev (fun k => Z1.f k t c) ([], terr t c) := by
      unfold Z1.f
      exact ev_pos hz (Ev.bind hte (ev_neg he (ev_val rfl)))
    refine Ev.bind W (Ev.bind X (Ev.bind S (Ev.bind K (Ev.bind hcf (ev_neg he (Ev.bind privileges_ev (ev_pos rfl (ev_pos rfl (ev_pos rfl (ev_pos rfl ?_))))))))))
    exact Ev.step (fun _ => Z2.j0.eq_2 ..) (ev_val (by simp))
end Go.Proofs.YtolcpmdojlbhcaaDoor.Px
