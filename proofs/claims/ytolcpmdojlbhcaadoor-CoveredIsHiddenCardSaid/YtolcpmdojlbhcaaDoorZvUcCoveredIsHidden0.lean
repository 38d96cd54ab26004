/- Part of the proof that the law coveredIsHidden is true for every input. No conditions. Laid by a program of this session over the kit's print and words; declarations that nothing names are left out. -/
import Derived.Test.YtolcpmdojlbhcaaDoorZvUAll
import Derived.Test.YtolcpmdojlbhcaaDoorZvPcx9
namespace Go.Proofs.YtolcpmdojlbhcaaDoor.Pc
open Go.RowKit Go.Proofs.YtolcpmdojlbhcaaDoor.GBase Go.Proofs.YtolcpmdojlbhcaaDoorW.PrintWords Go.Proofs.YtolcpmdojlbhcaaDoorW.PrintLast
set_option linter.unusedVariables false
set_option linter.unusedSimpArgs false
theorem mn_nat (n : Nat) : mn (n : Int) 50 = ((min n 50 : Nat) : Int) := by
  unfold mn
  split <;> omega
theorem in_is (u : List (Nat × Nat)) (i : Nat) : api_Span_21.f (u.map spn) (i : Int) = some (cov u i) := by
  unfold api_Span_21.f cov
  rw [List.any_map]
  congr 1
  apply congrArg (fun g => u.any g)
  funext p
  have e0 : (spn p).f0 = (p.1 : Int) := rfl
  have e1 : (spn p).f1 = (p.2 : Int) := rfl
  simp only [Function.comp_apply, e0, e1, Int.ofNat_le, Int.ofNat_lt]
  rw [Bool.decide_and]
theorem bytes_fine {t z : ByteArray} {u : List (Nat × Nat)} (ht : textOk t = true) (hz : Hides t u z) (i : Nat) (hi : i < t.size) :
    (cov u i = true → (z.data.toList.getD i 0).toNat = 35 ∨ (z.data.toList.getD i 0).toNat = 32 ∨ (z.data.toList.getD i 0).toNat = 10) ∧
    (cov u i = false → (t.data.toList.getD i 0).toNat < 128 → z.data.toList.getD i 0 = t.data.toList.getD i 0) := by
  obtain ⟨z0, z1, z2⟩ := hz
  constructor
  · intro hc
    rw [z1 i ⟨i, hc, same.refl _ i⟩]
    unfold hideB
    split
    · rename_i h
      rcases h with h | h <;> rw [h] <;> decide
    · exact .inl rfl
  · intro hc hlow
    refine z2 i ?_
    rintro ⟨j, j1, j2⟩
    rcases Nat.lt_trichotomy i j with c | c | c
    · have h := (insd_iff t (i + 1)).1 (j2 (i + 1) (by omega) (by omega))
      have hv : Lib.validD t.data.toList = true := by
        unfold textOk wfC at ht
        simp only [Bool.and_eq_true] at ht
        exact ht.1.2
      have := (valid_inner _ t.data.toList (Nat.le_refl _) hv (i + 1) (by rw [ls_size]; exact h.1) h.2).2
      rw [Nat.add_sub_cancel] at this
      omega
    · subst c
      rw [hc] at j1
      exact absurd j1 (by decide)
    · have h := (insd_iff t i).1 (j2 i (by omega) (by omega))
      omega
theorem covered_loop (t z : ByteArray) (a b u : List (Nat × Nat)) (ht : textOk t = true) (hs : t.size ≤ 1000) (hsz : z.size = t.size) (hz : Hides t u z) (R : Bool)
    (fin : Ev (fun k => chasekeep1_CoveredIsHidden.l0 k t (t.size : Int) (b.map spn) (u.map spn) z (t.size : Int) (t.size : Int)) R) (d : Nat) : ∀ i : Nat, t.size - i ≤ d → i ≤ t.size →
    Ev (fun k => chasekeep1_CoveredIsHidden.l0 k t (t.size : Int) (b.map spn) (u.map spn) z (t.size : Int) (i : Int)) R := by
  induction d with
  | zero =>
    intro i h1 h2
    obtain rfl : i = t.size := by omega
    exact fin
  | succ d ih =>
    intro i h1 h2
    by_cases hlt : i < t.size
    · have hw := Aside0.mk (show wrap64 ((i : Int) + 1) = ((i + 1 : Nat) : Int) by rw [wr64 (by omega) (by omega)]; omega)
      have next : Ev (fun k => chasekeep1_CoveredIsHidden.j2 k t (t.size : Int) (b.map spn) (u.map spn) z (t.size : Int) (i : Int) false) R := by
        refine Ev.step (fun _ => chasekeep1_CoveredIsHidden.j2.eq_2 ..) (ev_neg (by decide) ?_)
        rw [hw.out]
        exact ih (i + 1) (by omega) (by omega)
      obtain ⟨f1, f2⟩ := bytes_fine ht hz i hlt
      have eb := bt_D t i hlt
      have ez := bt_D z i (by omega)
      refine Ev.step (fun _ => chasekeep1_CoveredIsHidden.l0.eq_2 ..) (ev_pos (by omega) (ev_bindc (in_is u i) ?_))
      simp only [eb, ez]
      generalize (t.data.toList.getD i 0) = tb at *
      generalize (z.data.toList.getD i 0) = zb at *
      cases hc : cov u i with
      | true =>
        refine ev_pos rfl (ev_pos (by omega) (ev_pos (by omega) ?_))
        by_cases c1 : (zb.toNat : Int) = 35
        · exact ev_pos c1 next
        · refine ev_neg c1 ?_
          by_cases c2 : (zb.toNat : Int) = 32
          · exact ev_pos c2 next
          · refine ev_neg c2 (ev_pos ?_ next)
            have := f1 hc
            omega
      | false =>
        refine ev_neg (by decide) (ev_pos (by omega) (ev_pos (by omega) ?_))
        by_cases c1 : (tb.toNat : Int) < 128
        · refine ev_pos c1 (ev_pos (by omega) ?_)
          have := f2 hc (by omega)
          rw [this]
          have e : ((tb.toNat : Int) != (tb.toNat : Int)) = false := by simp
          rw [e]
          exact next
        · exact ev_neg c1 next
    · obtain rfl : i = t.size := by omega
      exact fin
theorem covered_ev (l : List Int) (hl : Nums l) : Ev (fun k => chasekeep1_CoveredIsHidden.f k l) true := by
  obtain ⟨t, a1, ht, hs, h0, h1⟩ := Memo_ev l 0 hl (by omega) (by omega)
  refine Ev.congr (fun _ => chasekeep1_CoveredIsHidden.f.eq_1 ..) (Ev.bind ht (ev_bindc (BodyFault_is t) ?_))
  by_cases hb : bodyFault t = 0
  · have hsz : t.size ≤ 1000 ∧ textOk t = true := by
      unfold bodyFault at hb
      by_cases h : (t.size : Int) > 20000
      · rw [if_pos h] at hb; exact absurd hb (by decide)
      · rw [if_neg h] at hb
        refine ⟨by omega, ?_⟩
        cases hk : textOk t with
        | true => rfl
        | false => rw [hk] at hb; exact absurd hb (by decide)
    obtain ⟨hs1, hok⟩ := hsz
    clear hs
    obtain ⟨a, a2, m1, m2, m3, m4, m5, m6⟩ := SpanList_good l hl a1 (min t.size 50) (by omega) (by omega)
    obtain ⟨b, a3, n1, n2, n3, n4, n5, n6⟩ := SpanList_good l hl a2 (min t.size 50) (by omega) (by omega)
    have ma : ∀ p ∈ a, p.2 ≤ t.size := fun p hp => by have := m4 p hp; omega
    have mb : ∀ p ∈ b, p.2 ≤ t.size := fun p hp => by have := n4 p hp; omega
    obtain ⟨x, x1, x2⟩ := Redact_ev t (by omega) hok a m3 ma (by omega)
    obtain ⟨xs, xok⟩ := hides_ok (by omega) hok x2
    obtain ⟨y, y1, y2⟩ := Redact_ev x (by omega) xok b n3 (fun p hp => by rw [xs]; exact mb p hp) (by omega)
    have cka := norm_chk m3 ma (show t.size ≤ 200000 by omega) (by omega)
    have ckb := norm_chk n3 mb (show t.size ≤ 200000 by omega) (by omega)
    obtain ⟨u, u1, u2, u3⟩ := Union_ev a b t.size (by omega) (by omega) (by omega) (fun p hp => ⟨m3.1 p hp, ma p hp⟩) (fun p hp => ⟨n3.1 p hp, mb p hp⟩) cka ckb
    have inT : ∀ (q : List (Nat × Nat)), Norm q → (∀ i, cov q i = true → cov u i = true) → ∀ p ∈ q, p.2 ≤ t.size := fun q hq hc p hp => by
      have hlt := hq.1 p hp
      have h := hc (p.2 - 1) (cov_iff.2 ⟨p, hp, by omega, by omega⟩)
      rw [u2, Bool.or_eq_true] at h
      rcases h with h | h
      · obtain ⟨q, q1, q2, q3⟩ := cov_iff.1 h
        have := ma q q1
        omega
      · obtain ⟨q, q1, q2, q3⟩ := cov_iff.1 h
        have := mb q q1
        omega
    have mu := inT u u1 (fun i h => h)
    have lu : u.length ≤ 1000 := by
      have := norm_len t.size u 0 u1 (fun p hp => ⟨Nat.zero_le _, mu p hp⟩)
      omega
    have fewU : fewL (u.map spn) = (u.map spn, 0) := by
      unfold fewL
      rw [if_neg (by rw [List.length_map]; omega)]
    rw [fewU] at u3
    have cku := norm_chk u1 mu (show t.size ≤ 200000 by omega) lu
    obtain ⟨z, z1, z2⟩ := Redact_ev t (by omega) hok u u1 mu lu
    obtain ⟨zs, zok⟩ := hides_ok (by omega) hok z2
    have eyz : y = z := hides_twice xs x2 y2 z2 u2
    obtain ⟨w, w1, w2, w3⟩ := Without_ev u b t.size u1 n3 lu (by omega) cku ckb
    have mw := inT w w1 (fun i h => by rw [w2, Bool.and_eq_true] at h; exact h.1)
    have lw : w.length ≤ 1000 := by
      have := norm_len t.size w 0 w1 (fun p hp => ⟨Nat.zero_le _, mw p hp⟩)
      omega
    have fewW : fewL (w.map spn) = (w.map spn, 0) := by
      unfold fewL
      rw [if_neg (by rw [List.length_map]; omega)]
    rw [fewW] at w3
    have ckw := norm_chk w1 mw (show t.size ≤ 200000 by omega) lw
    obtain ⟨v, v1, v2, v3⟩ := Union_ev w b t.size (by omega) (by omega) (by omega) (fun p hp => ⟨w1.1 p hp, mw p hp⟩) (fun p hp => ⟨n3.1 p hp, mb p hp⟩) ckw ckb
    have evu : v = u := v1.unique u1 (fun i => by
      rw [v2, w2, u2]
      cases cov a i <;> cases cov b i <;> rfl)
    subst evu
    rw [fewU] at v3
    refine ev_pos hb ?_
    simp only [mn_nat]
    refine Ev.bind m1 (Ev.bind n1 (Ev.bind x1 (Ev.bind y1 (Ev.bind u3 (Ev.bind z1 (ev_pos rfl (ev_pos rfl (ev_pos rfl (ev_pos rfl (ev_pos (by rw [eyz]) ?_))))))))))
    have e : ((z.size : Int) != (t.size : Int)) = false := by rw [zs]; simp
    simp only [e]
    refine Ev.step (fun _ => chasekeep1_CoveredIsHidden.j0.eq_2 ..) (ev_neg (by decide) ?_)
    refine covered_loop t z a b v hok hs1 zs z2 true ?_ _ 0 (Nat.le_refl _) (Nat.zero_le _)
    refine Ev.step (fun _ => chasekeep1_CoveredIsHidden.l0.eq_2 ..) (ev_neg (by omega) (Ev.bind w3 (Ev.bind v3 (Ev.bind privileges_ev (ev_pos rfl (ev_pos rfl (ev_pos rfl ?_)))))))
    exact Ev.bind (eqN_ev (v.map spn) (by rw [List.length_map]; omega)) (Ev.step (fun _ => chasekeep1_CoveredIsHidden.j3.eq_2 ..) (ev_val rfl))
  · exact ev_neg hb (Ev.bind privileges_ev (ev_val rfl))
end Go.Proofs.YtolcpmdojlbhcaaDoor.Pc
