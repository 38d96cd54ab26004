/- Part of the proof that the law shinglesLike is true for every input. No conditions. Laid by a program of this session over the kit's print and words; declarations that nothing names are left out. -/
import Derived.Test.YtbamfhcifpfocaaZhUhShingles
import Derived.Test.YtbamfhcifpfocaaZhUhRise
import Derived.Test.YtbamfhcifpfocaaZhPhx5
import Derived.Test.YtbamfhcifpfocaaZhPhx7
import Derived.Test.YtbamfhcifpfocaaZhPhx6
import Derived.Test.YtbamfhcifpfocaaZhPhx4
import Derived.Test.YtbamfhcifpfocaaZhPhx2
namespace Go.Proofs.Ytbamfhcifpfocaa.Ph
open Go.RowKit Go.Proofs.Ytbamfhcifpfocaa.GBase Go.Proofs.YtbamfhcifpfocaaW.PrintWords Go.Proofs.YtbamfhcifpfocaaW.PrintLast Go.Proofs.YtbamfhcifpfocaaW.PrintMore
set_option linter.unusedVariables false
set_option linter.unusedSimpArgs false
def fractionOf (n d : Nat) : Int × Int := if d = 0 then (1, 1) else (wrap64 (Int.tdiv n (Nat.gcd n d : Nat)), wrap64 (Int.tdiv d (Nat.gcd n d : Nat)))
theorem gcd_next (a b : Nat) : Nat.gcd b (a % b) = Nat.gcd a b := by
  rw [Nat.gcd_comm a b, Nat.gcd_rec b a, Nat.gcd_comm]
theorem near_gcd (n d : Nat) (x y : Int) (N : Nat) : ∀ a b : Nat, b ≤ N → Nat.gcd a b ≠ 0 → Ev (fun k => near_fraction.l0 k x y (a : Int) (b : Int)) (wrap64 (Int.tdiv x (Nat.gcd a b : Nat)), wrap64 (Int.tdiv y (Nat.gcd a b : Nat))) := by
  induction N with
  | zero =>
    intro a b hb hg
    obtain rfl : b = 0 := by omega
    rw [Nat.gcd_zero_right] at hg ⊢
    exact Ev.step (fun _ => near_fraction.l0.eq_2 ..) (ev_neg (by omega) (ev_neg (by omega) (ev_val rfl)))
  | succ N ih =>
    intro a b hb hg
    rcases Nat.eq_zero_or_pos b with h0 | h0
    · subst h0
      rw [Nat.gcd_zero_right] at hg ⊢
      exact Ev.step (fun _ => near_fraction.l0.eq_2 ..) (ev_neg (by omega) (ev_neg (by omega) (ev_val rfl)))
    · have hm := Nat.mod_lt a h0
      have e : Int.tmod (a : Int) (b : Int) = ((a % b : Nat) : Int) := by rw [Int.tmod_eq_emod_of_nonneg (by omega)]; rfl
      refine Ev.step (fun _ => near_fraction.l0.eq_2 ..) (ev_pos (by omega) (ev_neg (by omega) ?_))
      rw [e, ← gcd_next a b]
      exact ih b (a % b) (by omega) (by rw [gcd_next]; exact hg)
theorem near_fraction_ev (n d : Nat) : Ev (fun k => near_fraction.f k (n : Int) (d : Int)) (fractionOf n d) := by
  unfold near_fraction.f fractionOf
  by_cases h : d = 0
  · subst h
    exact ev_pos rfl (ev_val rfl)
  · rw [if_neg h]
    exact ev_neg (by omega) (near_gcd n d n d d n d (Nat.le_refl _) (fun e => h (Nat.eq_zero_of_gcd_eq_zero_right e)))
theorem ref_gcd (n d : Nat) (x y : Int) (N : Nat) : ∀ a b : Nat, b ≤ N → Nat.gcd a b ≠ 0 → Ev (fun k => chaseref1_part.l0 k x y (a : Int) (b : Int)) (wrap64 (Int.tdiv x (Nat.gcd a b : Nat)), wrap64 (Int.tdiv y (Nat.gcd a b : Nat))) := by
  induction N with
  | zero =>
    intro a b hb hg
    obtain rfl : b = 0 := by omega
    rw [Nat.gcd_zero_right] at hg ⊢
    exact Ev.step (fun _ => chaseref1_part.l0.eq_2 ..) (ev_pos (by omega) (ev_neg (by omega) (ev_val rfl)))
  | succ N ih =>
    intro a b hb hg
    rcases Nat.eq_zero_or_pos b with h0 | h0
    · subst h0
      rw [Nat.gcd_zero_right] at hg ⊢
      exact Ev.step (fun _ => chaseref1_part.l0.eq_2 ..) (ev_pos (by omega) (ev_neg (by omega) (ev_val rfl)))
    · have hm := Nat.mod_lt a h0
      have e : Int.tmod (a : Int) (b : Int) = ((a % b : Nat) : Int) := by rw [Int.tmod_eq_emod_of_nonneg (by omega)]; rfl
      refine Ev.step (fun _ => chaseref1_part.l0.eq_2 ..) (ev_neg (by omega) ?_)
      rw [e, ← gcd_next a b]
      exact ih b (a % b) (by omega) (by rw [gcd_next]; exact hg)
theorem ref_part_ev (n d : Nat) : Ev (fun k => chaseref1_part.f k (n : Int) (d : Int)) (fractionOf n d) := by
  unfold chaseref1_part.f fractionOf
  by_cases h : d = 0
  · subst h
    exact ev_pos rfl (ev_val rfl)
  · rw [if_neg h]
    exact ev_neg (by omega) (ref_gcd n d n d d n d (Nat.le_refl _) (fun e => h (Nat.eq_zero_of_gcd_eq_zero_right e)))
theorem large_is (s : ByteArray) : near_large.f s = some (if (s.size : Int) > 20000 then 2 else 0) := by
  unfold near_large.f base_When.f
  by_cases h : (s.size : Int) > 20000 <;> simp [h]
theorem kError_is (k : Int) : near_kError.f k = some (if k < 1 ∨ k > 10 then 1 else 0) := by
  unfold near_kError.f base_In.f base_When.f
  by_cases h : k ≥ 1
  · by_cases h2 : k ≤ 10
    · have : ¬ (k < 1 ∨ k > 10) := by omega
      simp [h, h2, this]
    · have : k < 1 ∨ k > 10 := by omega
      simp [h, h2, this]
  · have : k < 1 ∨ k > 10 := by omega
    simp [h, this]
def firstOf : List Int → Int
  | [] => 0
  | x :: r => if x = 0 then firstOf r else x
theorem First_loop (l : List Int) (hl : l.length < 1000000) (d : Nat) : ∀ j : Nat, l.length - j ≤ d → j ≤ l.length → Ev (fun k => base_First.l0 k l (l.length : Int) (j : Int)) (firstOf (l.drop j)) := by
  induction d with
  | zero =>
    intro j hd hj
    obtain rfl : j = l.length := by omega
    rw [List.drop_length]
    exact Ev.step (fun _ => base_First.l0.eq_2 ..) (ev_neg (by omega) (ev_val rfl))
  | succ d ih =>
    intro j hd hj
    by_cases hlt : j < l.length
    · have hw : wrap64 ((j : Int) + 1) = ((j + 1 : Nat) : Int) := by rw [wr64 (by omega) (by omega)]; omega
      have hr : rd l (j : Int) = l[j] := by simp [rd, List.getD, hlt]
      rw [List.drop_eq_getElem_cons hlt]
      refine Ev.step (fun _ => base_First.l0.eq_2 ..) (ev_pos (by omega) (ev_pos (by omega) (ev_pos (by omega) ?_)))
      rw [hr]
      unfold firstOf
      by_cases hz : l[j] = 0
      · rw [if_pos hz]
        refine ev_pos hz ?_
        rw [hw]
        exact ih (j + 1) (by omega) (by omega)
      · rw [if_neg hz]
        exact ev_neg hz (ev_val rfl)
    · obtain rfl : j = l.length := by omega
      exact ih _ (by omega) (by omega)
theorem First_ev (l : List Int) (hl : l.length < 1000000) : Ev (fun k => base_First.f k l) (firstOf l) := First_loop l hl _ 0 (Nat.le_refl _) (by omega)
theorem rd_at (l : List ByteArray) (j : Nat) (hj : j < l.length) : rdOf ByteArray.empty l (j : Int) = l[j] := by
  simp [rdOf, List.getD, hj]
theorem u64_id {x : Int} (h0 : 0 ≤ x) (h1 : x < 18446744073709551616) : IntKind.u64.wrap x = x := by
  simp [IntKind.wrap, IntKind.signed, IntKind.bits]
  omega
theorem sh_lt (S T : List ByteArray) (hS : RiseS S) (hT : RiseS T) (i j : Nat) (h1 : i < S.length) (h2 : j < T.length) (hk : ky S[i] < ky T[j]) : sharedOf (S.drop i) (T.drop j) = sharedOf (S.drop (i + 1)) (T.drop j) := by
  have hn : S[i] ∉ T.drop j := by
    intro h
    obtain ⟨q, hq, e⟩ := List.mem_iff_getElem.1 h
    rw [List.getElem_drop] at e
    rw [List.length_drop] at hq
    rw [← e] at hk
    by_cases hq0 : q = 0
    · subst hq0; exact ky_irr _ hk
    · exact ky_irr _ (ky_trans hk (hT.at (show j < j + q by omega) (by omega)))
  rw [List.drop_eq_getElem_cons h1, shared_out hn]
theorem sh_gt (S T : List ByteArray) (hS : RiseS S) (hT : RiseS T) (i j : Nat) (h1 : i < S.length) (h2 : j < T.length) (hk : ky T[j] < ky S[i]) : sharedOf (S.drop i) (T.drop j) = sharedOf (S.drop i) (T.drop (j + 1)) := by
  have hn : T[j] ∉ S.drop i := by
    intro h
    obtain ⟨q, hq, e⟩ := List.mem_iff_getElem.1 h
    rw [List.getElem_drop] at e
    rw [List.length_drop] at hq
    rw [← e] at hk
    by_cases hq0 : q = 0
    · subst hq0; exact ky_irr _ hk
    · exact ky_irr _ (ky_trans hk (hS.at (show i < i + q by omega) (by omega)))
  rw [List.drop_eq_getElem_cons h2, shared_drop hn]
theorem sh_eq (S T : List ByteArray) (hS : RiseS S) (hT : RiseS T) (i j : Nat) (h1 : i < S.length) (h2 : j < T.length) (hk : ky S[i] = ky T[j]) : sharedOf (S.drop i) (T.drop j) = sharedOf (S.drop (i + 1)) (T.drop (j + 1)) + 1 := by
  have he := ky_inj hk
  have hn : T[j] ∉ S.drop (i + 1) := by
    intro h
    obtain ⟨q, hq, e⟩ := List.mem_iff_getElem.1 h
    rw [List.getElem_drop] at e
    rw [List.length_drop] at hq
    have := hS.at (show i < i + 1 + q by omega) (by omega)
    rw [e, he] at this
    exact ky_irr _ this
  have hy : S[i] ∈ T.drop j := by rw [List.drop_eq_getElem_cons h2, he]; exact List.mem_cons_self
  rw [List.drop_eq_getElem_cons h1, shared_in hy, List.drop_eq_getElem_cons h2, shared_drop hn]
theorem near_sh (S T : List ByteArray) (hS : RiseS S) (hT : RiseS T) (nS : S.length ≤ 1048577) (nT : T.length ≤ 1048577) (d : Nat) : ∀ i j c : Nat, (S.length - i) + (T.length - j) ≤ d → i ≤ S.length → j ≤ T.length → c ≤ i →
    Ev (fun k => near_shared_string.l0 k S T (c : Int) (i : Int) (j : Int)) ((c + sharedOf (S.drop i) (T.drop j) : Nat) : Int) := by
  have fin : ∀ i j c : Nat, (i = S.length ∨ j = T.length) → i ≤ S.length → j ≤ T.length → Ev (fun k => near_shared_string.l0 k S T (c : Int) (i : Int) (j : Int)) ((c + sharedOf (S.drop i) (T.drop j) : Nat) : Int) := by
    intro i j c h hi hj
    by_cases hlt : i < S.length
    · have e : j = T.length := h.resolve_left (by omega)
      subst e
      rw [List.drop_length, shared_nil]
      exact Ev.step (fun _ => near_shared_string.l0.eq_2 ..) (ev_pos (by omega) (Ev.step (fun _ => near_shared_string.j1.eq_2 ..) (ev_neg (by simp) (ev_val rfl))))
    · have e : i = S.length := by omega
      subst e
      rw [List.drop_length, nil_shared]
      exact Ev.step (fun _ => near_shared_string.l0.eq_2 ..) (ev_neg (by omega) (Ev.step (fun _ => near_shared_string.j1.eq_2 ..) (ev_neg (by simp) (ev_val rfl))))
  induction d with
  | zero => intro i j c hd hi hj hc; exact fin i j c (by omega) hi hj
  | succ d ih =>
    intro i j c hd hi hj hc
    by_cases hlt : i < S.length ∧ j < T.length
    · obtain ⟨h1, h2⟩ := hlt
      have w1 : wrap64 ((i : Int) + 1) = ((i + 1 : Nat) : Int) := by rw [wr64 (by omega) (by omega)]; omega
      have w2 : wrap64 ((j : Int) + 1) = ((j + 1 : Nat) : Int) := by rw [wr64 (by omega) (by omega)]; omega
      have w3 : wrap64 ((c : Int) + 1) = ((c + 1 : Nat) : Int) := by rw [wr64 (by omega) (by omega)]; omega
      refine Ev.step (fun _ => near_shared_string.l0.eq_2 ..) (ev_pos (by omega) (Ev.step (fun _ => near_shared_string.j1.eq_2 ..) (ev_pos (by simp; omega) (ev_pos (by omega) (ev_pos (by omega) (ev_pos (by omega) (ev_pos (by omega) ?_)))))))
      rw [rd_at S i h1, rd_at T j h2, w1, w2, w3]
      refine ev_bindc rfl ?_
      clear w1 w2 w3
      rcases ky_tri (ky S[i]) (ky T[j]) with hk | hk | hk
      · rw [cmp_lt hk, sh_lt S T hS hT i j h1 h2 hk]
        exact ev_pos (by omega) (ih (i + 1) j c (by omega) (by omega) hj (by omega))
      · rw [ky_inj hk, cmp_eq, sh_eq S T hS hT i j h1 h2 hk]
        exact ev_neg (by omega) (ev_neg (by omega) (ev_eq (ih (i + 1) (j + 1) (c + 1) (by omega) (by omega) (by omega) (by omega)) (by omega)))
      · rw [cmp_gt hk, sh_gt S T hS hT i j h1 h2 hk]
        exact ev_neg (by omega) (ev_pos (by omega) (ih i (j + 1) c (by omega) hi (by omega) hc))
    · exact fin i j c (by omega) hi hj
theorem near_shared_ev (S T : List ByteArray) (hS : RiseS S) (hT : RiseS T) (nS : S.length ≤ 1048577) (nT : T.length ≤ 1048577) : Ev (fun k => near_shared_string.f k S T) (sharedOf S T : Int) :=
  ev_eq (near_sh S T hS hT nS nT _ 0 0 0 (Nat.le_refl _) (by omega) (by omega) (by omega)) (by simp)
theorem LessS (a b : ByteArray) : cmp_Less_string.f a b = some (decide (ky a < ky b)) := by
  unfold cmp_Less_string.f cmp_isNaN_string.f
  simp [less_ky]
theorem bsS_loop (l : List ByteArray) (x : ByteArray) (hl : RiseS l) (hn : l.length ≤ 1048577) (d : Nat) : ∀ i j : Nat, j - i ≤ d → i ≤ j → j ≤ l.length → (∀ q (h : q < l.length), q < i → ky l[q] < ky x) → (∀ q (h : q < l.length), j ≤ q → ¬ ky l[q] < ky x) →
    ∃ p, Ev (fun k => slices_BinarySearch_string_string.l0 k l x (l.length : Int) (i : Int) (j : Int)) (p, has l x) := by
  have fin : ∀ i : Nat, i ≤ l.length → (∀ q (h : q < l.length), q < i → ky l[q] < ky x) → (∀ q (h : q < l.length), i ≤ q → ¬ ky l[q] < ky x) → ∃ p, Ev (fun k => slices_BinarySearch_string_string.l0 k l x (l.length : Int) (i : Int) (i : Int)) (p, has l x) := by
    intro i hi hlo hhi
    by_cases hlt : i < l.length
    · by_cases he : l[i] = x
      · refine ⟨(i : Int), Ev.step (fun _ => slices_BinarySearch_string_string.l0.eq_2 ..) (ev_neg (by omega) (ev_pos (by omega) (ev_pos (by omega) (ev_pos (by omega) (ev_pos (by rw [rd_at l i hlt, he]) (ev_val ?_))))))⟩
        have : x ∈ l := he ▸ List.getElem_mem hlt
        simp [has_yes this]
      · refine ⟨(i : Int), Ev.step (fun _ => slices_BinarySearch_string_string.l0.eq_2 ..) (ev_neg (by omega) (ev_pos (by omega) (ev_pos (by omega) (ev_pos (by omega) (ev_neg (by rw [rd_at l i hlt, ky_eq]; exact he) (ev_bindc (a := false) (by simp [slices_isNaN_string.f]) (ev_neg (by simp) (ev_val ?_))))))))⟩
        have : x ∉ l := by
          intro hm
          obtain ⟨q, hq, rfl⟩ := List.mem_iff_getElem.1 hm
          rcases Nat.lt_trichotomy q i with h1 | h1 | h1
          · exact ky_irr _ (hlo q hq h1)
          · subst h1; exact he rfl
          · exact hhi i hlt (Nat.le_refl _) (hl.at h1 hq)
        simp [has_no this]
    · refine ⟨(i : Int), Ev.step (fun _ => slices_BinarySearch_string_string.l0.eq_2 ..) (ev_neg (by omega) (ev_neg (by omega) (ev_val ?_)))⟩
      have : x ∉ l := by
        intro hm
        obtain ⟨q, hq, rfl⟩ := List.mem_iff_getElem.1 hm
        exact ky_irr _ (hlo q hq (by omega))
      simp [has_no this]
  induction d with
  | zero =>
    intro i j hd hij hj hlo hhi
    obtain rfl : i = j := by omega
    exact fin i hj hlo hhi
  | succ d ih =>
    intro i j hd hij hj hlo hhi
    by_cases hlt : i < j
    · have hm : wrap64 ((IntKind.u64.wrap (wrap64 ((i : Int) + (j : Int)))) / 2) = (((i + j) / 2 : Nat) : Int) := by
        rw [wr64 (x := (i : Int) + (j : Int)) (by omega) (by omega), u64_id (by omega) (by omega), wr64 (by omega) (by omega)]
        omega
      have hh : (i + j) / 2 < l.length := by omega
      have hw : wrap64 ((((i + j) / 2 : Nat) : Int) + 1) = (((i + j) / 2 + 1 : Nat) : Int) := by rw [wr64 (by omega) (by omega)]; omega
      by_cases hc : ky l[(i + j) / 2] < ky x
      · obtain ⟨p, hp⟩ := ih ((i + j) / 2 + 1) j (by omega) (by omega) hj (fun q hq h1 => by
          by_cases h2 : q = (i + j) / 2
          · subst h2; exact hc
          · exact ky_trans (hl.at (by omega) hh) hc) hhi
        refine ⟨p, Ev.step (fun _ => slices_BinarySearch_string_string.l0.eq_2 ..) ?_⟩
        rw [hm, hw, rd_at l _ hh]
        exact ev_pos (by omega) (ev_pos (by omega) (ev_pos (by omega) (ev_bindc (LessS _ _) (ev_pos (by simp [hc]) hp))))
      · obtain ⟨p, hp⟩ := ih i ((i + j) / 2) (by omega) (by omega) (by omega) hlo (fun q hq h1 => by
          by_cases h2 : q = (i + j) / 2
          · subst h2; exact hc
          · exact fun k => hc (ky_trans (hl.at (show (i + j) / 2 < q by omega) hq) k))
        refine ⟨p, Ev.step (fun _ => slices_BinarySearch_string_string.l0.eq_2 ..) ?_⟩
        rw [hm, hw, rd_at l _ hh]
        exact ev_pos (by omega) (ev_pos (by omega) (ev_pos (by omega) (ev_bindc (LessS _ _) (ev_neg (by simp [hc]) hp))))
    · obtain rfl : i = j := by omega
      exact fin i hj hlo hhi
theorem bsS_ev (l : List ByteArray) (x : ByteArray) (hl : RiseS l) (hn : l.length ≤ 1048577) : ∃ p, Ev (fun k => slices_BinarySearch_string_string.f k l x) (p, has l x) :=
  bsS_loop l x hl hn _ 0 l.length (Nat.le_refl _) (by omega) (Nat.le_refl _) (fun _ _ h => by omega) (fun _ h1 h => by omega)
theorem ref_sh (S T : List ByteArray) (hT : RiseS T) (nS : S.length ≤ 1048577) (nT : T.length ≤ 1048577) (d : Nat) : ∀ j c : Nat, S.length - j ≤ d → j ≤ S.length → c ≤ j →
    Ev (fun k => chaseref1_shared.l0 k T (c : Int) S (S.length : Int) (j : Int)) ((c + sharedOf (S.drop j) T : Nat) : Int) := by
  induction d with
  | zero =>
    intro j c hd hj hc
    have e : j = S.length := by omega
    subst e
    rw [List.drop_length, nil_shared]
    exact Ev.step (fun _ => chaseref1_shared.l0.eq_2 ..) (ev_neg (by omega) (ev_val rfl))
  | succ d ih =>
    intro j c hd hj hc
    by_cases hlt : j < S.length
    · have w1 : wrap64 ((j : Int) + 1) = ((j + 1 : Nat) : Int) := by rw [wr64 (by omega) (by omega)]; omega
      have w3 : wrap64 ((c : Int) + 1) = ((c + 1 : Nat) : Int) := by rw [wr64 (by omega) (by omega)]; omega
      have dS : S.drop j = S[j] :: S.drop (j + 1) := List.drop_eq_getElem_cons hlt
      obtain ⟨p, hp⟩ := bsS_ev T S[j] hT nT
      refine Ev.step (fun _ => chaseref1_shared.l0.eq_2 ..) (ev_pos (by omega) (ev_pos (by omega) (ev_pos (by omega) ?_)))
      rw [rd_at S j hlt, w1, w3]
      refine Ev.bind hp ?_
      by_cases hm : S[j] ∈ T
      · refine ev_pos (has_yes hm) (ev_eq (ih (j + 1) (c + 1) (by omega) (by omega) (by omega)) ?_)
        rw [dS, shared_in hm]
        omega
      · refine ev_neg (by rw [has_no hm]; simp) (ev_eq (ih (j + 1) c (by omega) (by omega) (by omega)) ?_)
        rw [dS, shared_out hm]
    · have e : j = S.length := by omega
      subst e
      rw [List.drop_length, nil_shared]
      exact Ev.step (fun _ => chaseref1_shared.l0.eq_2 ..) (ev_neg (by omega) (ev_val rfl))
theorem ref_shared_ev (S T : List ByteArray) (hT : RiseS T) (nS : S.length ≤ 1048577) (nT : T.length ≤ 1048577) : Ev (fun k => chaseref1_shared.f k S T) (sharedOf S T : Int) :=
  ev_eq (ref_sh S T hT nS nT _ 0 0 (Nat.le_refl _) (by omega) (by omega)) (by simp)
theorem rdS2_0 (a b : List ByteArray) : rd_L3 [a, b] ((0 : Nat) : Int) = a := rfl
theorem rdS2_1 (a b : List ByteArray) : rd_L3 [a, b] ((1 : Nat) : Int) = b := rfl
theorem concatS_ev (a b : List ByteArray) (ha : a.length ≤ 1000000) (hb : b.length ≤ 1000000) : Ev (fun k => slices_Concat_string_string.f k [a, b]) (a ++ b) := by
  have w1 : wrap64 (0 + (a.length : Int)) = (a.length : Int) := by rw [wr64 (by omega) (by omega)]; omega
  have w2 : wrap64 ((a.length : Int) + (b.length : Int)) = ((a.length + b.length : Nat) : Int) := by rw [wr64 (by omega) (by omega)]; omega
  have o1 : wrap64 (((0 : Nat) : Int) + 1) = ((1 : Nat) : Int) := by rw [wr64 (by omega) (by omega)]; rfl
  have o2 : wrap64 (((1 : Nat) : Int) + 1) = ((2 : Nat) : Int) := by rw [wr64 (by omega) (by omega)]; rfl
  have l2 : (([a, b] : List (List ByteArray)).length : Int) = ((2 : Nat) : Int) := rfl
  have t : Ev (fun k => slices_Concat_string_string.l1 k [] [a, b] ((2 : Nat) : Int) ((0 : Nat) : Int)) (a ++ b) := by
    refine Ev.step (fun _ => slices_Concat_string_string.l1.eq_2 ..) (ev_pos (by omega) (ev_pos (by omega) (ev_pos (by rw [l2]; omega) ?_)))
    rw [rdS2_0, o1]
    refine ev_pos (by simp; omega) (Ev.step (fun _ => slices_Concat_string_string.l1.eq_2 ..) (ev_pos (by omega) (ev_pos (by omega) (ev_pos (by rw [l2]; omega) ?_))))
    rw [rdS2_1, o2]
    refine ev_pos (by simp; omega) (Ev.step (fun _ => slices_Concat_string_string.l1.eq_2 ..) (ev_neg (by omega) (ev_val (by simp))))
  unfold slices_Concat_string_string.f
  rw [l2]
  refine Ev.step (fun _ => slices_Concat_string_string.l0.eq_2 _ _ _ _ ((0 : Nat) : Int) _) (ev_pos (by omega) (ev_pos (by omega) (ev_pos (by rw [l2]; omega) ?_)))
  rw [rdS2_0, o1, w1]
  refine ev_neg (by omega) (Ev.step (fun _ => slices_Concat_string_string.l0.eq_2 ..) (ev_pos (by omega) (ev_pos (by omega) (ev_pos (by rw [l2]; omega) ?_))))
  rw [rdS2_1, o2, w2]
  refine ev_neg (by omega) (Ev.step (fun _ => slices_Concat_string_string.l0.eq_2 ..) (ev_neg (by omega) (ev_bindc (a := []) ?_ ?_)))
  · unfold slices_Grow_string_string.f
    rw [if_pos ⟨by omega, by simp; omega⟩]
  · rw [l2]
    exact t
theorem shingles_rise (s : ByteArray) (n : Nat) : RiseS (shinglesOf s n) := by
  unfold shinglesOf
  split
  · exact List.Pairwise.nil
  · exact sc_rise _
theorem near_like_ev (S T : List ByteArray) (hS : RiseS S) (hT : RiseS T) (nS : S.length ≤ 1000000) (nT : T.length ≤ 1000000) : Ev (fun k => near_like_string.f k S T) (fractionOf (sharedOf S T) (compactS (sortS (S ++ T))).length) := by
  have hu := union_len S T hS hT
  have h0 := shared_le S T
  have w : wrap64 ((wrap64 ((S.length : Int) + (T.length : Int))) - (sharedOf S T : Int)) = ((compactS (sortS (S ++ T))).length : Int) := by
    rw [wr64 (x := (S.length : Int) + (T.length : Int)) (by omega) (by omega), wr64 (by omega) (by omega)]
    omega
  unfold near_like_string.f
  refine Ev.bind (near_shared_ev S T hS hT (by omega) (by omega)) ?_
  rw [w]
  exact Ev.bind (near_fraction_ev _ _) (ev_val rfl)
theorem ref_Like_ev (s t : ByteArray) (hs : s.size ≤ 20000) (ht : t.size ≤ 20000) (n : Nat) : Ev (fun k => chaseref1_LikeOf.f k s t (n : Int)) (fractionOf (sharedOf (shinglesOf s n) (shinglesOf t n)) (compactS (sortS (shinglesOf s n ++ shinglesOf t n))).length) := by
  have c1 := shinglesOf_count s n
  have c2 := shinglesOf_count t n
  unfold chaseref1_LikeOf.f
  exact Ev.bind (ShinglesOf_ev s (by omega) n) (Ev.bind (ShinglesOf_ev t (by omega) n) (Ev.bind (ref_shared_ev _ _ (shingles_rise t n) (by omega) (by omega)) (Ev.bind (concatS_ev _ _ (by omega) (by omega)) (ev_bindc (sorted_is _ (by simp; omega)) (Ev.bind (ref_part_ev _ _) (ev_val rfl))))))
theorem ref_Cont_ev (s t : ByteArray) (hs : s.size ≤ 20000) (ht : t.size ≤ 20000) (n : Nat) : Ev (fun k => chaseref1_ContainmentOf.f k s t (n : Int)) (fractionOf (sharedOf (shinglesOf s n) (shinglesOf t n)) (shinglesOf s n).length) := by
  have c1 := shinglesOf_count s n
  have c2 := shinglesOf_count t n
  unfold chaseref1_ContainmentOf.f
  exact Ev.bind (ShinglesOf_ev s (by omega) n) (Ev.bind (ShinglesOf_ev t (by omega) n) (Ev.bind (ref_shared_ev _ _ (shingles_rise t n) (by omega) (by omega)) (Ev.bind (ref_part_ev _ _) (ev_val rfl))))
def kErr (k : Int) : Int := if k < 1 ∨ k > 10 then 1 else 0
theorem two_ev (s t : ByteArray) (hs : s.size ≤ 20000) (ht : t.size ≤ 20000) (k : Int) : Ev (fun q => near_two.f q s t k) (kErr k) := by
  unfold near_two.f
  have c1 : ¬ (s.size : Int) > 20000 := by omega
  have c2 : ¬ (t.size : Int) > 20000 := by omega
  refine ev_bindc (large_is s) (ev_bindc (kError_is k) (ev_bindc (large_is t) (Ev.bind (First_ev _ (by simp)) (ev_val ?_))))
  rw [if_neg c1, if_neg c2]
  unfold kErr
  split <;> rfl
theorem Shingles_ev (s : ByteArray) (hs : s.size ≤ 20000) (n : Nat) : Ev (fun q => near_Shingles.f q s (n : Int)) (if kErr (n : Int) = 0 then (shinglesOf s n, 0) else ([], kErr (n : Int))) := by
  have c1 : ¬ (s.size : Int) > 20000 := by omega
  unfold near_Shingles.f
  refine ev_bindc (large_is s) (ev_bindc (kError_is _) (Ev.bind (First_ev _ (by simp)) ?_))
  have e : firstOf [if (s.size : Int) > 20000 then 2 else 0, if (n : Int) < 1 ∨ (n : Int) > 10 then 1 else 0] = kErr (n : Int) := by
    rw [if_neg c1]
    unfold kErr
    split <;> rfl
  rw [e]
  by_cases hz : kErr (n : Int) = 0
  · rw [if_pos hz]
    exact ev_pos hz (Ev.bind (near_shingles_ev s (by omega) n) (ev_val rfl))
  · rw [if_neg hz]
    exact ev_neg hz (ev_val rfl)
theorem Resemblance_ev (s t : ByteArray) (hs : s.size ≤ 20000) (ht : t.size ≤ 20000) (n : Nat) : Ev (fun q => near_Resemblance.f q s t (n : Int)) (if kErr (n : Int) = 0 then ((fractionOf (sharedOf (shinglesOf s n) (shinglesOf t n)) (compactS (sortS (shinglesOf s n ++ shinglesOf t n))).length).1, (fractionOf (sharedOf (shinglesOf s n) (shinglesOf t n)) (compactS (sortS (shinglesOf s n ++ shinglesOf t n))).length).2, 0) else (0, 0, kErr (n : Int))) := by
  have c1 := shinglesOf_count s n
  have c2 := shinglesOf_count t n
  unfold near_Resemblance.f
  refine Ev.bind (two_ev s t hs ht _) ?_
  by_cases hz : kErr (n : Int) = 0
  · rw [if_pos hz]
    exact ev_pos hz (Ev.bind (near_shingles_ev s (by omega) n) (Ev.bind (near_shingles_ev t (by omega) n) (Ev.bind (near_like_ev _ _ (shingles_rise s n) (shingles_rise t n) (by omega) (by omega)) (ev_val rfl))))
  · rw [if_neg hz]
    exact ev_neg hz (ev_val rfl)
theorem Containment_ev (s t : ByteArray) (hs : s.size ≤ 20000) (ht : t.size ≤ 20000) (n : Nat) : Ev (fun q => near_Containment.f q s t (n : Int)) (if kErr (n : Int) = 0 then ((fractionOf (sharedOf (shinglesOf s n) (shinglesOf t n)) (shinglesOf s n).length).1, (fractionOf (sharedOf (shinglesOf s n) (shinglesOf t n)) (shinglesOf s n).length).2, 0) else (0, 0, kErr (n : Int))) := by
  have c1 := shinglesOf_count s n
  have c2 := shinglesOf_count t n
  unfold near_Containment.f
  refine Ev.bind (two_ev s t hs ht _) ?_
  by_cases hz : kErr (n : Int) = 0
  · rw [if_pos hz]
    exact ev_pos hz (Ev.bind (near_shingles_ev s (by omega) n) (Ev.bind (near_shingles_ev t (by omega) n) (Ev.bind (near_shared_ev _ _ (shingles_rise s n) (shingles_rise t n) (by omega) (by omega)) (Ev.bind (near_fraction_ev _ _) (ev_val rfl)))))
  · rw [if_neg hz]
    exact ev_neg hz (ev_val rfl)
end Go.Proofs.Ytbamfhcifpfocaa.Ph
