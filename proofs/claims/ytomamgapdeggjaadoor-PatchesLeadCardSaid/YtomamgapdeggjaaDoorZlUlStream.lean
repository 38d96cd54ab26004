/- Part of the proof that the law patchesLead is true for every input. No conditions. Laid by a program of this session over the kit's print and words; declarations that nothing names are left out. -/
import Derived.Test.YtomamgapdeggjaaDoorZlPlx1
import Derived.Laws.Cover4
namespace Go.Proofs.YtomamgapdeggjaaDoor.Pl
open Go.RowKit Go.Proofs.YtomamgapdeggjaaDoor.GBase Go.Proofs.YtomamgapdeggjaaDoorW.PrintWords Go.Proofs.YtomamgapdeggjaaDoorW.PrintLast
set_option linter.unusedVariables false
set_option linter.unusedSimpArgs false
theorem Below_is (x n : Int) (hn : n ≤ 4611686018427387904) (hx : -9223372036854775808 ≤ x) : ∃ r, chasemake_Below.f x n = some r ∧ 0 ≤ r ∧ (1 ≤ n → r < n) ∧ (n < 1 → r = 0) := by
  unfold chasemake_Below.f
  by_cases h : n < 1
  · rw [if_pos h]; exact ⟨0, rfl, by omega, by omega, fun _ => rfl⟩
  · rw [if_neg h, if_neg (by omega)]
    have h1 := Int.tmod_lt_of_pos x (b := n) (by omega)
    have h2 : -n < Int.tmod x n := by
      have := Int.tmod_lt_of_pos (-x) (b := n) (by omega)
      rw [Int.neg_tmod] at this
      omega
    by_cases h3 : Int.tmod x n < 0
    · rw [if_pos h3]; exact ⟨_, rfl, by rw [wr64 (by omega) (by omega)]; omega, by rw [wr64 (by omega) (by omega)]; omega, by omega⟩
    · rw [if_neg h3]; exact ⟨_, rfl, by omega, fun _ => h1, by omega⟩
theorem wrap_ge (x : Int) : -9223372036854775808 ≤ wrap64 x := by unfold wrap64; omega
def Nums (l : List Int) : Prop := l.length * 8 ≤ 140737488351232 ∧ ∀ x ∈ l, (Lit.int .i64 x).wf = true
theorem Nums.ge {l : List Int} (h : Nums l) (i : Int) : -9223372036854775808 ≤ rd l i := by
  unfold rd
  by_cases hi : i.toNat < l.length
  · have h1 := h.2 _ (List.getElem_mem hi)
    have h2 : IntKind.i64.min ≤ l[i.toNat] := by
      simp only [Lit.wf, Bool.and_eq_true, decide_eq_true_eq] at h1
      exact h1.1
    have h3 : IntKind.i64.min = -9223372036854775808 := by decide
    simp [List.getD, hi]
    omega
  · simp [List.getD, hi]
theorem Next_is (l : List Int) (at_ n : Int) (hl : Nums l) (h0 : 0 ≤ at_) (h1 : at_ < 1099511627776) (hn : n ≤ 4611686018427387904) :
    ∃ r, chasemake_Stream_Next.f l at_ n = some (r, at_ + 1) ∧ 0 ≤ r ∧ (1 ≤ n → r < n) ∧ (n < 1 → r = 0) := by
  have hw : wrap64 (at_ + 1) = at_ + 1 := wr64 (by omega) (by omega)
  have hw2 : wrap64 (at_ + 1 - 1) = at_ := by rw [wr64 (by omega) (by omega)]; omega
  unfold chasemake_Stream_Next.f
  rw [hw, hw2]
  by_cases hz : (l.length : Int) = 0
  · rw [if_pos hz]
    obtain ⟨r, hr, h⟩ := Below_is (wrap64 ((at_ + 1) * 7919)) n hn (wrap_ge _)
    rw [hr]
    exact ⟨r, rfl, h⟩
  · rw [if_neg hz]
    have h2 := Int.tmod_lt_of_pos at_ (b := (l.length : Int)) (by omega)
    have h3 := Int.tmod_nonneg (l.length : Int) h0
    rw [if_pos h3, if_pos h2]
    obtain ⟨r1, hr1, _⟩ := Below_is (rd l (Int.tmod at_ (l.length : Int))) 1073741824 (by omega) (hl.ge _)
    rw [hr1, Option.bind_some]
    obtain ⟨r, hr, h⟩ := Below_is (wrap64 (r1 + (wrap64 ((wrap64 (Int.tdiv at_ (l.length : Int))) * (wrap64 (7919 + (Int.tmod at_ (l.length : Int)))))))) n hn (wrap_ge _)
    rw [hr]
    exact ⟨r, rfl, h⟩
theorem one_is (l : List Int) (at_ : Int) (xs : List ByteArray) (hl : Nums l) (h0 : 0 ≤ at_) (h1 : at_ < 1099511627776) (hx : 0 < xs.length) (hm : xs.length < 1000) :
    ∃ x ∈ xs, chasemake_Stream_h06one.f l at_ xs = some (x, at_ + 1) := by
  obtain ⟨r, hr, h2, h3, _⟩ := Next_is l at_ (xs.length : Int) hl h0 h1 (by omega)
  have h4 := h3 (by omega)
  unfold chasemake_Stream_h06one.f
  rw [hr, Option.bind_some, if_pos h2, if_pos h4]
  have hi : r.toNat < xs.length := by omega
  refine ⟨xs[r.toNat], List.getElem_mem hi, ?_⟩
  simp [rdOf, List.getD, hi]
theorem Changed_ev (l : List Int) (at_ : Int) (s a : ByteArray) (hl : Nums l) (h0 : 0 ≤ at_) (h1 : at_ < 1099511627000) (hs : s.size ≤ 1000000) (ha : 0 < a.size) (ha2 : a.size ≤ 1000) :
    ∃ (t : ByteArray) (at' : Int), Ev (fun k => chasemake_Stream_Changed.f k l at_ s a) (t, at') ∧ t.size ≤ s.size + a.size + 4 ∧ at_ ≤ at' ∧ at' ≤ at_ + 3 := by
  unfold chasemake_Stream_Changed.f
  by_cases hz : s.toList = ([] : List UInt8)
  · exact ⟨a, at_, ev_pos hz (Ev.step (fun _ => chasemake_Stream_Changed.j0.eq_2 ..) (ev_pos rfl (ev_val rfl))), by omega, by omega, by omega⟩
  · have hs0 : 0 < s.size := by
      rcases Nat.eq_zero_or_pos s.size with h | h
      · exfalso
        apply hz
        rw [Lib.toList_data]
        exact List.eq_nil_of_length_eq_zero (by simpa using h)
      · exact h
    have ha0 : ¬ (a.toList == ([] : List UInt8)) = true := by
      rw [Lib.toList_data]
      intro h
      have h2 := congrArg List.length (eq_of_beq h)
      have h3 : a.data.toList.length = a.size := by simp
      rw [h2] at h3
      have h4 : ([] : List UInt8).length = 0 := rfl
      omega
    obtain ⟨p, hp, p0, p1, _⟩ := Next_is l at_ (s.size : Int) hl h0 (by omega) (by omega)
    have p2 := p1 (by omega)
    obtain ⟨q, hq, q0, q1, _⟩ := Next_is l (at_ + 1) (a.size : Int) hl (by omega) (by omega) (by omega)
    have q2 := q1 (by omega)
    obtain ⟨r, hr, r0, r1, _⟩ := Next_is l (at_ + 1 + 1) 3 hl (by omega) (by omega) (by omega)
    have r2 := r1 (by omega)
    have w : wrap64 (p + 1) = p + 1 := wr64 (by omega) (by omega)
    have e1 := encode_size_le (wrap32 (bt a q))
    have x1 : (s.extract 0 (p : Int).toNat).size ≤ s.size := by rw [ByteArray.size_extract]; omega
    have x2 : (s.extract (p : Int).toNat s.size).size ≤ s.size := by rw [ByteArray.size_extract]; omega
    have x3 : (s.extract (p + 1 : Int).toNat s.size).size ≤ s.size := by rw [ByteArray.size_extract]; omega
    have x4 : (s.extract 0 (p : Int).toNat).size + (s.extract (p : Int).toNat s.size).size ≤ s.size := by rw [ByteArray.size_extract, ByteArray.size_extract]; omega
    have x5 : (s.extract 0 (p : Int).toNat).size + (s.extract (p + 1 : Int).toNat s.size).size ≤ s.size := by rw [ByteArray.size_extract, ByteArray.size_extract]; omega
    by_cases c0 : r = 0
    · refine ⟨_, at_ + 1 + 1 + 1, ev_neg hz (Ev.step (fun _ => chasemake_Stream_Changed.j0.eq_2 ..) (ev_neg ha0 (ev_bindc hp (ev_bindc hq (ev_pos q0 (ev_pos q2 (ev_bindc hr (ev_pos c0 (ev_pos p0 (ev_pos (by simp only; omega) (ev_pos (by simp only; omega) (ev_pos (by simp only; omega) (ev_pos (by simp only; omega) (ev_pos (by simp only [ByteArray.size_append, w]; omega) (ev_val rfl))))))))))))))), ?_, by omega, by omega⟩
      simp only [ByteArray.size_append, w]
      omega
    · by_cases c1 : r = 1
      · refine ⟨_, at_ + 1 + 1 + 1, ev_neg hz (Ev.step (fun _ => chasemake_Stream_Changed.j0.eq_2 ..) (ev_neg ha0 (ev_bindc hp (ev_bindc hq (ev_pos q0 (ev_pos q2 (ev_bindc hr (ev_neg c0 (ev_pos c1 (ev_pos p0 (ev_pos (by simp only; omega) (ev_pos (by simp only; omega) (ev_pos (by simp only [ByteArray.size_append]; omega) (ev_val rfl)))))))))))))), ?_, by omega, by omega⟩
        simp only [ByteArray.size_append]
        omega
      · refine ⟨_, at_ + 1 + 1 + 1, ev_neg hz (Ev.step (fun _ => chasemake_Stream_Changed.j0.eq_2 ..) (ev_neg ha0 (ev_bindc hp (ev_bindc hq (ev_pos q0 (ev_pos q2 (ev_bindc hr (ev_neg c0 (ev_neg c1 (ev_pos p0 (ev_pos (by simp only; omega) (ev_pos (by simp only; omega) (ev_pos (by simp only; omega) (ev_pos (by simp only [w]; omega) (ev_val rfl))))))))))))))), ?_, by omega, by omega⟩
        simp only [ByteArray.size_append, w]
        omega
theorem Prose_loop (l : List Int) (hl : Nums l) (n : Int) (hn : n ≤ 100) (d : Nat) : ∀ (i at_ : Int) (t : ByteArray), 0 ≤ i → n - i ≤ d → 0 ≤ at_ → at_ < 1099511627776 - 2 * (d + 1) → t.size < 1099511627776 - 6 * (d + 1) →
    ∃ (t' : ByteArray) (at' : Int), Ev (fun k => chasemake_Stream_Prose.l0 k t n i l at_) (t', at') ∧ t'.size ≤ t.size + 6 * d ∧ at_ ≤ at' ∧ at' ≤ at_ + 2 * d := by
  induction d with
  | zero =>
    intro i at_ t h0 hd ha hb hs
    exact ⟨t, at_, Ev.step (fun _ => chasemake_Stream_Prose.l0.eq_2 ..) (ev_neg (by omega) (ev_val rfl)), by omega, by omega, by omega⟩
  | succ d ih =>
    intro i at_ t h0 hd ha hb hs
    by_cases hlt : i < n
    · have hw : wrap64 (i + 1) = i + 1 := wr64 (by omega) (by omega)
      obtain ⟨x, hx, e1⟩ := one_is l at_ [(⟨#[97]⟩ : ByteArray), (⟨#[98]⟩ : ByteArray), (⟨#[99]⟩ : ByteArray), (⟨#[100]⟩ : ByteArray), (⟨#[101]⟩ : ByteArray), (⟨#[65]⟩ : ByteArray), (⟨#[66]⟩ : ByteArray), (⟨#[105, 116, 39, 115]⟩ : ByteArray), (⟨#[195, 169]⟩ : ByteArray), (⟨#[120, 44]⟩ : ByteArray), (⟨#[57]⟩ : ByteArray)] hl ha (by omega) (by simp) (by simp)
      obtain ⟨y, hy, e2⟩ := one_is l (at_ + 1) [(⟨#[32]⟩ : ByteArray), (⟨#[32]⟩ : ByteArray), (⟨#[32]⟩ : ByteArray), (⟨#[32, 32]⟩ : ByteArray), (⟨#[10]⟩ : ByteArray), (⟨#[10, 10]⟩ : ByteArray), (⟨#[44, 32]⟩ : ByteArray), (⟨#[]⟩ : ByteArray)] hl (by omega) (by omega) (by simp) (by simp)
      have hx4 : x.size ≤ 4 := (by decide : ∀ z ∈ [(⟨#[97]⟩ : ByteArray), (⟨#[98]⟩ : ByteArray), (⟨#[99]⟩ : ByteArray), (⟨#[100]⟩ : ByteArray), (⟨#[101]⟩ : ByteArray), (⟨#[65]⟩ : ByteArray), (⟨#[66]⟩ : ByteArray), (⟨#[105, 116, 39, 115]⟩ : ByteArray), (⟨#[195, 169]⟩ : ByteArray), (⟨#[120, 44]⟩ : ByteArray), (⟨#[57]⟩ : ByteArray)], z.size ≤ 4) x hx
      have hy2 : y.size ≤ 2 := (by decide : ∀ z ∈ [(⟨#[32]⟩ : ByteArray), (⟨#[32]⟩ : ByteArray), (⟨#[32]⟩ : ByteArray), (⟨#[32, 32]⟩ : ByteArray), (⟨#[10]⟩ : ByteArray), (⟨#[10, 10]⟩ : ByteArray), (⟨#[44, 32]⟩ : ByteArray), (⟨#[]⟩ : ByteArray)], z.size ≤ 2) y hy
      obtain ⟨t', at', h, h1, h2, h3⟩ := ih (i + 1) (at_ + 1 + 1) (t ++ (x ++ y)) (by omega) (by omega) (by omega) (by omega) (by simp only [ByteArray.size_append]; omega)
      refine ⟨t', at', Ev.step (fun _ => chasemake_Stream_Prose.l0.eq_2 ..) (ev_pos hlt (ev_bindc e1 (ev_bindc e2 (ev_pos (by simp only; omega) (ev_pos (by simp only [ByteArray.size_append]; omega) ?_))))), by simp only [ByteArray.size_append] at h1; omega, by omega, by omega⟩
      rw [hw]
      exact h
    · exact ⟨t, at_, Ev.step (fun _ => chasemake_Stream_Prose.l0.eq_2 ..) (ev_neg (by omega) (ev_val rfl)), by omega, by omega, by omega⟩
theorem Prose_ev (l : List Int) (at_ m : Int) (hl : Nums l) (h0 : 0 ≤ at_) (h1 : at_ < 1099511627000) (hm : 0 ≤ m) (hm2 : m ≤ 50) :
    ∃ (t : ByteArray) (at' : Int), Ev (fun k => chasemake_Stream_Prose.f k l at_ m) (t, at') ∧ t.size ≤ 300 ∧ at_ ≤ at' ∧ at' ≤ at_ + 101 := by
  have hw : wrap64 (m + 1) = m + 1 := wr64 (by omega) (by omega)
  obtain ⟨r, hr, h2, h3, _⟩ := Next_is l at_ (m + 1) hl h0 (by omega) (by omega)
  have h4 := h3 (by omega)
  obtain ⟨t, at', h, g1, g2, g3⟩ := Prose_loop l hl r (by omega) 50 0 (at_ + 1) ⟨#[]⟩ (by omega) (by omega) (by omega) (by omega) (by decide)
  refine ⟨t, at', ?_, by have hz : (⟨#[]⟩ : ByteArray).size = 0 := rfl; omega, by omega, by omega⟩
  unfold chasemake_Stream_Prose.f
  rw [hw]
  exact ev_bindc hr h
end Go.Proofs.YtomamgapdeggjaaDoor.Pl
