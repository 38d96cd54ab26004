/- Part of the proof that the law phrasesFound is true for every input. No conditions. Laid by a program of this session over the kit's print and words; declarations that nothing names are left out. -/
import Derived.Test.YtbamfhcifpfocaaDoorZpUpStream
import Derived.Test.YtbamfhcifpfocaaDoorZpPpx6
namespace Go.Proofs.YtbamfhcifpfocaaDoor.Pp
open Go.RowKit Go.Proofs.YtbamfhcifpfocaaDoor.GBase Go.Proofs.YtbamfhcifpfocaaDoorW.PrintWords Go.Proofs.YtbamfhcifpfocaaDoorW.PrintLast
set_option linter.unusedVariables false
set_option linter.unusedSimpArgs false
theorem Memo_end (l : List Int) (hl : Nums l) (at_ : Int) (t : ByteArray) (h0 : 0 ≤ at_) (h1 : at_ < 1099511627000) (ht : t.size ≤ 29000) :
    ∃ (r : ByteArray) (a' : Int), Ev (fun k => chasemake_Stream_Memo.j2 k t l at_) (r, a') ∧ r.size ≤ 30000 ∧ at_ ≤ a' ∧ a' ≤ at_ + 2 := by
  obtain ⟨b, hb⟩ := Flip_is l at_ 20 hl h0 (by omega) (by omega)
  by_cases hbt : b = true
  · have hrep : strings_Repeat.f (⟨#[109]⟩ : ByteArray) 20000 = some (⟨(Lib.repeatL [109] 20000).toArray⟩ : ByteArray) := by
      unfold strings_Repeat.f
      rw [if_pos ⟨by decide, by decide, by decide, by decide⟩]
      rfl
    have hsz : (⟨(Lib.repeatL [109] 20000).toArray⟩ : ByteArray).size = 20000 := by
      show (Lib.repeatL [109] 20000).toArray.size = 20000
      rw [List.size_toArray, Lib.repeatL_length]
      rfl
    generalize (⟨(Lib.repeatL [109] 20000).toArray⟩ : ByteArray) = q at *
    obtain ⟨x, hx, he⟩ := one_is l (at_ + 1) [(⟨#[97, 9, 98, 10]⟩ : ByteArray), (⟨#[255, 10]⟩ : ByteArray), q ++ (⟨#[10]⟩ : ByteArray)] hl (by omega) (by omega) (by simp) (by simp)
    refine ⟨x, at_ + 1 + 1, Ev.step (fun _ => chasemake_Stream_Memo.j2.eq_2 ..) (ev_bindc hb (ev_pos hbt (ev_bindc hrep (ev_pos (by omega) (ev_bindc he (ev_val rfl)))))), ?_, by omega, by omega⟩
    have e1 : (⟨#[97, 9, 98, 10]⟩ : ByteArray).size = 4 := rfl
    have e2 : (⟨#[255, 10]⟩ : ByteArray).size = 2 := rfl
    have e3 : (⟨#[10]⟩ : ByteArray).size = 1 := rfl
    rcases List.mem_cons.1 hx with rfl | hx
    · omega
    · rcases List.mem_cons.1 hx with rfl | hx
      · omega
      · rcases List.mem_cons.1 hx with rfl | hx
        · rw [ByteArray.size_append]; omega
        · cases hx
  · exact ⟨t, at_ + 1, Ev.step (fun _ => chasemake_Stream_Memo.j2.eq_2 ..) (ev_bindc hb (ev_neg hbt (ev_val rfl))), by omega, by omega, by omega⟩
theorem Memo_mid (l : List Int) (hl : Nums l) (at_ : Int) (t : ByteArray) (b : Bool) (h0 : 0 ≤ at_) (h1 : at_ < 1099511627000) (ht : t.size ≤ 28000) :
    ∃ (r : ByteArray) (a' : Int), Ev (fun k => chasemake_Stream_Memo.j1 k t b l at_) (r, a') ∧ r.size ≤ 30000 ∧ at_ ≤ a' ∧ a' ≤ at_ + 2 := by
  cases b with
  | true =>
    have e3 : (⟨#[10]⟩ : ByteArray).size = 1 := rfl
    obtain ⟨r, a', hr, h⟩ := Memo_end l hl at_ (t ++ (⟨#[10]⟩ : ByteArray)) h0 h1 (by rw [ByteArray.size_append]; omega)
    exact ⟨r, a', Ev.step (fun _ => chasemake_Stream_Memo.j1.eq_2 ..) (ev_pos rfl (ev_pos (by omega) hr)), h⟩
  | false =>
    obtain ⟨r, a', hr, h⟩ := Memo_end l hl at_ t h0 h1 (by omega)
    exact ⟨r, a', Ev.step (fun _ => chasemake_Stream_Memo.j1.eq_2 ..) (ev_neg (by simp) hr), h⟩
theorem Memo_loop (l : List Int) (hl : Nums l) (n : Int) (d : Nat) (hd100 : d ≤ 100) : ∀ (i at_ : Int) (t : ByteArray), 0 ≤ i → i ≤ 1000 - d → n - i ≤ d → 0 ≤ at_ → at_ < 1099511626000 - 2 * (d + 1) → t.size ≤ 28000 - 20 * d →
    ∃ (r : ByteArray) (a' : Int), Ev (fun k => chasemake_Stream_Memo.l0 k t n i l at_) (r, a') ∧ r.size ≤ 30000 ∧ at_ ≤ a' ∧ a' ≤ at_ + 2 * d + 3 := by
  have fin : ∀ (i at_ : Int) (t : ByteArray), ¬ i < n → 0 ≤ at_ → at_ < 1099511626000 → t.size ≤ 28000 → ∃ (r : ByteArray) (a' : Int), Ev (fun k => chasemake_Stream_Memo.l0 k t n i l at_) (r, a') ∧ r.size ≤ 30000 ∧ at_ ≤ a' ∧ a' ≤ at_ + 3 := by
    intro i at_ t hn ha hb ht
    by_cases he : t.toList = []
    · obtain ⟨r, a', hr, h2, h3, h4⟩ := Memo_mid l hl at_ t false ha (by omega) ht
      exact ⟨r, a', Ev.step (fun _ => chasemake_Stream_Memo.l0.eq_2 ..) (ev_neg hn (ev_pos he hr)), h2, h3, by omega⟩
    · obtain ⟨b, hb2⟩ := Flip_is l at_ 12 hl ha (by omega) (by omega)
      obtain ⟨r, a', hr, h2, h3, h4⟩ := Memo_mid l hl (at_ + 1) t (!b) (by omega) (by omega) ht
      exact ⟨r, a', Ev.step (fun _ => chasemake_Stream_Memo.l0.eq_2 ..) (ev_neg hn (ev_neg he (ev_bindc hb2 hr))), h2, by omega, by omega⟩
  induction d with
  | zero =>
    intro i at_ t h0 hi hn ha hb ht
    obtain ⟨r, a', hr, h2, h3, h4⟩ := fin i at_ t (by omega) ha (by omega) (by omega)
    exact ⟨r, a', hr, h2, h3, by omega⟩
  | succ d ih =>
    intro i at_ t h0 hi hn ha hb ht
    by_cases hlt : i < n
    · obtain ⟨x, hx, e1⟩ := one_is l at_ [(⟨#[109, 101, 109, 111]⟩ : ByteArray), (⟨#[77, 101, 109, 111]⟩ : ByteArray), (⟨#[109, 101, 109, 111, 115]⟩ : ByteArray), (⟨#[115, 101, 101, 32, 116, 104, 101]⟩ : ByteArray), (⟨#[195, 169, 116, 195, 169]⟩ : ByteArray), (⟨#[115, 101, 99, 114, 101, 116]⟩ : ByteArray), (⟨#[83, 69, 67, 82, 69, 84, 32, 112, 108, 97, 110]⟩ : ByteArray), (⟨#[97]⟩ : ByteArray), (⟨#[120, 45, 121]⟩ : ByteArray), (⟨#[51, 114, 100]⟩ : ByteArray)] hl ha (by omega) (by simp) (by simp)
      obtain ⟨y, hy, e2⟩ := one_is l (at_ + 1) [(⟨#[32]⟩ : ByteArray), (⟨#[32]⟩ : ByteArray), (⟨#[10]⟩ : ByteArray), (⟨#[44, 32]⟩ : ByteArray), (⟨#[]⟩ : ByteArray)] hl (by omega) (by omega) (by simp) (by simp)
      have sx : x.size ≤ 11 := by
        have h : ∀ z ∈ [(⟨#[109, 101, 109, 111]⟩ : ByteArray), (⟨#[77, 101, 109, 111]⟩ : ByteArray), (⟨#[109, 101, 109, 111, 115]⟩ : ByteArray), (⟨#[115, 101, 101, 32, 116, 104, 101]⟩ : ByteArray), (⟨#[195, 169, 116, 195, 169]⟩ : ByteArray), (⟨#[115, 101, 99, 114, 101, 116]⟩ : ByteArray), (⟨#[83, 69, 67, 82, 69, 84, 32, 112, 108, 97, 110]⟩ : ByteArray), (⟨#[97]⟩ : ByteArray), (⟨#[120, 45, 121]⟩ : ByteArray), (⟨#[51, 114, 100]⟩ : ByteArray)], z.size ≤ 11 := by decide
        exact h x hx
      have sy : y.size ≤ 2 := by
        have h : ∀ z ∈ [(⟨#[32]⟩ : ByteArray), (⟨#[32]⟩ : ByteArray), (⟨#[10]⟩ : ByteArray), (⟨#[44, 32]⟩ : ByteArray), (⟨#[]⟩ : ByteArray)], z.size ≤ 2 := by decide
        exact h y hy
      have hw : wrap64 (i + 1) = i + 1 := wr64 (by omega) (by omega)
      obtain ⟨r, a', hr, h2, h3, h4⟩ := ih (by omega) (i + 1) (at_ + 1 + 1) (t ++ (x ++ y)) (by omega) (by omega) (by omega) (by omega) (by omega) (by simp only [ByteArray.size_append]; omega)
      refine ⟨r, a', Ev.step (fun _ => chasemake_Stream_Memo.l0.eq_2 ..) (ev_pos hlt (ev_bindc e1 (ev_bindc e2 (ev_pos (by simp only; omega) (ev_pos (by simp only [ByteArray.size_append]; omega) ?_))))), h2, by omega, by omega⟩
      rw [hw]
      exact hr
    · obtain ⟨r, a', hr, h2, h3, h4⟩ := fin i at_ t hlt ha (by omega) (by omega)
      exact ⟨r, a', hr, h2, h3, by omega⟩
theorem Memo_ev (l : List Int) (at_ : Int) (hl : Nums l) (h0 : 0 ≤ at_) (h1 : at_ < 1099511625000) :
    ∃ (r : ByteArray) (a' : Int), Ev (fun k => chasemake_Stream_Memo.f k l at_) (r, a') ∧ r.size ≤ 30000 ∧ at_ ≤ a' ∧ a' ≤ at_ + 30 := by
  obtain ⟨n, hn, n0, n1, _⟩ := Next_is l at_ 10 hl h0 (by omega) (by omega)
  have n2 := n1 (by omega)
  obtain ⟨r, a', hr, g1, g2, g3⟩ := Memo_loop l hl n 10 (by omega) 0 (at_ + 1) ⟨#[]⟩ (by omega) (by omega) (by omega) (by omega) (by omega) (by decide)
  refine ⟨r, a', ?_, g1, by omega, by omega⟩
  unfold chasemake_Stream_Memo.f
  exact ev_bindc hn hr
end Go.Proofs.YtbamfhcifpfocaaDoor.Pp
