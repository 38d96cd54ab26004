/- Part of the proof that the law textsPaged is true for every input. No conditions. Laid by a program of this session over the kit's print and words; declarations that nothing names are left out. -/
import Derived.Test.YtffaggbephnmkaaGreatDoorZgUgStream
import Derived.Laws.Cover4
import Derived.Test.YtffaggbephnmkaaGreatDoorZgPgx3
namespace Go.Proofs.YtffaggbephnmkaaGreatDoor.Pg
open Go.RowKit Go.Proofs.YtffaggbephnmkaaGreatDoor.GBase Go.Proofs.YtffaggbephnmkaaGreatDoorW.PrintWords Go.Proofs.YtffaggbephnmkaaGreatDoorW.PrintLast
set_option linter.unusedVariables false
set_option linter.unusedSimpArgs false
theorem rep_is (s : ByteArray) (n : Nat) (h2 : 2 ≤ n) (hn : n ≤ 100000) (h0 : 0 < s.size) (hs : s.size ≤ 100) : ∃ r, strings_Repeat.f s (n : Int) = some r ∧ r.size = s.size * n := by
  have hb : s.size * n ≤ 100 * 100000 := Nat.mul_le_mul hs hn
  refine ⟨_, if_pos ⟨by omega, by omega, by rw [Int.toNat_natCast]; omega, h0⟩, ?_⟩
  show (Lib.repeatL s.data.toList n).toArray.size = _
  rw [List.size_toArray, Lib.repeatL_length, data_length, Nat.mul_comm]
theorem Papers_end (l : List Int) (at_ : Int) (y0 y1 y3 y5 y6 : ByteArray) (y2 y4 : Int) :
    Ev (fun k => chasemake_Stream_Papers.j2 k [] 0 1 0 l at_ y0 y1 y2 y3 y4 y5 y6) ([(⟨y0, y1, y2, y3, y4, y5, y6⟩ : S55)], at_) := by
  refine Ev.step (fun _ => chasemake_Stream_Papers.j2.eq_2 ..) (ev_neg (by decide) (ev_pos (by simp) ?_))
  have hw : wrap64 ((0 : Int) + 1) = 1 := by rw [wr64 (by omega) (by omega)]; rfl
  rw [hw]
  exact Ev.step (fun _ => chasemake_Stream_Papers.l0.eq_2 ..) (ev_neg (by decide) (ev_val rfl))
theorem Papers_loop (l : List Int) (hl : Nums l) (m : Int) (y0 y1 y3 y5 : ByteArray) (y2 y4 : Int) (d : Nat) (hd9 : d ≤ 9) : ∀ (j at_ : Int) (t : ByteArray), 0 ≤ j → j ≤ 1000 - d → m - j ≤ d → 0 ≤ at_ → at_ < 1099511627000 - 3 * (d + 1) → t.size ≤ 2000 - 100 * d →
    ∃ (x : S55) (a' : Int), Ev (fun k => chasemake_Stream_Papers.l1 k [] 0 1 0 m j l at_ y0 y1 y2 y3 y4 y5 t) ([x], a') ∧ x.f6.size ≤ 2000 ∧ at_ ≤ a' ∧ a' ≤ at_ + 3 * d + 2 := by
  have fin : ∀ (j at_ : Int) (t : ByteArray), ¬ j < m → 0 ≤ at_ → at_ < 1099511627000 → t.size ≤ 2000 → ∃ (x : S55) (a' : Int), Ev (fun k => chasemake_Stream_Papers.l1 k [] 0 1 0 m j l at_ y0 y1 y2 y3 y4 y5 t) ([x], a') ∧ x.f6.size ≤ 2000 ∧ at_ ≤ a' ∧ a' ≤ at_ + 2 := by
    intro j at_ t hj ha hb ht
    obtain ⟨b, e1⟩ := Flip_is l at_ 8 hl ha (by omega) (by omega)
    by_cases hbt : b = true
    · obtain ⟨p, hp, e2⟩ := Pick_is l (at_ + 1) [49, 50, 51, 101] hl (by omega) (by omega) (by simp) (by simp)
      have hp2 : 2 ≤ p ∧ p ≤ 101 := (by decide : ∀ z ∈ ([49, 50, 51, 101] : List Int), 2 ≤ z ∧ z ≤ 101) p hp
      obtain ⟨n, rfl⟩ := Int.eq_ofNat_of_zero_le (show 0 ≤ p by omega)
      obtain ⟨r, e3, hr⟩ := rep_is (⟨#[108, 105, 110, 101, 10]⟩ : ByteArray) n (by omega) (by omega) (by decide) (by decide)
      have h5 : (⟨#[108, 105, 110, 101, 10]⟩ : ByteArray).size = 5 := rfl
      rw [h5] at hr
      exact ⟨_, _, Ev.step (fun _ => chasemake_Stream_Papers.l1.eq_2 ..) (ev_neg hj (ev_bindc e1 (ev_pos hbt (ev_bindc e2 (ev_bindc e3 (Papers_end ..)))))), by show r.size ≤ 2000; omega, by omega, by omega⟩
    · exact ⟨_, _, Ev.step (fun _ => chasemake_Stream_Papers.l1.eq_2 ..) (ev_neg hj (ev_bindc e1 (ev_neg hbt (Papers_end ..)))), ht, by omega, by omega⟩
  induction d with
  | zero =>
    intro j at_ t h0 h1 hm ha hb ht
    obtain ⟨x, a', h, g1, g2, g3⟩ := fin j at_ t (by omega) ha (by omega) (by omega)
    exact ⟨x, a', h, g1, g2, by omega⟩
  | succ d ih =>
    intro j at_ t h0 h1 hm ha hb ht
    by_cases hlt : j < m
    · obtain ⟨p, hp, e1⟩ := Pick_is l at_ [79, 80, 81] hl ha (by omega) (by simp) (by simp)
      have hp2 : 2 ≤ p ∧ p ≤ 81 := (by decide : ∀ z ∈ ([79, 80, 81] : List Int), 2 ≤ z ∧ z ≤ 81) p hp
      obtain ⟨n, rfl⟩ := Int.eq_ofNat_of_zero_le (show 0 ≤ p by omega)
      obtain ⟨r, e2, hr⟩ := rep_is (⟨#[119]⟩ : ByteArray) n (by omega) (by omega) (by decide) (by decide)
      obtain ⟨q, e3, hq⟩ := rep_is (⟨#[97, 98, 32]⟩ : ByteArray) 30 (by omega) (by omega) (by decide) (by decide)
      have s1 : (⟨#[119]⟩ : ByteArray).size = 1 := rfl
      have s3 : (⟨#[97, 98, 32]⟩ : ByteArray).size = 3 := rfl
      rw [s1] at hr
      rw [s3] at hq
      obtain ⟨x, hx, e4⟩ := one_is l (at_ + 1) [(⟨#[111, 110, 101]⟩ : ByteArray), (⟨#[115, 101, 99, 114, 101, 116, 32, 119, 111, 114, 100, 115]⟩ : ByteArray), (⟨#[]⟩ : ByteArray), (⟨#[195, 169, 116, 195, 169, 32, 120]⟩ : ByteArray), r, q] hl (by omega) (by omega) (by simp) (by simp)
      have hxs : x.size ≤ 90 := by
        rcases List.mem_cons.1 hx with rfl | hx
        · decide
        rcases List.mem_cons.1 hx with rfl | hx
        · decide
        rcases List.mem_cons.1 hx with rfl | hx
        · decide
        rcases List.mem_cons.1 hx with rfl | hx
        · decide
        rcases List.mem_cons.1 hx with rfl | hx
        · omega
        rcases List.mem_cons.1 hx with rfl | hx
        · omega
        cases hx
      have sn : (⟨#[10]⟩ : ByteArray).size = 1 := rfl
      have hw : wrap64 (j + 1) = j + 1 := wr64 (by omega) (by omega)
      obtain ⟨y, a', h, g1, g2, g3⟩ := ih (by omega) (j + 1) (at_ + 1 + 1) (t ++ (x ++ (⟨#[10]⟩ : ByteArray))) (by omega) (by omega) (by omega) (by omega) (by omega) (by simp only [ByteArray.size_append]; omega)
      refine ⟨y, a', Ev.step (fun _ => chasemake_Stream_Papers.l1.eq_2 ..) (ev_pos hlt (ev_bindc e1 (ev_bindc e2 (ev_bindc e3 (ev_bindc e4 (ev_pos (by simp only; omega) (ev_pos (by simp only [ByteArray.size_append]; omega) ?_))))))), g1, by omega, by omega⟩
      rw [hw]
      exact h
    · obtain ⟨x, a', h, g1, g2, g3⟩ := fin j at_ t hlt ha (by omega) (by omega)
      exact ⟨x, a', h, g1, g2, by omega⟩
theorem Papers_ev (l : List Int) (at_ : Int) (hl : Nums l) (h0 : 0 ≤ at_) (h1 : at_ < 1099511626000) :
    ∃ (xs : List S55) (a' : Int), Ev (fun k => chasemake_Stream_Papers.f k l at_ 1) (xs, a') ∧ xs.length ≤ 1 ∧ (∀ x ∈ xs, x.f6.size ≤ 2000) ∧ at_ ≤ a' ∧ a' ≤ at_ + 50 := by
  have hw : wrap64 ((1 : Int) + 1) = 2 := by rw [wr64 (by omega) (by omega)]; rfl
  obtain ⟨n, hn, n0, n1, _⟩ := Next_is l at_ 2 hl h0 (by omega) (by omega)
  have n2 := n1 (by omega)
  refine (fun (h : ∃ (xs : List S55) (a' : Int), Ev (fun k => chasemake_Stream_Papers.l0 k [] n 0 l (at_ + 1)) (xs, a') ∧ xs.length ≤ 1 ∧ (∀ x ∈ xs, x.f6.size ≤ 2000) ∧ at_ ≤ a' ∧ a' ≤ at_ + 50) => ?_) ?_
  · obtain ⟨xs, a', h, g⟩ := h
    refine ⟨xs, a', ?_, g⟩
    unfold chasemake_Stream_Papers.f
    rw [hw]
    exact ev_bindc hn h
  · obtain rfl | rfl : n = 0 ∨ n = 1 := by omega
    · exact ⟨[], at_ + 1, Ev.step (fun _ => chasemake_Stream_Papers.l0.eq_2 ..) (ev_neg (by decide) (ev_val rfl)), by simp, (fun x hx => by cases hx), by omega, by omega⟩
    · obtain ⟨c, _, e1⟩ := one_is l (at_ + 1) [(⟨#[97, 110, 110]⟩ : ByteArray), (⟨#[98, 111]⟩ : ByteArray)] hl (by omega) (by omega) (by simp) (by simp)
      obtain ⟨kd, _, e2⟩ := Pick_is l (at_ + 1 + 1) [1, 3, 2, 4] hl (by omega) (by omega) (by simp) (by simp)
      obtain ⟨tm, _, e3⟩ := Pick_is l (at_ + 1 + 1 + 1) [0, 5, 5, 40, 1440] hl (by omega) (by omega) (by simp) (by simp)
      obtain ⟨nm, _, e4⟩ := one_is l (at_ + 1 + 1 + 1 + 1) [(⟨#[]⟩ : ByteArray), (⟨#[120]⟩ : ByteArray)] hl (by omega) (by omega) (by simp) (by simp)
      obtain ⟨m, e5, m0, m1, _⟩ := Next_is l (at_ + 1 + 1 + 1 + 1 + 1) 6 hl (by omega) (by omega) (by omega)
      have m2 := m1 (by omega)
      obtain ⟨x, a', h, g1, g2, g3⟩ := Papers_loop l hl m ((⟨#[105]⟩ : ByteArray) ++ (Utf8.encode (wrap32 (wrap64 (97 + 0))))) c nm (⟨#[]⟩ : ByteArray) kd tm 6 (by omega) 0 (at_ + 1 + 1 + 1 + 1 + 1 + 1) (⟨#[]⟩ : ByteArray) (by omega) (by omega) (by omega) (by omega) (by omega) (by decide)
      have es := encode_size_le (wrap32 (wrap64 (97 + 0)))
      exact ⟨[x], a', Ev.step (fun _ => chasemake_Stream_Papers.l0.eq_2 ..) (ev_pos (by decide) (ev_pos (by omega) (ev_bindc e1 (ev_bindc e2 (ev_bindc e3 (ev_bindc e4 (ev_bindc e5 h))))))), by simp, fun y hy => by rw [List.mem_singleton.1 hy]; exact g1, by omega, by omega⟩
theorem PaperText_pick (l : List Int) (at_ : Int) (hl : Nums l) (h0 : 0 ≤ at_) (h1 : at_ < 1099511627000) (xs : List S55) :
    ∃ (t : ByteArray) (a' : Int), Ev (fun k => chasemake_Stream_PaperText.j0 k xs true l at_) (t, a') ∧ t.size ≤ 30000 := by
  obtain ⟨r1, e1, q1⟩ := rep_is (⟨#[112]⟩ : ByteArray) 20000 (by omega) (by omega) (by decide) (by decide)
  obtain ⟨r2, e2, q2⟩ := rep_is (⟨#[32]⟩ : ByteArray) 90 (by omega) (by omega) (by decide) (by decide)
  obtain ⟨r3, e3, q3⟩ := rep_is (⟨#[32]⟩ : ByteArray) 81 (by omega) (by omega) (by decide) (by decide)
  obtain ⟨r4, e4, q4⟩ := rep_is (⟨#[195, 169]⟩ : ByteArray) 41 (by omega) (by omega) (by decide) (by decide)
  obtain ⟨r5, e5, q5⟩ := rep_is (⟨#[98]⟩ : ByteArray) 90 (by omega) (by omega) (by decide) (by decide)
  have z1 : (⟨#[112]⟩ : ByteArray).size = 1 := rfl
  have z2 : (⟨#[32]⟩ : ByteArray).size = 1 := rfl
  have z4 : (⟨#[195, 169]⟩ : ByteArray).size = 2 := rfl
  have z5 : (⟨#[98]⟩ : ByteArray).size = 1 := rfl
  rw [z1] at q1
  rw [z2] at q2 q3
  rw [z4] at q4
  rw [z5] at q5
  have y1 : (⟨#[10]⟩ : ByteArray).size = 1 := rfl
  have y2 : (⟨#[120, 10]⟩ : ByteArray).size = 2 := rfl
  have y3 : (⟨#[120]⟩ : ByteArray).size = 1 := rfl
  have y4 : (⟨#[32, 121, 10]⟩ : ByteArray).size = 3 := rfl
  have y5 : (⟨#[97, 32]⟩ : ByteArray).size = 2 := rfl
  obtain ⟨x, hx, e6⟩ := one_is l at_ [(⟨#[]⟩ : ByteArray), (⟨#[120]⟩ : ByteArray), (⟨#[97, 9, 98, 10]⟩ : ByteArray), r1 ++ (⟨#[10]⟩ : ByteArray), r2 ++ (⟨#[10]⟩ : ByteArray), r3 ++ (⟨#[120, 10]⟩ : ByteArray), r4 ++ (⟨#[10]⟩ : ByteArray), ((⟨#[120]⟩ : ByteArray) ++ r4) ++ (⟨#[32, 121, 10]⟩ : ByteArray), ((⟨#[97, 32]⟩ : ByteArray) ++ r5) ++ (⟨#[10]⟩ : ByteArray)] hl h0 (by omega) (by simp) (by simp)
  refine ⟨x, at_ + 1, Ev.step (fun _ => chasemake_Stream_PaperText.j0.eq_2 ..) (ev_pos rfl (ev_bindc e1 (ev_pos (by omega) (ev_bindc e2 (ev_pos (by omega) (ev_bindc e3 (ev_pos (by omega) (ev_bindc e4 (ev_pos (by omega) (ev_bindc e4 (ev_pos (by omega) (ev_pos (by rw [ByteArray.size_append]; omega) (ev_bindc e5 (ev_pos (by omega) (ev_pos (by rw [ByteArray.size_append]; omega) (ev_bindc e6 (ev_val rfl))))))))))))))))), ?_⟩
  have hz : ∀ z ∈ [(⟨#[]⟩ : ByteArray), (⟨#[120]⟩ : ByteArray), (⟨#[97, 9, 98, 10]⟩ : ByteArray), r1 ++ (⟨#[10]⟩ : ByteArray), r2 ++ (⟨#[10]⟩ : ByteArray), r3 ++ (⟨#[120, 10]⟩ : ByteArray), r4 ++ (⟨#[10]⟩ : ByteArray), ((⟨#[120]⟩ : ByteArray) ++ r4) ++ (⟨#[32, 121, 10]⟩ : ByteArray), ((⟨#[97, 32]⟩ : ByteArray) ++ r5) ++ (⟨#[10]⟩ : ByteArray)], z.size ≤ 30000 := by
    intro z hz
    simp only [List.mem_cons, List.not_mem_nil, or_false] at hz
    rcases hz with rfl | rfl | rfl | rfl | rfl | rfl | rfl | rfl | rfl
    · decide
    · decide
    · decide
    all_goals (simp only [ByteArray.size_append]; omega)
  exact hz x hx
theorem PaperText_ev (l : List Int) (at_ : Int) (hl : Nums l) (h0 : 0 ≤ at_) (h1 : at_ < 1099511626000) :
    ∃ (t : ByteArray) (a' : Int), Ev (fun k => chasemake_Stream_PaperText.f k l at_) (t, a') ∧ t.size ≤ 30000 := by
  obtain ⟨xs, a1, e, hlen, hxs, g1, g2⟩ := Papers_ev l at_ hl h0 h1
  by_cases hz : (xs.length : Int) = 0
  · obtain ⟨t, a', h, ht⟩ := PaperText_pick l a1 hl (by omega) (by omega) xs
    exact ⟨t, a', Ev.congr (fun _ => chasemake_Stream_PaperText.f.eq_1 ..) (Ev.bind e (ev_pos hz h)), ht⟩
  · obtain ⟨b, eb⟩ := Flip_is l a1 12 hl (by omega) (by omega) (by omega)
    cases b with
    | true =>
      obtain ⟨t, a', h, ht⟩ := PaperText_pick l (a1 + 1) hl (by omega) (by omega) xs
      exact ⟨t, a', Ev.congr (fun _ => chasemake_Stream_PaperText.f.eq_1 ..) (Ev.bind e (ev_neg hz (ev_bindc eb h))), ht⟩
    | false =>
      refine ⟨_, _, Ev.congr (fun _ => chasemake_Stream_PaperText.f.eq_1 ..) (Ev.bind e (ev_neg hz (ev_bindc eb (Ev.step (fun _ => chasemake_Stream_PaperText.j0.eq_2 ..) (ev_neg (by simp) (ev_pos (by simp only; omega) (ev_val rfl))))))), ?_⟩
      cases xs with
      | nil => exact absurd rfl hz
      | cons x r => exact Nat.le_trans (hxs x List.mem_cons_self) (by omega)
end Go.Proofs.YtffaggbephnmkaaGreatDoor.Pg
