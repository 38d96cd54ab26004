/- Part of the proof that the law leaksEnd is true for every input. No conditions. Laid by a program of this session over the kit's print and words; declarations that nothing names are left out. -/
import Derived.Test.YtolcpmdojlbhcaaDoorZkPex10
import Derived.Test.YtolcpmdojlbhcaaDoorZkPex11
import Derived.Test.YtolcpmdojlbhcaaDoorZkGBase
import Derived.Test.YtolcpmdojlbhcaaDoorZkPex5
import Derived.Test.YtolcpmdojlbhcaaDoorZkPex9
import Derived.Test.YtolcpmdojlbhcaaDoorZkPex3
import Derived.Test.YtolcpmdojlbhcaaDoorZkPex7
import Derived.Test.YtolcpmdojlbhcaaDoorZkPex8
import Derived.Test.YtolcpmdojlbhcaaDoorZkPex2
import Derived.Lib.ValidLaws
import Derived.Lib.MapLaws
import Derived.Test.YtolcpmdojlbhcaaDoorZkPex6
namespace Go.Proofs.YtolcpmdojlbhcaaDoor.Pe
open Go.RowKit Go.Proofs.YtolcpmdojlbhcaaDoor.GBase Go.Proofs.YtolcpmdojlbhcaaDoorW.PrintWords Go.Proofs.YtolcpmdojlbhcaaDoorW.PrintLast
set_option linter.unusedVariables false
set_option linter.unusedSimpArgs false
def isW (c : Int) : Bool := decide (97 ≤ c ∧ c ≤ 122) || decide (65 ≤ c ∧ c ≤ 90) || decide (48 ≤ c ∧ c ≤ 57) || decide (128 ≤ c)
theorem letter_is (c : Int) : near_letter.f c = some (isW c) := by
  by_cases h1 : 97 ≤ c <;> by_cases h2 : c ≤ 122 <;> by_cases h3 : 65 ≤ c <;> by_cases h4 : c ≤ 90 <;> by_cases h5 : 48 ≤ c <;> by_cases h6 : c ≤ 57 <;> by_cases h7 : 128 ≤ c <;>
    first | (exfalso; omega) | simp [near_letter.f, base_Digit.f, isW, h1, h2, h3, h4, h5, h6, h7]
def wEnd (s : ByteArray) (i : Nat) : Nat := if h : i < s.size then (if isW (bt s i) = true then wEnd s (i + 1) else i) else i
  termination_by s.size - i
theorem wEnd_in {s : ByteArray} {i : Nat} (h : i < s.size) (hw : isW (bt s i) = true) : wEnd s i = wEnd s (i + 1) := by
  rw [wEnd, dif_pos h, if_pos hw]
theorem wEnd_stop {s : ByteArray} {i : Nat} (h : i < s.size) (hw : ¬ isW (bt s i) = true) : wEnd s i = i := by
  rw [wEnd, dif_pos h, if_neg hw]
theorem wEnd_end {s : ByteArray} {i : Nat} (h : ¬ i < s.size) : wEnd s i = i := by
  rw [wEnd, dif_neg h]
theorem le_wEnd (s : ByteArray) (d : Nat) : ∀ i, s.size - i ≤ d → i ≤ wEnd s i ∧ (i ≤ s.size → wEnd s i ≤ s.size) := by
  induction d with
  | zero => intro i hi; rw [wEnd_end (by omega)]; exact ⟨Nat.le_refl _, id⟩
  | succ d ih =>
    intro i hi
    by_cases h : i < s.size
    · by_cases hw : isW (bt s i) = true
      · rw [wEnd_in h hw]
        have := ih (i + 1) (by omega)
        omega
      · rw [wEnd_stop h hw]; exact ⟨Nat.le_refl _, id⟩
    · rw [wEnd_end h]; exact ⟨Nat.le_refl _, id⟩
theorem wEnd_ge (s : ByteArray) (i : Nat) : i ≤ wEnd s i := (le_wEnd s _ i (Nat.le_refl _)).1
theorem wEnd_le {s : ByteArray} {i : Nat} (h : i ≤ s.size) : wEnd s i ≤ s.size := (le_wEnd s _ i (Nat.le_refl _)).2 h
def spans (s : ByteArray) (i : Nat) : List (Nat × Nat) := if h : i < s.size then (if isW (bt s i) = true then (i, wEnd s i) :: spans s (wEnd s i + 1) else spans s (i + 1)) else []
  termination_by s.size - i
  decreasing_by
    all_goals have := wEnd_ge s i
    all_goals omega
theorem spans_in {s : ByteArray} {i : Nat} (h : i < s.size) (hw : isW (bt s i) = true) : spans s i = (i, wEnd s i) :: spans s (wEnd s i + 1) := by
  rw [spans, dif_pos h, if_pos hw]
theorem spans_out {s : ByteArray} {i : Nat} (h : i < s.size) (hw : ¬ isW (bt s i) = true) : spans s i = spans s (i + 1) := by
  rw [spans, dif_pos h, if_neg hw]
theorem spans_end {s : ByteArray} {i : Nat} (h : ¬ i < s.size) : spans s i = [] := by
  rw [spans, dif_neg h]
def wd (s : ByteArray) (p : Nat × Nat) : ByteArray := lowA (s.extract p.1 p.2)
def wordsOf (s : ByteArray) : List ByteArray := (spans s 0).map (wd s)
theorem ex_size (s : ByteArray) (a b : Nat) : (s.extract a b).size ≤ s.size := by
  rw [ByteArray.size_extract]; omega
theorem near_words_ev (s : ByteArray) (hs : s.size < 8796093022208) (d : Nat) : ∀ (i : Nat) (acc : List ByteArray), s.size - i ≤ d → i ≤ s.size → acc.length ≤ i →
    Ev (fun k => near_Words.l0 k s acc (-1) (i : Int)) (acc ++ (spans s i).map (wd s)) ∧
    ∀ f : Nat, f < i → Ev (fun k => near_Words.l0 k s acc (f : Int) (i : Int)) (acc ++ wd s (f, wEnd s i) :: (spans s (wEnd s i + 1)).map (wd s)) := by
  have hlow : ∀ a b, base_Lower.f (s.extract a b) = some (lowA (s.extract a b)) := fun a b => by
    have := ex_size s a b
    unfold base_Lower.f; rw [if_pos (by omega)]
  have hend : ∀ (acc : List ByteArray) (x : Int), Ev (fun k => near_Words.l0 k s acc x ((s.size : Int) + 1)) acc := fun acc x =>
    Ev.step (fun _ => near_Words.l0.eq_2 ..) (ev_neg (by omega) (ev_val rfl))
  induction d with
  | zero =>
    intro i acc hd hi ha
    obtain rfl : i = s.size := by omega
    have hw : wrap64 ((s.size : Int) + 1) = (s.size : Int) + 1 := wr64 (by omega) (by omega)
    refine ⟨?_, fun f hf => ?_⟩
    · rw [spans_end (by omega)]
      refine Ev.step (fun _ => near_Words.l0.eq_2 ..) (ev_pos (by omega) (ev_neg (by omega) ?_))
      refine Ev.step (fun _ => near_Words.j1.eq_2 ..) (ev_neg (by simp) ?_)
      refine Ev.step (fun _ => near_Words.j2.eq_2 ..) (ev_neg (by simp) (ev_neg (by simp) (ev_neg (by omega) ?_)))
      rw [hw]
      simpa using hend acc (-1)
    · rw [wEnd_end (by omega), spans_end (by omega)]
      refine Ev.step (fun _ => near_Words.l0.eq_2 ..) (ev_pos (by omega) (ev_neg (by omega) ?_))
      refine Ev.step (fun _ => near_Words.j1.eq_2 ..) (ev_neg (by simp) ?_)
      refine Ev.step (fun _ => near_Words.j2.eq_2 ..) (ev_neg (by simp) (ev_neg (by simp) (ev_pos (by omega) (ev_pos (by omega) (ev_pos (by omega) (ev_pos (by omega) ?_))))))
      refine ev_bindc (hlow _ _) (ev_pos (by omega) ?_)
      rw [hw]
      simpa [wd] using hend _ (-1)
  | succ d ih =>
    intro i acc hd hi ha
    by_cases hlt : i < s.size
    · have hw : wrap64 ((i : Int) + 1) = ((i + 1 : Nat) : Int) := by rw [wr64 (by omega) (by omega)]; omega
      by_cases hc : isW (bt s i) = true
      · have ihf := (ih (i + 1) acc (by omega) (by omega) (by omega)).2
        refine ⟨?_, fun f hf => ?_⟩
        · rw [spans_in hlt hc]
          refine Ev.step (fun _ => near_Words.l0.eq_2 ..) (ev_pos (by omega) (ev_pos (by omega) (ev_pos (by omega) (ev_bindc (letter_is _) ?_))))
          rw [hc]
          refine Ev.step (fun _ => near_Words.j1.eq_2 ..) (ev_pos rfl ?_)
          refine Ev.step (fun _ => near_Words.j2.eq_2 ..) (ev_pos (by simp) (ev_pos rfl ?_))
          rw [hw, wEnd_in hlt hc]
          exact ihf i (by omega)
        · rw [wEnd_in hlt hc]
          refine Ev.step (fun _ => near_Words.l0.eq_2 ..) (ev_pos (by omega) (ev_pos (by omega) (ev_pos (by omega) (ev_bindc (letter_is _) ?_))))
          rw [hc]
          refine Ev.step (fun _ => near_Words.j1.eq_2 ..) (ev_pos rfl ?_)
          refine Ev.step (fun _ => near_Words.j2.eq_2 ..) (ev_neg (by simp) (ev_pos rfl ?_))
          rw [hw]
          exact ihf f (by omega)
      · have hcf : isW (bt s i) = false := by simpa using hc
        refine ⟨?_, fun f hf => ?_⟩
        · rw [spans_out hlt hc]
          refine Ev.step (fun _ => near_Words.l0.eq_2 ..) (ev_pos (by omega) (ev_pos (by omega) (ev_pos (by omega) (ev_bindc (letter_is _) ?_))))
          rw [hcf]
          refine Ev.step (fun _ => near_Words.j1.eq_2 ..) (ev_neg (by simp) ?_)
          refine Ev.step (fun _ => near_Words.j2.eq_2 ..) (ev_neg (by simp) (ev_neg (by simp) (ev_neg (by omega) ?_)))
          rw [hw]
          exact (ih (i + 1) acc (by omega) (by omega) (by omega)).1
        · rw [wEnd_stop hlt hc]
          refine Ev.step (fun _ => near_Words.l0.eq_2 ..) (ev_pos (by omega) (ev_pos (by omega) (ev_pos (by omega) (ev_bindc (letter_is _) ?_))))
          rw [hcf]
          refine Ev.step (fun _ => near_Words.j1.eq_2 ..) (ev_neg (by simp) ?_)
          refine Ev.step (fun _ => near_Words.j2.eq_2 ..) (ev_neg (by simp) (ev_neg (by simp) (ev_pos (by omega) (ev_pos (by omega) (ev_pos (by omega) (ev_pos (by omega) ?_))))))
          refine ev_bindc (hlow _ _) (ev_pos (by omega) ?_)
          rw [hw]
          have := (ih (i + 1) (acc ++ [wd s (f, i)]) (by omega) (by omega) (by simp; omega)).1
          simpa [wd] using this
    · obtain rfl : i = s.size := by omega
      exact ih s.size acc (by omega) (by omega) ha
theorem near_Words_ev (s : ByteArray) (hs : s.size < 8796093022208) : Ev (fun k => near_Words.f k s) (wordsOf s) := by
  have := (near_words_ev s hs s.size 0 [] (by omega) (by omega) (by simp)).1
  simpa [near_Words.f, wordsOf] using this
theorem spans_count (s : ByteArray) (d : Nat) : ∀ i, s.size - i ≤ d → (spans s i).length ≤ s.size - i := by
  induction d with
  | zero => intro i hi; rw [spans_end (by omega)]; simp
  | succ d ih =>
    intro i hi
    by_cases h : i < s.size
    · by_cases hw : isW (bt s i) = true
      · rw [spans_in h hw]
        have h1 := wEnd_ge s (i + 1)
        rw [← wEnd_in h hw] at h1
        have := ih (wEnd s i + 1) (by omega)
        simp only [List.length_cons]
        omega
      · rw [spans_out h hw]
        have := ih (i + 1) (by omega)
        omega
    · rw [spans_end h]; simp
theorem wordsOf_count (s : ByteArray) : (wordsOf s).length ≤ s.size := by
  have := spans_count s _ 0 (Nat.le_refl _)
  simpa [wordsOf] using this
end Go.Proofs.YtolcpmdojlbhcaaDoor.Pe
namespace Go.Proofs.YtolcpmdojlbhcaaDoor.Pe
open Go.RowKit Go.Proofs.YtolcpmdojlbhcaaDoor.GBase Go.Proofs.YtolcpmdojlbhcaaDoorW.PrintWords Go.Proofs.YtolcpmdojlbhcaaDoorW.PrintLast
set_option linter.unusedVariables false
set_option linter.unusedSimpArgs false
def wAt (s : ByteArray) (j : Nat) : Bool := isW (bt s (j : Int))
theorem wAt_out (s : ByteArray) (j : Nat) (h : s.size ≤ j) : wAt s j = false := by
  unfold wAt bt
  rw [dif_neg (by rw [Int.toNat_natCast]; omega)]
  rfl
def IsWord (s : ByteArray) (p : Nat × Nat) : Prop := p.1 < p.2 ∧ p.2 ≤ s.size ∧ (∀ j, p.1 ≤ j → j < p.2 → wAt s j = true) ∧ (p.1 = 0 ∨ wAt s (p.1 - 1) = false) ∧ wAt s p.2 = false
theorem wEnd_spec (s : ByteArray) (d : Nat) : ∀ i, s.size - i ≤ d → (∀ j, i ≤ j → j < wEnd s i → wAt s j = true) ∧ wAt s (wEnd s i) = false := by
  induction d with
  | zero =>
    intro i hd
    rw [wEnd_end (by omega)]
    exact ⟨fun j h1 h2 => by omega, wAt_out s i (by omega)⟩
  | succ d ih =>
    intro i hd
    by_cases h : i < s.size
    · by_cases hw : isW (bt s i) = true
      · rw [wEnd_in h hw]
        obtain ⟨h1, h2⟩ := ih (i + 1) (by omega)
        refine ⟨fun j h3 h4 => ?_, h2⟩
        by_cases e : j = i
        · subst e; exact hw
        · exact h1 j (by omega) h4
      · rw [wEnd_stop h hw]
        exact ⟨fun j h1 h2 => by omega, by unfold wAt; simpa using hw⟩
    · rw [wEnd_end h]
      exact ⟨fun j h1 h2 => by omega, wAt_out s i (by omega)⟩
theorem mem_spans (s : ByteArray) (p : Nat × Nat) (d : Nat) : ∀ i, s.size - i ≤ d → (i = 0 ∨ wAt s (i - 1) = false) → (p ∈ spans s i ↔ IsWord s p ∧ i ≤ p.1) := by
  induction d with
  | zero =>
    intro i hd hb
    rw [spans_end (by omega)]
    exact ⟨fun h => absurd h List.not_mem_nil, fun ⟨h1, h2⟩ => by have := h1.1; have := h1.2.1; omega⟩
  | succ d ih =>
    intro i hd hb
    by_cases h : i < s.size
    · by_cases hw : isW (bt s i) = true
      · obtain ⟨e1, e2⟩ := wEnd_spec s _ i (Nat.le_refl _)
        have hgt : i < wEnd s i := by have := wEnd_ge s (i + 1); rw [wEnd_in h hw]; omega
        have hle := wEnd_le (s := s) (Nat.le_of_lt h)
        have ih2 := ih (wEnd s i + 1) (by omega) (.inr e2)
        rw [spans_in h hw, List.mem_cons, ih2]
        constructor
        · rintro (rfl | ⟨h1, h2⟩)
          · exact ⟨⟨hgt, hle, e1, hb, e2⟩, Nat.le_refl _⟩
          · exact ⟨h1, by omega⟩
        · rintro ⟨h1, h2⟩
          obtain ⟨w1, w2, w3, w4, w5⟩ := h1
          by_cases hp : p.1 = i
          · refine .inl ?_
            have hq : p.2 = wEnd s i := by
              rcases Nat.lt_trichotomy p.2 (wEnd s i) with c | c | c
              · rw [e1 p.2 (by omega) c] at w5; exact absurd w5 (by decide)
              · exact c
              · rw [w3 (wEnd s i) (by omega) c] at e2; exact absurd e2 (by decide)
            exact Prod.ext hp hq
          · refine .inr ⟨⟨w1, w2, w3, w4, w5⟩, ?_⟩
            rcases Nat.lt_or_ge (wEnd s i) p.1 with c | c
            · exact c
            · rcases w4 with w4 | w4
              · omega
              · rw [e1 (p.1 - 1) (by omega) (by omega)] at w4; exact absurd w4 (by decide)
      · rw [spans_out h hw, ih (i + 1) (by omega) (.inr (by unfold wAt; simpa using hw))]
        constructor
        · exact fun ⟨h1, h2⟩ => ⟨h1, by omega⟩
        · rintro ⟨h1, h2⟩
          refine ⟨h1, ?_⟩
          rcases Nat.lt_or_ge i p.1 with c | c
          · exact c
          · exact absurd (h1.2.2.1 i (by omega) (by have := h1.1; omega)) hw
    · rw [spans_end h]
      exact ⟨fun h => absurd h List.not_mem_nil, fun ⟨h1, h2⟩ => by have := h1.1; have := h1.2.1; omega⟩
theorem mem_words (s : ByteArray) (p : Nat × Nat) : p ∈ spans s 0 ↔ IsWord s p := by
  rw [mem_spans s p _ 0 (Nat.le_refl _) (.inl rfl)]
  exact ⟨fun h => h.1, fun h => ⟨h, Nat.zero_le _⟩⟩
theorem IsWord.same {s : ByteArray} {p q : Nat × Nat} (hp : IsWord s p) (hq : IsWord s q) {j : Nat} (h1 : p.1 ≤ j) (h2 : j < p.2) (h3 : q.1 ≤ j) (h4 : j < q.2) : p = q := by
  obtain ⟨a1, a2, a3, a4, a5⟩ := hp
  obtain ⟨b1, b2, b3, b4, b5⟩ := hq
  have e1 : p.1 = q.1 := by
    rcases Nat.lt_trichotomy p.1 q.1 with c | c | c
    · rcases b4 with b4 | b4
      · omega
      · rw [a3 (q.1 - 1) (by omega) (by omega)] at b4; exact absurd b4 (by decide)
    · exact c
    · rcases a4 with a4 | a4
      · omega
      · rw [b3 (p.1 - 1) (by omega) (by omega)] at a4; exact absurd a4 (by decide)
  have e2 : p.2 = q.2 := by
    rcases Nat.lt_trichotomy p.2 q.2 with c | c | c
    · rw [b3 p.2 (by omega) c] at a5; exact absurd a5 (by decide)
    · exact c
    · rw [a3 q.2 (by omega) c] at b5; exact absurd b5 (by decide)
  exact Prod.ext e1 e2
theorem bt_extract (s : ByteArray) (f e j : Nat) (h : f + j < e) (he : e ≤ s.size) : bt (s.extract f e) (j : Int) = bt s ((f + j : Nat) : Int) := by
  unfold bt
  rw [dif_pos (by rw [Int.toNat_natCast, ByteArray.size_extract]; omega), dif_pos (by rw [Int.toNat_natCast]; omega)]
  simp only [Int.toNat_natCast]
  congr 1
  rw [ByteArray.getElem_extract]
theorem wAt_extract (s : ByteArray) (f e j : Nat) (h : f + j < e) (he : e ≤ s.size) : wAt (s.extract f e) j = wAt s (f + j) := by
  unfold wAt
  rw [bt_extract s f e j h he]
def Cut (s : ByteArray) (f e : Nat) : Prop := (f = 0 ∨ wAt s (f - 1) = false ∨ wAt s f = false) ∧ (wAt s (e - 1) = false ∨ wAt s e = false)
theorem word_extract (s : ByteArray) (f e : Nat) (hfe : f < e) (he : e ≤ s.size) (hc : Cut s f e) (p : Nat × Nat) : IsWord (s.extract f e) p ↔ IsWord s (f + p.1, f + p.2) ∧ f + p.2 ≤ e := by
  have hs : (s.extract f e).size = e - f := by rw [ByteArray.size_extract]; omega
  obtain ⟨c1, c2⟩ := hc
  constructor
  · rintro ⟨a1, a2, a3, a4, a5⟩
    rw [hs] at a2
    refine ⟨⟨by simp only []; omega, by simp only []; omega, fun j h1 h2 => ?_, ?_, ?_⟩, by omega⟩
    · simp only [] at h1 h2
      have := a3 (j - f) (by omega) (by omega)
      rw [wAt_extract s f e _ (by omega) he, show f + (j - f) = j by omega] at this
      exact this
    · simp only []
      rcases a4 with a4 | a4
      · rw [a4, Nat.add_zero]
        have h0 := a3 p.1 (Nat.le_refl _) a1
        rw [wAt_extract s f e _ (by omega) he, a4, Nat.add_zero] at h0
        rcases c1 with c1 | c1 | c1
        · exact .inl c1
        · exact .inr c1
        · rw [c1] at h0; exact absurd h0 (by decide)
      · by_cases h0 : p.1 = 0
        · rw [h0, Nat.add_zero]
          have h1 := a3 p.1 (Nat.le_refl _) a1
          rw [wAt_extract s f e _ (by omega) he, h0, Nat.add_zero] at h1
          rcases c1 with c1 | c1 | c1
          · exact .inl c1
          · exact .inr c1
          · rw [c1] at h1; exact absurd h1 (by decide)
        · rw [wAt_extract s f e _ (by omega) he] at a4
          exact .inr (by rw [show f + p.1 - 1 = f + (p.1 - 1) by omega]; exact a4)
    · simp only []
      by_cases h0 : f + p.2 < e
      · rw [wAt_extract s f e _ h0 he] at a5
        exact a5
      · have h1 := a3 (p.2 - 1) (by omega) (by omega)
        rw [wAt_extract s f e _ (by omega) he] at h1
        rcases c2 with c2 | c2
        · rw [show f + (p.2 - 1) = e - 1 by omega, c2] at h1; exact absurd h1 (by decide)
        · rw [show f + p.2 = e by omega]; exact c2
  · rintro ⟨⟨a1, a2, a3, a4, a5⟩, a6⟩
    simp only [] at a1 a2 a3 a4 a5
    refine ⟨by omega, by rw [hs]; omega, fun j h1 h2 => ?_, ?_, ?_⟩
    · rw [wAt_extract s f e j (by omega) he]
      exact a3 (f + j) (by omega) (by omega)
    · by_cases h0 : p.1 = 0
      · exact .inl h0
      · refine .inr ?_
        rw [wAt_extract s f e _ (by omega) he]
        rcases a4 with a4 | a4
        · omega
        · rw [show f + (p.1 - 1) = f + p.1 - 1 by omega]; exact a4
    · by_cases h0 : f + p.2 < e
      · rw [wAt_extract s f e _ h0 he]; exact a5
      · exact wAt_out _ _ (by rw [hs]; omega)
theorem ba_list {a b : ByteArray} (h : a.data.toList = b.data.toList) : a = b := by
  obtain ⟨⟨x⟩⟩ := a
  obtain ⟨⟨y⟩⟩ := b
  simp only [] at h
  rw [h]
theorem extract_twice (s : ByteArray) (f e a b : Nat) (h : f + b ≤ e) : (s.extract f e).extract a b = s.extract (f + a) (f + b) := by
  apply ba_list
  simp only [ByteArray.data_extract, Array.toList_extract, List.extract_eq_take_drop]
  rw [List.drop_take, List.take_take, List.drop_drop]
  congr 1
  omega
theorem wd_extract (s : ByteArray) (f e : Nat) (p : Nat × Nat) (h : f + p.2 ≤ e) : wd (s.extract f e) p = wd s (f + p.1, f + p.2) := by
  unfold wd
  rw [extract_twice s f e p.1 p.2 h]
theorem words_extract (s : ByteArray) (f e : Nat) (hfe : f < e) (he : e ≤ s.size) (hc : Cut s f e) (x : ByteArray) : x ∈ wordsOf (s.extract f e) ↔ ∃ p, IsWord s p ∧ f ≤ p.1 ∧ p.2 ≤ e ∧ wd s p = x := by
  unfold wordsOf
  rw [List.mem_map]
  constructor
  · rintro ⟨p, hp, rfl⟩
    obtain ⟨h1, h2⟩ := (word_extract s f e hfe he hc p).1 ((mem_words _ p).1 hp)
    exact ⟨(f + p.1, f + p.2), h1, by simp only []; omega, h2, (wd_extract s f e p h2).symm⟩
  · rintro ⟨p, h1, h2, h3, rfl⟩
    refine ⟨(p.1 - f, p.2 - f), (mem_words _ _).2 ((word_extract s f e hfe he hc _).2 ?_), ?_⟩
    · have e1 : f + (p.1 - f) = p.1 := by omega
      have e2 : f + (p.2 - f) = p.2 := by have := h1.1; omega
      simp only [e1, e2]
      exact ⟨h1, h3⟩
    · rw [wd_extract s f e _ (by have := h1.1; simp only []; omega)]
      have e1 : f + (p.1 - f) = p.1 := by omega
      have e2 : f + (p.2 - f) = p.2 := by have := h1.1; omega
      simp only [e1, e2]
end Go.Proofs.YtolcpmdojlbhcaaDoor.Pe
namespace Go.Proofs.YtolcpmdojlbhcaaDoor.Pe
open Go.RowKit Go.Proofs.YtolcpmdojlbhcaaDoor.GBase Go.Proofs.YtolcpmdojlbhcaaDoorW.PrintWords Go.Proofs.YtolcpmdojlbhcaaDoorW.PrintLast
set_option linter.unusedVariables false
set_option linter.unusedSimpArgs false
theorem isL_isW (c : Int) : privilege_Leaks.isL c = isW c := by
  have h : privilege_letter.f c = some (isW c) := by
    by_cases h1 : 97 ≤ c <;> by_cases h2 : c ≤ 122 <;> by_cases h3 : 65 ≤ c <;> by_cases h4 : c ≤ 90 <;> by_cases h5 : 48 ≤ c <;> by_cases h6 : c ≤ 57 <;> by_cases h7 : 128 ≤ c <;>
      first | (exfalso; omega) | simp [privilege_letter.f, base_Digit.f, isW, h1, h2, h3, h4, h5, h6, h7]
  unfold privilege_Leaks.isL
  rw [h]
  rfl
theorem anyB_loop (l : List Bool) (hl : l.length ≤ 1000000) (d : Nat) : ∀ j : Nat, l.length - j ≤ d → j ≤ l.length → ∃ x : Int, Ev (fun k => slices_Index_bool_bool.l0 k l true (l.length : Int) (j : Int)) x ∧ decide (x ≥ 0) = (l.drop j).any id := by
  have stop : ∀ j : Nat, ¬ j < l.length → ∃ x : Int, Ev (fun k => slices_Index_bool_bool.l0 k l true (l.length : Int) (j : Int)) x ∧ decide (x ≥ 0) = (l.drop j).any id := fun j h => by
    rw [List.drop_eq_nil_of_le (by omega)]
    exact ⟨-1, Ev.step (fun _ => slices_Index_bool_bool.l0.eq_2 ..) (ev_neg (by omega) (Ev.now _)), rfl⟩
  induction d with
  | zero => exact fun j h1 h2 => stop j (by omega)
  | succ d ih =>
    intro j h1 h2
    by_cases hlt : j < l.length
    · have e : rdOf false l (j : Int) = l[j] := by simp [rdOf, List.getD, hlt]
      have hw : wrap64 ((j : Int) + 1) = ((j + 1 : Nat) : Int) := by rw [wr64 (by omega) (by omega)]; omega
      rw [List.drop_eq_getElem_cons hlt, List.any_cons]
      cases hb : l[j] with
      | true =>
        refine ⟨(j : Int), Ev.step (fun _ => slices_Index_bool_bool.l0.eq_2 ..) (ev_pos (by omega) (ev_pos (by omega) (ev_pos (by omega) (ev_pos (by rw [e, hb]; rfl) (Ev.now _))))), ?_⟩
        rw [decide_eq_true (by omega)]
        rfl
      | false =>
        obtain ⟨x, hx, hx2⟩ := ih (j + 1) (by omega) (by omega)
        refine ⟨x, Ev.step (fun _ => slices_Index_bool_bool.l0.eq_2 ..) (ev_pos (by omega) (ev_pos (by omega) (ev_pos (by omega) (ev_neg (by rw [e, hb]; decide) ?_)))), ?_⟩
        · rw [hw]
          exact hx
        · rw [hx2]
          rfl
    · exact stop j hlt
theorem anyB_ev (l : List Bool) (hl : l.length ≤ 1000000) : Ev (fun k => slices_Contains_bool_bool.f k l true) (l.any id) := by
  obtain ⟨x, hx, hx2⟩ := anyB_loop l hl _ 0 (Nat.le_refl _) (Nat.zero_le _)
  rw [List.drop_zero] at hx2
  refine Ev.congr (fun _ => slices_Contains_bool_bool.f.eq_1 ..) (Ev.bind (Ev.congr (fun _ => slices_Index_bool_bool.f.eq_1 ..) hx) (ev_val ?_))
  rw [hx2]
def leakG (s : ByteArray) (c : List Bool) (S : List (List UInt8)) (p : Nat × Nat) : Bool := decide (4 ≤ p.2 - p.1) && (!(((c.take p.2).drop p.1).any id) && decide ((wd s p).data.toList ∈ S))
def leakSp (p : Nat × Nat) : S46 := ⟨(p.1 : Int), (p.2 : Int)⟩
def leakRest (s : ByteArray) (i : Nat) : Option Nat → List (Nat × Nat)
  | none => spans s i
  | some f => (f, wEnd s i) :: spans s (wEnd s i + 1)
theorem scan_step (k : Nat) (s : ByteArray) (c : List Bool) (S : List (List UInt8)) (n i : Nat) (fr : Option Nat) (out : List S46) : privilege_Leaks.scan k s c S (n + 1) i fr out = if i < s.size ∧ privilege_Leaks.isL (bt s (i : Int)) = true then privilege_Leaks.scan k s c S n (i + 1) (some (fr.getD i)) out
    else (match fr with
      | none => privilege_Leaks.scan k s c S n (i + 1) none out
      | some f => if 4 ≤ i - f then ((slices_Contains_bool_bool.f k ((c.take i).drop f) true).bind fun b => (if b = true then privilege_Leaks.scan k s c S n (i + 1) none out else (if decide ((lowA (s.extract f i)).data.toList ∈ S) = true then (if out.length < 8796093022208 then privilege_Leaks.scan k s c S n (i + 1) none (out ++ [⟨(f : Int), (i : Int)⟩]) else none) else privilege_Leaks.scan k s c S n (i + 1) none out))) else privilege_Leaks.scan k s c S n (i + 1) none out) := by
  cases fr <;> rfl
theorem scan_ev (s : ByteArray) (c : List Bool) (S : List (List UInt8)) (hc : c.length = s.size) (hs : s.size ≤ 100000) (n : Nat) : ∀ (i : Nat) (fr : Option Nat) (out : List S46), i + n = s.size + 1 → (∀ f, fr = some f → f < i ∧ ∀ j, f ≤ j → j < i → wAt s j = true) → out.length ≤ i →
    Ev (fun k => privilege_Leaks.scan k s c S n i fr out) (out ++ ((leakRest s i fr).filter (leakG s c S)).map leakSp) := by
  induction n with
  | zero =>
    intro i fr out hin hf ho
    refine Ev.congr (fun _ => privilege_Leaks.scan.eq_1 ..) (ev_val ?_)
    cases fr with
    | none =>
      show some out = some (out ++ ((spans s i).filter _).map _)
      rw [spans_end (by omega)]
      simp
    | some f =>
      obtain ⟨h1, h2⟩ := hf f rfl
      have := h2 s.size (by omega) (by omega)
      rw [wAt_out s s.size (Nat.le_refl _)] at this
      exact absurd this (by decide)
  | succ n ih =>
    intro i fr out hin hf ho
    refine Ev.congr (fun _ => scan_step ..) ?_
    by_cases hi : i < s.size ∧ privilege_Leaks.isL (bt s (i : Int)) = true
    · have hw : isW (bt s (i : Int)) = true := by rw [← isL_isW]; exact hi.2
      refine ev_pos hi (ev_eq (ih (i + 1) (some (fr.getD i)) out (by omega) ?_ (by omega)) ?_)
      · intro f e
        obtain rfl := Option.some.inj e
        cases fr with
        | none =>
          refine ⟨Nat.lt_succ_self i, fun j h1 h2 => ?_⟩
          have h3 : i ≤ j := h1
          obtain rfl : j = i := by omega
          exact hw
        | some f =>
          obtain ⟨h1, h2⟩ := hf f rfl
          refine ⟨by simp; omega, fun j h3 h4 => ?_⟩
          by_cases e : j = i
          · subst e; exact hw
          · exact h2 j (by simpa using h3) (by omega)
      · cases fr with
        | none =>
          show _ = out ++ ((spans s i).filter _).map _
          rw [spans_in hi.1 hw, wEnd_in hi.1 hw]
          rfl
        | some f =>
          show _ = out ++ (((f, wEnd s i) :: spans s (wEnd s i + 1)).filter _).map _
          rw [wEnd_in hi.1 hw]
          rfl
    · have hw : i < s.size → ¬ isW (bt s (i : Int)) = true := fun h h2 => hi ⟨h, by rw [isL_isW]; exact h2⟩
      have hsp : spans s i = spans s (i + 1) := by
        by_cases h : i < s.size
        · exact spans_out h (hw h)
        · rw [spans_end h, spans_end (by omega)]
      have hwe : wEnd s i = i := by
        by_cases h : i < s.size
        · exact wEnd_stop h (hw h)
        · exact wEnd_end h
      refine ev_neg hi ?_
      have next := fun (o : List S46) (h : o.length ≤ i + 1) => ih (i + 1) none o (by omega) (fun f e => by cases e) h
      cases fr with
      | none =>
        refine ev_eq (next out (by omega)) ?_
        show out ++ ((spans s (i + 1)).filter _).map _ = out ++ ((spans s i).filter _).map _
        rw [hsp]
      | some f =>
        obtain ⟨h1, h2⟩ := hf f rfl
        have hcl : ((c.take i).drop f).length ≤ 1000000 := by rw [List.length_drop, List.length_take]; omega
        have goal : ∀ b : Bool, leakG s c S (f, i) = b → out ++ ((leakRest s i (some f)).filter (leakG s c S)).map leakSp = (out ++ if b = true then [leakSp (f, i)] else []) ++ ((leakRest s (i + 1) none).filter (leakG s c S)).map leakSp := by
          intro b hb
          show out ++ (((f, wEnd s i) :: spans s (wEnd s i + 1)).filter _).map _ = _
          rw [hwe, List.filter_cons, hb]
          cases b with
          | true => simp [leakRest]
          | false => simp [leakRest]
        by_cases h4 : 4 ≤ i - f
        · refine ev_pos h4 (Ev.bind (anyB_ev _ hcl) ?_)
          cases hb : ((c.take i).drop f).any id with
          | true =>
            rw [goal false (by show (decide (4 ≤ i - f) && (!(((c.take i).drop f).any id) && decide ((lowA (s.extract f i)).data.toList ∈ S))) = false; rw [hb]; simp)]
            refine ev_pos rfl (ev_eq (next out (by omega)) ?_)
            simp
          | false =>
            refine ev_neg (by decide) ?_
            cases hd : decide ((lowA (s.extract f i)).data.toList ∈ S) with
            | true =>
              rw [goal true (by show (decide (4 ≤ i - f) && (!(((c.take i).drop f).any id) && decide ((lowA (s.extract f i)).data.toList ∈ S))) = true; rw [hb, hd, decide_eq_true h4]; rfl)]
              refine ev_pos rfl (ev_pos (by omega) (ev_eq (next _ (by rw [List.length_append]; simp only [List.length_cons, List.length_nil]; omega)) ?_))
              rfl
            | false =>
              rw [goal false (by show (decide (4 ≤ i - f) && (!(((c.take i).drop f).any id) && decide ((lowA (s.extract f i)).data.toList ∈ S))) = false; rw [hd]; simp)]
              refine ev_neg (by decide) (ev_eq (next out (by omega)) ?_)
              simp
        · rw [goal false (by show (decide (4 ≤ i - f) && (!(((c.take i).drop f).any id) && decide ((lowA (s.extract f i)).data.toList ∈ S))) = false; rw [decide_eq_false h4]; rfl)]
          refine ev_neg h4 (ev_eq (next out (by omega)) ?_)
          simp
end Go.Proofs.YtolcpmdojlbhcaaDoor.Pe
namespace Go.Proofs.YtolcpmdojlbhcaaDoor.GBase
def cov (l : List (Nat × Nat)) (i : Nat) : Bool := l.any fun p => decide (p.1 ≤ i) && decide (i < p.2)
def Norm (l : List (Nat × Nat)) : Prop := (∀ p ∈ l, p.1 < p.2) ∧ l.Pairwise (fun p q => p.2 < q.1)
theorem cov_iff {l : List (Nat × Nat)} {i : Nat} : cov l i = true ↔ ∃ p ∈ l, p.1 ≤ i ∧ i < p.2 := by
  simp [cov]
theorem cov_cons (p : Nat × Nat) (l : List (Nat × Nat)) (i : Nat) : cov (p :: l) i = ((decide (p.1 ≤ i) && decide (i < p.2)) || cov l i) := by simp [cov]
theorem cov_append (l m : List (Nat × Nat)) (i : Nat) : cov (l ++ m) i = (cov l i || cov m i) := by simp [cov]
theorem cov_nil (i : Nat) : cov [] i = false := rfl
theorem cov_perm {l m : List (Nat × Nat)} (h : l.Perm m) (i : Nat) : cov l i = cov m i := by
  rw [Bool.eq_iff_iff, cov_iff, cov_iff]
  constructor
  · rintro ⟨p, hp, h1⟩; exact ⟨p, h.mem_iff.1 hp, h1⟩
  · rintro ⟨p, hp, h1⟩; exact ⟨p, h.mem_iff.2 hp, h1⟩
theorem Norm.tail {p : Nat × Nat} {l : List (Nat × Nat)} (h : Norm (p :: l)) : Norm l := ⟨fun q hq => h.1 q (List.mem_cons_of_mem _ hq), (List.pairwise_cons.1 h.2).2⟩
theorem Norm.after {p : Nat × Nat} {l : List (Nat × Nat)} (h : Norm (p :: l)) {i : Nat} (hc : cov l i = true) : p.2 < i := by
  obtain ⟨q, hq, h1, h2⟩ := cov_iff.1 hc
  have := (List.pairwise_cons.1 h.2).1 q hq
  omega
theorem Norm.first {p : Nat × Nat} {l : List (Nat × Nat)} (h : Norm (p :: l)) {i : Nat} (hc : cov (p :: l) i = true) : p.1 ≤ i := by
  obtain ⟨q, hq, h1, h2⟩ := cov_iff.1 hc
  have hp := h.1 p List.mem_cons_self
  rcases List.mem_cons.1 hq with rfl | hq
  · exact h1
  · have := (List.pairwise_cons.1 h.2).1 q hq
    omega
theorem cov_head {p : Nat × Nat} {l : List (Nat × Nat)} {i : Nat} (h1 : p.1 ≤ i) (h2 : i < p.2) : cov (p :: l) i = true := cov_iff.2 ⟨p, List.mem_cons_self, h1, h2⟩
theorem Norm.gap {p : Nat × Nat} {l : List (Nat × Nat)} (h : Norm (p :: l)) : cov (p :: l) p.2 = false := by
  cases hc : cov (p :: l) p.2 with
  | false => rfl
  | true =>
    rw [cov_cons] at hc
    simp at hc
    have := h.after hc
    omega
theorem Norm.head_lt {p : Nat × Nat} {l : List (Nat × Nat)} (h : Norm (p :: l)) : p.1 < p.2 := h.1 p List.mem_cons_self
theorem Norm.unique {l m : List (Nat × Nat)} (hl : Norm l) (hm : Norm m) (h : ∀ i, cov l i = cov m i) : l = m := by
  induction l generalizing m with
  | nil =>
    cases m with
    | nil => rfl
    | cons q m =>
      have := h q.1
      rw [cov_head (Nat.le_refl _) hm.head_lt] at this
      cases this
  | cons p l ih =>
    cases m with
    | nil =>
      have := h p.1
      rw [cov_head (Nat.le_refl _) hl.head_lt] at this
      cases this
    | cons q m =>
      have a1 : p.1 ≤ q.1 := hl.first (by rw [h, cov_head (Nat.le_refl _) hm.head_lt])
      have a2 : q.1 ≤ p.1 := hm.first (by rw [← h, cov_head (Nat.le_refl _) hl.head_lt])
      have b1 : ¬ p.2 < q.2 := fun hlt => by
        have e := h p.2
        rw [hl.gap, cov_head (by have := hl.head_lt; omega) hlt] at e
        cases e
      have b2 : ¬ q.2 < p.2 := fun hlt => by
        have e := h q.2
        rw [hm.gap, cov_head (by have := hm.head_lt; omega) hlt] at e
        cases e
      obtain rfl : p = q := Prod.ext (by omega) (by omega)
      congr 1
      refine ih hl.tail hm.tail fun i => ?_
      have e := h i
      rw [cov_cons, cov_cons] at e
      by_cases hi : i < p.2
      · cases c1 : cov l i with
        | true => have := hl.after c1; omega
        | false =>
          cases c2 : cov m i with
          | true => have := hm.after c2; omega
          | false => rfl
      · have : (decide (p.1 ≤ i) && decide (i < p.2)) = false := by simp; omega
        rw [this] at e
        simpa using e
def NormR (l : List (Nat × Nat)) : Prop := (∀ p ∈ l, p.1 < p.2) ∧ l.Pairwise (fun p q => q.2 < p.1)
theorem NormR.norm {l : List (Nat × Nat)} (h : NormR l) : Norm l.reverse := ⟨fun p hp => h.1 p (List.mem_reverse.1 hp), List.pairwise_reverse.2 h.2⟩
theorem cov_reverse (l : List (Nat × Nat)) (i : Nat) : cov l.reverse i = cov l i := cov_perm l.reverse_perm i
def putR : List (Nat × Nat) → List (Nat × Nat) → List (Nat × Nat)
  | out, [] => out
  | [], s :: l => putR [s] l
  | p :: out, s :: l => if s.1 ≤ p.2 then putR ((p.1, max p.2 s.2) :: out) l else putR (s :: p :: out) l
theorem putR_law (l : List (Nat × Nat)) : ∀ out : List (Nat × Nat), NormR out → (∀ s ∈ l, s.1 < s.2) → l.Pairwise (fun a b => a.1 ≤ b.1) → (∀ p ∈ out, ∀ s ∈ l, p.1 ≤ s.1) →
    NormR (putR out l) ∧ ∀ i, cov (putR out l) i = (cov out i || cov l i) := by
  induction l with
  | nil => intro out h _ _ _; cases out <;> exact ⟨h, fun i => by simp [putR, cov_nil]⟩
  | cons s l ih =>
    intro out h hv hs ho
    have hs1 := List.pairwise_cons.1 hs
    have hsv : s.1 < s.2 := hv s List.mem_cons_self
    cases out with
    | nil =>
      obtain ⟨a, b⟩ := ih [s] ⟨by simpa using hsv, by simp⟩ (fun q hq => hv q (List.mem_cons_of_mem _ hq)) hs1.2 (fun p hp q hq => by
        obtain rfl := List.mem_singleton.1 hp
        exact hs1.1 q hq)
      refine ⟨by simpa [putR] using a, fun i => ?_⟩
      simp only [putR]
      rw [b i, cov_cons s [], cov_cons s l, cov_nil]
      simp
    | cons p out =>
      have hp1 : p.1 < p.2 := h.1 p List.mem_cons_self
      have hp2 := List.pairwise_cons.1 h.2
      have hps : p.1 ≤ s.1 := ho p List.mem_cons_self s List.mem_cons_self
      simp only [putR]
      by_cases hle : s.1 ≤ p.2
      · rw [if_pos hle]
        obtain ⟨a, b⟩ := ih ((p.1, max p.2 s.2) :: out) ⟨fun q hq => by
            rcases List.mem_cons.1 hq with rfl | hq
            · simp only; omega
            · exact h.1 q (List.mem_cons_of_mem _ hq), List.pairwise_cons.2 ⟨hp2.1, hp2.2⟩⟩ (fun q hq => hv q (List.mem_cons_of_mem _ hq)) hs1.2 (fun q hq t ht => by
            rcases List.mem_cons.1 hq with rfl | hq
            · exact ho p List.mem_cons_self t (List.mem_cons_of_mem _ ht)
            · exact ho q (List.mem_cons_of_mem _ hq) t (List.mem_cons_of_mem _ ht))
        refine ⟨a, fun i => ?_⟩
        rw [b i, cov_cons, cov_cons p out, cov_cons s l]
        have e : (decide (p.1 ≤ i) && decide (i < max p.2 s.2)) = ((decide (p.1 ≤ i) && decide (i < p.2)) || (decide (s.1 ≤ i) && decide (i < s.2))) := by
          rw [Bool.eq_iff_iff]
          simp only [Bool.and_eq_true, Bool.or_eq_true, decide_eq_true_eq]
          omega
        rw [e]
        cases (decide (p.1 ≤ i) && decide (i < p.2)) <;> cases (decide (s.1 ≤ i) && decide (i < s.2)) <;> cases cov out i <;> rfl
      · rw [if_neg hle]
        obtain ⟨a, b⟩ := ih (s :: p :: out) ⟨fun q hq => by
            rcases List.mem_cons.1 hq with rfl | hq
            · exact hsv
            · exact h.1 q hq, List.pairwise_cons.2 ⟨fun q hq => by
              rcases List.mem_cons.1 hq with rfl | hq
              · omega
              · have := hp2.1 q hq; omega, h.2⟩⟩ (fun q hq => hv q (List.mem_cons_of_mem _ hq)) hs1.2 (fun q hq t ht => by
            rcases List.mem_cons.1 hq with rfl | hq
            · exact hs1.1 t ht
            · exact ho q hq t (List.mem_cons_of_mem _ ht))
        refine ⟨a, fun i => ?_⟩
        rw [b i, cov_cons s (p :: out), cov_cons s l]
        cases (decide (s.1 ≤ i) && decide (i < s.2)) <;> cases cov (p :: out) i <;> rfl
end Go.Proofs.YtolcpmdojlbhcaaDoor.GBase
namespace Go.Proofs.YtolcpmdojlbhcaaDoor.Pe
open Go.RowKit Go.Proofs.YtolcpmdojlbhcaaDoor.GBase Go.Proofs.YtolcpmdojlbhcaaDoorW.PrintWords Go.Proofs.YtolcpmdojlbhcaaDoorW.PrintLast
set_option linter.unusedVariables false
set_option linter.unusedSimpArgs false
theorem markN_is (n : Nat) : ∀ (f : Nat) (c : List Bool), f + n ≤ c.length → ∃ c', privilege_Leaks.markN n (f : Int) c = some c' ∧ c'.length = c.length ∧ ∀ i, c'.getD i false = (c.getD i false || (decide (f ≤ i) && decide (i < f + n))) := by
  induction n with
  | zero =>
    intro f c h
    refine ⟨c, rfl, rfl, fun i => ?_⟩
    by_cases h1 : f ≤ i
    · rw [decide_eq_false (show ¬ i < f + 0 by omega)]
      simp
    · rw [decide_eq_false h1]
      simp
  | succ n ih =>
    intro f c h
    obtain ⟨c', h1, h2, h3⟩ := ih (f + 1) (c.set f true) (by rw [List.length_set]; omega)
    refine ⟨c', ?_, by rw [h2, List.length_set], fun i => ?_⟩
    · rw [privilege_Leaks.markN.eq_2, if_pos ⟨by omega, by omega⟩, Int.toNat_natCast]
      exact h1
    · rw [h3 i]
      by_cases e : i = f
      · subst e
        have : (c.set i true).getD i false = true := by simp [List.getD, List.getElem?_set, show i < c.length by omega]
        rw [this, decide_eq_true (Nat.le_refl i), decide_eq_true (show i < i + (n + 1) by omega)]
        simp
      · have : (c.set f true).getD i false = c.getD i false := by simp [List.getD, List.getElem?_set, Ne.symm e]
        rw [this]
        have e1 : decide (f + 1 ≤ i) = decide (f ≤ i) := by
          by_cases q : f ≤ i
          · rw [decide_eq_true q, decide_eq_true (by omega)]
          · rw [decide_eq_false q, decide_eq_false (by omega)]
        rw [e1, show f + 1 + n = f + (n + 1) by omega]
theorem wd_size (s : ByteArray) (p : Nat × Nat) : (wd s p).size ≤ s.size := by
  have e : (wd s p).size = (s.extract p.1 p.2).size := by
    show ((s.extract p.1 p.2).data.map lowB).size = (s.extract p.1 p.2).data.size
    exact Array.size_map
  rw [e, ByteArray.size_extract]
  omega
theorem wordsOf_small (s : ByteArray) : ∀ x ∈ wordsOf s, x.size ≤ s.size := by
  intro x hx
  unfold wordsOf at hx
  obtain ⟨p, _, rfl⟩ := List.mem_map.1 hx
  exact wd_size s p
theorem gather_ev (s : ByteArray) (hs : s.size ≤ 100000) : ∀ (m : List (Nat × Nat)) (c : List Bool) (S : List (List UInt8)), (∀ p ∈ m, p.1 < p.2 ∧ p.2 ≤ s.size) → c.length = s.size → S.length + m.length * 100001 ≤ 1000000000000 →
    ∃ c' S', Ev (fun k => privilege_Leaks.gather k s (m.map leakSp) c S) (c', S') ∧ c'.length = s.size ∧ (∀ i, c'.getD i false = (c.getD i false || cov m i)) ∧ ∀ x, x ∈ S' ↔ x ∈ S ∨ ∃ p ∈ m, ∃ w ∈ wordsOf (s.extract p.1 p.2), w.data.toList = x
  | [], c, S, _, hc, _ => ⟨c, S, Ev.congr (fun _ => privilege_Leaks.gather.eq_1 ..) (Ev.now _), hc, fun i => by rw [cov_nil]; simp, fun x => by simp⟩
  | p :: m, c, S, hm, hc, hb => by
    obtain ⟨p1, p2⟩ := hm p List.mem_cons_self
    obtain ⟨c1, h1, h2, h3⟩ := markN_is (p.2 - p.1) p.1 c (by omega)
    have hw := wordsOf_count (s.extract p.1 p.2)
    have hx := ex_size s p.1 p.2
    simp only [List.length_cons] at hb
    have hmul : (m.length + 1) * 100001 = m.length * 100001 + 100001 := Nat.succ_mul _ _
    obtain ⟨c', S', g1, g2, g3, g4⟩ := gather_ev s hs m c1 (S ++ (wordsOf (s.extract p.1 p.2)).map (·.data.toList)) (fun q hq => hm q (List.mem_cons_of_mem _ hq)) (by omega) (by rw [List.length_append, List.length_map]; omega)
    refine ⟨c', S', ?_, g2, fun i => ?_, fun x => ?_⟩
    · refine Ev.congr (fun _ => privilege_Leaks.gather.eq_2 ..) ?_
      have e1 : ((p.2 : Int) - (p.1 : Int)).toNat = p.2 - p.1 := by omega
      have e2 : (leakSp p).f0 = (p.1 : Int) := rfl
      have e3 : (leakSp p).f1 = (p.2 : Int) := rfl
      simp only [e1, e2, e3, Int.toNat_natCast]
      refine ev_bindc h1 (ev_pos ⟨by omega, by omega, by omega⟩ (Ev.bind (near_Words_ev _ (by omega)) (ev_pos ⟨by omega, ?_⟩ g1)))
      exact List.all_eq_true.2 fun x hx2 => decide_eq_true (by have := wordsOf_small _ x hx2; omega)
    · rw [g3 i, h3 i, cov_cons, show p.1 + (p.2 - p.1) = p.2 by omega, Bool.or_assoc]
    · rw [g4 x, List.mem_append, List.mem_map]
      constructor
      · rintro ((h | ⟨w, hw1, hw2⟩) | ⟨q, hq, r⟩)
        · exact .inl h
        · exact .inr ⟨p, List.mem_cons_self, w, hw1, hw2⟩
        · exact .inr ⟨q, List.mem_cons_of_mem _ hq, r⟩
      · rintro (h | ⟨q, hq, w, hw1, hw2⟩)
        · exact .inl (.inl h)
        · rcases List.mem_cons.1 hq with rfl | hq
          · exact .inl (.inr ⟨w, hw1, hw2⟩)
          · exact .inr ⟨q, hq, w, hw1, hw2⟩
end Go.Proofs.YtolcpmdojlbhcaaDoor.Pe
namespace Go.Proofs.YtolcpmdojlbhcaaDoor.Pe
open Go.RowKit Go.Proofs.YtolcpmdojlbhcaaDoor.GBase Go.Proofs.YtolcpmdojlbhcaaDoorW.PrintWords Go.Proofs.YtolcpmdojlbhcaaDoorW.PrintLast
set_option linter.unusedVariables false
set_option linter.unusedSimpArgs false
def insd (s : ByteArray) (j : Nat) : Bool := decide (j < s.size) && ((bt s (j : Int)) / 64 == 2)
theorem inside_is (s : ByteArray) (j : Nat) : privilege_inside.f s (j : Int) = some (insd s j) := by
  unfold privilege_inside.f insd
  by_cases h : j < s.size
  · rw [if_pos (by omega), if_pos (by omega), decide_eq_true h, Bool.true_and]
  · rw [if_neg (by omega), decide_eq_false h, Bool.false_and]
theorem rd_leak (m : List (Nat × Nat)) (j : Nat) (hj : j < m.length) : rd_T46 (m.map leakSp) (j : Int) = leakSp m[j] := by
  simp [rd_T46, List.getD_eq_getElem?_getD, List.getElem?_map, List.getElem?_eq_getElem hj]
theorem points_loop (s : ByteArray) (m : List (Nat × Nat)) (hm : m.length ≤ 1000000) (hv : ∀ p ∈ m, (p.1 = 0 ∨ insd s p.1 = false) ∧ insd s p.2 = false) (d : Nat) : ∀ (j : Nat) (acc : List S46), m.length - j ≤ d → j ≤ m.length → acc.length ≤ j →
    Ev (fun k => privilege_points.l0 k s acc (m.map leakSp) (m.length : Int) (j : Int)) (acc ++ (m.drop j).map leakSp) := by
  have stop : ∀ (j : Nat) (acc : List S46), ¬ j < m.length → Ev (fun k => privilege_points.l0 k s acc (m.map leakSp) (m.length : Int) (j : Int)) (acc ++ (m.drop j).map leakSp) := by
    intro j acc h
    rw [List.drop_eq_nil_of_le (by omega)]
    exact Ev.step (fun _ => privilege_points.l0.eq_2 ..) (ev_neg (by omega) (ev_val (by simp)))
  induction d with
  | zero => exact fun j acc h1 h2 _ => stop j acc (by omega)
  | succ d ih =>
    intro j acc h1 h2 ha
    by_cases hlt : j < m.length
    · obtain ⟨v1, v2⟩ := hv m[j] (List.getElem_mem hlt)
      have er := rd_leak m j hlt
      rw [List.drop_eq_getElem_cons hlt]
      generalize m[j] = p at *
      have hw : wrap64 ((j : Int) + 1) = ((j + 1 : Nat) : Int) := by rw [wr64 (by omega) (by omega)]; omega
      have e0 : (leakSp p).f0 = (p.1 : Int) := rfl
      have e1 : (leakSp p).f1 = (p.2 : Int) := rfl
      have two : Ev (fun k => privilege_points.j2 k s acc (m.map leakSp) (m.length : Int) (j : Int) (p.1 : Int) (p.2 : Int)) (acc ++ (p :: m.drop (j + 1)).map leakSp) := by
        refine Ev.step (fun _ => privilege_points.j2.eq_2 ..) (Ev.step (fun _ => privilege_points.l2.eq_2 ..) (ev_bindc (inside_is s p.2) ?_))
        rw [v2]
        refine ev_neg (by decide) (ev_pos (by omega) ?_)
        rw [hw]
        refine ev_eq (ih (j + 1) _ (by omega) (by omega) (by rw [List.length_append]; simp only [List.length_cons, List.length_nil]; omega)) ?_
        rw [List.append_assoc]
        rfl
      refine Ev.step (fun _ => privilege_points.l0.eq_2 ..) (ev_pos (by omega) (ev_pos (by omega) (ev_pos (by rw [List.length_map]; omega) ?_)))
      simp only [er, e0, e1]
      by_cases h0 : (p.1 : Int) > 0
      · refine Ev.step (fun _ => privilege_points.l1.eq_2 ..) (ev_pos h0 (ev_bindc (inside_is s p.1) ?_))
        rcases v1 with v1 | v1
        · omega
        · rw [v1]
          exact ev_neg (by decide) two
      · exact Ev.step (fun _ => privilege_points.l1.eq_2 ..) (ev_neg h0 two)
    · exact stop j acc hlt
theorem points_ev (s : ByteArray) (m : List (Nat × Nat)) (hm : m.length ≤ 1000000) (hv : ∀ p ∈ m, (p.1 = 0 ∨ insd s p.1 = false) ∧ insd s p.2 = false) : Ev (fun k => privilege_points.f k s (m.map leakSp)) (m.map leakSp) := by
  refine Ev.congr (fun _ => privilege_points.f.eq_1 ..) ?_
  have h := points_loop s m hm hv _ 0 [] (Nat.le_refl _) (Nat.zero_le _) (Nat.le_refl _)
  rw [List.drop_zero, List.nil_append] at h
  simp only [List.length_map]
  exact h
end Go.Proofs.YtolcpmdojlbhcaaDoor.Pe
namespace Go.Proofs.YtolcpmdojlbhcaaDoor.Pe
open Go.RowKit Go.Proofs.YtolcpmdojlbhcaaDoor.GBase Go.Proofs.YtolcpmdojlbhcaaDoorW.PrintWords Go.Proofs.YtolcpmdojlbhcaaDoorW.PrintLast
set_option linter.unusedVariables false
set_option linter.unusedSimpArgs false
theorem pletter (c : Int) : privilege_letter.f c = some (isW c) := by rw [privilege_Leaks.isL_is, isL_isW]
def glue (s : ByteArray) (j : Nat) : Bool := (wAt s (j - 1) && wAt s j) || insd s j
theorem left_ev (s : ByteArray) (hs : s.size ≤ 1000000) (x7 x16 : List S46) (x17 x18 : Int) (t : Int) : ∀ (i : Nat), i < s.size →
    ∃ i', i' ≤ i ∧ (i' = 0 ∨ glue s i' = false) ∧ (i = 0 ∨ glue s i = false → i' = i) ∧ ∀ R, Ev (fun k => privilege_Widen.j2 k s x7 x16 x17 x18 (i' : Int) t) R → Ev (fun k => privilege_Widen.l1 k s x7 x16 x17 x18 (i : Int) t) R
  | 0, _ => ⟨0, Nat.le_refl _, .inl rfl, fun _ => rfl, fun R h => Ev.step (fun _ => privilege_Widen.l1.eq_2 ..) (ev_neg (by omega) h)⟩
  | i + 1, hi => by
    obtain ⟨i', h1, h2, _, h3⟩ := left_ev s hs x7 x16 x17 x18 t i (by omega)
    have hw : wrap64 (((i + 1 : Nat) : Int) - 1) = (i : Int) := by rw [wr64 (by omega) (by omega)]; omega
    have ha : (isW (bt s (i : Int))) = wAt s i := rfl
    have hb : (isW (bt s ((i + 1 : Nat) : Int))) = wAt s (i + 1) := rfl
    by_cases hg : glue s (i + 1) = true
    · refine ⟨i', by omega, h2, fun h => by exact h.elim (fun h => by omega) (fun h => absurd (hg.symm.trans h) (by decide)), fun R h => ?_⟩
      have hh := h3 R h
      refine Ev.step (fun _ => privilege_Widen.l1.eq_2 ..) (ev_pos (by omega) ?_)
      simp only [hw]
      refine ev_pos (by omega) (ev_pos (by omega) (ev_bindc (pletter _) ?_))
      rw [ha]
      unfold glue at hg
      rw [Nat.add_sub_cancel] at hg
      cases q1 : wAt s i with
      | true =>
        refine ev_pos rfl (ev_pos (by omega) (ev_pos (by omega) (ev_bindc (pletter _) ?_)))
        rw [hb]
        cases q2 : wAt s (i + 1) with
        | true => exact ev_pos rfl hh
        | false =>
          rw [q1, q2] at hg
          refine ev_neg (by decide) (ev_bindc (inside_is s (i + 1)) (ev_pos (by simpa using hg) hh))
      | false =>
        rw [q1] at hg
        refine ev_neg (by decide) (ev_bindc (inside_is s (i + 1)) (ev_pos (by simpa using hg) hh))
    · have hg' : glue s (i + 1) = false := by simpa using hg
      refine ⟨i + 1, Nat.le_refl _, .inr hg', fun _ => rfl, fun R h => ?_⟩
      refine Ev.step (fun _ => privilege_Widen.l1.eq_2 ..) (ev_pos (by omega) ?_)
      simp only [hw]
      refine ev_pos (by omega) (ev_pos (by omega) (ev_bindc (pletter _) ?_))
      rw [ha]
      unfold glue at hg'
      rw [Nat.add_sub_cancel] at hg'
      cases q1 : wAt s i with
      | true =>
        refine ev_pos rfl (ev_pos (by omega) (ev_pos (by omega) (ev_bindc (pletter _) ?_)))
        rw [hb]
        cases q2 : wAt s (i + 1) with
        | true => rw [q1, q2] at hg'; exact absurd hg' (by simp)
        | false =>
          rw [q1, q2] at hg'
          refine ev_neg (by decide) (ev_bindc (inside_is s (i + 1)) (ev_neg (by simpa using hg') h))
      | false =>
        rw [q1] at hg'
        refine ev_neg (by decide) (ev_bindc (inside_is s (i + 1)) (ev_neg (by simpa using hg') h))
theorem right_ev (s : ByteArray) (hs : s.size ≤ 1000000) (x7 x16 : List S46) (hx : x7.length < 1000000) (x17 x18 : Int) (f : Int) (d : Nat) : ∀ (i : Nat), s.size - i ≤ d → 0 < i → i ≤ s.size →
    ∃ i', i ≤ i' ∧ i' ≤ s.size ∧ (i' = s.size ∨ glue s i' = false) ∧ (i = s.size ∨ glue s i = false → i' = i) ∧ ∀ R, Ev (fun k => privilege_Widen.l0 k s (x7 ++ [⟨f, (i' : Int)⟩]) x16 x17 (wrap64 (x18 + 1))) R → Ev (fun k => privilege_Widen.l2 k s x7 x16 x17 x18 f (i : Int)) R := by
  have stop : ∀ i : Nat, i = s.size → ∃ i', i ≤ i' ∧ i' ≤ s.size ∧ (i' = s.size ∨ glue s i' = false) ∧ (i = s.size ∨ glue s i = false → i' = i) ∧ ∀ R, Ev (fun k => privilege_Widen.l0 k s (x7 ++ [⟨f, (i' : Int)⟩]) x16 x17 (wrap64 (x18 + 1))) R → Ev (fun k => privilege_Widen.l2 k s x7 x16 x17 x18 f (i : Int)) R :=
    fun i hi => ⟨i, Nat.le_refl _, by omega, .inl hi, fun _ => rfl, fun R h => Ev.step (fun _ => privilege_Widen.l2.eq_2 ..) (ev_neg (by omega) (ev_pos (by omega) h))⟩
  induction d with
  | zero => exact fun i h1 h2 h3 => stop i (by omega)
  | succ d ih =>
    intro i h1 h2 h3
    by_cases hlt : i < s.size
    · have hw : wrap64 ((i : Int) - 1) = ((i - 1 : Nat) : Int) := by rw [wr64 (by omega) (by omega)]; omega
      have hw2 : wrap64 ((i : Int) + 1) = ((i + 1 : Nat) : Int) := by rw [wr64 (by omega) (by omega)]; omega
      have ha : (isW (bt s (i : Int))) = wAt s i := rfl
      have hb : (isW (bt s ((i - 1 : Nat) : Int))) = wAt s (i - 1) := rfl
      by_cases hg : glue s i = true
      · obtain ⟨i', g1, g2, g3, _, g4⟩ := ih (i + 1) (by omega) (by omega) (by omega)
        refine ⟨i', by omega, g2, g3, fun h => h.elim (fun h => by omega) (fun h => absurd (hg.symm.trans h) (by decide)), fun R h => ?_⟩
        have hh := g4 R h
        refine Ev.step (fun _ => privilege_Widen.l2.eq_2 ..) (ev_pos (by omega) (ev_pos (by omega) (ev_bindc (pletter _) ?_)))
        simp only [hw, hw2]
        rw [ha]
        unfold glue at hg
        cases q1 : wAt s i with
        | true =>
          refine ev_pos rfl (ev_pos (by omega) (ev_pos (by omega) (ev_bindc (pletter _) ?_)))
          rw [hb]
          cases q2 : wAt s (i - 1) with
          | true => exact ev_pos rfl hh
          | false =>
            rw [q1, q2] at hg
            refine ev_neg (by decide) (ev_bindc (inside_is s i) (ev_pos (by simpa using hg) hh))
        | false =>
          rw [q1] at hg
          refine ev_neg (by decide) (ev_bindc (inside_is s i) (ev_pos (by simpa using hg) hh))
      · have hg' : glue s i = false := by simpa using hg
        refine ⟨i, Nat.le_refl _, h3, .inr hg', fun _ => rfl, fun R h => ?_⟩
        refine Ev.step (fun _ => privilege_Widen.l2.eq_2 ..) (ev_pos (by omega) (ev_pos (by omega) (ev_bindc (pletter _) ?_)))
        simp only [hw, hw2]
        rw [ha]
        unfold glue at hg'
        cases q1 : wAt s i with
        | true =>
          refine ev_pos rfl (ev_pos (by omega) (ev_pos (by omega) (ev_bindc (pletter _) ?_)))
          rw [hb]
          cases q2 : wAt s (i - 1) with
          | true => rw [q1, q2] at hg'; exact absurd hg' (by simp)
          | false =>
            rw [q1, q2] at hg'
            refine ev_neg (by decide) (ev_bindc (inside_is s i) (ev_neg (by simpa using hg') (ev_pos (by omega) h)))
        | false =>
          rw [q1] at hg'
          refine ev_neg (by decide) (ev_bindc (inside_is s i) (ev_neg (by simpa using hg') (ev_pos (by omega) h)))
    · exact stop i (by omega)
def Ends (s : ByteArray) (p : Nat × Nat) : Prop := p.1 < p.2 ∧ p.2 ≤ s.size ∧ (p.1 = 0 ∨ glue s p.1 = false) ∧ (p.2 = s.size ∨ glue s p.2 = false)
theorem widen_loop (s : ByteArray) (hs : s.size ≤ 100000) (m : List (Nat × Nat)) (hm : m.length ≤ 100000) (hv : ∀ p ∈ m, p.1 < p.2 ∧ p.2 ≤ s.size) (d : Nat) : ∀ (j : Nat) (acc : List S46), m.length - j ≤ d → j ≤ m.length → acc.length ≤ j →
    ∃ m2 : List (Nat × Nat), m2.length = m.length - j ∧ (∀ q ∈ m2, Ends s q) ∧ ((∀ p ∈ m.drop j, Ends s p) → m2 = m.drop j) ∧ ∀ R, Ev (fun k => (privilege_put.f k (acc ++ m2.map leakSp)).bind fun t => some (t, 0)) R → Ev (fun k => privilege_Widen.l0 k s acc (m.map leakSp) (m.length : Int) (j : Int)) R := by
  have stop : ∀ (j : Nat) (acc : List S46), j ≤ m.length → ¬ j < m.length → ∃ m2 : List (Nat × Nat), m2.length = m.length - j ∧ (∀ q ∈ m2, Ends s q) ∧ ((∀ p ∈ m.drop j, Ends s p) → m2 = m.drop j) ∧ ∀ R, Ev (fun k => (privilege_put.f k (acc ++ m2.map leakSp)).bind fun t => some (t, 0)) R → Ev (fun k => privilege_Widen.l0 k s acc (m.map leakSp) (m.length : Int) (j : Int)) R := by
    intro j acc h1 h2
    refine ⟨[], by simp only [List.length_nil]; omega, fun q hq => (by cases hq), fun _ => by rw [List.drop_eq_nil_of_le (by omega)], fun R h => ?_⟩
    rw [List.map_nil, List.append_nil] at h
    exact Ev.step (fun _ => privilege_Widen.l0.eq_2 ..) (ev_neg (by omega) h)
  induction d with
  | zero => exact fun j acc h1 h2 _ => stop j acc h2 (by omega)
  | succ d ih =>
    intro j acc h1 h2 ha
    by_cases hlt : j < m.length
    · obtain ⟨v1, v2⟩ := hv m[j] (List.getElem_mem hlt)
      have er := rd_leak m j hlt
      rw [List.drop_eq_getElem_cons hlt]
      generalize m[j] = p at *
      have hw : wrap64 ((j : Int) + 1) = ((j + 1 : Nat) : Int) := by rw [wr64 (by omega) (by omega)]; omega
      obtain ⟨b, b1, b2, b3, b4, b5⟩ := right_ev s (by omega) acc (m.map leakSp) (by omega) (m.length : Int) (j : Int) (0 : Int) _ p.2 (Nat.le_refl _) (by omega) v2
      clear b5
      obtain ⟨a, a1, a2, a3, a4⟩ := left_ev s (by omega) acc (m.map leakSp) (m.length : Int) (j : Int) (p.2 : Int) p.1 (by omega)
      obtain ⟨b, b1, b2, b3, b4, b5⟩ := right_ev s (by omega) acc (m.map leakSp) (by omega) (m.length : Int) (j : Int) (a : Int) _ p.2 (Nat.le_refl _) (by omega) v2
      obtain ⟨m2, c1, c2, c3, c4⟩ := ih (j + 1) (acc ++ [⟨(a : Int), (b : Int)⟩]) (by omega) (by omega) (by rw [List.length_append]; simp only [List.length_cons, List.length_nil]; omega)
      refine ⟨(a, b) :: m2, by simp only [List.length_cons]; omega, ?_, ?_, fun R h => ?_⟩
      · intro q hq
        rcases List.mem_cons.1 hq with rfl | hq
        · exact ⟨by simp only []; omega, b2, a2, b3⟩
        · exact c2 q hq
      · intro h
        obtain ⟨e1, e2, e3, e4⟩ := h p List.mem_cons_self
        rw [c3 (fun q hq => h q (List.mem_cons_of_mem _ hq)), a3 e3, b4 e4]
      · refine Ev.step (fun _ => privilege_Widen.l0.eq_2 ..) (ev_pos (by omega) (ev_pos (by omega) (ev_pos (by rw [List.length_map]; omega) ?_)))
        simp only [er]
        refine a4 R (Ev.step (fun _ => privilege_Widen.j2.eq_2 ..) (b5 R ?_))
        rw [hw]
        refine c4 R ?_
        rw [List.append_assoc]
        exact h
    · exact stop j acc h2 hlt
end Go.Proofs.YtolcpmdojlbhcaaDoor.Pe
namespace Go.Proofs.YtolcpmdojlbhcaaDoor.Pe
open Go.RowKit Go.Proofs.YtolcpmdojlbhcaaDoor.GBase Go.Proofs.YtolcpmdojlbhcaaDoorW.PrintWords Go.Proofs.YtolcpmdojlbhcaaDoorW.PrintLast
set_option linter.unusedVariables false
set_option linter.unusedSimpArgs false
theorem When_is (b : Bool) (e : Int) : base_When.f b e = some (if b = true then e else 0) := by
  unfold base_When.f
  cases b <;> simp
theorem In_is (a lo hi : Int) : base_In.f a lo hi = some (decide (lo ≤ a) && decide (a ≤ hi)) := by
  unfold base_In.f
  by_cases h : a ≥ lo
  · rw [if_pos h]
    have : lo ≤ a := h
    simp [this]
  · rw [if_neg h]
    have : ¬ lo ≤ a := h
    simp [this]
def firstOf : List Int → Int
  | [] => 0
  | x :: r => if x = 0 then firstOf r else x
theorem First_loop (l : List Int) (hl : l.length < 1000000) (d : Nat) : ∀ j : Nat, l.length - j ≤ d → j ≤ l.length → Ev (fun k => base_First.l0 k l (l.length : Int) (j : Int)) (firstOf (l.drop j)) := by
  induction d with
  | zero =>
    intro j hd hj
    obtain rfl : j = l.length := by omega
    rw [List.drop_length]
    exact Ev.step (fun _ => base_First.l0.eq_2 ..) (ev_neg (by omega) (ev_val rfl))
  | succ d ih =>
    intro j hd hj
    by_cases hlt : j < l.length
    · have hw : wrap64 ((j : Int) + 1) = ((j + 1 : Nat) : Int) := by rw [wr64 (by omega) (by omega)]; omega
      have hr : rd l (j : Int) = l[j] := by simp [rd, List.getD, hlt]
      rw [List.drop_eq_getElem_cons hlt]
      refine Ev.step (fun _ => base_First.l0.eq_2 ..) (ev_pos (by omega) (ev_pos (by omega) (ev_pos (by omega) ?_)))
      rw [hr]
      unfold firstOf
      by_cases hz : l[j] = 0
      · rw [if_pos hz]
        refine ev_pos hz ?_
        rw [hw]
        exact ih (j + 1) (by omega) (by omega)
      · rw [if_neg hz]
        exact ev_neg hz (ev_val rfl)
    · obtain rfl : j = l.length := by omega
      exact ih _ (by omega) (by omega)
theorem First_ev (l : List Int) (hl : l.length < 1000000) : Ev (fun k => base_First.f k l) (firstOf l) := First_loop l hl _ 0 (Nat.le_refl _) (by omega)
end Go.Proofs.YtolcpmdojlbhcaaDoor.Pe
namespace Go.Proofs.YtolcpmdojlbhcaaDoor.Pe
open Go.RowKit Go.Proofs.YtolcpmdojlbhcaaDoor.GBase Go.Proofs.YtolcpmdojlbhcaaDoorW.PrintWords Go.Proofs.YtolcpmdojlbhcaaDoorW.PrintLast
set_option linter.unusedVariables false
set_option linter.unusedSimpArgs false
def spn (p : Nat × Nat) : S46 := ⟨p.1, p.2⟩
theorem rdT_at (l : List S46) (j : Nat) (hj : j < l.length) : rd_T46 l (j : Int) = l[j] := by
  simp [rd_T46, List.getD_eq_getElem?_getD, List.getElem?_eq_getElem hj]
theorem rdT_spn (l : List (Nat × Nat)) (j : Nat) (hj : j < l.length) : rd_T46 (l.map spn) (j : Int) = spn l[j] := by
  rw [rdT_at _ _ (by simpa using hj)]
  simp
theorem mx_nat (j : Nat) (h : 0 < j) (h2 : j ≤ 1000000) : wrap64 (mx (j : Int) 1 - 1) = ((j - 1 : Nat) : Int) := by
  have : mx (j : Int) 1 = (j : Int) := by unfold mx; split <;> omega
  rw [this]
  unfold wrap64
  omega
def prevOf (l : List S46) (j : Nat) : Option Int := if j = 0 then none else some (rd_T46 l ((j - 1 : Nat) : Int)).f1
def afterB : Option Int → Int → Bool
  | none, _ => false
  | some t, x => decide (x ≤ t)
def chkL (size : Int) : Option Int → List S46 → Int
  | _, [] => 0
  | prev, s :: l => if s.f0 < 0 ∨ s.f0 ≥ s.f1 ∨ s.f1 > size then 1 else if afterB prev s.f0 = true then 7 else chkL size (some s.f1) l
def chk (l : List S46) (size : Int) : Int := if size < 0 ∨ size > 200000 then 1 else if (l.length : Int) > 1000 then 2 else chkL size none l
theorem prev_pos (l : List S46) (j : Nat) (h : 0 < j) : prevOf l j = some (rd_T46 l ((j - 1 : Nat) : Int)).f1 := by
  unfold prevOf
  rw [if_neg (by omega)]
theorem prev_succ (l : List S46) (j : Nat) (h : j < l.length) : prevOf l (j + 1) = some l[j].f1 := by
  rw [prev_pos _ _ (by omega)]
  show some (rd_T46 l ((j : Nat) : Int)).f1 = _
  rw [rdT_at l j h]
theorem check_loop (l : List S46) (hl : l.length < 1000000) (size : Int) (d : Nat) : ∀ j : Nat, l.length - j ≤ d → j ≤ l.length → Ev (fun k => privilege_CheckSpans.l0 k l size l (l.length : Int) (j : Int)) (chkL size (prevOf l j) (l.drop j)) := by
  induction d with
  | zero =>
    intro j hd hj
    obtain rfl : j = l.length := by omega
    rw [List.drop_length]
    exact Ev.step (fun _ => privilege_CheckSpans.l0.eq_2 ..) (ev_neg (by omega) (ev_val rfl))
  | succ d ih =>
    intro j hd hj
    by_cases hlt : j < l.length
    · have hw : wrap64 ((j : Int) + 1) = ((j + 1 : Nat) : Int) := by rw [wr64 (by omega) (by omega)]; omega
      have hn := ih (j + 1) (by omega) (by omega)
      rw [prev_succ l j hlt] at hn
      rw [List.drop_eq_getElem_cons hlt]
      refine Ev.step (fun _ => privilege_CheckSpans.l0.eq_2 ..) (ev_pos (by omega) (ev_pos (by omega) (ev_pos (by omega) ?_)))
      rw [rdT_at l j hlt, hw]
      generalize l[j] = s at *
      simp only [chkL]
      have tail : ∀ v : Int, (v = if s.f0 < 0 ∨ s.f0 ≥ s.f1 ∨ s.f1 > size then 1 else 0) → ∀ w : Int, (w = if afterB (prevOf l j) s.f0 = true then 7 else 0) →
          Ev (fun k => (base_First.f k [v, w]).bind fun t => if t = 0 then privilege_CheckSpans.l0 k l size l (l.length : Int) ((j + 1 : Nat) : Int) else some t) (if s.f0 < 0 ∨ s.f0 ≥ s.f1 ∨ s.f1 > size then 1 else if afterB (prevOf l j) s.f0 = true then 7 else chkL size (some s.f1) (l.drop (j + 1))) := by
        intro v hv w hw2
        refine Ev.bind (First_ev [v, w] (by simp)) ?_
        by_cases h1 : s.f0 < 0 ∨ s.f0 ≥ s.f1 ∨ s.f1 > size
        · rw [if_pos h1] at hv ⊢
          subst hv
          exact ev_neg (by simp [firstOf]) (ev_val (by simp [firstOf]))
        · rw [if_neg h1] at hv ⊢
          subst hv
          by_cases h2 : afterB (prevOf l j) s.f0 = true
          · rw [if_pos h2] at hw2 ⊢
            subst hw2
            exact ev_neg (by simp [firstOf]) (ev_val (by simp [firstOf]))
          · rw [if_neg h2] at hw2 ⊢
            subst hw2
            exact ev_pos (by simp [firstOf]) hn
      rcases Nat.eq_zero_or_pos j with hj0 | hj0
      · have hp : prevOf l j = none := by rw [hj0]; rfl
        simp only [hp] at tail ⊢
        have hjn : ¬ (j : Int) > 0 := by omega
        by_cases h1 : s.f0 < 0
        · exact ev_pos h1 (ev_bindc (When_is _ _) (ev_neg hjn (ev_bindc (When_is _ _) (tail _ (by rw [if_pos rfl, if_pos (.inl h1)]) _ (by simp [afterB])))))
        · refine ev_neg h1 ?_
          by_cases h2 : s.f0 ≥ s.f1
          · exact ev_pos h2 (ev_bindc (When_is _ _) (ev_neg hjn (ev_bindc (When_is _ _) (tail _ (by rw [if_pos rfl, if_pos (.inr (.inl h2))]) _ (by simp [afterB])))))
          · refine ev_neg h2 (ev_bindc (When_is _ _) (ev_neg hjn (ev_bindc (When_is _ _) (tail _ ?_ _ (by simp [afterB])))))
            by_cases h3 : s.f1 > size
            · rw [if_pos (by simpa using h3), if_pos (.inr (.inr h3))]
            · rw [if_neg (by simpa using h3), if_neg (by rintro (h | h | h) <;> contradiction)]
      · have hp := prev_pos l j hj0
        have hm := mx_nat j hj0 (by omega)
        have hjp : (j : Int) > 0 := by omega
        simp only [hp] at tail ⊢
        simp only [hm]
        generalize (rd_T46 l ((j - 1 : Nat) : Int)).f1 = t at *
        by_cases h1 : s.f0 < 0
        · exact ev_pos h1 (ev_bindc (When_is _ _) (ev_pos hjp (ev_pos (by omega) (ev_pos (by omega) (ev_bindc (When_is _ _) (tail _ (by rw [if_pos rfl, if_pos (.inl h1)]) _ rfl))))))
        · refine ev_neg h1 ?_
          by_cases h2 : s.f0 ≥ s.f1
          · exact ev_pos h2 (ev_bindc (When_is _ _) (ev_pos hjp (ev_pos (by omega) (ev_pos (by omega) (ev_bindc (When_is _ _) (tail _ (by rw [if_pos rfl, if_pos (.inr (.inl h2))]) _ rfl))))))
          · refine ev_neg h2 (ev_bindc (When_is _ _) (ev_pos hjp (ev_pos (by omega) (ev_pos (by omega) (ev_bindc (When_is _ _) (tail _ ?_ _ rfl))))))
            by_cases h3 : s.f1 > size
            · rw [if_pos (by simpa using h3), if_pos (.inr (.inr h3))]
            · rw [if_neg (by simpa using h3), if_neg (by rintro (h | h | h) <;> contradiction)]
    · obtain rfl : j = l.length := by omega
      exact ih _ (by omega) (by omega)
theorem CheckSpans_ev (l : List S46) (hl : l.length < 1000000) (size : Int) : Ev (fun k => privilege_CheckSpans.f k l size) (chk l size) := by
  unfold privilege_CheckSpans.f
  refine ev_bindc (In_is _ _ _) (ev_bindc (When_is _ _) (ev_bindc (When_is _ _) (Ev.bind (First_ev _ (by simp)) ?_)))
  unfold chk
  by_cases h1 : size < 0 ∨ size > 200000
  · have hb : (!(decide (0 ≤ size) && decide (size ≤ 200000))) = true := by simp; omega
    rw [if_pos h1]
    simp only [hb, if_true, firstOf]
    exact ev_neg (by simp) (ev_val (by simp))
  · have hb : (!(decide (0 ≤ size) && decide (size ≤ 200000))) = false := by simp; omega
    rw [if_neg h1]
    by_cases h2 : (l.length : Int) > 1000
    · rw [if_pos h2]
      simp only [hb, h2, decide_true, if_true, firstOf]
      exact ev_neg (by simp) (ev_val (by simp))
    · rw [if_neg h2]
      simp only [hb, h2, decide_false, firstOf]
      exact ev_pos (by simp) (check_loop l hl size _ 0 (Nat.le_refl _) (by omega))
end Go.Proofs.YtolcpmdojlbhcaaDoor.Pe
namespace Go.Proofs.YtolcpmdojlbhcaaDoor.Pe
open Go.RowKit Go.Proofs.YtolcpmdojlbhcaaDoor.GBase Go.Proofs.YtolcpmdojlbhcaaDoorW.PrintWords Go.Proofs.YtolcpmdojlbhcaaDoorW.PrintLast
set_option linter.unusedVariables false
set_option linter.unusedSimpArgs false
theorem sort_is (l : List S46) (h : ∀ x ∈ l, 0 ≤ x.f0 ∧ x.f0 ≤ 1099511627776) (hl : l.length < 4611686018427387904) :
    ∃ r, api_Span_91.f l 92 = some r ∧ r.Perm l ∧ r.Pairwise (fun x y => x.f0 ≤ y.f0) := by
  unfold api_Span_91.f
  have hc : 92 = 92 ∧ (∀ x ∈ l, api_Span_91.ok x) ∧ l.length < 4611686018427387904 := ⟨rfl, h, hl⟩
  rw [dif_pos hc]
  obtain ⟨L, hL⟩ : ∃ L, l.attachWith api_Span_91.ok hc.2.1 = L := ⟨_, rfl⟩
  have hm : L.map (fun x => x.1) = l := by rw [← hL]; simp
  rw [hL]
  have hP := Go.Sort.pdq_sorts (ltOf api_Span_91.cf) api_Span_91.swo L.toArray 0 L.toArray.size (Lib.bitLen L.toArray.size) true true (Nat.zero_le _) (Nat.le_refl _) (Or.inl rfl)
  generalize Go.Sort.pdq (ltOf api_Span_91.cf) L.toArray 0 L.toArray.size (Lib.bitLen L.toArray.size) true true = d' at hP
  obtain ⟨⟨hsz, _, hperm⟩, hsort⟩ := hP
  refine ⟨_, rfl, ?_, ?_⟩
  · rw [← hm]
    refine List.Perm.map _ ?_
    have e1 : (d'.extract 0 L.toArray.size).toList = d'.toList := by
      rw [← hsz]
      simp
    have e2 : (L.toArray.extract 0 L.toArray.size).toList = L := by simp
    rw [e1, e2] at hperm
    exact hperm
  · rw [List.pairwise_map, List.pairwise_iff_getElem]
    intro i j hi hj hij
    have hi' : i < d'.size := by simpa using hi
    have hj' : j < d'.size := by simpa using hj
    have hs := hsort i j (Nat.zero_le _) hij (by omega)
    rw [getElem!_pos d' i hi', getElem!_pos d' j hj'] at hs
    have h2 : ¬ (d'[j].1.f0 - d'[i].1.f0 < 0) := of_decide_eq_false hs
    simp only [Array.getElem_toList]
    omega
theorem perm_spn {r : List S46} {m : List (Nat × Nat)} (h : r.Perm (m.map spn)) : ∃ q : List (Nat × Nat), r = q.map spn ∧ q.Perm m := by
  refine ⟨r.map fun s => (s.f0.toNat, s.f1.toNat), ?_, ?_⟩
  · rw [List.map_map]
    refine (List.map_id r).symm.trans (List.map_congr_left fun s hs => ?_)
    obtain ⟨p, _, rfl⟩ := List.mem_map.1 (h.mem_iff.1 hs)
    simp [spn]
  · have := h.map fun s : S46 => (s.f0.toNat, s.f1.toNat)
    rw [List.map_map] at this
    have e : m.map ((fun s : S46 => (s.f0.toNat, s.f1.toNat)) ∘ spn) = m := (List.map_congr_left (fun p _ => by simp [spn])).trans (List.map_id m)
    rwa [e] at this
theorem Concat_ev (a b : List S46) (ha : a.length ≤ 1000000) (hb : b.length ≤ 1000000) : Ev (fun k => api_Span_58.f k [a, b]) (a ++ b) := by
  have w1 : wrap64 (0 + (a.length : Int)) = (a.length : Int) := by unfold wrap64; omega
  have w2 : wrap64 ((a.length : Int) + (b.length : Int)) = (a.length : Int) + (b.length : Int) := by unfold wrap64; omega
  have r0 : rd_L3 [a, b] 0 = a := rfl
  have r1 : rd_L3 [a, b] 1 = b := rfl
  have e0 : wrap64 ((0 : Int) + 1) = 1 := by rw [wr64 (by omega) (by omega)]; rfl
  have e1 : wrap64 ((1 : Int) + 1) = 2 := by rw [wr64 (by omega) (by omega)]; rfl
  have hl : (([a, b] : List (List S46)).length : Int) = 2 := rfl
  unfold api_Span_58.f
  rw [hl]
  refine Ev.step (fun _ => api_Span_58.l0.eq_2 ..) (ev_pos (by decide) (ev_pos (by decide) (ev_pos (by rw [hl]; decide) ?_)))
  rw [r0, w1, e0]
  refine ev_neg (by omega) (Ev.step (fun _ => api_Span_58.l0.eq_2 ..) (ev_pos (by decide) (ev_pos (by decide) (ev_pos (by rw [hl]; decide) ?_))))
  rw [r1, w2, e1]
  refine ev_neg (by omega) (Ev.step (fun _ => api_Span_58.l0.eq_2 ..) (ev_neg (by decide) ?_))
  rw [hl]
  refine ev_bindc (a := []) (by unfold api_Span_93.f; rw [if_pos (by simp; omega)]) ?_
  refine Ev.step (fun _ => api_Span_58.l1.eq_2 ..) (ev_pos (by decide) (ev_pos (by decide) (ev_pos (by rw [hl]; decide) ?_)))
  rw [r0, e0]
  refine ev_pos (by simp; omega) (Ev.step (fun _ => api_Span_58.l1.eq_2 ..) (ev_pos (by decide) (ev_pos (by decide) (ev_pos (by rw [hl]; decide) ?_))))
  rw [r1, e1]
  exact ev_pos (by simp; omega) (Ev.step (fun _ => api_Span_58.l1.eq_2 ..) (ev_neg (by decide) (ev_val (by simp))))
theorem rd_last (o : List (Nat × Nat)) (p : Nat × Nat) : rd_T46 (((p :: o).reverse).map spn) (((((p :: o).reverse).map spn).length - 1 : Nat) : Int) = spn p := by
  have h : (((p :: o).reverse).map spn).length = o.length + 1 := by simp
  rw [rdT_at _ _ (by omega)]
  simp
theorem set_last (o : List (Nat × Nat)) (p q : Nat × Nat) : (((p :: o).reverse).map spn).set ((((p :: o).reverse).map spn).length - 1) (spn q) = ((q :: o).reverse).map spn := by
  simp only [List.reverse_cons, List.map_append, List.map_cons, List.map_nil, List.length_append, List.length_map, List.length_reverse, List.length_singleton, Nat.add_sub_cancel]
  rw [List.set_append_right _ _ (by simp)]
  simp
theorem put_loop (q : List (Nat × Nat)) (hq : q.length ≤ 1000000) (d : Nat) : ∀ (j : Nat) (o : List (Nat × Nat)), q.length - j ≤ d → j ≤ q.length → o.length ≤ j →
    Ev (fun k => privilege_put.l0 k (o.reverse.map spn) (q.map spn) (q.length : Int) (j : Int)) ((putR o (q.drop j)).reverse.map spn) := by
  induction d with
  | zero =>
    intro j o hd hj ho
    obtain rfl : j = q.length := by omega
    rw [List.drop_length]
    exact Ev.step (fun _ => privilege_put.l0.eq_2 ..) (ev_neg (by omega) (ev_val (by cases o <;> rfl)))
  | succ d ih =>
    intro j o hd hj ho
    by_cases hlt : j < q.length
    · have hw : wrap64 ((j : Int) + 1) = ((j + 1 : Nat) : Int) := by rw [wr64 (by omega) (by omega)]; omega
      have hlen : ((q.map spn).length : Int) = (q.length : Int) := by simp
      rw [List.drop_eq_getElem_cons hlt]
      refine Ev.step (fun _ => privilege_put.l0.eq_2 ..) (ev_pos (by omega) (ev_pos (by omega) (ev_pos (by omega) ?_)))
      rw [rdT_spn q j hlt, hw]
      generalize q[j] = s at *
      cases o with
      | nil =>
        have e : wrap64 ((((([] : List (Nat × Nat)).reverse.map spn).length : Nat) : Int) - 1) = -1 := by
          show wrap64 ((0 : Int) - 1) = -1
          rw [wr64 (by omega) (by omega)]
          rfl
        rw [e]
        refine ev_neg (by decide) (ev_pos (by simp) ?_)
        exact ih (j + 1) [s] (by omega) (by omega) (by simp)
      | cons p o =>
        have hlo : (((p :: o).reverse).map spn).length = o.length + 1 := by simp
        have e : wrap64 (((((p :: o).reverse.map spn).length : Nat) : Int) - 1) = (((((p :: o).reverse).map spn).length - 1 : Nat) : Int) := by
          rw [hlo]
          simp only [List.length_cons] at ho
          rw [wr64 (by omega) (by omega)]
          omega
        rw [e]
        refine ev_pos (by omega) (ev_pos (by omega) (ev_pos (by omega) ?_))
        rw [rd_last, Int.toNat_natCast]
        simp only [putR]
        by_cases hle : s.1 ≤ p.2
        · rw [if_pos hle]
          refine ev_pos (by simp only [spn]; omega) ?_
          have hm : (⟨(spn p).f0, mx (spn p).f1 (spn s).f1⟩ : S46) = spn (p.1, max p.2 s.2) := by
            simp only [spn]
            congr 1
            unfold mx
            split <;> omega
          rw [hm, set_last]
          exact ih (j + 1) ((p.1, max p.2 s.2) :: o) (by omega) (by omega) (by simpa using Nat.le_trans ho (Nat.le_succ j))
        · rw [if_neg hle]
          refine ev_neg (by simp only [spn]; omega) (ev_pos (by rw [hlo]; simp only [List.length_cons] at ho; omega) ?_)
          have ha : ((p :: o).reverse).map spn ++ [(⟨(spn s).f0, (spn s).f1⟩ : S46)] = ((s :: p :: o).reverse).map spn := by
            rw [List.reverse_cons (a := s), List.map_append]
            rfl
          rw [ha]
          exact ih (j + 1) (s :: p :: o) (by omega) (by omega) (by simpa using ho)
    · obtain rfl : j = q.length := by omega
      exact ih _ o (by omega) (by omega) ho
theorem put_ev (m : List (Nat × Nat)) (hm : m.length ≤ 1000000) (hv : ∀ p ∈ m, p.1 < p.2) (hb : ∀ p ∈ m, p.2 ≤ 1000000) :
    ∃ r : List (Nat × Nat), Ev (fun k => privilege_put.f k (m.map spn)) (r.map spn) ∧ Norm r ∧ ∀ i, cov r i = cov m i := by
  obtain ⟨x, hx, hp, hs⟩ := sort_is (m.map spn) (fun x hx => by
    obtain ⟨p, hp, rfl⟩ := List.mem_map.1 hx
    have h1 := hv p hp
    have h2 := hb p hp
    simp only [spn]
    omega) (by simp; omega)
  obtain ⟨q, rfl, hq⟩ := perm_spn hp
  have hlen : q.length = m.length := hq.length_eq
  have hs2 : q.Pairwise (fun a b => a.1 ≤ b.1) := by
    rw [List.pairwise_map] at hs
    exact hs.imp fun {a b} h => by simp only [spn] at h; omega
  obtain ⟨h1, h2⟩ := putR_law q [] ⟨by simp, by simp⟩ (fun s hsq => hv s (hq.mem_iff.1 hsq)) hs2 (by simp)
  refine ⟨(putR [] q).reverse, ?_, h1.norm, fun i => ?_⟩
  · unfold privilege_put.f
    refine ev_bindc hx ?_
    have := put_loop q (by omega) _ 0 [] (Nat.le_refl _) (by omega) (by simp)
    simpa [hlen] using this
  · rw [cov_reverse, h2, cov_nil, Bool.false_or]
    exact cov_perm hq i
end Go.Proofs.YtolcpmdojlbhcaaDoor.Pe
namespace Go.Proofs.YtolcpmdojlbhcaaDoor.Pe
open Go.RowKit Go.Proofs.YtolcpmdojlbhcaaDoor.GBase Go.Proofs.YtolcpmdojlbhcaaDoorW.PrintWords Go.Proofs.YtolcpmdojlbhcaaDoorW.PrintLast
set_option linter.unusedVariables false
set_option linter.unusedSimpArgs false
theorem norm_sep {l : List (Nat × Nat)} : Norm l → ∀ {p q : Nat × Nat}, p ∈ l → q ∈ l → p = q ∨ p.2 < q.1 ∨ q.2 < p.1 := by
  induction l with
  | nil => intro _ p q hp; cases hp
  | cons a l ih =>
    intro h p q hp hq
    have h2 := (List.pairwise_cons.1 h.2).1
    rcases List.mem_cons.1 hp with e1 | hp
    · rcases List.mem_cons.1 hq with e2 | hq
      · exact .inl (e1.trans e2.symm)
      · exact .inr (.inl (e1 ▸ h2 q hq))
    · rcases List.mem_cons.1 hq with e2 | hq
      · exact .inr (.inr (e2 ▸ h2 p hp))
      · exact ih h.tail hp hq
theorem norm_begin {r m : List (Nat × Nat)} (h : Norm r) (hc : ∀ i, cov r i = cov m i) {p : Nat × Nat} (hp : p ∈ r) : ∃ q ∈ m, q.1 = p.1 := by
  have hlt := h.1 p hp
  have c1 : cov m p.1 = true := by rw [← hc]; exact cov_iff.2 ⟨p, hp, Nat.le_refl _, hlt⟩
  obtain ⟨q, hq, a, b⟩ := cov_iff.1 c1
  by_cases e : q.1 = p.1
  · exact ⟨q, hq, e⟩
  have c2 : cov m (p.1 - 1) = true := cov_iff.2 ⟨q, hq, by omega, by omega⟩
  rw [← hc] at c2
  obtain ⟨t, ht, c, d⟩ := cov_iff.1 c2
  rcases norm_sep h ht hp with e | e | e
  · subst e; omega
  · omega
  · omega
theorem norm_end {r m : List (Nat × Nat)} (h : Norm r) (hc : ∀ i, cov r i = cov m i) {p : Nat × Nat} (hp : p ∈ r) : ∃ q ∈ m, q.2 = p.2 := by
  have hlt := h.1 p hp
  have c1 : cov m (p.2 - 1) = true := by rw [← hc]; exact cov_iff.2 ⟨p, hp, by omega, by omega⟩
  obtain ⟨q, hq, a, b⟩ := cov_iff.1 c1
  by_cases e : q.2 = p.2
  · exact ⟨q, hq, e⟩
  have c2 : cov m p.2 = true := cov_iff.2 ⟨q, hq, by omega, by omega⟩
  rw [← hc] at c2
  obtain ⟨t, ht, c, d⟩ := cov_iff.1 c2
  rcases norm_sep h ht hp with e | e | e
  · subst e; omega
  · omega
  · omega
theorem norm_ends {s : ByteArray} {r m : List (Nat × Nat)} (h : Norm r) (hc : ∀ i, cov r i = cov m i) (he : ∀ q ∈ m, Ends s q) {p : Nat × Nat} (hp : p ∈ r) : Ends s p := by
  obtain ⟨q, hq, e⟩ := norm_begin h hc hp
  obtain ⟨t, ht, f⟩ := norm_end h hc hp
  obtain ⟨q1, q2, q3, q4⟩ := he q hq
  obtain ⟨t1, t2, t3, t4⟩ := he t ht
  exact ⟨h.1 p hp, f ▸ t2, e ▸ q3, f ▸ t4⟩
theorem Widen_ev (s : ByteArray) (hs : s.size ≤ 100000) (m : List (Nat × Nat)) (hm : m.length ≤ 1000) (hn : Norm m) (hb : ∀ p ∈ m, p.2 ≤ s.size) (ht : Ev (fun k => privilege_textError.f k s (m.map spn)) 0) :
    ∃ r : List (Nat × Nat), Ev (fun k => privilege_Widen.f k s (m.map spn)) (r.map spn, 0) ∧ Norm r ∧ (∀ q ∈ r, Ends s q) ∧ ((∀ p ∈ m, Ends s p) → r = m) := by
  obtain ⟨m2, a1, a2, a3, a4⟩ := widen_loop s hs m (by omega) (fun p hp => ⟨hn.1 p hp, hb p hp⟩) m.length 0 [] (by omega) (by omega) (by simp)
  rw [List.drop_zero] at a3
  obtain ⟨r, b1, b2, b3⟩ := put_ev m2 (by omega) (fun p hp => (a2 p hp).1) (fun p hp => by have := (a2 p hp).2.1; omega)
  refine ⟨r, ?_, b2, fun q hq => norm_ends b2 b3 a2 hq, fun h => Norm.unique b2 hn (fun i => by rw [b3, a3 h])⟩
  unfold privilege_Widen.f
  refine Ev.bind ht (ev_pos rfl ?_)
  rw [List.length_map]
  exact a4 (r.map spn, 0) (Ev.bind b1 (ev_val rfl))
end Go.Proofs.YtolcpmdojlbhcaaDoor.Pe
namespace Go.Proofs.YtolcpmdojlbhcaaDoor.Pe
open Go.RowKit Go.Proofs.YtolcpmdojlbhcaaDoor.GBase Go.Proofs.YtolcpmdojlbhcaaDoorW.PrintWords Go.Proofs.YtolcpmdojlbhcaaDoorW.PrintLast
set_option linter.unusedVariables false
set_option linter.unusedSimpArgs false
theorem bt_get (s : ByteArray) (j : Nat) (h : j < s.data.toList.length) : bt s (j : Int) = ((s.data.toList[j]).toNat : Int) := by
  have h2 : j < s.size := by rw [data_length] at h; exact h
  simp only [bt, Int.toNat_natCast, h2, dif_pos]
  rfl
theorem valid_is (s : ByteArray) (hs : s.size ≤ 1073741824) : utf8_ValidString.f s = some (Lib.validD s.data.toList) := by
  unfold utf8_ValidString.f
  rw [if_pos (by omega)]
theorem suffix_total (s : ByteArray) (hs : s.size ≤ 1073741824) : ∃ b, strings_HasSuffix.f s (⟨#[10]⟩ : ByteArray) = some b := by
  unfold strings_HasSuffix.f stringslite_HasSuffix.f
  have h1 : (((⟨#[10]⟩ : ByteArray).size : Nat) : Int) = 1 := rfl
  rw [h1]
  by_cases h : (s.size : Int) ≥ 1
  · have hw : wrap64 ((s.size : Int) - 1) = (s.size : Int) - 1 := wr64 (by omega) (by omega)
    rw [if_pos h, hw, if_pos (by omega), if_pos (by omega)]
    exact ⟨_, rfl⟩
  · rw [if_neg h]
    exact ⟨_, rfl⟩
def okC (feeds : Bool) (c : UInt8) : Bool := !((decide ((c.toNat : Int) < 32) && !(feeds && decide ((c.toNat : Int) = 10))) || decide ((c.toNat : Int) = 127))
def wfC (s : ByteArray) (feeds : Bool) : Bool := s.data.toList.all (okC feeds) && Lib.validD s.data.toList
def sufB (s : ByteArray) : Bool := (strings_HasSuffix.f s (⟨#[10]⟩ : ByteArray)).getD false
theorem suf_is (s : ByteArray) (hs : s.size ≤ 1073741824) : strings_HasSuffix.f s (⟨#[10]⟩ : ByteArray) = some (sufB s) := by
  obtain ⟨b, hb⟩ := suffix_total s hs
  unfold sufB
  rw [hb]
  rfl
def textOk (s : ByteArray) : Bool := wfC s true && (decide (s.toList = []) || sufB s)
theorem Visible_loop (s : ByteArray) (hs : s.size ≤ 1073741824) (feeds : Bool) (d : Nat) : ∀ j : Nat, s.size - j ≤ d → j ≤ s.size → Ev (fun k => base_Visible.l0 k s feeds (s.size : Int) (j : Int)) ((s.data.toList.drop j).all (okC feeds) && Lib.validD s.data.toList) := by
  have hlen : s.data.toList.length = s.size := data_length s
  induction d with
  | zero =>
    intro j hd hj
    obtain rfl : j = s.size := by omega
    rw [List.drop_of_length_le (by omega)]
    exact Ev.step (fun _ => base_Visible.l0.eq_2 ..) (ev_neg (by omega) (ev_bindc (valid_is s hs) (ev_val (by simp))))
  | succ d ih =>
    intro j hd hj
    by_cases hlt : j < s.size
    · have hw : wrap64 ((j : Int) + 1) = ((j + 1 : Nat) : Int) := by rw [wr64 (by omega) (by omega)]; omega
      have hl : j < s.data.toList.length := by omega
      have hn := ih (j + 1) (by omega) (by omega)
      rw [List.drop_eq_getElem_cons hl, List.all_cons]
      refine Ev.step (fun _ => base_Visible.l0.eq_2 ..) (ev_pos (by omega) (ev_pos (by omega) (ev_pos (by omega) ?_)))
      rw [bt_get s j hl, hw]
      generalize s.data.toList[j] = c at *
      have good : okC feeds c = true → Ev (fun k => base_Visible.l0 k s feeds (s.size : Int) ((j + 1 : Nat) : Int)) (okC feeds c && (s.data.toList.drop (j + 1)).all (okC feeds) && Lib.validD s.data.toList) := fun h => by
        rw [h, Bool.true_and]; exact hn
      have bad : okC feeds c = false → Ev (fun _ => some false) (okC feeds c && (s.data.toList.drop (j + 1)).all (okC feeds) && Lib.validD s.data.toList) := fun h => by
        rw [h]; exact ev_val rfl
      by_cases h1 : (c.toNat : Int) < 32
      · refine ev_pos h1 ?_
        by_cases hf : feeds = true
        · refine ev_pos hf ?_
          by_cases h10 : (c.toNat : Int) = 10
          · exact ev_pos h10 (ev_neg (by omega) (good (by simp [okC, h10, hf])))
          · exact ev_neg h10 (bad (by simp [okC, h10, h1]))
        · exact ev_neg hf (bad (by simp [okC, h1, hf]))
      · refine ev_neg h1 ?_
        by_cases h127 : (c.toNat : Int) = 127
        · exact ev_pos h127 (bad (by simp [okC, h127]))
        · exact ev_neg h127 (good (by simp [okC, h127, h1]))
    · obtain rfl : j = s.size := by omega
      exact ih _ (by omega) (by omega)
theorem Text_ev (s : ByteArray) (hs : s.size ≤ 1073741824) : Ev (fun k => base_Text.f k s) (textOk s) := by
  unfold base_Text.f base_Visible.f
  refine Ev.bind (Visible_loop s hs true _ 0 (Nat.le_refl _) (by omega)) ?_
  rw [List.drop_zero]
  show Ev _ (wfC s true && (decide (s.toList = []) || sufB s))
  change Ev (fun k => if wfC s true = true then _ else _) _
  by_cases h : wfC s true = true
  · rw [h]
    refine ev_pos rfl ?_
    by_cases h2 : s.toList = []
    · exact ev_pos h2 (ev_val (by simp [h2]))
    · exact ev_neg h2 (ev_bindc (suf_is s hs) (ev_val (by simp [h2])))
  · have : wfC s true = false := by simpa using h
    rw [this]
    exact ev_neg (by simp) (ev_val rfl)
theorem TextOf_is (s : ByteArray) (hs : s.size ≤ 1073741824) : chaseref1_TextOf.f s = some (textOk s) := by
  have hw : chaseref1_wellFormed.f s true = some (wfC s true) := by
    unfold chaseref1_wellFormed.f
    rw [if_pos (by omega)]
    rfl
  unfold chaseref1_TextOf.f
  rw [hw, Option.bind_some]
  unfold textOk
  by_cases h : wfC s true = true
  · rw [h, if_pos rfl]
    by_cases h2 : s.toList = []
    · rw [if_pos h2]; simp [h2]
    · rw [if_neg h2, suf_is s hs]; simp [h2]
  · have : wfC s true = false := by simpa using h
    rw [this, if_neg (by simp)]
    rfl
def bodyFault (s : ByteArray) : Int := if (s.size : Int) > 20000 then 2 else if textOk s = true then 0 else 3
theorem BodyFault_is (s : ByteArray) : chaseref1_BodyFault.f s = some (bodyFault s) := by
  unfold chaseref1_BodyFault.f bodyFault
  by_cases h : (s.size : Int) > 20000
  · rw [if_pos h, if_pos h]
  · rw [if_neg h, if_neg h, TextOf_is s (by omega), Option.bind_some]
    split <;> rfl
end Go.Proofs.YtolcpmdojlbhcaaDoor.Pe
namespace Go.Proofs.YtolcpmdojlbhcaaDoor.Pe
open Go.RowKit Go.Proofs.YtolcpmdojlbhcaaDoor.GBase Go.Proofs.YtolcpmdojlbhcaaDoorW.PrintWords Go.Proofs.YtolcpmdojlbhcaaDoorW.PrintLast
set_option linter.unusedVariables false
set_option linter.unusedSimpArgs false
theorem textError_zero (s : ByteArray) (hs : s.size ≤ 20000) (l : List S46) (hl : l.length < 1000000) (h : textOk s = true) (hc : chk l (s.size : Int) = 0) : Ev (fun k => privilege_textError.f k s l) 0 := by
  have hL : privilege_large.f s = some 0 := by
    unfold privilege_large.f base_When.f
    simp <;> omega
  unfold privilege_textError.f
  refine ev_bindc hL (Ev.bind (Text_ev s (by omega)) (ev_bindc (When_is _ _) (Ev.bind (CheckSpans_ev l hl _) (Ev.bind (First_ev _ (by simp)) (ev_val ?_)))))
  simp [firstOf, h, hc]
end Go.Proofs.YtolcpmdojlbhcaaDoor.Pe
namespace Go.Proofs.YtolcpmdojlbhcaaDoor.GBase
open Go.RowKit Go.Lib
set_option linter.unusedVariables false
theorem dec_step (l : List UInt8) (hne : l ≠ []) (h : ¬ ((decodeL l).1 = 65533 ∧ (decodeL l).2 = 1)) :
    1 ≤ (decodeL l).2 ∧ (decodeL l).2 ≤ l.length ∧ (l.getD 0 0).toNat / 64 ≠ 2 ∧ ∀ j, 0 < j → j < (decodeL l).2 → 128 ≤ (l.getD (j - 1) 0).toNat := by
  have h2 := decodeL_width l
  have h3 := decodeL_le l hne
  refine ⟨h2, h3, ?_⟩
  clear h2 h3
  rw [decodeL_N] at h ⊢
  rcases decodeN_shape l.length (l.getD 0 0).toNat (l.getD 1 0).toNat (l.getD 2 0).toNat (l.getD 3 0).toNat with ⟨c, e⟩ | ⟨c1, c2, c3, c4, e⟩ | ⟨c1, c2, c3, c4, c5, c6, e⟩ | ⟨c1, c2, c3, c4, c5, c6, c7, e⟩ | e
  · rw [e]
    exact ⟨by omega, fun j h1 h2 => by simp only [] at h2; omega⟩
  · rw [e]
    refine ⟨by omega, fun j h1 h2 => ?_⟩
    simp only [] at h2
    obtain rfl : j = 1 := by omega
    show 128 ≤ (l.getD 0 0).toNat
    omega
  · rw [e]
    refine ⟨by omega, fun j h1 h2 => ?_⟩
    simp only [] at h2
    obtain rfl | rfl : j = 1 ∨ j = 2 := by omega
    · show 128 ≤ (l.getD 0 0).toNat
      omega
    · show 128 ≤ (l.getD 1 0).toNat
      omega
  · rw [e]
    refine ⟨by omega, fun j h1 h2 => ?_⟩
    simp only [] at h2
    obtain rfl | rfl | rfl : j = 1 ∨ j = 2 ∨ j = 3 := by omega
    · show 128 ≤ (l.getD 0 0).toNat
      omega
    · show 128 ≤ (l.getD 1 0).toNat
      omega
    · show 128 ≤ (l.getD 2 0).toNat
      omega
  · rw [e] at h
    exact absurd ⟨rfl, rfl⟩ h
theorem valid_inner : ∀ (n : Nat) (l : List UInt8), l.length ≤ n → validD l = true → ∀ j, j < l.length → (l.getD j 0).toNat / 64 = 2 → 0 < j ∧ 128 ≤ (l.getD (j - 1) 0).toNat
  | 0, l, hn, _, j, hj, _ => by omega
  | n + 1, l, hn, hv, j, hj, hc => by
    have hne : l ≠ [] := fun e => by rw [e] at hj; simp at hj
    rw [validD_step l hne] at hv
    by_cases hbad : (decodeL l).1 = 65533 ∧ (decodeL l).2 = 1
    · rw [if_pos hbad] at hv
      exact absurd hv (by decide)
    · rw [if_neg hbad] at hv
      obtain ⟨h1, h2, h3, h4⟩ := dec_step l hne hbad
      by_cases hw : j < (decodeL l).2
      · by_cases h0 : j = 0
        · subst h0
          exact absurd hc h3
        · exact ⟨by omega, h4 j (by omega) hw⟩
      · have ih := valid_inner n (l.drop (decodeL l).2) (by rw [List.length_drop]; omega) hv (j - (decodeL l).2) (by rw [List.length_drop]; omega)
        have g : ∀ k, (l.drop (decodeL l).2).getD k 0 = l.getD ((decodeL l).2 + k) 0 := fun k => by simp [List.getD, List.getElem?_drop]
        rw [g, g, show (decodeL l).2 + (j - (decodeL l).2) = j by omega] at ih
        obtain ⟨i1, i2⟩ := ih hc
        rw [show (decodeL l).2 + (j - (decodeL l).2 - 1) = j - 1 by omega] at i2
        exact ⟨by omega, i2⟩
end Go.Proofs.YtolcpmdojlbhcaaDoor.GBase
namespace Go.Proofs.YtolcpmdojlbhcaaDoor.Pe
open Go.RowKit Go.Proofs.YtolcpmdojlbhcaaDoor.GBase Go.Proofs.YtolcpmdojlbhcaaDoorW.PrintWords Go.Proofs.YtolcpmdojlbhcaaDoorW.PrintLast
set_option linter.unusedVariables false
set_option linter.unusedSimpArgs false
def fewL (l : List S46) : List S46 × Int := if (l.length : Int) > 1000 then ([], 2) else (l, 0)
theorem few_is (l : List S46) : privilege_few.f l = some (fewL l) := by
  unfold privilege_few.f fewL
  split <;> rfl
theorem Union_ev (a b : List (Nat × Nat)) (n : Nat) (hn : n ≤ 1000000) (ha : a.length ≤ 100000) (hb : b.length ≤ 100000) (hav : ∀ p ∈ a, p.1 < p.2 ∧ p.2 ≤ n) (hbv : ∀ p ∈ b, p.1 < p.2 ∧ p.2 ≤ n) (h1 : chk (a.map spn) n = 0) (h2 : chk (b.map spn) n = 0) :
    ∃ r : List (Nat × Nat), Norm r ∧ (∀ i, cov r i = (cov a i || cov b i)) ∧ Ev (fun k => privilege_Union.f k (a.map spn) (b.map spn) (n : Int)) (fewL (r.map spn)) := by
  obtain ⟨r, hr, hr1, hr2⟩ := put_ev (a ++ b) (by simp; omega) (fun p hp => by
    rcases List.mem_append.1 hp with h | h
    · exact (hav p h).1
    · exact (hbv p h).1) (fun p hp => by
    rcases List.mem_append.1 hp with h | h
    · have := (hav p h).2; omega
    · have := (hbv p h).2; omega)
  refine ⟨r, hr1, fun i => by rw [hr2, cov_append], ?_⟩
  unfold privilege_Union.f
  refine Ev.bind (CheckSpans_ev _ (by simp; omega) _) (Ev.bind (CheckSpans_ev _ (by simp; omega) _) (Ev.bind (First_ev _ (by simp)) ?_))
  rw [h1, h2]
  refine ev_pos (by simp [firstOf]) (Ev.bind (Concat_ev _ _ (by simp; omega) (by simp; omega)) ?_)
  rw [← List.map_append]
  exact Ev.bind hr (ev_bindc (few_is _) (ev_val rfl))
theorem eqN_loop (l : List S46) (hn : l.length ≤ 1048577) (d : Nat) : ∀ j : Nat, l.length - j ≤ d → j ≤ l.length → Ev (fun k => api_Span_24.l0 k l l (l.length : Int) (j : Int)) true := by
  induction d with
  | zero => intro j hd hj; exact Ev.step (fun _ => api_Span_24.l0.eq_2 ..) (ev_neg (by omega) (ev_val rfl))
  | succ d ih =>
    intro j hd hj
    by_cases hlt : j < l.length
    · have hw : wrap64 ((j : Int) + 1) = ((j + 1 : Nat) : Int) := by rw [wr64 (by omega) (by omega)]; omega
      refine Ev.step (fun _ => api_Span_24.l0.eq_2 ..) (ev_pos (by omega) (ev_pos (by omega) (ev_pos (by omega) (ev_pos (by omega) (ev_neg (by simp) ?_)))))
      rw [hw]
      exact ih (j + 1) (by omega) (by omega)
    · exact Ev.step (fun _ => api_Span_24.l0.eq_2 ..) (ev_neg (by omega) (ev_val rfl))
theorem eqN_ev (l : List S46) (hn : l.length ≤ 1048577) : Ev (fun k => api_Span_24.f k l l) true := by
  unfold api_Span_24.f
  exact ev_pos rfl (eqN_loop l hn _ 0 (Nat.le_refl _) (by omega))
end Go.Proofs.YtolcpmdojlbhcaaDoor.Pe
namespace Go.Proofs.YtolcpmdojlbhcaaDoor.Pe
open Go.RowKit Go.Proofs.YtolcpmdojlbhcaaDoor.GBase Go.Proofs.YtolcpmdojlbhcaaDoorW.PrintWords Go.Proofs.YtolcpmdojlbhcaaDoorW.PrintLast
set_option linter.unusedVariables false
set_option linter.unusedSimpArgs false
theorem any_range (c : List Bool) (a b : Nat) : ((c.take b).drop a).any id = true ↔ ∃ j, a ≤ j ∧ j < b ∧ c.getD j false = true := by
  constructor
  · intro h
    obtain ⟨x, hx, hx2⟩ := List.any_eq_true.1 h
    obtain ⟨i, hi, e⟩ := List.getElem_of_mem hx
    rw [List.length_drop, List.length_take] at hi
    rw [List.getElem_drop, List.getElem_take] at e
    refine ⟨a + i, by omega, by omega, ?_⟩
    rw [List.getD_eq_getElem?_getD, List.getElem?_eq_getElem (by omega), e]
    exact hx2
  · rintro ⟨j, h1, h2, h3⟩
    have hj : j < c.length := by
      rcases Nat.lt_or_ge j c.length with h | h
      · exact h
      · rw [List.getD_eq_getElem?_getD, List.getElem?_eq_none h] at h3
        exact absurd h3 (by decide)
    rw [List.getD_eq_getElem?_getD, List.getElem?_eq_getElem hj] at h3
    refine List.any_eq_true.2 ⟨true, List.mem_iff_getElem.2 ⟨j - a, by rw [List.length_drop, List.length_take]; omega, ?_⟩, rfl⟩
    rw [List.getElem_drop, List.getElem_take]
    have : a + (j - a) = j := by omega
    simp only [this]
    exact h3
theorem norm_chk {m : List (Nat × Nat)} {n : Nat} (h : Norm m) (hb : ∀ p ∈ m, p.2 ≤ n) (hn : n ≤ 200000) (hl : m.length ≤ 1000) : chk (m.map spn) (n : Int) = 0 := by
  have go : ∀ (m : List (Nat × Nat)) (prev : Option Int), Norm m → (∀ p ∈ m, p.2 ≤ n) → (∀ t, prev = some t → ∀ p ∈ m, t < (p.1 : Int)) → chkL (n : Int) prev (m.map spn) = 0 := by
    intro m
    induction m with
    | nil => intro prev _ _ _; cases prev <;> rfl
    | cons p m ih =>
      intro prev h hb hp
      have h1 := h.1 p List.mem_cons_self
      have h2 := hb p List.mem_cons_self
      have h3 := ih (some (p.2 : Int)) ⟨fun q hq => h.1 q (List.mem_cons_of_mem _ hq), (List.pairwise_cons.1 h.2).2⟩ (fun q hq => hb q (List.mem_cons_of_mem _ hq)) (fun t e q hq => by
        obtain rfl := Option.some.inj e
        have := (List.pairwise_cons.1 h.2).1 q hq
        omega)
      rw [List.map_cons]
      have e0 : (spn p).f0 = (p.1 : Int) := rfl
      have e1 : (spn p).f1 = (p.2 : Int) := rfl
      simp only [chkL, e0, e1]
      rw [if_neg (by omega), if_neg, h3]
      cases prev with
      | none => simp [afterB]
      | some t =>
        have := hp t rfl p List.mem_cons_self
        simp only [afterB, decide_eq_true_eq]
        omega
  unfold chk
  rw [if_neg (by omega), if_neg (by rw [List.length_map]; omega)]
  exact go m none h hb (fun t e => by cases e)
theorem norm_len (n : Nat) : ∀ (l : List (Nat × Nat)) (a : Nat), Norm l → (∀ p ∈ l, a ≤ p.1 ∧ p.2 ≤ n) → l.length ≤ n - a
  | [], a, _, _ => Nat.zero_le _
  | p :: l, a, h, hb => by
    have h1 := h.1 p List.mem_cons_self
    have h2 := hb p List.mem_cons_self
    have ih := norm_len n l (p.2 + 1) ⟨fun q hq => h.1 q (List.mem_cons_of_mem _ hq), (List.pairwise_cons.1 h.2).2⟩ (fun q hq => ⟨(List.pairwise_cons.1 h.2).1 q hq, (hb q (List.mem_cons_of_mem _ hq)).2⟩)
    rw [List.length_cons]
    omega
theorem spans_pair (s : ByteArray) (d : Nat) : ∀ i, s.size - i ≤ d → (spans s i).Pairwise (fun p q => p.2 < q.1) := by
  induction d with
  | zero => intro i h; rw [spans_end (by omega)]; exact List.Pairwise.nil
  | succ d ih =>
    intro i h
    by_cases hi : i < s.size
    · by_cases hw : isW (bt s i) = true
      · obtain ⟨e1, e2⟩ := wEnd_spec s _ i (Nat.le_refl _)
        have hgt : i < wEnd s i := by have := wEnd_ge s (i + 1); rw [wEnd_in hi hw]; omega
        rw [spans_in hi hw]
        refine List.pairwise_cons.2 ⟨fun q hq => ?_, ih _ (by omega)⟩
        exact ((mem_spans s q _ (wEnd s i + 1) (Nat.le_refl _) (.inr e2)).1 hq).2
      · rw [spans_out hi hw]
        exact ih _ (by omega)
    · rw [spans_end hi]; exact List.Pairwise.nil
theorem spans_norm (s : ByteArray) (g : Nat × Nat → Bool) : Norm ((spans s 0).filter g) :=
  ⟨fun p hp => ((mem_words s p).1 (List.mem_filter.1 hp).1).1, (spans_pair s _ 0 (Nat.le_refl _)).filter _⟩
def Told (s : ByteArray) (m : List (Nat × Nat)) (p : Nat × Nat) : Prop := IsWord s p ∧ 4 ≤ p.2 - p.1 ∧ (∀ j, p.1 ≤ j → j < p.2 → cov m j = false) ∧ ∃ q, IsWord s q ∧ (∃ t ∈ m, t.1 ≤ q.1 ∧ q.2 ≤ t.2) ∧ wd s q = wd s p
theorem ends_cut {s : ByteArray} {p : Nat × Nat} (h : Ends s p) : Cut s p.1 p.2 := by
  obtain ⟨h1, h2, h3, h4⟩ := h
  have g : ∀ j, glue s j = false → wAt s (j - 1) = false ∨ wAt s j = false := fun j hj => by
    unfold glue at hj
    cases a : wAt s (j - 1) with
    | false => exact .inl rfl
    | true =>
      cases b : wAt s j with
      | false => exact .inr rfl
      | true => rw [a, b] at hj; exact absurd hj (by simp)
  constructor
  · rcases h3 with h3 | h3
    · exact .inl h3
    · exact .inr (g _ h3)
  · rcases h4 with h4 | h4
    · exact .inr (wAt_out s _ (by omega))
    · exact g _ h4
theorem ends_insd {s : ByteArray} {p : Nat × Nat} (h : Ends s p) : (p.1 = 0 ∨ insd s p.1 = false) ∧ insd s p.2 = false := by
  obtain ⟨h1, h2, h3, h4⟩ := h
  have g : ∀ j, glue s j = false → insd s j = false := fun j hj => by
    unfold glue at hj
    cases b : insd s j with
    | false => rfl
    | true => rw [b] at hj; exact absurd hj (by simp)
  constructor
  · rcases h3 with h3 | h3
    · exact .inl h3
    · exact .inr (g _ h3)
  · rcases h4 with h4 | h4
    · unfold insd
      rw [decide_eq_false (by omega), Bool.false_and]
    · exact g _ h4
theorem leakSp_is : (leakSp : Nat × Nat → S46) = spn := rfl
theorem leaks_ev (s : ByteArray) (hs : s.size ≤ 1000) (ht : textOk s = true) (m : List (Nat × Nat)) (hn : Norm m) (he : ∀ p ∈ m, Ends s p) :
    ∃ K : List (Nat × Nat), Norm K ∧ (∀ p, p ∈ K ↔ Told s m p) ∧ K.length ≤ 1000 ∧ Ev (fun k => privilege_Leaks.f k s (m.map spn)) (K.map spn, 0) := by
  have hml : m.length ≤ 1000 := by
    have := norm_len s.size m 0 hn (fun p hp => ⟨Nat.zero_le _, (he p hp).2.1⟩)
    omega
  have hmul : m.length * 100001 ≤ 1000 * 100001 := Nat.mul_le_mul_right _ hml
  obtain ⟨c, S, g1, g2, g3, g4⟩ := gather_ev s (by omega) m (List.replicate s.size false) [] (fun p hp => ⟨(he p hp).1, (he p hp).2.1⟩) (List.length_replicate ..) (by simp only [List.length_nil]; omega)
  have hsc := scan_ev s c S g2 (by omega) (s.size + 1) 0 none [] (by omega) (fun f e => by cases e) (Nat.le_refl _)
  rw [List.nil_append] at hsc
  have hcov : ∀ i, c.getD i false = cov m i := fun i => by
    rw [g3 i]
    have : (List.replicate s.size false).getD i false = false := by
      rw [List.getD_eq_getElem?_getD, List.getElem?_replicate]
      split <;> rfl
    rw [this, Bool.false_or]
  have hK : Norm ((spans s 0).filter (leakG s c S)) := spans_norm s _
  have hin : ∀ p ∈ (spans s 0).filter (leakG s c S), p.2 ≤ s.size := fun p hp => ((mem_words s p).1 (List.mem_filter.1 hp).1).2.1
  have hlen := norm_len s.size _ 0 hK (fun p hp => ⟨Nat.zero_le _, hin p hp⟩)
  refine ⟨(spans s 0).filter (leakG s c S), hK, fun p => ?_, by omega, ?_⟩
  · rw [List.mem_filter, mem_words]
    unfold leakG Told
    rw [Bool.and_eq_true, Bool.and_eq_true, decide_eq_true_eq, decide_eq_true_eq]
    refine and_congr_right fun hw => and_congr_right fun _ => and_congr ?_ ?_
    · rw [Bool.not_eq_true', ← Bool.not_eq_true, any_range]
      constructor
      · intro h j h1 h2
        cases hc : cov m j with
        | false => rfl
        | true => exact absurd ⟨j, h1, h2, (hcov j).trans hc⟩ h
      · rintro h ⟨j, h1, h2, h3⟩
        rw [hcov, h j h1 h2] at h3
        exact absurd h3 (by decide)
    · rw [g4]
      constructor
      · rintro (h | ⟨t, ht1, w, hw1, hw2⟩)
        · exact absurd h List.not_mem_nil
        · obtain ⟨q, q1, q2, q3, q4⟩ := (words_extract s t.1 t.2 (he t ht1).1 (he t ht1).2.1 (ends_cut (he t ht1)) w).1 hw1
          exact ⟨q, q1, ⟨t, ht1, q2, q3⟩, q4.trans (ba_list hw2)⟩
      · rintro ⟨q, q1, ⟨t, ht1, q2, q3⟩, q4⟩
        exact .inr ⟨t, ht1, wd s q, (words_extract s t.1 t.2 (he t ht1).1 (he t ht1).2.1 (ends_cut (he t ht1)) _).2 ⟨q, q1, q2, q3, rfl⟩, by rw [q4]⟩
  · have hpts := points_ev s m (by omega) (fun p hp => ends_insd (he p hp))
    rw [leakSp_is] at hpts
    rw [leakSp_is] at g1 hsc
    have hte := textError_zero s (by omega) (m.map spn) (by rw [List.length_map]; omega) ht (norm_chk hn (fun p hp => (he p hp).2.1) (by omega) hml)
    refine Ev.congr (fun _ => privilege_Leaks.f.eq_1 ..) (ev_pos (by omega) (Ev.bind hte (ev_pos rfl (Ev.bind hpts (Ev.bind g1 (Ev.bind hsc (ev_val ?_)))))))
    rw [few_is]
    unfold fewL
    rw [if_neg (by rw [List.length_map]; show ¬ ((((spans s 0).filter (leakG s c S)).length : Int) > 1000); omega)]
    rfl
theorem isW_high (c : Int) (h : 128 ≤ c) : isW c = true := by simp [isW, h]
theorem word_ends {s : ByteArray} (ht : textOk s = true) {p : Nat × Nat} (h : IsWord s p) : Ends s p := by
  obtain ⟨h1, h2, h3, h4, h5⟩ := h
  have hv : Lib.validD s.data.toList = true := by
    unfold textOk wfC at ht
    simp only [Bool.and_eq_true] at ht
    exact ht.1.2
  have hin : ∀ j, insd s j = true → wAt s j = true ∧ (0 < j ∧ wAt s (j - 1) = true) := fun j hj => by
    unfold insd at hj
    rw [Bool.and_eq_true, decide_eq_true_eq] at hj
    obtain ⟨a, b⟩ := hj
    have hl : j < s.data.toList.length := a
    have e1 := bt_get s j hl
    have b2 : (bt s (j : Int)) / 64 = 2 := by simpa using b
    have hg : (s.data.toList.getD j 0).toNat / 64 = 2 := by
      rw [List.getD_eq_getElem?_getD, List.getElem?_eq_getElem hl]
      show (s.data.toList[j]).toNat / 64 = 2
      omega
    obtain ⟨c1, c2⟩ := valid_inner _ s.data.toList (Nat.le_refl _) hv j hl hg
    have hl2 : j - 1 < s.data.toList.length := by omega
    have e2 := bt_get s (j - 1) hl2
    rw [List.getD_eq_getElem?_getD, List.getElem?_eq_getElem hl2] at c2
    have c3 : 128 ≤ (s.data.toList[j - 1]).toNat := c2
    exact ⟨isW_high _ (by omega), c1, isW_high _ (by rw [e2]; omega)⟩
  refine ⟨h1, h2, ?_, ?_⟩
  · rcases h4 with h4 | h4
    · exact .inl h4
    · refine .inr ?_
      unfold glue
      rw [h4, Bool.false_and, Bool.false_or]
      cases hi : insd s p.1 with
      | false => rfl
      | true => rw [(hin _ hi).2.2] at h4; exact absurd h4 (by decide)
  · refine .inr ?_
    unfold glue
    rw [h5, Bool.and_false, Bool.false_or]
    cases hi : insd s p.2 with
    | false => rfl
    | true => rw [(hin _ hi).1] at h5; exact absurd h5 (by decide)
theorem told_end {s : ByteArray} {a K u : List (Nat × Nat)} (he : ∀ p ∈ a, Ends s p) (hK : ∀ p, p ∈ K ↔ Told s a p) (hu : Norm u) (hc : ∀ i, cov u i = (cov a i || cov K i)) (p : Nat × Nat) : ¬ Told s u p := by
  rintro ⟨p1, p2, p3, q, q1, ⟨t, t1, t2, t3⟩, q2⟩
  have cq : cov u q.1 = true := cov_iff.2 ⟨t, t1, t2, by have := q1.1; omega⟩
  have inK : (∃ q, IsWord s q ∧ (∃ t ∈ a, t.1 ≤ q.1 ∧ q.2 ≤ t.2) ∧ wd s q = wd s p) → False := fun h => by
    have hp : p ∈ K := (hK p).2 ⟨p1, p2, fun j h1 h2 => by
      have := p3 j h1 h2
      rw [hc] at this
      exact (Bool.or_eq_false_iff.1 this).1, h⟩
    have := p3 p.1 (Nat.le_refl _) p1.1
    rw [hc, cov_iff.2 ⟨p, hp, Nat.le_refl _, p1.1⟩, Bool.or_true] at this
    exact absurd this (by decide)
  rw [hc] at cq
  rcases Bool.or_eq_true_iff.1 cq with c | c
  · obtain ⟨r, r1, r2, r3⟩ := cov_iff.1 c
    refine inK ⟨q, q1, ⟨r, r1, r2, ?_⟩, q2⟩
    rcases Nat.lt_or_ge r.2 q.2 with h | h
    · obtain ⟨e1, e2, e3, e4⟩ := he r r1
      obtain ⟨w1, w2, w3, w4, w5⟩ := q1
      rcases e4 with e4 | e4
      · omega
      · unfold glue at e4
        rw [w3 (r.2 - 1) (by omega) (by omega), w3 r.2 (by omega) h] at e4
        exact absurd e4 (by simp)
    · exact h
  · obtain ⟨r, r1, r2, r3⟩ := cov_iff.1 c
    obtain ⟨k1, k2, k3, q', k4, k5, k6⟩ := (hK r).1 r1
    have e : r = q := k1.same q1 r2 r3 (Nat.le_refl _) q1.1
    subst e
    exact inK ⟨q', k4, k5, k6.trans q2⟩
end Go.Proofs.YtolcpmdojlbhcaaDoor.Pe
namespace Go.Proofs.YtolcpmdojlbhcaaDoor.Pe
open Go.RowKit Go.Proofs.YtolcpmdojlbhcaaDoor.GBase Go.Proofs.YtolcpmdojlbhcaaDoorW.PrintWords Go.Proofs.YtolcpmdojlbhcaaDoorW.PrintLast
set_option linter.unusedVariables false
set_option linter.unusedSimpArgs false
theorem core_ev (t : ByteArray) (ht : t.size ≤ 1000) (hok : textOk t = true) (m : List (Nat × Nat)) (hn : Norm m) (hl : m.length ≤ 5) (hb : ∀ p ∈ m, p.2 ≤ t.size) :
    ∃ a K u : List (Nat × Nat), Ev (fun k => privilege_Widen.f k t (m.map spn)) (a.map spn, 0) ∧ Ev (fun k => privilege_Leaks.f k t (a.map spn)) (K.map spn, 0) ∧
      Ev (fun k => privilege_Union.f k (a.map spn) (K.map spn) (t.size : Int)) (u.map spn, 0) ∧ Ev (fun k => privilege_Leaks.f k t (u.map spn)) ([], 0) ∧ Ev (fun k => privilege_Widen.f k t (u.map spn)) (u.map spn, 0) ∧ u.length ≤ 1000 := by
  have te : ∀ q : List (Nat × Nat), Norm q → (∀ p ∈ q, p.2 ≤ t.size) → q.length ≤ 1000 → Ev (fun k => privilege_textError.f k t (q.map spn)) 0 := fun q h1 h2 h3 =>
    textError_zero t (by omega) _ (by rw [List.length_map]; omega) hok (norm_chk h1 h2 (by omega) h3)
  have ln : ∀ q : List (Nat × Nat), Norm q → (∀ p ∈ q, Ends t p) → q.length ≤ 1000 := fun q h1 h2 => by
    have := norm_len t.size q 0 h1 (fun p hp => ⟨Nat.zero_le _, (h2 p hp).2.1⟩)
    omega
  obtain ⟨a, a1, a2, a3, a4⟩ := Widen_ev t (by omega) m (by omega) hn hb (te m hn hb (by omega))
  clear a4
  obtain ⟨K, k1, k2, k3, k4⟩ := leaks_ev t ht hok a a2 a3
  have kE : ∀ p ∈ K, Ends t p := fun p hp => word_ends hok ((k2 p).1 hp).1
  have al := ln a a2 a3
  obtain ⟨u, u1, u2, u3⟩ := Union_ev a K t.size (by omega) (by omega) (by omega) (fun p hp => ⟨(a3 p hp).1, (a3 p hp).2.1⟩) (fun p hp => ⟨(kE p hp).1, (kE p hp).2.1⟩)
    (norm_chk a2 (fun p hp => (a3 p hp).2.1) (by omega) al) (norm_chk k1 (fun p hp => (kE p hp).2.1) (by omega) k3)
  have uE : ∀ p ∈ u, Ends t p := fun p hp => norm_ends (m := a ++ K) u1 (fun i => by rw [u2, cov_append]) (fun q hq => by
    rcases List.mem_append.1 hq with h | h
    · exact a3 q h
    · exact kE q h) hp
  have ul := ln u u1 uE
  obtain ⟨K2, l1, l2, l3, l4⟩ := leaks_ev t ht hok u u1 uE
  have hK2 : K2 = [] := List.eq_nil_iff_forall_not_mem.2 fun p hp => told_end a3 k2 u1 u2 p ((l2 p).1 hp)
  subst hK2
  obtain ⟨r, r1, r2, r3, r4⟩ := Widen_ev t (by omega) u ul u1 (fun p hp => (uE p hp).2.1) (te u u1 (fun p hp => (uE p hp).2.1) ul)
  rw [r4 uE] at r1
  refine ⟨a, K, u, a1, k4, ?_, l4, r1, ul⟩
  unfold fewL at u3
  rw [if_neg (by rw [List.length_map]; omega)] at u3
  exact u3
end Go.Proofs.YtolcpmdojlbhcaaDoor.Pe
namespace Go.Proofs.YtolcpmdojlbhcaaDoor.Pe
open Go.RowKit Go.Proofs.YtolcpmdojlbhcaaDoor.GBase Go.Proofs.YtolcpmdojlbhcaaDoorW.PrintWords Go.Proofs.YtolcpmdojlbhcaaDoorW.PrintLast
set_option linter.unusedVariables false
set_option linter.unusedSimpArgs false
theorem Below_is (x n : Int) (hn : n ≤ 4611686018427387904) (hx : -9223372036854775808 ≤ x) : ∃ r, chasemake_Below.f x n = some r ∧ 0 ≤ r ∧ (1 ≤ n → r < n) ∧ (n < 1 → r = 0) := by
  unfold chasemake_Below.f
  by_cases h : n < 1
  · rw [if_pos h]; exact ⟨0, rfl, by omega, by omega, fun _ => rfl⟩
  · rw [if_neg h, if_neg (by omega)]
    have h1 := Int.tmod_lt_of_pos x (b := n) (by omega)
    have h2 : -n < Int.tmod x n := by
      have := Int.tmod_lt_of_pos (-x) (b := n) (by omega)
      rw [Int.neg_tmod] at this
      omega
    by_cases h3 : Int.tmod x n < 0
    · rw [if_pos h3]; exact ⟨_, rfl, by rw [wr64 (by omega) (by omega)]; omega, by rw [wr64 (by omega) (by omega)]; omega, by omega⟩
    · rw [if_neg h3]; exact ⟨_, rfl, by omega, fun _ => h1, by omega⟩
theorem wrap_ge (x : Int) : -9223372036854775808 ≤ wrap64 x := by unfold wrap64; omega
def Nums (l : List Int) : Prop := l.length * 8 ≤ 140737488351232 ∧ ∀ x ∈ l, (Lit.int .i64 x).wf = true
theorem Nums.ge {l : List Int} (h : Nums l) (i : Int) : -9223372036854775808 ≤ rd l i := by
  unfold rd
  by_cases hi : i.toNat < l.length
  · have h1 := h.2 _ (List.getElem_mem hi)
    have h2 : IntKind.i64.min ≤ l[i.toNat] := by
      simp only [Lit.wf, Bool.and_eq_true, decide_eq_true_eq] at h1
      exact h1.1
    have h3 : IntKind.i64.min = -9223372036854775808 := by decide
    simp [List.getD, hi]
    omega
  · simp [List.getD, hi]
theorem Next_is (l : List Int) (at_ n : Int) (hl : Nums l) (h0 : 0 ≤ at_) (h1 : at_ < 1099511627776) (hn : n ≤ 4611686018427387904) :
    ∃ r, chasemake_Stream_Next.f l at_ n = some (r, at_ + 1) ∧ 0 ≤ r ∧ (1 ≤ n → r < n) ∧ (n < 1 → r = 0) := by
  have hw : wrap64 (at_ + 1) = at_ + 1 := wr64 (by omega) (by omega)
  have hw2 : wrap64 (at_ + 1 - 1) = at_ := by rw [wr64 (by omega) (by omega)]; omega
  unfold chasemake_Stream_Next.f
  rw [hw, hw2]
  by_cases hz : (l.length : Int) = 0
  · rw [if_pos hz]
    obtain ⟨r, hr, h⟩ := Below_is (wrap64 ((at_ + 1) * 7919)) n hn (wrap_ge _)
    rw [hr]
    exact ⟨r, rfl, h⟩
  · rw [if_neg hz]
    have h2 := Int.tmod_lt_of_pos at_ (b := (l.length : Int)) (by omega)
    have h3 := Int.tmod_nonneg (l.length : Int) h0
    rw [if_pos h3, if_pos h2]
    obtain ⟨r1, hr1, _⟩ := Below_is (rd l (Int.tmod at_ (l.length : Int))) 1073741824 (by omega) (hl.ge _)
    rw [hr1, Option.bind_some]
    obtain ⟨r, hr, h⟩ := Below_is (wrap64 (r1 + (wrap64 ((wrap64 (Int.tdiv at_ (l.length : Int))) * (wrap64 (7919 + (Int.tmod at_ (l.length : Int)))))))) n hn (wrap_ge _)
    rw [hr]
    exact ⟨r, rfl, h⟩
theorem one_is (l : List Int) (at_ : Int) (xs : List ByteArray) (hl : Nums l) (h0 : 0 ≤ at_) (h1 : at_ < 1099511627776) (hx : 0 < xs.length) (hm : xs.length < 1000) :
    ∃ x ∈ xs, chasemake_Stream_h06one.f l at_ xs = some (x, at_ + 1) := by
  obtain ⟨r, hr, h2, h3, _⟩ := Next_is l at_ (xs.length : Int) hl h0 h1 (by omega)
  have h4 := h3 (by omega)
  unfold chasemake_Stream_h06one.f
  rw [hr, Option.bind_some, if_pos h2, if_pos h4]
  have hi : r.toNat < xs.length := by omega
  refine ⟨xs[r.toNat], List.getElem_mem hi, ?_⟩
  simp [rdOf, List.getD, hi]
theorem Pick_is (l : List Int) (at_ : Int) (xs : List Int) (hl : Nums l) (h0 : 0 ≤ at_) (h1 : at_ < 1099511627776) (hx : 0 < xs.length) (hm : xs.length < 1000) :
    ∃ x ∈ xs, chasemake_Stream_Pick.f l at_ xs = some (x, at_ + 1) := by
  obtain ⟨r, hr, h2, h3, _⟩ := Next_is l at_ (xs.length : Int) hl h0 h1 (by omega)
  have h4 := h3 (by omega)
  unfold chasemake_Stream_Pick.f
  rw [hr, Option.bind_some, if_pos h2, if_pos h4]
  have hi : r.toNat < xs.length := by omega
  refine ⟨xs[r.toNat], List.getElem_mem hi, ?_⟩
  simp [rd, List.getD, hi]
theorem Flip_is (l : List Int) (at_ n : Int) (hl : Nums l) (h0 : 0 ≤ at_) (h1 : at_ < 1099511627776) (hn : n ≤ 4611686018427387904) :
    ∃ b, chasemake_Stream_Flip.f l at_ n = some (b, at_ + 1) := by
  obtain ⟨r, hr, _⟩ := Next_is l at_ n hl h0 h1 hn
  unfold chasemake_Stream_Flip.f
  rw [hr]
  exact ⟨_, rfl⟩
end Go.Proofs.YtolcpmdojlbhcaaDoor.Pe
namespace Go.Proofs.YtolcpmdojlbhcaaDoor.Pe
open Go.RowKit Go.Proofs.YtolcpmdojlbhcaaDoor.GBase Go.Proofs.YtolcpmdojlbhcaaDoorW.PrintWords Go.Proofs.YtolcpmdojlbhcaaDoorW.PrintLast
set_option linter.unusedVariables false
set_option linter.unusedSimpArgs false
theorem norm_snoc {m : List (Nat × Nat)} (h : Norm m) {p : Nat × Nat} (hp : p.1 < p.2) (hm : ∀ q ∈ m, q.2 < p.1) : Norm (m ++ [p]) := by
  refine ⟨fun q hq => ?_, List.pairwise_append.2 ⟨h.2, by simp, fun q hq r hr => ?_⟩⟩
  · rcases List.mem_append.1 hq with hq | hq
    · exact h.1 q hq
    · rw [List.mem_singleton.1 hq]; exact hp
  · rw [List.mem_singleton.1 hr]; exact hm q hq
theorem SpanList_fine (l : List Int) (hl : Nums l) (size : Nat) (n : Int) (d : Nat) (hd5 : d ≤ 20) : ∀ (i at_ : Int) (a : Nat) (m : List (Nat × Nat)), 0 ≤ i → n - i ≤ d → i + d ≤ 1000 → m.length + d ≤ 1000 → 0 ≤ at_ → at_ < 1099511627776 - 2 * (d + 1) → a + 20 * d ≤ 1000 → Norm m → (∀ p ∈ m, p.2 < a ∧ p.2 ≤ size) →
    ∃ (r : List (Nat × Nat)) (a' : Int), Ev (fun k => chasemake_Stream_SpanList.l0 k (size : Int) (m.map spn) (a : Int) n i l at_) (r.map spn, a') ∧ r.length ≤ m.length + d ∧ Norm r ∧ (∀ p ∈ r, p.2 ≤ size) ∧ at_ ≤ a' ∧ a' ≤ at_ + 2 * d := by
  induction d with
  | zero =>
    intro i at_ a m h0 hn hi h5 ha hb ha2 hN hs
    exact ⟨m, at_, Ev.step (fun _ => chasemake_Stream_SpanList.l0.eq_2 ..) (ev_neg (by omega) (ev_val rfl)), by omega, hN, fun p hp => (hs p hp).2, by omega, by omega⟩
  | succ d ih =>
    intro i at_ a m h0 hn hi h5 ha hb ha2 hN hs
    by_cases hlt : i < n
    · obtain ⟨p, hp1, hp⟩ := Pick_is l at_ [0, 1, 2, 5] hl ha (by omega) (by decide) (by decide)
      obtain ⟨q, hq1, hq⟩ := Pick_is l (at_ + 1) [1, 1, 2, 4, 9] hl (by omega) (by omega) (by decide) (by decide)
      have hp2 : 0 ≤ p ∧ p ≤ 5 := by
        have h : ∀ z ∈ ([0, 1, 2, 5] : List Int), 0 ≤ z ∧ z ≤ 5 := by decide
        exact h p hp1
      have hq2 : 1 ≤ q ∧ q ≤ 9 := by
        have h : ∀ z ∈ ([1, 1, 2, 4, 9] : List Int), 1 ≤ z ∧ z ≤ 9 := by decide
        exact h q hq1
      obtain ⟨P, rfl⟩ := Int.eq_ofNat_of_zero_le hp2.1
      obtain ⟨Q, rfl⟩ := Int.eq_ofNat_of_zero_le (show 0 ≤ q by omega)
      have w1 : Aside0 (wrap64 ((a : Int) + (P : Int)) = ((a + P : Nat) : Int)) := Aside0.mk ((wr64 (by omega) (by omega)).trans (by omega))
      have w2 : Aside0 (wrap64 (((a + P : Nat) : Int) + (Q : Int)) = ((a + P + Q : Nat) : Int)) := Aside0.mk ((wr64 (by omega) (by omega)).trans (by omega))
      have w3 : Aside0 (wrap64 (((a + P + Q : Nat) : Int) + 1) = ((a + P + Q + 1 : Nat) : Int)) := Aside0.mk ((wr64 (by omega) (by omega)).trans (by omega))
      have hw : Aside0 (wrap64 (i + 1) = i + 1) := Aside0.mk (wr64 (by omega) (by omega))
      by_cases hbig : ((a + P + Q : Nat) : Int) > (size : Int)
      · refine ⟨m, at_ + 1 + 1, Ev.step (fun _ => chasemake_Stream_SpanList.l0.eq_2 ..) (ev_pos hlt (ev_bindc hp (ev_bindc hq ?_))), by omega, hN, fun p hp => (hs p hp).2, by omega, by omega⟩
        simp only [w1.out, w2.out]
        exact ev_pos hbig (ev_val rfl)
      · obtain ⟨r, a', hr, h1, h2, h3, h4, h6⟩ := ih (by omega) (i + 1) (at_ + 1 + 1) (a + P + Q + 1) (m ++ [(a + P, a + P + Q)]) (by omega) (by omega) (by omega) (by simp only [List.length_append, List.length_singleton]; omega) (by omega) (by omega) (by omega)
          (norm_snoc hN (by simp only []; omega) (fun q hq => by have := (hs q hq).1; simp only []; omega)) (fun q hq => by
            rcases List.mem_append.1 hq with hq | hq
            · have := hs q hq; omega
            · rw [List.mem_singleton.1 hq]; simp only []; omega)
        refine ⟨r, a', Ev.step (fun _ => chasemake_Stream_SpanList.l0.eq_2 ..) (ev_pos hlt (ev_bindc hp (ev_bindc hq ?_))), by simp only [List.length_append, List.length_singleton] at h1; omega, h2, h3, by omega, by omega⟩
        simp only [w1.out, w2.out, w3.out]
        refine ev_neg hbig (ev_pos (by rw [List.length_map]; omega) ?_)
        rw [hw.out]
        rw [List.map_append] at hr
        exact hr
    · exact ⟨m, at_, Ev.step (fun _ => chasemake_Stream_SpanList.l0.eq_2 ..) (ev_neg hlt (ev_val rfl)), by omega, hN, fun p hp => (hs p hp).2, by omega, by omega⟩
theorem SpanList_good (l : List Int) (hl : Nums l) (at_ : Int) (size : Nat) (h0 : 0 ≤ at_) (h1 : at_ < 1099511627000) :
    ∃ (r : List (Nat × Nat)) (a' : Int), Ev (fun k => chasemake_Stream_SpanList.f k l at_ (size : Int)) (r.map spn, a') ∧ r.length ≤ 5 ∧ Norm r ∧ (∀ p ∈ r, p.2 ≤ size) ∧ at_ ≤ a' ∧ a' ≤ at_ + 11 := by
  obtain ⟨n, hn, n0, n1, _⟩ := Next_is l at_ 5 hl h0 (by omega) (by omega)
  have n2 := n1 (by omega)
  obtain ⟨r, a', hr, g1, g2, g3, g4, g5⟩ := SpanList_fine l hl size n 5 (by omega) 0 (at_ + 1) 0 [] (by omega) (by omega) (by omega) (by simp) (by omega) (by omega) (by omega) ⟨by simp, by simp⟩ (by simp)
  refine ⟨r, a', ?_, by simpa using g1, g2, g3, by omega, by omega⟩
  unfold chasemake_Stream_SpanList.f
  exact ev_bindc hn hr
end Go.Proofs.YtolcpmdojlbhcaaDoor.Pe
namespace Go.Proofs.YtolcpmdojlbhcaaDoor.Pe
open Go.RowKit Go.Proofs.YtolcpmdojlbhcaaDoor.GBase Go.Proofs.YtolcpmdojlbhcaaDoorW.PrintWords Go.Proofs.YtolcpmdojlbhcaaDoorW.PrintLast
set_option linter.unusedVariables false
set_option linter.unusedSimpArgs false
theorem Memo_end (l : List Int) (hl : Nums l) (at_ : Int) (t : ByteArray) (h0 : 0 ≤ at_) (h1 : at_ < 1099511627000) (ht : t.size ≤ 950) :
    ∃ (r : ByteArray) (a' : Int), Ev (fun k => chasemake_Stream_Memo.j2 k t l at_) (r, a') ∧ (r.size ≤ 1000 ∨ 20000 < r.size) ∧ at_ ≤ a' ∧ a' ≤ at_ + 2 := by
  obtain ⟨b, hb⟩ := Flip_is l at_ 20 hl h0 (by omega) (by omega)
  by_cases hbt : b = true
  · have hrep : strings_Repeat.f (⟨#[109]⟩ : ByteArray) 20000 = some (⟨(Lib.repeatL [109] 20000).toArray⟩ : ByteArray) := by
      unfold strings_Repeat.f
      rw [if_pos ⟨by decide, by decide, by decide, by decide⟩]
      rfl
    have hsz : (⟨(Lib.repeatL [109] 20000).toArray⟩ : ByteArray).size = 20000 := by
      show (Lib.repeatL [109] 20000).toArray.size = 20000
      rw [List.size_toArray, Lib.repeatL_length]
      rfl
    generalize (⟨(Lib.repeatL [109] 20000).toArray⟩ : ByteArray) = q at *
    obtain ⟨x, hx, he⟩ := one_is l (at_ + 1) [(⟨#[97, 9, 98, 10]⟩ : ByteArray), (⟨#[255, 10]⟩ : ByteArray), q ++ (⟨#[10]⟩ : ByteArray)] hl (by omega) (by omega) (by simp) (by simp)
    refine ⟨x, at_ + 1 + 1, Ev.step (fun _ => chasemake_Stream_Memo.j2.eq_2 ..) (ev_bindc hb (ev_pos hbt (ev_bindc hrep (ev_pos (by omega) (ev_bindc he (ev_val rfl)))))), ?_, by omega, by omega⟩
    have e1 : (⟨#[97, 9, 98, 10]⟩ : ByteArray).size = 4 := rfl
    have e2 : (⟨#[255, 10]⟩ : ByteArray).size = 2 := rfl
    have e3 : (⟨#[10]⟩ : ByteArray).size = 1 := rfl
    rcases List.mem_cons.1 hx with rfl | hx
    · omega
    · rcases List.mem_cons.1 hx with rfl | hx
      · omega
      · rcases List.mem_cons.1 hx with rfl | hx
        · rw [ByteArray.size_append]; omega
        · cases hx
  · exact ⟨t, at_ + 1, Ev.step (fun _ => chasemake_Stream_Memo.j2.eq_2 ..) (ev_bindc hb (ev_neg hbt (ev_val rfl))), by omega, by omega, by omega⟩
theorem Memo_mid (l : List Int) (hl : Nums l) (at_ : Int) (t : ByteArray) (b : Bool) (h0 : 0 ≤ at_) (h1 : at_ < 1099511627000) (ht : t.size ≤ 900) :
    ∃ (r : ByteArray) (a' : Int), Ev (fun k => chasemake_Stream_Memo.j1 k t b l at_) (r, a') ∧ (r.size ≤ 1000 ∨ 20000 < r.size) ∧ at_ ≤ a' ∧ a' ≤ at_ + 2 := by
  cases b with
  | true =>
    have e3 : (⟨#[10]⟩ : ByteArray).size = 1 := rfl
    obtain ⟨r, a', hr, h⟩ := Memo_end l hl at_ (t ++ (⟨#[10]⟩ : ByteArray)) h0 h1 (by rw [ByteArray.size_append]; omega)
    exact ⟨r, a', Ev.step (fun _ => chasemake_Stream_Memo.j1.eq_2 ..) (ev_pos rfl (ev_pos (by omega) hr)), h⟩
  | false =>
    obtain ⟨r, a', hr, h⟩ := Memo_end l hl at_ t h0 h1 (by omega)
    exact ⟨r, a', Ev.step (fun _ => chasemake_Stream_Memo.j1.eq_2 ..) (ev_neg (by simp) hr), h⟩
theorem Memo_loop (l : List Int) (hl : Nums l) (n : Int) (d : Nat) (hd100 : d ≤ 20) : ∀ (i at_ : Int) (t : ByteArray), 0 ≤ i → i ≤ 1000 - d → n - i ≤ d → 0 ≤ at_ → at_ < 1099511626000 - 2 * (d + 1) → t.size ≤ 900 - 20 * d →
    ∃ (r : ByteArray) (a' : Int), Ev (fun k => chasemake_Stream_Memo.l0 k t n i l at_) (r, a') ∧ (r.size ≤ 1000 ∨ 20000 < r.size) ∧ at_ ≤ a' ∧ a' ≤ at_ + 2 * d + 3 := by
  have fin : ∀ (i at_ : Int) (t : ByteArray), ¬ i < n → 0 ≤ at_ → at_ < 1099511626000 → t.size ≤ 900 → ∃ (r : ByteArray) (a' : Int), Ev (fun k => chasemake_Stream_Memo.l0 k t n i l at_) (r, a') ∧ (r.size ≤ 1000 ∨ 20000 < r.size) ∧ at_ ≤ a' ∧ a' ≤ at_ + 3 := by
    intro i at_ t hn ha hb ht
    by_cases he : t.toList = []
    · obtain ⟨r, a', hr, h2, h3, h4⟩ := Memo_mid l hl at_ t false ha (by omega) ht
      exact ⟨r, a', Ev.step (fun _ => chasemake_Stream_Memo.l0.eq_2 ..) (ev_neg hn (ev_pos he hr)), h2, h3, by omega⟩
    · obtain ⟨b, hb2⟩ := Flip_is l at_ 12 hl ha (by omega) (by omega)
      obtain ⟨r, a', hr, h2, h3, h4⟩ := Memo_mid l hl (at_ + 1) t (!b) (by omega) (by omega) ht
      exact ⟨r, a', Ev.step (fun _ => chasemake_Stream_Memo.l0.eq_2 ..) (ev_neg hn (ev_neg he (ev_bindc hb2 hr))), h2, by omega, by omega⟩
  induction d with
  | zero =>
    intro i at_ t h0 hi hn ha hb ht
    obtain ⟨r, a', hr, h2, h3, h4⟩ := fin i at_ t (by omega) ha (by omega) (by omega)
    exact ⟨r, a', hr, h2, h3, by omega⟩
  | succ d ih =>
    intro i at_ t h0 hi hn ha hb ht
    by_cases hlt : i < n
    · obtain ⟨x, hx, e1⟩ := one_is l at_ [(⟨#[109, 101, 109, 111]⟩ : ByteArray), (⟨#[77, 101, 109, 111]⟩ : ByteArray), (⟨#[109, 101, 109, 111, 115]⟩ : ByteArray), (⟨#[115, 101, 101, 32, 116, 104, 101]⟩ : ByteArray), (⟨#[195, 169, 116, 195, 169]⟩ : ByteArray), (⟨#[115, 101, 99, 114, 101, 116]⟩ : ByteArray), (⟨#[83, 69, 67, 82, 69, 84, 32, 112, 108, 97, 110]⟩ : ByteArray), (⟨#[97]⟩ : ByteArray), (⟨#[120, 45, 121]⟩ : ByteArray), (⟨#[51, 114, 100]⟩ : ByteArray)] hl ha (by omega) (by simp) (by simp)
      obtain ⟨y, hy, e2⟩ := one_is l (at_ + 1) [(⟨#[32]⟩ : ByteArray), (⟨#[32]⟩ : ByteArray), (⟨#[10]⟩ : ByteArray), (⟨#[44, 32]⟩ : ByteArray), (⟨#[]⟩ : ByteArray)] hl (by omega) (by omega) (by simp) (by simp)
      have sx : x.size ≤ 11 := by
        have h : ∀ z ∈ [(⟨#[109, 101, 109, 111]⟩ : ByteArray), (⟨#[77, 101, 109, 111]⟩ : ByteArray), (⟨#[109, 101, 109, 111, 115]⟩ : ByteArray), (⟨#[115, 101, 101, 32, 116, 104, 101]⟩ : ByteArray), (⟨#[195, 169, 116, 195, 169]⟩ : ByteArray), (⟨#[115, 101, 99, 114, 101, 116]⟩ : ByteArray), (⟨#[83, 69, 67, 82, 69, 84, 32, 112, 108, 97, 110]⟩ : ByteArray), (⟨#[97]⟩ : ByteArray), (⟨#[120, 45, 121]⟩ : ByteArray), (⟨#[51, 114, 100]⟩ : ByteArray)], z.size ≤ 11 := by decide
        exact h x hx
      have sy : y.size ≤ 2 := by
        have h : ∀ z ∈ [(⟨#[32]⟩ : ByteArray), (⟨#[32]⟩ : ByteArray), (⟨#[10]⟩ : ByteArray), (⟨#[44, 32]⟩ : ByteArray), (⟨#[]⟩ : ByteArray)], z.size ≤ 2 := by decide
        exact h y hy
      have hw : wrap64 (i + 1) = i + 1 := wr64 (by omega) (by omega)
      obtain ⟨r, a', hr, h2, h3, h4⟩ := ih (by omega) (i + 1) (at_ + 1 + 1) (t ++ (x ++ y)) (by omega) (by omega) (by omega) (by omega) (by omega) (by simp only [ByteArray.size_append]; omega)
      refine ⟨r, a', Ev.step (fun _ => chasemake_Stream_Memo.l0.eq_2 ..) (ev_pos hlt (ev_bindc e1 (ev_bindc e2 (ev_pos (by simp only; omega) (ev_pos (by simp only [ByteArray.size_append]; omega) ?_))))), h2, by omega, by omega⟩
      rw [hw]
      exact hr
    · obtain ⟨r, a', hr, h2, h3, h4⟩ := fin i at_ t hlt ha (by omega) (by omega)
      exact ⟨r, a', hr, h2, h3, by omega⟩
theorem Memo_ev (l : List Int) (at_ : Int) (hl : Nums l) (h0 : 0 ≤ at_) (h1 : at_ < 1099511625000) :
    ∃ (r : ByteArray) (a' : Int), Ev (fun k => chasemake_Stream_Memo.f k l at_) (r, a') ∧ (r.size ≤ 1000 ∨ 20000 < r.size) ∧ at_ ≤ a' ∧ a' ≤ at_ + 30 := by
  obtain ⟨n, hn, n0, n1, _⟩ := Next_is l at_ 10 hl h0 (by omega) (by omega)
  have n2 := n1 (by omega)
  obtain ⟨r, a', hr, g1, g2, g3⟩ := Memo_loop l hl n 10 (by omega) 0 (at_ + 1) ⟨#[]⟩ (by omega) (by omega) (by omega) (by omega) (by omega) (by decide)
  refine ⟨r, a', ?_, g1, by omega, by omega⟩
  unfold chasemake_Stream_Memo.f
  exact ev_bindc hn hr
end Go.Proofs.YtolcpmdojlbhcaaDoor.Pe
namespace Go.Proofs.YtolcpmdojlbhcaaDoor.Pe
open Go.RowKit Go.Proofs.YtolcpmdojlbhcaaDoor.GBase Go.Proofs.YtolcpmdojlbhcaaDoorW.PrintWords Go.Proofs.YtolcpmdojlbhcaaDoorW.PrintLast
theorem privileges_ev : Ev (fun k => chasekeep1_privileges.f k) true := Ev.of (fun k => chasekeep1_privileges.mono k) (k := 12) (by decide +kernel)
end Go.Proofs.YtolcpmdojlbhcaaDoor.Pe
