/- Part of the proof that the law patchesLead is true for every input. No conditions. Laid by a program of this session over the kit's print and words; declarations that nothing names are left out. -/
import Derived.Test.YtomamgapdeggjaaDoorZlPlx7
namespace Go.Proofs.YtomamgapdeggjaaDoor.Pl
open Go.RowKit Go.Proofs.YtomamgapdeggjaaDoor.GBase Go.Proofs.YtomamgapdeggjaaDoorW.PrintWords Go.Proofs.YtomamgapdeggjaaDoorW.PrintLast
set_option linter.unusedVariables false
set_option linter.unusedSimpArgs false
def isW (c : Int) : Bool := decide (97 ≤ c ∧ c ≤ 122) || decide (65 ≤ c ∧ c ≤ 90) || decide (48 ≤ c ∧ c ≤ 57) || decide (128 ≤ c)
theorem letter_is (c : Int) : near_letter.f c = some (isW c) := by
  by_cases h1 : 97 ≤ c <;> by_cases h2 : c ≤ 122 <;> by_cases h3 : 65 ≤ c <;> by_cases h4 : c ≤ 90 <;> by_cases h5 : 48 ≤ c <;> by_cases h6 : c ≤ 57 <;> by_cases h7 : 128 ≤ c <;>
    first | (exfalso; omega) | simp [near_letter.f, base_Digit.f, isW, h1, h2, h3, h4, h5, h6, h7]
def wEnd (s : ByteArray) (i : Nat) : Nat := if h : i < s.size then (if isW (bt s i) = true then wEnd s (i + 1) else i) else i
  termination_by s.size - i
theorem wEnd_in {s : ByteArray} {i : Nat} (h : i < s.size) (hw : isW (bt s i) = true) : wEnd s i = wEnd s (i + 1) := by
  rw [wEnd, dif_pos h, if_pos hw]
theorem wEnd_stop {s : ByteArray} {i : Nat} (h : i < s.size) (hw : ¬ isW (bt s i) = true) : wEnd s i = i := by
  rw [wEnd, dif_pos h, if_neg hw]
theorem wEnd_end {s : ByteArray} {i : Nat} (h : ¬ i < s.size) : wEnd s i = i := by
  rw [wEnd, dif_neg h]
theorem le_wEnd (s : ByteArray) (d : Nat) : ∀ i, s.size - i ≤ d → i ≤ wEnd s i ∧ (i ≤ s.size → wEnd s i ≤ s.size) := by
  induction d with
  | zero => intro i hi; rw [wEnd_end (by omega)]; exact ⟨Nat.le_refl _, id⟩
  | succ d ih =>
    intro i hi
    by_cases h : i < s.size
    · by_cases hw : isW (bt s i) = true
      · rw [wEnd_in h hw]
        have := ih (i + 1) (by omega)
        omega
      · rw [wEnd_stop h hw]; exact ⟨Nat.le_refl _, id⟩
    · rw [wEnd_end h]; exact ⟨Nat.le_refl _, id⟩
theorem wEnd_ge (s : ByteArray) (i : Nat) : i ≤ wEnd s i := (le_wEnd s _ i (Nat.le_refl _)).1
def spans (s : ByteArray) (i : Nat) : List (Nat × Nat) := if h : i < s.size then (if isW (bt s i) = true then (i, wEnd s i) :: spans s (wEnd s i + 1) else spans s (i + 1)) else []
  termination_by s.size - i
  decreasing_by
    all_goals have := wEnd_ge s i
    all_goals omega
theorem spans_in {s : ByteArray} {i : Nat} (h : i < s.size) (hw : isW (bt s i) = true) : spans s i = (i, wEnd s i) :: spans s (wEnd s i + 1) := by
  rw [spans, dif_pos h, if_pos hw]
theorem spans_out {s : ByteArray} {i : Nat} (h : i < s.size) (hw : ¬ isW (bt s i) = true) : spans s i = spans s (i + 1) := by
  rw [spans, dif_pos h, if_neg hw]
theorem spans_end {s : ByteArray} {i : Nat} (h : ¬ i < s.size) : spans s i = [] := by
  rw [spans, dif_neg h]
def wd (s : ByteArray) (p : Nat × Nat) : ByteArray := lowA (s.extract p.1 p.2)
def wordsOf (s : ByteArray) : List ByteArray := (spans s 0).map (wd s)
theorem ex_size (s : ByteArray) (a b : Nat) : (s.extract a b).size ≤ s.size := by
  rw [ByteArray.size_extract]; omega
theorem near_words_ev (s : ByteArray) (hs : s.size < 8796093022208) (d : Nat) : ∀ (i : Nat) (acc : List ByteArray), s.size - i ≤ d → i ≤ s.size → acc.length ≤ i →
    Ev (fun k => near_Words.l0 k s acc (-1) (i : Int)) (acc ++ (spans s i).map (wd s)) ∧
    ∀ f : Nat, f < i → Ev (fun k => near_Words.l0 k s acc (f : Int) (i : Int)) (acc ++ wd s (f, wEnd s i) :: (spans s (wEnd s i + 1)).map (wd s)) := by
  have hlow : ∀ a b, base_Lower.f (s.extract a b) = some (lowA (s.extract a b)) := fun a b => by
    have := ex_size s a b
    unfold base_Lower.f; rw [if_pos (by omega)]
  have hend : ∀ (acc : List ByteArray) (x : Int), Ev (fun k => near_Words.l0 k s acc x ((s.size : Int) + 1)) acc := fun acc x =>
    Ev.step (fun _ => near_Words.l0.eq_2 ..) (ev_neg (by omega) (ev_val rfl))
  induction d with
  | zero =>
    intro i acc hd hi ha
    obtain rfl : i = s.size := by omega
    have hw : wrap64 ((s.size : Int) + 1) = (s.size : Int) + 1 := wr64 (by omega) (by omega)
    refine ⟨?_, fun f hf => ?_⟩
    · rw [spans_end (by omega)]
      refine Ev.step (fun _ => near_Words.l0.eq_2 ..) (ev_pos (by omega) (ev_neg (by omega) ?_))
      refine Ev.step (fun _ => near_Words.j1.eq_2 ..) (ev_neg (by simp) ?_)
      refine Ev.step (fun _ => near_Words.j2.eq_2 ..) (ev_neg (by simp) (ev_neg (by simp) (ev_neg (by omega) ?_)))
      rw [hw]
      simpa using hend acc (-1)
    · rw [wEnd_end (by omega), spans_end (by omega)]
      refine Ev.step (fun _ => near_Words.l0.eq_2 ..) (ev_pos (by omega) (ev_neg (by omega) ?_))
      refine Ev.step (fun _ => near_Words.j1.eq_2 ..) (ev_neg (by simp) ?_)
      refine Ev.step (fun _ => near_Words.j2.eq_2 ..) (ev_neg (by simp) (ev_neg (by simp) (ev_pos (by omega) (ev_pos (by omega) (ev_pos (by omega) (ev_pos (by omega) ?_))))))
      refine ev_bindc (hlow _ _) (ev_pos (by omega) ?_)
      rw [hw]
      simpa [wd] using hend _ (-1)
  | succ d ih =>
    intro i acc hd hi ha
    by_cases hlt : i < s.size
    · have hw : wrap64 ((i : Int) + 1) = ((i + 1 : Nat) : Int) := by rw [wr64 (by omega) (by omega)]; omega
      by_cases hc : isW (bt s i) = true
      · have ihf := (ih (i + 1) acc (by omega) (by omega) (by omega)).2
        refine ⟨?_, fun f hf => ?_⟩
        · rw [spans_in hlt hc]
          refine Ev.step (fun _ => near_Words.l0.eq_2 ..) (ev_pos (by omega) (ev_pos (by omega) (ev_pos (by omega) (ev_bindc (letter_is _) ?_))))
          rw [hc]
          refine Ev.step (fun _ => near_Words.j1.eq_2 ..) (ev_pos rfl ?_)
          refine Ev.step (fun _ => near_Words.j2.eq_2 ..) (ev_pos (by simp) (ev_pos rfl ?_))
          rw [hw, wEnd_in hlt hc]
          exact ihf i (by omega)
        · rw [wEnd_in hlt hc]
          refine Ev.step (fun _ => near_Words.l0.eq_2 ..) (ev_pos (by omega) (ev_pos (by omega) (ev_pos (by omega) (ev_bindc (letter_is _) ?_))))
          rw [hc]
          refine Ev.step (fun _ => near_Words.j1.eq_2 ..) (ev_pos rfl ?_)
          refine Ev.step (fun _ => near_Words.j2.eq_2 ..) (ev_neg (by simp) (ev_pos rfl ?_))
          rw [hw]
          exact ihf f (by omega)
      · have hcf : isW (bt s i) = false := by simpa using hc
        refine ⟨?_, fun f hf => ?_⟩
        · rw [spans_out hlt hc]
          refine Ev.step (fun _ => near_Words.l0.eq_2 ..) (ev_pos (by omega) (ev_pos (by omega) (ev_pos (by omega) (ev_bindc (letter_is _) ?_))))
          rw [hcf]
          refine Ev.step (fun _ => near_Words.j1.eq_2 ..) (ev_neg (by simp) ?_)
          refine Ev.step (fun _ => near_Words.j2.eq_2 ..) (ev_neg (by simp) (ev_neg (by simp) (ev_neg (by omega) ?_)))
          rw [hw]
          exact (ih (i + 1) acc (by omega) (by omega) (by omega)).1
        · rw [wEnd_stop hlt hc]
          refine Ev.step (fun _ => near_Words.l0.eq_2 ..) (ev_pos (by omega) (ev_pos (by omega) (ev_pos (by omega) (ev_bindc (letter_is _) ?_))))
          rw [hcf]
          refine Ev.step (fun _ => near_Words.j1.eq_2 ..) (ev_neg (by simp) ?_)
          refine Ev.step (fun _ => near_Words.j2.eq_2 ..) (ev_neg (by simp) (ev_neg (by simp) (ev_pos (by omega) (ev_pos (by omega) (ev_pos (by omega) (ev_pos (by omega) ?_))))))
          refine ev_bindc (hlow _ _) (ev_pos (by omega) ?_)
          rw [hw]
          have := (ih (i + 1) (acc ++ [wd s (f, i)]) (by omega) (by omega) (by simp; omega)).1
          simpa [wd] using this
    · obtain rfl : i = s.size := by omega
      exact ih s.size acc (by omega) (by omega) ha
theorem near_Words_ev (s : ByteArray) (hs : s.size < 8796093022208) : Ev (fun k => near_Words.f k s) (wordsOf s) := by
  have := (near_words_ev s hs s.size 0 [] (by omega) (by omega) (by simp)).1
  simpa [near_Words.f, wordsOf] using this
theorem spans_count (s : ByteArray) (d : Nat) : ∀ i, s.size - i ≤ d → (spans s i).length ≤ s.size - i := by
  induction d with
  | zero => intro i hi; rw [spans_end (by omega)]; simp
  | succ d ih =>
    intro i hi
    by_cases h : i < s.size
    · by_cases hw : isW (bt s i) = true
      · rw [spans_in h hw]
        have h1 := wEnd_ge s (i + 1)
        rw [← wEnd_in h hw] at h1
        have := ih (wEnd s i + 1) (by omega)
        simp only [List.length_cons]
        omega
      · rw [spans_out h hw]
        have := ih (i + 1) (by omega)
        omega
    · rw [spans_end h]; simp
theorem wordsOf_count (s : ByteArray) : (wordsOf s).length ≤ s.size := by
  have := spans_count s _ 0 (Nat.le_refl _)
  simpa [wordsOf] using this
end Go.Proofs.YtomamgapdeggjaaDoor.Pl
