/- Part of the proof that the law wordsRead is true for every input. No conditions. Laid by a program of this session over the kit's print and words; declarations that nothing names are left out. -/
import Derived.Test.YtbamfhcifpfocaaDoorZwPwx2
import Derived.Test.YtbamfhcifpfocaaDoorZwPwx3
namespace Go.Proofs.YtbamfhcifpfocaaDoor.Pw
open Go.RowKit Go.Proofs.YtbamfhcifpfocaaDoor.GBase Go.Proofs.YtbamfhcifpfocaaDoorW.PrintWords Go.Proofs.YtbamfhcifpfocaaDoorW.PrintLast
set_option linter.unusedVariables false
set_option linter.unusedSimpArgs false
def isW (c : Int) : Bool := decide (97 ≤ c ∧ c ≤ 122) || decide (65 ≤ c ∧ c ≤ 90) || decide (48 ≤ c ∧ c ≤ 57) || decide (128 ≤ c)
theorem letter_is (c : Int) : near_letter.f c = some (isW c) := by
  by_cases h1 : 97 ≤ c <;> by_cases h2 : c ≤ 122 <;> by_cases h3 : 65 ≤ c <;> by_cases h4 : c ≤ 90 <;> by_cases h5 : 48 ≤ c <;> by_cases h6 : c ≤ 57 <;> by_cases h7 : 128 ≤ c <;>
    first | (exfalso; omega) | simp [near_letter.f, base_Digit.f, isW, h1, h2, h3, h4, h5, h6, h7]
theorem wordByte_is (c : Int) (h0 : 0 ≤ c) (h1 : c ≤ 255) : chaseref1_wordByte.f c = some (isW c) := by
  have key : ∀ n : Fin 256, chaseref1_wordByte.f (n.val : Int) = some (isW (n.val : Int)) := by decide +kernel
  obtain ⟨n, rfl⟩ := Int.eq_ofNat_of_zero_le h0
  exact key ⟨n, by omega⟩
def wEnd (s : ByteArray) (i : Nat) : Nat := if h : i < s.size then (if isW (bt s i) = true then wEnd s (i + 1) else i) else i
  termination_by s.size - i
theorem wEnd_in {s : ByteArray} {i : Nat} (h : i < s.size) (hw : isW (bt s i) = true) : wEnd s i = wEnd s (i + 1) := by
  rw [wEnd, dif_pos h, if_pos hw]
theorem wEnd_stop {s : ByteArray} {i : Nat} (h : i < s.size) (hw : ¬ isW (bt s i) = true) : wEnd s i = i := by
  rw [wEnd, dif_pos h, if_neg hw]
theorem wEnd_end {s : ByteArray} {i : Nat} (h : ¬ i < s.size) : wEnd s i = i := by
  rw [wEnd, dif_neg h]
theorem le_wEnd (s : ByteArray) (d : Nat) : ∀ i, s.size - i ≤ d → i ≤ wEnd s i ∧ (i ≤ s.size → wEnd s i ≤ s.size) := by
  induction d with
  | zero => intro i hi; rw [wEnd_end (by omega)]; exact ⟨Nat.le_refl _, id⟩
  | succ d ih =>
    intro i hi
    by_cases h : i < s.size
    · by_cases hw : isW (bt s i) = true
      · rw [wEnd_in h hw]
        have := ih (i + 1) (by omega)
        omega
      · rw [wEnd_stop h hw]; exact ⟨Nat.le_refl _, id⟩
    · rw [wEnd_end h]; exact ⟨Nat.le_refl _, id⟩
theorem wEnd_ge (s : ByteArray) (i : Nat) : i ≤ wEnd s i := (le_wEnd s _ i (Nat.le_refl _)).1
theorem wEnd_le {s : ByteArray} {i : Nat} (h : i ≤ s.size) : wEnd s i ≤ s.size := (le_wEnd s _ i (Nat.le_refl _)).2 h
def spans (s : ByteArray) (i : Nat) : List (Nat × Nat) := if h : i < s.size then (if isW (bt s i) = true then (i, wEnd s i) :: spans s (wEnd s i + 1) else spans s (i + 1)) else []
  termination_by s.size - i
  decreasing_by
    all_goals have := wEnd_ge s i
    all_goals omega
theorem spans_in {s : ByteArray} {i : Nat} (h : i < s.size) (hw : isW (bt s i) = true) : spans s i = (i, wEnd s i) :: spans s (wEnd s i + 1) := by
  rw [spans, dif_pos h, if_pos hw]
theorem spans_out {s : ByteArray} {i : Nat} (h : i < s.size) (hw : ¬ isW (bt s i) = true) : spans s i = spans s (i + 1) := by
  rw [spans, dif_pos h, if_neg hw]
theorem spans_end {s : ByteArray} {i : Nat} (h : ¬ i < s.size) : spans s i = [] := by
  rw [spans, dif_neg h]
def wd (s : ByteArray) (p : Nat × Nat) : ByteArray := lowA (s.extract p.1 p.2)
def wordsOf (s : ByteArray) : List ByteArray := (spans s 0).map (wd s)
theorem ex_size (s : ByteArray) (a b : Nat) : (s.extract a b).size ≤ s.size := by
  rw [ByteArray.size_extract]; omega
theorem near_words_ev (s : ByteArray) (hs : s.size < 8796093022208) (d : Nat) : ∀ (i : Nat) (acc : List ByteArray), s.size - i ≤ d → i ≤ s.size → acc.length ≤ i →
    Ev (fun k => near_Words.l0 k s acc (-1) (i : Int)) (acc ++ (spans s i).map (wd s)) ∧
    ∀ f : Nat, f < i → Ev (fun k => near_Words.l0 k s acc (f : Int) (i : Int)) (acc ++ wd s (f, wEnd s i) :: (spans s (wEnd s i + 1)).map (wd s)) := by
  have hlow : ∀ a b, base_Lower.f (s.extract a b) = some (lowA (s.extract a b)) := fun a b => by
    have := ex_size s a b
    unfold base_Lower.f; rw [if_pos (by omega)]
  have hend : ∀ (acc : List ByteArray) (x : Int), Ev (fun k => near_Words.l0 k s acc x ((s.size : Int) + 1)) acc := fun acc x =>
    Ev.step (fun _ => near_Words.l0.eq_2 ..) (ev_neg (by omega) (ev_val rfl))
  induction d with
  | zero =>
    intro i acc hd hi ha
    obtain rfl : i = s.size := by omega
    have hw : wrap64 ((s.size : Int) + 1) = (s.size : Int) + 1 := wr64 (by omega) (by omega)
    refine ⟨?_, fun f hf => ?_⟩
    · rw [spans_end (by omega)]
      refine Ev.step (fun _ => near_Words.l0.eq_2 ..) (ev_pos (by omega) (ev_neg (by omega) ?_))
      refine Ev.step (fun _ => near_Words.j1.eq_2 ..) (ev_neg (by simp) ?_)
      refine Ev.step (fun _ => near_Words.j2.eq_2 ..) (ev_neg (by simp) (ev_neg (by simp) (ev_neg (by omega) ?_)))
      rw [hw]
      simpa using hend acc (-1)
    · rw [wEnd_end (by omega), spans_end (by omega)]
      refine Ev.step (fun _ => near_Words.l0.eq_2 ..) (ev_pos (by omega) (ev_neg (by omega) ?_))
      refine Ev.step (fun _ => near_Words.j1.eq_2 ..) (ev_neg (by simp) ?_)
      refine Ev.step (fun _ => near_Words.j2.eq_2 ..) (ev_neg (by simp) (ev_neg (by simp) (ev_pos (by omega) (ev_pos (by omega) (ev_pos (by omega) (ev_pos (by omega) ?_))))))
      refine ev_bindc (hlow _ _) (ev_pos (by omega) ?_)
      rw [hw]
      simpa [wd] using hend _ (-1)
  | succ d ih =>
    intro i acc hd hi ha
    by_cases hlt : i < s.size
    · have hw : wrap64 ((i : Int) + 1) = ((i + 1 : Nat) : Int) := by rw [wr64 (by omega) (by omega)]; omega
      by_cases hc : isW (bt s i) = true
      · have ihf := (ih (i + 1) acc (by omega) (by omega) (by omega)).2
        refine ⟨?_, fun f hf => ?_⟩
        · rw [spans_in hlt hc]
          refine Ev.step (fun _ => near_Words.l0.eq_2 ..) (ev_pos (by omega) (ev_pos (by omega) (ev_pos (by omega) (ev_bindc (letter_is _) ?_))))
          rw [hc]
          refine Ev.step (fun _ => near_Words.j1.eq_2 ..) (ev_pos rfl ?_)
          refine Ev.step (fun _ => near_Words.j2.eq_2 ..) (ev_pos (by simp) (ev_pos rfl ?_))
          rw [hw, wEnd_in hlt hc]
          exact ihf i (by omega)
        · rw [wEnd_in hlt hc]
          refine Ev.step (fun _ => near_Words.l0.eq_2 ..) (ev_pos (by omega) (ev_pos (by omega) (ev_pos (by omega) (ev_bindc (letter_is _) ?_))))
          rw [hc]
          refine Ev.step (fun _ => near_Words.j1.eq_2 ..) (ev_pos rfl ?_)
          refine Ev.step (fun _ => near_Words.j2.eq_2 ..) (ev_neg (by simp) (ev_pos rfl ?_))
          rw [hw]
          exact ihf f (by omega)
      · have hcf : isW (bt s i) = false := by simpa using hc
        refine ⟨?_, fun f hf => ?_⟩
        · rw [spans_out hlt hc]
          refine Ev.step (fun _ => near_Words.l0.eq_2 ..) (ev_pos (by omega) (ev_pos (by omega) (ev_pos (by omega) (ev_bindc (letter_is _) ?_))))
          rw [hcf]
          refine Ev.step (fun _ => near_Words.j1.eq_2 ..) (ev_neg (by simp) ?_)
          refine Ev.step (fun _ => near_Words.j2.eq_2 ..) (ev_neg (by simp) (ev_neg (by simp) (ev_neg (by omega) ?_)))
          rw [hw]
          exact (ih (i + 1) acc (by omega) (by omega) (by omega)).1
        · rw [wEnd_stop hlt hc]
          refine Ev.step (fun _ => near_Words.l0.eq_2 ..) (ev_pos (by omega) (ev_pos (by omega) (ev_pos (by omega) (ev_bindc (letter_is _) ?_))))
          rw [hcf]
          refine Ev.step (fun _ => near_Words.j1.eq_2 ..) (ev_neg (by simp) ?_)
          refine Ev.step (fun _ => near_Words.j2.eq_2 ..) (ev_neg (by simp) (ev_neg (by simp) (ev_pos (by omega) (ev_pos (by omega) (ev_pos (by omega) (ev_pos (by omega) ?_))))))
          refine ev_bindc (hlow _ _) (ev_pos (by omega) ?_)
          rw [hw]
          have := (ih (i + 1) (acc ++ [wd s (f, i)]) (by omega) (by omega) (by simp; omega)).1
          simpa [wd] using this
    · obtain rfl : i = s.size := by omega
      exact ih s.size acc (by omega) (by omega) ha
theorem near_Words_ev (s : ByteArray) (hs : s.size < 8796093022208) : Ev (fun k => near_Words.f k s) (wordsOf s) := by
  have := (near_words_ev s hs s.size 0 [] (by omega) (by omega) (by simp)).1
  simpa [near_Words.f, wordsOf] using this
def sp (p : Nat × Nat) : S46 := ⟨(p.1 : Int), (p.2 : Int)⟩
theorem ref_spans_ev (s : ByteArray) (hs : s.size < 8796093022208) (d : Nat) : ∀ (i : Nat) (acc : List S46), s.size + 1 - i ≤ d → i ≤ s.size + 1 → acc.length ≤ i →
    Ev (fun k => chaseref1_wordSpans.l0 k s acc (i : Int)) (acc ++ (spans s i).map sp) ∧
    ∀ f : Nat, f < i → i ≤ s.size → acc.length ≤ f → Ev (fun k => chaseref1_wordSpans.l1 k s acc (f : Int) (i : Int)) (acc ++ sp (f, wEnd s i) :: (spans s (wEnd s i + 1)).map sp) := by
  have hend : ∀ (acc : List S46) (i : Nat), s.size ≤ i → Ev (fun k => chaseref1_wordSpans.l0 k s acc (i : Int)) acc := fun acc i hi =>
    Ev.step (fun _ => chaseref1_wordSpans.l0.eq_2 ..) (ev_neg (by omega) (ev_val rfl))
  induction d with
  | zero =>
    intro i acc hd hi ha
    refine ⟨?_, fun f hf h1 _ => by omega⟩
    rw [spans_end (by omega)]
    simpa using hend acc i (by omega)
  | succ d ih =>
    intro i acc hd hi ha
    by_cases hlt : i < s.size
    · have hw : wrap64 ((i : Int) + 1) = ((i + 1 : Nat) : Int) := by rw [wr64 (by omega) (by omega)]; omega
      have hb := bt_range s (i : Int)
      by_cases hc : isW (bt s i) = true
      · have hl1 : ∀ f : Nat, f < i + 1 → acc.length ≤ f → Ev (fun k => chaseref1_wordSpans.l1 k s acc (f : Int) (i : Int)) (acc ++ sp (f, wEnd s i) :: (spans s (wEnd s i + 1)).map sp) := fun f hf hfa => by
          rw [wEnd_in hlt hc]
          refine Ev.step (fun _ => chaseref1_wordSpans.l1.eq_2 ..) (ev_pos (by omega) (ev_pos (by omega) (ev_bindc (wordByte_is _ hb.1 hb.2) (ev_pos hc ?_))))
          rw [hw]
          exact (ih (i + 1) acc (by omega) (by omega) (by omega)).2 f (by omega) (by omega) hfa
        refine ⟨?_, fun f hf _ hfa => hl1 f (by omega) hfa⟩
        rw [spans_in hlt hc]
        refine Ev.step (fun _ => chaseref1_wordSpans.l0.eq_2 ..) (ev_pos (by omega) (ev_pos (by omega) (ev_bindc (wordByte_is _ hb.1 hb.2) (ev_pos hc ?_))))
        exact hl1 i (by omega) ha
      · refine ⟨?_, fun f hf _ hfa => ?_⟩
        · rw [spans_out hlt hc]
          refine Ev.step (fun _ => chaseref1_wordSpans.l0.eq_2 ..) (ev_pos (by omega) (ev_pos (by omega) (ev_bindc (wordByte_is _ hb.1 hb.2) (ev_neg hc ?_))))
          rw [hw]
          exact (ih (i + 1) acc (by omega) (by omega) (by omega)).1
        · rw [wEnd_stop hlt hc]
          refine Ev.step (fun _ => chaseref1_wordSpans.l1.eq_2 ..) (ev_pos (by omega) (ev_pos (by omega) (ev_bindc (wordByte_is _ hb.1 hb.2) (ev_neg hc (ev_pos (by omega) ?_)))))
          rw [hw]
          have := (ih (i + 1) (acc ++ [sp (f, i)]) (by omega) (by omega) (by simp; omega)).1
          simpa [sp] using this
    · refine ⟨?_, fun f hf h1 hfa => ?_⟩
      · rw [spans_end hlt]
        simpa using hend acc i (by omega)
      · obtain rfl : i = s.size := by omega
        have hw : wrap64 ((s.size : Int) + 1) = ((s.size + 1 : Nat) : Int) := by rw [wr64 (by omega) (by omega)]; omega
        rw [wEnd_end (by omega), spans_end (by omega)]
        refine Ev.step (fun _ => chaseref1_wordSpans.l1.eq_2 ..) (ev_neg (by omega) (ev_pos (by omega) ?_))
        rw [hw]
        simpa [sp] using hend _ (s.size + 1) (by omega)
theorem wordSpans_ev (s : ByteArray) (hs : s.size < 8796093022208) : Ev (fun k => chaseref1_wordSpans.f k s) ((spans s 0).map sp) := by
  have := (ref_spans_ev s hs (s.size + 1) 0 [] (by omega) (by omega) (by simp)).1
  simpa [chaseref1_wordSpans.f] using this
theorem spans_ok (s : ByteArray) (d : Nat) : ∀ i, s.size - i ≤ d → ∀ p ∈ spans s i, i ≤ p.1 ∧ p.1 < p.2 ∧ p.2 ≤ s.size := by
  induction d with
  | zero => intro i hi p hp; rw [spans_end (by omega)] at hp; cases hp
  | succ d ih =>
    intro i hi p hp
    by_cases h : i < s.size
    · by_cases hw : isW (bt s i) = true
      · rw [spans_in h hw] at hp
        have h1 := wEnd_ge s (i + 1)
        have h2 := wEnd_le (s := s) (i := i) (by omega)
        rw [← wEnd_in h hw] at h1
        rcases List.mem_cons.1 hp with rfl | hp
        · exact ⟨Nat.le_refl _, by simp only; omega, h2⟩
        · have := ih (wEnd s i + 1) (by omega) p hp
          omega
      · rw [spans_out h hw] at hp
        have := ih (i + 1) (by omega) p hp
        omega
    · rw [spans_end h] at hp; cases hp
theorem spans_count (s : ByteArray) (d : Nat) : ∀ i, s.size - i ≤ d → (spans s i).length ≤ s.size - i := by
  induction d with
  | zero => intro i hi; rw [spans_end (by omega)]; simp
  | succ d ih =>
    intro i hi
    by_cases h : i < s.size
    · by_cases hw : isW (bt s i) = true
      · rw [spans_in h hw]
        have h1 := wEnd_ge s (i + 1)
        rw [← wEnd_in h hw] at h1
        have := ih (wEnd s i + 1) (by omega)
        simp only [List.length_cons]
        omega
      · rw [spans_out h hw]
        have := ih (i + 1) (by omega)
        omega
    · rw [spans_end h]; simp
theorem wordsOf_count (s : ByteArray) : (wordsOf s).length ≤ s.size := by
  have := spans_count s _ 0 (Nat.le_refl _)
  simpa [wordsOf] using this
theorem rd_sp (l : List (Nat × Nat)) (j : Nat) (hj : j < l.length) : rd_T46 (l.map sp) (j : Int) = sp l[j] := by
  unfold rd_T46
  simp [List.getD, hj]
theorem ref_words_ev (s : ByteArray) (hs : s.size < 8796093022208) (l : List (Nat × Nat)) (hl : ∀ p ∈ l, p.1 < p.2 ∧ p.2 ≤ s.size) (hn : l.length ≤ s.size) (d : Nat) : ∀ (j : Nat) (acc : List ByteArray), l.length - j ≤ d → j ≤ l.length → acc.length = j →
    Ev (fun k => chaseref1_WordsOf.l0 k s acc (l.map sp) (l.length : Int) (j : Int)) (acc ++ (l.drop j).map (wd s)) := by
  induction d with
  | zero =>
    intro j acc hd hj ha
    obtain rfl : j = l.length := by omega
    refine Ev.step (fun _ => chaseref1_WordsOf.l0.eq_2 ..) (ev_neg (by omega) (ev_val ?_))
    simp
  | succ d ih =>
    intro j acc hd hj ha
    by_cases hlt : j < l.length
    · have hw : wrap64 ((j : Int) + 1) = ((j + 1 : Nat) : Int) := by rw [wr64 (by omega) (by omega)]; omega
      have hp := hl l[j] (List.getElem_mem hlt)
      have hr := rd_sp l j hlt
      have hlow : chaseref1_lower.f (s.extract l[j].1 l[j].2) = some (wd s l[j]) := by
        have := ex_size s l[j].1 l[j].2
        unfold chaseref1_lower.f; rw [if_pos (by omega)]; rfl
      refine Ev.step (fun _ => chaseref1_WordsOf.l0.eq_2 ..) ?_
      rw [hr]
      refine ev_pos (by omega) (ev_pos (by omega) (ev_pos (by simp; omega) (ev_pos (by simp [sp]) (ev_pos (by simp [sp]; omega) (ev_pos (by simp [sp]; omega) (ev_bindc (a := wd s l[j]) (by simpa [sp] using hlow) (ev_pos (by omega) ?_)))))))
      rw [hw]
      have := ih (j + 1) (acc ++ [wd s l[j]]) (by omega) (by omega) (by simp [ha])
      have e : (l.drop j).map (wd s) = wd s l[j] :: (l.drop (j + 1)).map (wd s) := by rw [List.drop_eq_getElem_cons hlt, List.map_cons]
      exact ev_eq this (by rw [e, List.append_assoc]; rfl)
    · obtain rfl : j = l.length := by omega
      exact ih l.length acc (by omega) (by omega) ha
theorem WordsOf_ev (s : ByteArray) (hs : s.size < 8796093022208) : Ev (fun k => chaseref1_WordsOf.f k s) (wordsOf s) := by
  unfold chaseref1_WordsOf.f
  refine Ev.bind (wordSpans_ev s hs) ?_
  have := ref_words_ev s hs (spans s 0) (fun p hp => (spans_ok s _ 0 (Nat.le_refl _) p hp).2) (by have := spans_count s _ 0 (Nat.le_refl _); simpa using this) (spans s 0).length 0 [] (by omega) (by omega) (by simp)
  simpa [wordsOf] using this
end Go.Proofs.YtbamfhcifpfocaaDoor.Pw
