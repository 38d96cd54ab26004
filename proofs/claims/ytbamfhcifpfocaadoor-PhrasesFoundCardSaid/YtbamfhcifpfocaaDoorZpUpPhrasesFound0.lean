/- Part of the proof that the law phrasesFound is true for every input. No conditions. Laid by a program of this session over the kit's print and words; declarations that nothing names are left out. -/
import Derived.Test.YtbamfhcifpfocaaDoorZpUpFinds
import Derived.Test.YtbamfhcifpfocaaDoorZpUpMemo
import Derived.Test.YtbamfhcifpfocaaDoorZpUpPrivileges
import Derived.Test.YtbamfhcifpfocaaDoorZpPpx11
namespace Go.Proofs.YtbamfhcifpfocaaDoor.Pp
open Go.RowKit Go.Proofs.YtbamfhcifpfocaaDoor.GBase Go.Proofs.YtbamfhcifpfocaaDoorW.PrintWords Go.Proofs.YtbamfhcifpfocaaDoorW.PrintLast
set_option linter.unusedVariables false
set_option linter.unusedSimpArgs false
def badP (x : ByteArray) : Bool := decide ((x.size : Int) < 1) || decide ((x.size : Int) > 200)
theorem any111 (ps : List ByteArray) : slices_ContainsFunc_string_string.f ps 111 = some (ps.any badP) := by
  unfold slices_ContainsFunc_string_string.f
  rw [if_pos rfl]
  congr 2
  funext x
  unfold privilege_Find_1.f badP
  rw [In_is]
  simp only [Option.bind_some, Option.getD_some]
  rw [Bool.eq_iff_iff]
  simp
theorem any113 (ps : List ByteArray) : slices_ContainsFunc_string_string.f ps 113 = some (ps.any badP) := by
  unfold slices_ContainsFunc_string_string.f
  rw [if_neg (by decide), if_pos rfl]
  congr 2
  funext x
  unfold chaseref1_PhrasesFault_1.f badP
  by_cases h : (x.size : Int) < 1
  · rw [if_pos h]; simp [h]
  · rw [if_neg h]; simp [h]
def wantP (t : ByteArray) (ps : List ByteArray) : Int := if bodyFault t = 0 then (if ps.any badP = true then 3 else 0) else bodyFault t
theorem want_is (t : ByteArray) (ps : List ByteArray) (hn : ps.length ≤ 10) : chaseref1_PhrasesFault.f t ps = some (wantP t ps) := by
  unfold chaseref1_PhrasesFault.f wantP
  rw [BodyFault_is, Option.bind_some]
  by_cases h : bodyFault t = 0
  · rw [if_pos h, if_pos h, if_neg (by omega), any113, Option.bind_some]
    split <;> rfl
  · rw [if_neg h, if_neg h]
theorem find_ev (t : ByteArray) (ps : List ByteArray) (ht : t.size ≤ 30000) (hn : ps.length ≤ 10) : ∃ r : List S46 × Int, Ev (fun k => privilege_Find.f k t ps) r ∧ (¬ wantP t ps = 0 → r.2 = wantP t ps) ∧ (wantP t ps = 0 → r.1.length ≤ 1000 ∧ Ev (fun k => chaseref1_FindOf.f k t ps) r) := by
  have h200 : decide ((ps.length : Int) > 200) = false := by simp; omega
  have hf : firstOf [(if (t.size : Int) > 20000 then 2 else 0), (if (!textOk t) = true then 3 else 0), (if decide ((ps.length : Int) > 200) = true then 2 else 0)] = bodyFault t := by
    unfold bodyFault
    rw [h200]
    by_cases h1 : (t.size : Int) > 20000
    · simp [firstOf, h1]
    · cases h2 : textOk t <;> simp [firstOf, h1]
  unfold privilege_Find.f
  by_cases hb : bodyFault t = 0
  · cases hany : ps.any badP with
    | true =>
      refine ⟨([], 3), ev_bindc (privilege_large_is t) (Ev.bind (Text_ev t (by omega)) (ev_bindc (When_is _ _) (ev_bindc (When_is _ _) (Ev.bind (First_ev _ (by simp)) ?_)))), fun _ => by simp [wantP, hb, hany], fun h => ?_⟩
      · rw [hf]
        exact ev_pos hb (ev_bindc (any111 ps) (ev_pos hany (ev_val rfl)))
      · simp [wantP, hb, hany] at h
    | false =>
      have hv : ∀ p ∈ ps, 1 ≤ p.size ∧ p.size ≤ 200 := fun p hp => by
        have := List.any_eq_false.1 hany p hp
        simp only [badP, Bool.or_eq_true, decide_eq_true_eq, not_or] at this
        omega
      obtain ⟨r, r1, r2, r3⟩ := found_ev t ht ps hn hv
      refine ⟨r, ev_bindc (privilege_large_is t) (Ev.bind (Text_ev t (by omega)) (ev_bindc (When_is _ _) (ev_bindc (When_is _ _) (Ev.bind (First_ev _ (by simp)) ?_)))), fun h => ?_, fun _ => ⟨r1, r3⟩⟩
      · rw [hf]
        exact ev_pos hb (ev_bindc (any111 ps) (ev_neg (by rw [hany]; simp) (ev_bindc (a := lowA t) (by unfold base_Lower.f; rw [if_pos (by omega)]) r2)))
      · simp [wantP, hb, hany] at h
  · refine ⟨([], bodyFault t), ev_bindc (privilege_large_is t) (Ev.bind (Text_ev t (by omega)) (ev_bindc (When_is _ _) (ev_bindc (When_is _ _) (Ev.bind (First_ev _ (by simp)) ?_)))), fun _ => by simp [wantP, hb], fun h => ?_⟩
    · rw [hf]
      exact ev_neg hb (ev_val rfl)
    · simp [wantP, hb] at h
theorem phrases_body (t : ByteArray) (ps : List ByteArray) (ht : t.size ≤ 30000) (hn : ps.length ≤ 10) : Ev (fun k => chaselaw1_PhrasesFound.j1 k t ps) true := by
  obtain ⟨r, hr, h1, h2⟩ := find_ev t ps ht hn
  refine Ev.step (fun _ => chaselaw1_PhrasesFound.j1.eq_2 ..) (Ev.bind hr (ev_bindc (want_is t ps hn) ?_))
  by_cases hw : wantP t ps = 0
  · obtain ⟨hl, ho⟩ := h2 hw
    refine ev_pos hw (Ev.bind ho (Ev.bind privileges_ev (ev_pos rfl (ev_pos rfl (Ev.bind (eqN_ev r.1 (by omega)) ?_)))))
    exact Ev.step (fun _ => chaselaw1_PhrasesFound.j3.eq_2 ..) (ev_val rfl)
  · refine ev_neg hw (Ev.bind privileges_ev (ev_pos rfl (Ev.step (fun _ => chaselaw1_PhrasesFound.j2.eq_2 ..) (ev_val ?_))))
    rw [h1 hw]
    simp
theorem phrases_loop (l : List Int) (hl : Nums l) (t : ByteArray) (ht : t.size ≤ 30000) (n : Int) (d : Nat) : ∀ (i at_ : Int) (ps : List ByteArray), 0 ≤ i → i ≤ 1000 - d → n - i ≤ d → 0 ≤ at_ → at_ < 1099511626000 - 2 * d → ps.length + d ≤ 9 → Ev (fun k => chaselaw1_PhrasesFound.l0 k t ps n i l at_) true := by
  have fin : ∀ (i at_ : Int) (ps : List ByteArray), ¬ i < n → 0 ≤ at_ → at_ < 1099511626000 → ps.length ≤ 9 → Ev (fun k => chaselaw1_PhrasesFound.l0 k t ps n i l at_) true := by
    intro i at_ ps hn ha hb hp
    obtain ⟨b, hb2⟩ := Flip_is l at_ 12 hl ha (by omega) (by omega)
    refine Ev.step (fun _ => chaselaw1_PhrasesFound.l0.eq_2 ..) (ev_neg hn (ev_bindc hb2 ?_))
    by_cases hbt : b = true
    · exact ev_pos hbt (ev_pos (by omega) (phrases_body t _ ht (by simp; omega)))
    · exact ev_neg hbt (phrases_body t ps ht (by omega))
  induction d with
  | zero =>
    intro i at_ ps h0 hi hn ha hb hp
    exact fin i at_ ps (by omega) ha (by omega) (by omega)
  | succ d ih =>
    intro i at_ ps h0 hi hn ha hb hp
    by_cases hlt : i < n
    · obtain ⟨x, _, e1⟩ := one_is l at_ [(⟨#[109, 101, 109, 111]⟩ : ByteArray), (⟨#[83, 69, 67, 82, 69, 84]⟩ : ByteArray), (⟨#[101]⟩ : ByteArray), (⟨#[115, 101, 101, 32, 116, 104, 101]⟩ : ByteArray), (⟨#[195, 169]⟩ : ByteArray), (⟨#[111, 32, 109]⟩ : ByteArray), (⟨#[115, 101, 99, 114, 101, 116, 32, 112, 108, 97, 110]⟩ : ByteArray)] hl ha (by omega) (by simp) (by simp)
      have e2 : chasemake_Stream_One.f l at_ [(⟨#[109, 101, 109, 111]⟩ : ByteArray), (⟨#[83, 69, 67, 82, 69, 84]⟩ : ByteArray), (⟨#[101]⟩ : ByteArray), (⟨#[115, 101, 101, 32, 116, 104, 101]⟩ : ByteArray), (⟨#[195, 169]⟩ : ByteArray), (⟨#[111, 32, 109]⟩ : ByteArray), (⟨#[115, 101, 99, 114, 101, 116, 32, 112, 108, 97, 110]⟩ : ByteArray)] = some (x, at_ + 1) := by
        unfold chasemake_Stream_One.f
        rw [e1]
        rfl
      have hw : wrap64 (i + 1) = i + 1 := wr64 (by omega) (by omega)
      refine Ev.step (fun _ => chaselaw1_PhrasesFound.l0.eq_2 ..) (ev_pos hlt (ev_bindc e2 (ev_pos (by omega) ?_)))
      rw [hw]
      exact ih (i + 1) (at_ + 1) _ (by omega) (by omega) (by omega) (by omega) (by omega) (by simp; omega)
    · exact fin i at_ ps hlt ha (by omega) (by omega)
theorem phrases_ev (l : List Int) (hl : Nums l) : Ev (fun k => chaselaw1_PhrasesFound.f k l) true := by
  obtain ⟨t, a1, ht, hs, h0, h1⟩ := Memo_ev l 0 hl (by omega) (by omega)
  obtain ⟨n, hn, n0, n1, _⟩ := Next_is l a1 4 hl (by omega) (by omega) (by omega)
  have n2 := n1 (by omega)
  unfold chaselaw1_PhrasesFound.f
  exact Ev.bind ht (ev_bindc hn (phrases_loop l hl t hs n 4 0 (a1 + 1) [] (by omega) (by omega) (by omega) (by omega) (by omega) (by simp)))
end Go.Proofs.YtbamfhcifpfocaaDoor.Pp
