/- Part of the proof that the law textsPaged is true for every input. No conditions. Laid by a program of this session over the kit's print and words; declarations that nothing names are left out. -/
import Derived.Test.YtffaggbephnmkaaGreatDoorZgUgPapertext
import Derived.Test.YtffaggbephnmkaaGreatDoorZgUgPaged
import Derived.Test.YtffaggbephnmkaaGreatDoorZgPgx5
import Derived.Test.YtffaggbephnmkaaGreatDoorZgPgx8
namespace Go.Proofs.YtffaggbephnmkaaGreatDoor.Pg
open Go.RowKit Go.Proofs.YtffaggbephnmkaaGreatDoor.GBase Go.Proofs.YtffaggbephnmkaaGreatDoorW.PrintWords Go.Proofs.YtffaggbephnmkaaGreatDoorW.PrintLast
set_option linter.unusedVariables false
set_option linter.unusedSimpArgs false
theorem itoa7 : strconv_Itoa.f 7 = some (⟨#[55]⟩ : ByteArray) := by
  unfold strconv_Itoa.f
  rw [if_pos ⟨by omega, by omega⟩]
  congr 2
  show (Lib.decDigits 7).toArray = _
  rw [Lib.decDigits, dif_pos (by omega)]
  rfl
theorem written7 : produce_written.f (⟨#[65, 66]⟩ : ByteArray) 4 7 = some (⟨#[65, 66, 48, 48, 48, 55]⟩ : ByteArray) := by
  unfold produce_written.f
  rw [itoa7, Option.bind_some]
  decide +kernel
theorem head7 : Ev (fun k => produce_headError.f k (⟨#[65, 66]⟩ : ByteArray) 4) 0 := Ev.of (fun k => produce_headError.mono _ _ k) (k := 12) (by decide +kernel)
theorem power7 : Ev (fun k => produce_power.f k 4) 10000 := Ev.of (fun k => produce_power.mono _ k) (k := 12) (by decide +kernel)
theorem produces_ev : Ev (fun k => chaselaw1_produces.f k) true := by
  have hN : Ev (fun k => produce_Number.f k (⟨#[65, 66]⟩ : ByteArray) 4 7) ((⟨#[65, 66, 48, 48, 48, 55]⟩ : ByteArray), 0) := by
    refine Ev.congr (fun _ => produce_Number.f.eq_1 ..) (Ev.bind head7 (ev_pos rfl (Ev.bind power7 (ev_bindc (In_is _ _ _) ?_))))
    refine ev_pos (by decide +kernel) (ev_bindc written7 (ev_val rfl))
  exact Ev.congr (fun _ => chaselaw1_produces.f.eq_1 ..) (Ev.bind hN (ev_pos rfl (ev_val (by decide +kernel))))
theorem eqS_loop (l : List ByteArray) (hn : l.length ≤ 1000000000) (d : Nat) : ∀ j : Nat, l.length - j ≤ d → j ≤ l.length → Ev (fun k => slices_Equal_string_string.l0 k l l (l.length : Int) (j : Int)) true := by
  induction d with
  | zero =>
    intro j hd hj
    obtain rfl : j = l.length := by omega
    exact Ev.step (fun _ => slices_Equal_string_string.l0.eq_2 ..) (ev_neg (by omega) (ev_val rfl))
  | succ d ih =>
    intro j hd hj
    by_cases hlt : j < l.length
    · have hw : wrap64 ((j : Int) + 1) = ((j + 1 : Nat) : Int) := by rw [wr64 (by omega) (by omega)]; omega
      refine Ev.step (fun _ => slices_Equal_string_string.l0.eq_2 ..) (ev_pos (by omega) (ev_pos (by omega) (ev_pos (by omega) (ev_pos (by omega) (ev_pos rfl ?_)))))
      rw [hw]
      exact ih (j + 1) (by omega) (by omega)
    · obtain rfl : j = l.length := by omega
      exact ih _ (by omega) (by omega)
theorem eqS_ev (l : List ByteArray) (hn : l.length ≤ 1000000000) : Ev (fun k => slices_Equal_string_string.f k l l) true :=
  ev_pos rfl (eqS_loop l hn _ 0 (Nat.le_refl _) (by omega))
theorem eqL_refl : ∀ l : List ByteArray, slices_EqualFunc_string_string_string_string.eqL l l = true
  | [] => rfl
  | x :: r => by simp [slices_EqualFunc_string_string_string_string.eqL, eqL_refl r]
theorem eqC_refl : ∀ l : List (List ByteArray), slices_EqualFunc_string_string_string_string.eqC l l = true
  | [] => rfl
  | x :: r => by simp [slices_EqualFunc_string_string_string_string.eqC, eqL_refl x, eqC_refl r]
theorem same_is (l : List (List ByteArray)) : chaseref1_SameTable.f l l = some true := by
  unfold chaseref1_SameTable.f slices_EqualFunc_string_string_string_string.f
  rw [if_pos rfl, eqC_refl, Option.bind_some]
theorem textError_ev (t : ByteArray) (ht : t.size ≤ 30000) : Ev (fun k => produce_textError.f k t) (bodyFault t) := by
  refine Ev.congr (fun _ => produce_textError.f.eq_1 ..) (ev_bindc (When_is _ _) (Ev.bind (Text_ev t (by omega)) (ev_bindc (When_is _ _) (Ev.bind (First_ev _ (by simp)) (ev_val ?_)))))
  congr 1
  unfold bodyFault
  by_cases h : (t.size : Int) > 20000
  · rw [if_pos h, decide_eq_true h, if_pos rfl]
    exact if_neg (by decide)
  · rw [if_neg h, decide_eq_false h, if_neg (by decide)]
    cases hk : textOk t with
    | true => exact (if_pos rfl).trans ((if_pos rfl).trans rfl)
    | false => exact (if_pos rfl).trans ((if_neg (by decide)).trans rfl)
theorem paged_ev (l : List Int) (hl : Nums l) : Ev (fun k => chaselaw1_TextsPaged.f k l) true := by
  obtain ⟨t, a1, e, ht⟩ := PaperText_ev l 0 hl (by omega) (by omega)
  have hte := textError_ev t ht
  refine Ev.congr (fun _ => chaselaw1_TextsPaged.f.eq_1 ..) (Ev.bind e ?_)
  by_cases h0 : bodyFault t = 0
  · have hs : t.size ≤ 20000 ∧ textOk t = true := by
      unfold bodyFault at h0
      by_cases h : (t.size : Int) > 20000
      · rw [if_pos h] at h0
        exact absurd h0 (by decide)
      · rw [if_neg h] at h0
        refine ⟨by omega, ?_⟩
        cases hk : textOk t with
        | true => rfl
        | false => rw [hk, if_neg (by decide)] at h0; exact absurd h0 (by decide)
    obtain ⟨hs, hk⟩ := hs
    rw [h0] at hte
    have hpl := pcs_len t hs
    have hW : Ev (fun k => produce_Wrap.f k t) (pcs t, 0) := Ev.congr (fun _ => produce_Wrap.f.eq_1 ..) (Ev.bind hte (ev_pos rfl (Ev.bind (pieces_ev hk hs) (ev_val rfl))))
    have hP : Ev (fun k => produce_Pages.f k t) (pagesOf (pcs t), 0) := by
      refine Ev.congr (fun _ => produce_Pages.f.eq_1 ..) (Ev.bind hte (ev_pos rfl (Ev.bind (pieces_ev hk hs) ?_)))
      by_cases hz : (pcs t).length = 0
      · exact ev_eq (ev_pos hz (ev_val rfl)) (by unfold pagesOf; rw [if_pos hz])
      · exact ev_eq (ev_neg hz (ev_pos (by omega) (ev_val rfl))) (by unfold pagesOf; rw [if_neg hz]; rfl)
    have hB : chaseref1_BodyFault.f t = some 0 := by rw [BodyFault_is, h0]
    exact Ev.bind hW (Ev.bind hP (ev_bindc hB (ev_pos rfl (Ev.bind produces_ev (ev_pos rfl (ev_pos rfl (ev_pos rfl (Ev.bind (WrapOf_ev hk hs) (Ev.bind (eqS_ev (pcs t) (by omega)) (ev_pos rfl (Ev.bind (PagesOf_ev hk hs) (ev_bindc (same_is _) (Ev.step (fun _ => chaselaw1_TextsPaged.j1.eq_2 ..) (ev_val rfl))))))))))))))
  · have hW : Ev (fun k => produce_Wrap.f k t) ([], bodyFault t) := Ev.congr (fun _ => produce_Wrap.f.eq_1 ..) (Ev.bind hte (ev_neg h0 (ev_val rfl)))
    have hP : Ev (fun k => produce_Pages.f k t) ([], bodyFault t) := Ev.congr (fun _ => produce_Pages.f.eq_1 ..) (Ev.bind hte (ev_neg h0 (ev_val rfl)))
    refine Ev.bind hW (Ev.bind hP (ev_bindc (BodyFault_is t) (ev_neg h0 (Ev.bind produces_ev (ev_pos rfl (ev_pos rfl (Ev.step (fun _ => chaselaw1_TextsPaged.j0.eq_2 ..) (ev_val ?_))))))))
    simp
end Go.Proofs.YtffaggbephnmkaaGreatDoor.Pg
