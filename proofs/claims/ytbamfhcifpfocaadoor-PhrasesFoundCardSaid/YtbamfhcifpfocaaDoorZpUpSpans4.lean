/- Part of the proof that the law phrasesFound is true for every input. No conditions. Laid by a program of this session over the kit's print and words; declarations that nothing names are left out. -/
import Derived.Test.YtbamfhcifpfocaaDoorZpUpSpans3
namespace Go.Proofs.YtbamfhcifpfocaaDoor.Pp
open Go.RowKit Go.Proofs.YtbamfhcifpfocaaDoor.GBase Go.Proofs.YtbamfhcifpfocaaDoorW.PrintWords Go.Proofs.YtbamfhcifpfocaaDoorW.PrintLast
set_option linter.unusedVariables false
set_option linter.unusedSimpArgs false
def fewL (l : List S46) : List S46 × Int := if (l.length : Int) > 1000 then ([], 2) else (l, 0)
theorem few_is (l : List S46) : privilege_few.f l = some (fewL l) := by
  unfold privilege_few.f fewL
  split <;> rfl
theorem bounded_is (l : List S46) : chaseref1_bounded.f l = some (fewL l) := by
  unfold chaseref1_bounded.f fewL
  split <;> rfl
theorem eqN_loop (l : List S46) (hn : l.length ≤ 1048577) (d : Nat) : ∀ j : Nat, l.length - j ≤ d → j ≤ l.length → Ev (fun k => api_Span_27.l0 k l l (l.length : Int) (j : Int)) true := by
  induction d with
  | zero => intro j hd hj; exact Ev.step (fun _ => api_Span_27.l0.eq_2 ..) (ev_neg (by omega) (ev_val rfl))
  | succ d ih =>
    intro j hd hj
    by_cases hlt : j < l.length
    · have hw : wrap64 ((j : Int) + 1) = ((j + 1 : Nat) : Int) := by rw [wr64 (by omega) (by omega)]; omega
      refine Ev.step (fun _ => api_Span_27.l0.eq_2 ..) (ev_pos (by omega) (ev_pos (by omega) (ev_pos (by omega) (ev_pos (by omega) (ev_neg (by simp) ?_)))))
      rw [hw]
      exact ih (j + 1) (by omega) (by omega)
    · exact Ev.step (fun _ => api_Span_27.l0.eq_2 ..) (ev_neg (by omega) (ev_val rfl))
theorem eqN_ev (l : List S46) (hn : l.length ≤ 1048577) : Ev (fun k => api_Span_27.f k l l) true := by
  unfold api_Span_27.f
  exact ev_pos rfl (eqN_loop l hn _ 0 (Nat.le_refl _) (by omega))
end Go.Proofs.YtbamfhcifpfocaaDoor.Pp
