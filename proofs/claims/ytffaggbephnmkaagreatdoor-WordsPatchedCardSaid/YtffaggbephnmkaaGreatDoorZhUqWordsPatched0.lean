/- A part of the proof of wordsPatched. No conditions. Laid by program over the kit's print and words. -/
import Derived.Test.YtffaggbephnmkaaGreatDoorZhUAll
import Derived.Test.YtffaggbephnmkaaGreatDoorZhPqx12
namespace Go.Proofs.YtffaggbephnmkaaGreatDoor.Pq
open Go.RowKit Go.Proofs.YtffaggbephnmkaaGreatDoor.GBase Go.Proofs.YtffaggbephnmkaaGreatDoorW.PrintWords Go.Proofs.YtffaggbephnmkaaGreatDoorW.PrintLast Go.Proofs.YtffaggbephnmkaaGreatDoorW.PrintMore
set_option linter.unusedVariables false
set_option linter.unusedSimpArgs false
theorem eqL_self : ∀ l : List ByteArray, Z12.eqL l l = true
  | [] => rfl
  | x :: l => by simp only [Z12.eqL, eqL_self l, decide_true, Bool.and_self]
theorem eqC_self : ∀ l : List S70, Z12.eqC l l = true
  | [] => rfl
  | x :: l => by simp only [Z12.eqC, Z12.eqW, eqL_self, eqC_self l, decide_true, Bool.and_self]
theorem same_is (l : List S70) : Z36.f l l = some true := by
  unfold Z36.f Z12.f
  rw [if_pos rfl, eqC_self]
  rfl
theorem patched_ev (l : List Int) (hl : Nums l) : Ev (fun k => Z9.f k l) true := by
  obtain ⟨t, a1, ht, hts, b1, b2⟩ := Prose_ev l 0 14 hl (by omega) (by omega) (by omega) (by omega)
  obtain ⟨P, a2, hP, hG⟩ := Changes_ev l a1 t hl (by omega) (by omega) hts
  obtain ⟨p1, p2, p3, p4⟩ := all_ev t P (by omega) hG
  refine Ev.congr (fun _ => Z9.f.eq_1 ..) (Ev.bind ht (Ev.bind hP (Ev.bind p1 (Ev.bind p3 (Ev.bind p2 (Ev.bind p4 (Ev.bind nears_ev (ev_pos rfl (ev_pos rfl (ev_pos rfl (ev_pos rfl (ev_bindc (same_is _) ?_))))))))))))
  exact Ev.step (fun _ => Z9.j0.eq_2 ..) (Ev.now _)
end Go.Proofs.YtffaggbephnmkaaGreatDoor.Pq
