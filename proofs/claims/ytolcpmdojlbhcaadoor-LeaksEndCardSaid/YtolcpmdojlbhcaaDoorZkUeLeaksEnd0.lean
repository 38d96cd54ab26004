/- Part of the proof that the law leaksEnd is true for every input. No conditions. Laid by a program of this session over the kit's print and words; declarations that nothing names are left out. -/
import Derived.Test.YtolcpmdojlbhcaaDoorZkUAll
import Derived.Test.YtolcpmdojlbhcaaDoorZkPex12
namespace Go.Proofs.YtolcpmdojlbhcaaDoor.Pe
open Go.RowKit Go.Proofs.YtolcpmdojlbhcaaDoor.GBase Go.Proofs.YtolcpmdojlbhcaaDoorW.PrintWords Go.Proofs.YtolcpmdojlbhcaaDoorW.PrintLast
set_option linter.unusedVariables false
set_option linter.unusedSimpArgs false
theorem mn_nat (n : Nat) : mn (n : Int) 50 = ((min n 50 : Nat) : Int) := by
  unfold mn
  split <;> omega
theorem leaksEnd_ev (l : List Int) (hl : Nums l) : Ev (fun k => chasekeep1_LeaksEnd.f k l) true := by
  obtain ⟨t, a1, ht, hs, h0, h1⟩ := Memo_ev l 0 hl (by omega) (by omega)
  refine Ev.congr (fun _ => chasekeep1_LeaksEnd.f.eq_1 ..) (Ev.bind ht (ev_bindc (BodyFault_is t) ?_))
  by_cases hb : bodyFault t = 0
  · have hsz : t.size ≤ 1000 ∧ textOk t = true := by
      unfold bodyFault at hb
      by_cases h : (t.size : Int) > 20000
      · rw [if_pos h] at hb; exact absurd hb (by decide)
      · rw [if_neg h] at hb
        refine ⟨by omega, ?_⟩
        cases hk : textOk t with
        | true => rfl
        | false => rw [hk] at hb; exact absurd hb (by decide)
    obtain ⟨m, a2, m1, m2, m3, m4, m5⟩ := SpanList_good l hl a1 (min t.size 50) (by omega) (by omega)
    clear m5
    obtain ⟨a, K, u, c1, c2, c3, c4, c5, c6⟩ := core_ev t hsz.1 hsz.2 m m3 m2 (fun p hp => by have := m4 p hp; omega)
    refine ev_pos hb ?_
    simp only [mn_nat]
    refine Ev.bind m1 (Ev.bind c1 (Ev.bind c2 (Ev.bind c3 (Ev.bind c4 (Ev.bind c5 (Ev.bind privileges_ev (ev_pos rfl (ev_pos rfl (ev_pos rfl (ev_pos rfl (ev_pos rfl (ev_pos rfl (ev_pos rfl ?_)))))))))))))
    refine Ev.bind (eqN_ev (u.map spn) (by rw [List.length_map]; omega)) (Ev.step (fun _ => chasekeep1_LeaksEnd.j0.eq_2 ..) (ev_val rfl))
  · exact ev_neg hb (Ev.bind privileges_ev (ev_val rfl))
end Go.Proofs.YtolcpmdojlbhcaaDoor.Pe
