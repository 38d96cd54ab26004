/- Part of the proof that the law wordsRead is true for every input. No conditions. Laid by a program of this session over the kit's print and words; declarations that nothing names are left out. -/
import Derived.Test.YtbamfhcifpfocaaDoorZwUwTokens
import Derived.Test.YtbamfhcifpfocaaDoorZwUwNears
import Derived.Test.YtbamfhcifpfocaaDoorZwUwStream
import Derived.Test.YtbamfhcifpfocaaDoorZwPwx4
namespace Go.Proofs.YtbamfhcifpfocaaDoor.Pw
open Go.RowKit Go.Proofs.YtbamfhcifpfocaaDoor.GBase Go.Proofs.YtbamfhcifpfocaaDoorW.PrintWords Go.Proofs.YtbamfhcifpfocaaDoorW.PrintLast
set_option linter.unusedVariables false
set_option linter.unusedSimpArgs false
theorem read_loop (l : List ByteArray) (hl : ∀ x ∈ l, x.size ≤ 1048576) (hn : l.length ≤ 1000) (d : Nat) : ∀ j : Nat, l.length - j ≤ d → j ≤ l.length → Ev (fun k => chaselaw1_WordsRead.l0 k l (l.length : Int) (j : Int)) true := by
  induction d with
  | zero => intro j hd hj; exact Ev.step (fun _ => chaselaw1_WordsRead.l0.eq_2 ..) (ev_neg (by omega) (Ev.bind nears_ev (ev_val rfl)))
  | succ d ih =>
    intro j hd hj
    by_cases hlt : j < l.length
    · have w1 : wrap64 ((j : Int) + 1) = ((j + 1 : Nat) : Int) := by rw [wr64 (by omega) (by omega)]; omega
      have hs := hl l[j] (List.getElem_mem hlt)
      obtain ⟨r, hr, hr2, hc⟩ := tokens_ev l[j] hs
      obtain ⟨j1, j2⟩ := join_is r hc
      have hw := wordsOf_count l[j]
      have hrl := len_le_sz1 r
      refine Ev.step (fun _ => chaselaw1_WordsRead.l0.eq_2 ..) (ev_pos (by omega) (ev_pos (by omega) (ev_pos (by omega) ?_)))
      rw [rd_at l j hlt]
      refine Ev.bind hr (Ev.bind (near_Words_ev l[j] (by omega)) (Ev.bind (WordsOf_ev l[j] (by omega)) (Ev.bind (eqS_ev _ (by omega)) (ev_pos rfl (Ev.bind hr2 (Ev.bind (eqS_ev _ (by omega)) (ev_pos rfl (ev_bindc j1 (Ev.bind hr2 (ev_bindc j2 ?_))))))))))
      refine Ev.step (fun _ => chaselaw1_WordsRead.j1.eq_2 ..) (ev_neg (by simp) ?_)
      rw [w1]
      exact ih (j + 1) (by omega) (by omega)
    · exact Ev.step (fun _ => chaselaw1_WordsRead.l0.eq_2 ..) (ev_neg (by omega) (Ev.bind nears_ev (ev_val rfl)))
theorem read_ev (l : List Int) (hl : Nums l) (a : ByteArray) (ha : a.size ≤ 1048576) : Ev (fun k => chaselaw1_WordsRead.f k l a) true := by
  obtain ⟨t, a1, ht, hts, _, _⟩ := Prose_ev l 0 15 hl (by omega) (by omega) (by omega) (by omega)
  unfold chaselaw1_WordsRead.f
  refine Ev.bind ht (ev_bindc rfl ?_)
  have h := read_loop [t, a] (by
    intro x hx
    rcases List.mem_cons.1 hx with rfl | hx
    · omega
    · rcases List.mem_cons.1 hx with rfl | hx
      · exact ha
      · cases hx) (by simp) _ 0 (Nat.le_refl _) (by simp)
  exact h
end Go.Proofs.YtbamfhcifpfocaaDoor.Pw
