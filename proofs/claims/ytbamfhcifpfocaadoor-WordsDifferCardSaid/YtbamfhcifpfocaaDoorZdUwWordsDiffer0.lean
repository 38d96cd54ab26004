/- A part of the proof of wordsDiffer. No conditions. Laid by program over the kit's print and words. -/
import Derived.Test.YtbamfhcifpfocaaDoorZdUwDiffer
import Derived.Test.YtbamfhcifpfocaaDoorZdUwNears
import Derived.Test.YtbamfhcifpfocaaDoorZdUwStream
import Derived.Test.YtbamfhcifpfocaaDoorZdPwx12
import Derived.Test.YtbamfhcifpfocaaDoorZdPwx7
import Derived.Test.YtbamfhcifpfocaaDoorZdPwx10
import Derived.Test.YtbamfhcifpfocaaDoorZdPwx3
import Derived.Test.YtbamfhcifpfocaaDoorZdPwx6
import Derived.Test.YtbamfhcifpfocaaDoorZdPwx1
namespace Go.Proofs.YtbamfhcifpfocaaDoor.Pw
open Go.RowKit Go.Proofs.YtbamfhcifpfocaaDoor.GBase Go.Proofs.YtbamfhcifpfocaaDoorW.PrintWords Go.Proofs.YtbamfhcifpfocaaDoorW.PrintLast Go.Proofs.YtbamfhcifpfocaaDoorW.PrintMore
set_option linter.unusedVariables false
set_option linter.unusedSimpArgs false
theorem When_2000 (l : List ByteArray) (h : l.length ≤ 2000) : base_When.f (decide ((l.length : Int) > 2000)) 2 = some 0 := by
  rw [decide_eq_false (by omega)]
  rfl
theorem ntokens_ev (s : ByteArray) (r : List ByteArray) (hs : s.size ≤ 400) (hr : Ev (fun k => near_Tokens.f k s) r) (hl : r.length ≤ 2000) : Ev (fun k => near_tokens.f k s) (r, 0) := by
  have h1 := large_is s
  rw [if_neg (by omega)] at h1
  exact Ev.congr (fun _ => near_tokens.f.eq_1 ..) (ev_bindc h1 (ev_pos rfl (Ev.bind hr (ev_bindc (When_2000 r hl) (Ev.now _)))))
theorem both_ev (s t : ByteArray) (x y : List ByteArray) (hs : Ev (fun k => near_tokens.f k s) (x, 0)) (ht : Ev (fun k => near_tokens.f k t) (y, 0)) : Ev (fun k => near_both.f k s t) (x, y, 0) :=
  Ev.congr (fun _ => near_both.f.eq_1 ..) (Ev.bind hs (ev_pos rfl (Ev.bind ht (Ev.now _))))
theorem eqL_self : ∀ l : List ByteArray, api_WordChange.eqL l l = true
  | [] => rfl
  | x :: l => by simp only [api_WordChange.eqL, eqL_self l, decide_true, Bool.and_self]
theorem eqC_self : ∀ l : List S129, api_WordChange.eqC l l = true
  | [] => rfl
  | x :: l => by simp only [api_WordChange.eqC, api_WordChange.eqW, eqL_self, eqC_self l, decide_true, Bool.and_self]
theorem same_is (l : List S129) : chaseref1_SameChanges.f l l = some true := by
  unfold chaseref1_SameChanges.f api_WordChange.f
  rw [if_pos rfl, eqC_self]
  rfl
theorem fault_ev (s t : ByteArray) (x y : List ByteArray) (hs : s.size ≤ 400) (ht : t.size ≤ 400) (hx : Ev (fun k => chaseref1_TokensOf.f k s) x) (hy : Ev (fun k => chaseref1_TokensOf.f k t) y) (hxl : x.length ≤ 2000) (hyl : y.length ≤ 2000) : Ev (fun k => chaseref1_TokensFault.f k [s, t]) 0 := by
  refine Ev.congr (fun _ => chaseref1_TokensFault.f.eq_1 ..) ?_
  have e0 : rdOf ByteArray.empty [s, t] 0 = s := rfl
  have e1 : rdOf ByteArray.empty [s, t] 1 = t := rfl
  have w0 : wrap64 (0 + 1) = 1 := by rw [wr64 (by omega) (by omega)]; rfl
  have w1 : wrap64 (1 + 1) = 2 := by rw [wr64 (by omega) (by omega)]; rfl
  have hlen : (([s, t] : List ByteArray).length : Int) = 2 := rfl
  simp only [hlen]
  refine Ev.step (fun _ => chaseref1_TokensFault.l0.eq_2 ..) (ev_pos (by omega) (ev_pos (by omega) (ev_pos (by omega) ?_)))
  simp only [e0, w0]
  refine ev_neg (by omega) (Ev.bind hx (ev_neg (by omega) ?_))
  refine Ev.step (fun _ => chaseref1_TokensFault.l0.eq_2 ..) (ev_pos (by omega) (ev_pos (by omega) (ev_pos (by omega) ?_)))
  simp only [e1, w1]
  refine ev_neg (by omega) (Ev.bind hy (ev_neg (by omega) ?_))
  exact Ev.step (fun _ => chaseref1_TokensFault.l0.eq_2 ..) (ev_neg (by omega) (Ev.now _))
theorem differ_j (s t : ByteArray) (hs : s.size ≤ 400) (ht : t.size ≤ 400) : Ev (fun k => chaselaw1_WordsDiffer.j0 k s t) true := by
  obtain ⟨x, x1, x2, x3⟩ := tokens_ev2 s (by omega)
  obtain ⟨y, y1, y2, y3⟩ := tokens_ev2 t (by omega)
  have xl := len_le_sz1 x
  have yl := len_le_sz1 y
  have hb := both_ev s t x y (ntokens_ev s x hs x1 (by omega)) (ntokens_ev t y ht y1 (by omega))
  have hk := kept_ev x y (by omega) (by omega)
  have hk2 := keptOf_ev x y (by omega) (by omega)
  obtain ⟨L, c1, c2, c3, c4, c5⟩ := changes_ev x y (by omega) (by omega)
  have hD := c2 s t x2 y2
  obtain ⟨m, m1, m2⟩ := marked_loop x (by omega) L (by omega) _ 0 0 [] (Nat.le_refl _) (Nat.zero_le _) (Nat.zero_le _) c3 (by rw [List.drop_zero, List.drop_zero]; simp only [sz1]; omega)
  have hDist : Ev (fun k => near_Distance.f k s t) (wrap64 ((wrap64 ((x.length : Int) + (y.length : Int))) - (wrap64 (2 * ((sel x y 0 0).length : Int)))), 0) :=
    Ev.congr (fun _ => near_Distance.f.eq_1 ..) (Ev.bind hb (ev_pos rfl (Ev.bind hk (Ev.now _))))
  have hDist2 : Ev (fun k => chaseref1_DistanceOf.f k s t) (wrap64 ((wrap64 ((x.length : Int) + (y.length : Int))) - (wrap64 (2 * ((sel x y 0 0).length : Int))))) :=
    Ev.congr (fun _ => chaseref1_DistanceOf.f.eq_1 ..) (Ev.bind x2 (Ev.bind y2 (Ev.bind hk2 (Ev.now _))))
  have hDif : Ev (fun k => near_Differ.f k s t) (L, 0) :=
    Ev.congr (fun _ => near_Differ.f.eq_1 ..) (Ev.bind hb (ev_pos rfl (Ev.bind c1 (Ev.now _))))
  have hM : Ev (fun k => near_Marked.f k s t) (m, 0) :=
    Ev.congr (fun _ => near_Marked.f.eq_1 ..) (Ev.bind hb (ev_pos rfl (Ev.bind c1 m1)))
  have hM2 : Ev (fun k => chaseref1_MarkedOf.f k s t) m :=
    Ev.congr (fun _ => chaseref1_MarkedOf.f.eq_1 ..) (Ev.bind x2 (Ev.bind hD m2))
  have last : ∀ b : Bool, b = true → Ev (fun k => chaselaw1_WordsDiffer.j2 k b) true := fun b hb => by
    subst hb
    exact Ev.step (fun _ => chaselaw1_WordsDiffer.j2.eq_2 ..) (Ev.now _)
  exact Ev.step (fun _ => chaselaw1_WordsDiffer.j0.eq_2 ..) (Ev.bind hDist (Ev.bind hDif (Ev.bind hM (Ev.bind (fault_ev s t x y hs ht x2 y2 (by omega) (by omega)) (ev_pos rfl (Ev.bind nears_ev (ev_pos rfl (ev_pos rfl (ev_pos rfl (ev_pos rfl (Ev.bind hDist2 (ev_pos rfl (Ev.bind hD (ev_bindc (same_is L) (ev_pos rfl (Ev.bind hM2 (last _ (beq_self_eq_true _))))))))))))))))))
theorem differ_ev (l : List Int) (hl : Nums l) : Ev (fun k => chaselaw1_WordsDiffer.f k l) true := by
  obtain ⟨t, a1, ht, hts, b1, b2⟩ := Prose_ev l 0 14 hl (by omega) (by omega) (by omega) (by omega)
  obtain ⟨u, a2, hu, hus, b3, b4⟩ := Changed_ev l a1 t ⟨#[97, 98, 99, 32, 120, 10]⟩ hl (by omega) (by omega) (by omega) (by decide) (by decide)
  have z1 : (⟨#[97, 98, 99, 32, 120, 10]⟩ : ByteArray).size = 6 := rfl
  have z2 : (⟨#[100, 32]⟩ : ByteArray).size = 2 := rfl
  obtain ⟨v, a3, hv, hvs, b5, b6⟩ := Changed_ev l a2 u ⟨#[100, 32]⟩ hl (by omega) (by omega) (by omega) (by decide) (by decide)
  obtain ⟨f, hf⟩ := Flip_is l a3 3 hl (by omega) (by omega) (by omega)
  refine Ev.congr (fun _ => chaselaw1_WordsDiffer.f.eq_1 ..) (Ev.bind ht (Ev.bind hu (Ev.bind hv (ev_bindc hf ?_))))
  cases f with
  | true =>
    obtain ⟨q, a4, hq, hqs, _, _⟩ := Prose_ev l (a3 + 1) 10 hl (by omega) (by omega) (by omega) (by omega)
    exact ev_pos rfl (Ev.bind hq (differ_j t q (by omega) (by omega)))
  | false => exact ev_neg (by simp) (differ_j t v (by omega) (by omega))
end Go.Proofs.YtbamfhcifpfocaaDoor.Pw
