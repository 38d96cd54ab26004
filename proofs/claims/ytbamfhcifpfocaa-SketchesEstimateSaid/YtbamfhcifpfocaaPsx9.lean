-- written by this session's program wip/gprint over the kit's print; nothing of it is trusted
import Derived.Test.YtbamfhcifpfocaaPsx0
import Derived.Test.YtbamfhcifpfocaaPsx2
import Derived.Test.YtbamfhcifpfocaaPsx3
import Derived.Test.YtbamfhcifpfocaaPsx6
import Derived.Test.YtbamfhcifpfocaaPsx7
import Derived.Test.YtbamfhcifpfocaaPsx8
namespace Go.Proofs.Ytbamfhcifpfocaa.Ps
open Go.RowKit Go.Proofs.Ytbamfhcifpfocaa.GBase Go.Proofs.YtbamfhcifpfocaaW.PrintWords Go.Proofs.YtbamfhcifpfocaaW.PrintLast Go.Proofs.YtbamfhcifpfocaaW.PrintMore
attribute [local go_sem] max2_int min2_int max_two min_two max_three min_three max_four min_four   -- for this text's walks alone
set_option linter.unusedVariables false
set_option linter.unusedSimpArgs false

/-! ### chaseref1_EstimateOf: function 14 -/
mutual
def chaseref1_EstimateOf.j0 : Nat → List Int → List Int → Int → Bool → Option (Int × Int × Int)
  | 0, _, _, _, _ => none
  | k + 1, x0, x1, x2, x21 => if x21 = true then (some (0, 0, 1)) else ((some (([x0, x1] : List (List Int)) : List (List Int))).bind fun y328 => (chaseref1_EstimateOf.l0 k x0 x1 x2 y328 (y328.length : Int) 0))
def chaseref1_EstimateOf.l0 : Nat → List Int → List Int → Int → List (List Int) → Int → Int → Option (Int × Int × Int)
  | 0, _, _, _, _, _, _ => none
  | k + 1, x0, x1, x2, x25, x26, x27 => if x27 < x26 then (if 0 ≤ x27 then (if x27 < (x25.length : Int) then (if ((rd_L3 x25 x27).length : Int) > x2 then (some (0, 0, 2)) else (chaseref1_EstimateOf.l1 k x0 x1 x2 (rd_L3 x25 x27) x25 x26 x27 (rd_L3 x25 x27) ((rd_L3 x25 x27).length : Int) 0)) else (none)) else (none)) else ((slices_Concat_int_int.f k (([x0, x1] : List (List Int)))).bind fun t337 => ((slices_Sort_int_int.f t337).bind fun t340 => ((slices_Compact_int_int.f t340).bind fun t341 => (if 0 ≤ (mn x2 (t341.length : Int)) then (if (mn x2 (t341.length : Int)) ≤ (t341.length : Int) then ((some (t341.take ((mn x2 (t341.length : Int)) : Int).toNat : List Int)).bind fun y344 => (chaseref1_EstimateOf.l2 k x0 x1 y344 0 y344 (y344.length : Int) 0)) else (none)) else (none)))))
def chaseref1_EstimateOf.l1 : Nat → List Int → List Int → Int → List Int → List (List Int) → Int → Int → List Int → Int → Int → Option (Int × Int × Int)
  | 0, _, _, _, _, _, _, _, _, _, _ => none
  | k + 1, x0, x1, x2, x9, x25, x26, x27, x36, x37, x38 => if x38 < x37 then (if 0 ≤ x38 then (if x38 < (x36.length : Int) then (if (rd x36 x38) < 0 then (some (0, 0, 1)) else (if x38 > 0 then (if 0 ≤ (wrap64 (x38 - 1)) then (if (wrap64 (x38 - 1)) < (x9.length : Int) then (if (rd x36 x38) ≤ (rd x9 (wrap64 (x38 - 1))) then (some (0, 0, 7)) else (chaseref1_EstimateOf.l1 k x0 x1 x2 x9 x25 x26 x27 x36 x37 (wrap64 (x38 + 1)))) else (none)) else (none)) else (chaseref1_EstimateOf.l1 k x0 x1 x2 x9 x25 x26 x27 x36 x37 (wrap64 (x38 + 1))))) else (none)) else (none)) else (chaseref1_EstimateOf.l0 k x0 x1 x2 x25 x26 (wrap64 (x27 + 1)))
def chaseref1_EstimateOf.l2 : Nat → List Int → List Int → List Int → Int → List Int → Int → Int → Option (Int × Int × Int)
  | 0, _, _, _, _, _, _, _ => none
  | k + 1, x0, x1, x12, x13, x74, x75, x76 => if x76 < x75 then (if 0 ≤ x76 then (if x76 < (x74.length : Int) then ((slices_Contains_int_int.f k x0 (rd x74 x76)).bind fun t350 => (if t350 = true then ((slices_Contains_int_int.f k x1 (rd x74 x76)).bind fun t351 => (if t351 = true then (chaseref1_EstimateOf.l2 k x0 x1 x12 (wrap64 (x13 + 1)) x74 x75 (wrap64 (x76 + 1))) else (chaseref1_EstimateOf.l2 k x0 x1 x12 x13 x74 x75 (wrap64 (x76 + 1))))) else (chaseref1_EstimateOf.l2 k x0 x1 x12 x13 x74 x75 (wrap64 (x76 + 1))))) else (none)) else (none)) else ((chaseref1_part.f k x13 (x12.length : Int)).bind fun bt347 => (some (bt347.1, bt347.2, 0)))
end
def chaseref1_EstimateOf.f (k : Nat) (l0 : List Int) (l1 : List Int) (a2 : Int) : Option (Int × Int × Int) := if a2 < 1 then (chaseref1_EstimateOf.j0 k l0 l1 a2 true) else (chaseref1_EstimateOf.j0 k l0 l1 a2 (decide (a2 > 200)))
theorem chaseref1_EstimateOf.mono_l : ∀ k, (∀ y0 y1 y2 y3, LeO (chaseref1_EstimateOf.j0 k y0 y1 y2 y3) (chaseref1_EstimateOf.j0 (k + 1) y0 y1 y2 y3)) ∧ (∀ y0 y1 y2 y3 y4 y5, LeO (chaseref1_EstimateOf.l0 k y0 y1 y2 y3 y4 y5) (chaseref1_EstimateOf.l0 (k + 1) y0 y1 y2 y3 y4 y5)) ∧ (∀ y0 y1 y2 y3 y4 y5 y6 y7 y8 y9, LeO (chaseref1_EstimateOf.l1 k y0 y1 y2 y3 y4 y5 y6 y7 y8 y9) (chaseref1_EstimateOf.l1 (k + 1) y0 y1 y2 y3 y4 y5 y6 y7 y8 y9)) ∧ (∀ y0 y1 y2 y3 y4 y5 y6, LeO (chaseref1_EstimateOf.l2 k y0 y1 y2 y3 y4 y5 y6) (chaseref1_EstimateOf.l2 (k + 1) y0 y1 y2 y3 y4 y5 y6))
  | 0 => ⟨fun _ _ _ _ r h => by simp [chaseref1_EstimateOf.j0] at h, fun _ _ _ _ _ _ r h => by simp [chaseref1_EstimateOf.l0] at h, fun _ _ _ _ _ _ _ _ _ _ r h => by simp [chaseref1_EstimateOf.l1] at h, fun _ _ _ _ _ _ _ r h => by simp [chaseref1_EstimateOf.l2] at h⟩
  | k + 1 => by
    obtain ⟨ih0, ih1, ih2, ih3⟩ := chaseref1_EstimateOf.mono_l k
    refine ⟨?_, ?_, ?_, ?_⟩
    · intro y0 y1 y2 y3
      unfold chaseref1_EstimateOf.j0
      repeat' first
      | (with_reducible exact ih0 _ _ _ _)
      | (with_reducible exact ih1 _ _ _ _ _ _)
      | (with_reducible exact ih2 _ _ _ _ _ _ _ _ _ _)
      | (with_reducible exact ih3 _ _ _ _ _ _ _)
      | (with_reducible exact chaseref1_part.mono _ _ _)
      | (with_reducible exact slices_Concat_int_int.mono _ _)
      | (with_reducible exact slices_Contains_int_int.mono _ _ _)
      | (with_reducible exact LeO.refl _)
      | (with_reducible exact LeO.none _)
      | (with_reducible refine LeO.ite ?_ ?_)
      | (with_reducible refine LeO.bind ?_ (fun _ => ?_))
      | exact ih0 _ _ _ _
      | exact ih1 _ _ _ _ _ _
      | exact ih2 _ _ _ _ _ _ _ _ _ _
      | exact ih3 _ _ _ _ _ _ _
      | exact chaseref1_part.mono _ _ _
      | exact slices_Concat_int_int.mono _ _
      | exact slices_Contains_int_int.mono _ _ _
      | exact LeO.none _
      | refine LeO.ite ?_ ?_
      | refine LeO.bind ?_ (fun _ => ?_)
    · intro y0 y1 y2 y3 y4 y5
      unfold chaseref1_EstimateOf.l0
      repeat' first
      | (with_reducible exact ih0 _ _ _ _)
      | (with_reducible exact ih1 _ _ _ _ _ _)
      | (with_reducible exact ih2 _ _ _ _ _ _ _ _ _ _)
      | (with_reducible exact ih3 _ _ _ _ _ _ _)
      | (with_reducible exact chaseref1_part.mono _ _ _)
      | (with_reducible exact slices_Concat_int_int.mono _ _)
      | (with_reducible exact slices_Contains_int_int.mono _ _ _)
      | (with_reducible exact LeO.refl _)
      | (with_reducible exact LeO.none _)
      | (with_reducible refine LeO.ite ?_ ?_)
      | (with_reducible refine LeO.bind ?_ (fun _ => ?_))
      | exact ih0 _ _ _ _
      | exact ih1 _ _ _ _ _ _
      | exact ih2 _ _ _ _ _ _ _ _ _ _
      | exact ih3 _ _ _ _ _ _ _
      | exact chaseref1_part.mono _ _ _
      | exact slices_Concat_int_int.mono _ _
      | exact slices_Contains_int_int.mono _ _ _
      | exact LeO.none _
      | refine LeO.ite ?_ ?_
      | refine LeO.bind ?_ (fun _ => ?_)
    · intro y0 y1 y2 y3 y4 y5 y6 y7 y8 y9
      unfold chaseref1_EstimateOf.l1
      repeat' first
      | (with_reducible exact ih0 _ _ _ _)
      | (with_reducible exact ih1 _ _ _ _ _ _)
      | (with_reducible exact ih2 _ _ _ _ _ _ _ _ _ _)
      | (with_reducible exact ih3 _ _ _ _ _ _ _)
      | (with_reducible exact chaseref1_part.mono _ _ _)
      | (with_reducible exact slices_Concat_int_int.mono _ _)
      | (with_reducible exact slices_Contains_int_int.mono _ _ _)
      | (with_reducible exact LeO.refl _)
      | (with_reducible exact LeO.none _)
      | (with_reducible refine LeO.ite ?_ ?_)
      | (with_reducible refine LeO.bind ?_ (fun _ => ?_))
      | exact ih0 _ _ _ _
      | exact ih1 _ _ _ _ _ _
      | exact ih2 _ _ _ _ _ _ _ _ _ _
      | exact ih3 _ _ _ _ _ _ _
      | exact chaseref1_part.mono _ _ _
      | exact slices_Concat_int_int.mono _ _
      | exact slices_Contains_int_int.mono _ _ _
      | exact LeO.none _
      | refine LeO.ite ?_ ?_
      | refine LeO.bind ?_ (fun _ => ?_)
    · intro y0 y1 y2 y3 y4 y5 y6
      unfold chaseref1_EstimateOf.l2
      repeat' first
      | (with_reducible exact ih0 _ _ _ _)
      | (with_reducible exact ih1 _ _ _ _ _ _)
      | (with_reducible exact ih2 _ _ _ _ _ _ _ _ _ _)
      | (with_reducible exact ih3 _ _ _ _ _ _ _)
      | (with_reducible exact chaseref1_part.mono _ _ _)
      | (with_reducible exact slices_Concat_int_int.mono _ _)
      | (with_reducible exact slices_Contains_int_int.mono _ _ _)
      | (with_reducible exact LeO.refl _)
      | (with_reducible exact LeO.none _)
      | (with_reducible refine LeO.ite ?_ ?_)
      | (with_reducible refine LeO.bind ?_ (fun _ => ?_))
      | exact ih0 _ _ _ _
      | exact ih1 _ _ _ _ _ _
      | exact ih2 _ _ _ _ _ _ _ _ _ _
      | exact ih3 _ _ _ _ _ _ _
      | exact chaseref1_part.mono _ _ _
      | exact slices_Concat_int_int.mono _ _
      | exact slices_Contains_int_int.mono _ _ _
      | exact LeO.none _
      | refine LeO.ite ?_ ?_
      | refine LeO.bind ?_ (fun _ => ?_)
theorem chaseref1_EstimateOf.mono : ∀ a0 a1 a2 k, LeO (chaseref1_EstimateOf.f k a0 a1 a2) (chaseref1_EstimateOf.f (k + 1) a0 a1 a2) := by
  intro a0 a1 a2 k
  obtain ⟨ih0, ih1, ih2, ih3⟩ := chaseref1_EstimateOf.mono_l k
  unfold chaseref1_EstimateOf.f
  repeat' first
      | (with_reducible exact ih0 _ _ _ _)
      | (with_reducible exact ih1 _ _ _ _ _ _)
      | (with_reducible exact ih2 _ _ _ _ _ _ _ _ _ _)
      | (with_reducible exact ih3 _ _ _ _ _ _ _)
      | (with_reducible exact chaseref1_part.mono _ _ _)
      | (with_reducible exact slices_Concat_int_int.mono _ _)
      | (with_reducible exact slices_Contains_int_int.mono _ _ _)
      | (with_reducible exact LeO.refl _)
      | (with_reducible exact LeO.none _)
      | (with_reducible refine LeO.ite ?_ ?_)
      | (with_reducible refine LeO.bind ?_ (fun _ => ?_))
      | exact ih0 _ _ _ _
      | exact ih1 _ _ _ _ _ _
      | exact ih2 _ _ _ _ _ _ _ _ _ _
      | exact ih3 _ _ _ _ _ _ _
      | exact chaseref1_part.mono _ _ _
      | exact slices_Concat_int_int.mono _ _
      | exact slices_Contains_int_int.mono _ _ _
      | exact LeO.none _
      | refine LeO.ite ?_ ?_
      | refine LeO.bind ?_ (fun _ => ?_)
set_option maxHeartbeats 8000000 in
set_option maxRecDepth 100000 in
theorem chaseref1_EstimateOf.calls (k : Nat) (P0_ : Nat → Prop) (A0 : Option Addr) (c0 : Nat) (l0 : List Int) (P1_ : Nat → Prop) (A1 : Option Addr) (c1 : Nat) (l1 : List Int) (a2 : Int) (r1 : Int) (r2 : Int) (r3 : Int) (w : World) (hs0 : Kd.V (Kd.int .i64) 3 w w.heap.size (fun k_ => P0_ k_) (.slice A0 l0.length c0) l0) (hs1 : Kd.V (Kd.int .i64) 3 w w.heap.size (fun k_ => P1_ k_) (.slice A1 l1.length c1) l1) (h : chaseref1_EstimateOf.f k l0 l1 a2 = some (r1, r2, r3)) :
    Calls Try.prog 14 #[.slice A0 l0.length c0, .slice A1 l1.length c1, .int .i64 a2] w fun e w' => e = .returned (.tuple #[.agg #[.int .i64 r1, .int .i64 r2], .int .i64 r3]) ∧ Below w.heap.size w w' := by
  have hu35 := Try.underlying35
  have HO0 := Aside0.mk (show Kd.V (Kd.int .i64) 3 w w.heap.size (fun k_ => ((P0_ k_ ∨ P1_ k_) ∨ w.heap.size ≤ k_)) (.slice A0 l0.length c0) l0 from Kd.V_mono hs0 (fun k_ hk => .inl (.inl hk)))
  have HO1 := Aside0.mk (show Kd.V (Kd.int .i64) 3 w w.heap.size (fun k_ => ((P0_ k_ ∨ P1_ k_) ∨ w.heap.size ≤ k_)) (.slice A1 l1.length c1) l1 from Kd.V_mono hs1 (fun k_ hk => .inl (.inr hk)))
  have HB := Aside0.mk (Below.refl w.heap.size w)
  have H : (if a2 < 1 then (chaseref1_EstimateOf.j0 k l0 l1 a2 true) else (chaseref1_EstimateOf.j0 k l0 l1 a2 (decide (a2 > 200)))) = some (r1, r2, r3) := h
  clear h
  have HC4 := Aside0.mk H
  clear H
  go_enter Try.func14, Try.ntmps14
  go_upto_region 1 with (first | ((with_reducible refine gate_dst (N := 6) rfl ?_); refine box_event ?hg (N := 6) ?hd (cs := #[.int .i64 0, .int .i64 0]) (t := 35) ?hr ?_; (case hd => rfl); (case hg => rfl); (case hr => first | (go_simp; done) | (go_simp; rfl)); intro gb327 hg w5 hbox hb; have n0_ := Aside0.mk (Kd.V_below (Kd.V_elderB (by (with_reducible repeat (first | apply Kd.V_alloc | apply Kd.V_drewN | apply Kd.V_drew)); exact HO0.out) gb327 (Nat.le_of_eq hg.symm)) hb); have n1_ := Aside0.mk (Kd.V_below (Kd.V_elderB (by (with_reducible repeat (first | apply Kd.V_alloc | apply Kd.V_drewN | apply Kd.V_drew)); exact HO1.out) gb327 (Nat.le_of_eq hg.symm)) hb); have n2_ := Aside0.mk (below_step (by repeat (first | (with_reducible first | exact HB.out | apply below_alloc | apply pw_below_drewN | apply below_drew1) | exact HB.out)) hb); have n3_ := Aside0.mk (hbox); have n4_ := Aside0.mk ((by rw [hg]; exact (below_size (by repeat (first | (with_reducible first | exact HB.out | apply below_alloc | apply pw_below_drewN | apply below_drew1) | exact HB.out))) : w.heap.size ≤ gb327)); have n5_ := Aside0.mk ((by rw [hg]; exact (below_size (by repeat (first | (with_reducible first | exact HB.out | apply below_alloc | apply pw_below_drewN | apply below_drew1) | exact HB.out))) : w.heap.size ≤ gb327)); clear HO0; clear HO1; clear HB; have HO0 := n0_; have HO1 := n1_; have HB := n2_; have BK327 := n3_; have GW327 := n4_; have GE327 := n5_; clear n0_ n1_ n2_ n3_ n4_ n5_; clear hb hbox hg))
  (try simp only [Act.put, List.setIfInBounds_toArray, List.set_cons_zero, List.set_cons_succ])
  go_cut [21] (fun v21 wc => ∃ (kq : Nat) (x21_3 : Bool), v21 = .bool x21_3 ∧ Aside0 (chaseref1_EstimateOf.j0 kq l0 l1 a2 x21_3 = some (r1, r2, r3)) ∧ Aside0 (kq ≤ k) ∧ Aside0 (Kd.V (Kd.int .i64) 3 wc w.heap.size (fun k_ => ((P0_ k_ ∨ P1_ k_) ∨ w.heap.size ≤ k_) ∧ k_ ≠ gb327) (.slice A0 l0.length c0) l0) ∧ Aside0 (Kd.V (Kd.int .i64) 3 wc w.heap.size (fun k_ => ((P0_ k_ ∨ P1_ k_) ∨ w.heap.size ≤ k_) ∧ k_ ≠ gb327) (.slice A1 l1.length c1) l1) ∧ Aside0 (wc.heap[gb327]? = some (.cells #[.int .i64 0, .int .i64 0] 35 (0, 0))) ∧ Aside0 (Below w.heap.size w wc))
  case first =>
    have H := HC4.out
    clear HC4
    by_cases c6 : a2 < 1
    · rw [if_pos c6] at H
      have c6b0 : decide (a2 < 1) = true := decide_eq_true c6
      clear c6
      (first | rw [c6b0] | (simp only [i64_w, i32_w]; rw [c6b0]) | skip)
      have H' := Aside0.mk H
      clear H
      go_wp2
      go_meet
      case rel => exact ⟨_, (true), (by first | rfl | (simp; done) | (simp [*]; done)), H', ⟨by first | omega | exact Nat.le_refl _⟩, ⟨by (with_reducible repeat (first | apply Kd.V_alloc | apply Kd.V_drewN | apply Kd.V_drew)); exact HO0.out⟩, ⟨by (with_reducible repeat (first | apply Kd.V_alloc | apply Kd.V_drewN | apply Kd.V_drew)); exact HO1.out⟩, ⟨by (with_reducible repeat (first | refine blk_drewN ?_ _ | refine blk_drew ?_ | refine blk_alloc ?_ _)); exact BK327.out⟩, ⟨by repeat (first | (with_reducible first | exact HB.out | apply below_alloc | apply pw_below_drewN | apply below_drew1 | refine below_set ?_ GE327.out) | exact HB.out)⟩⟩
    · rw [if_neg c6] at H
      have c6b0 : decide (a2 < 1) = false := decide_eq_false c6
      clear c6
      (first | rw [c6b0] | (simp only [i64_w, i32_w]; rw [c6b0]) | skip)
      have H' := Aside0.mk H
      clear H
      go_wp2
      go_meet
      case rel => exact ⟨_, (decide (a2 > 200)), (by first | rfl | (simp; done) | (simp [*]; done)), H', ⟨by first | omega | exact Nat.le_refl _⟩, ⟨by (with_reducible repeat (first | apply Kd.V_alloc | apply Kd.V_drewN | apply Kd.V_drew)); exact HO0.out⟩, ⟨by (with_reducible repeat (first | apply Kd.V_alloc | apply Kd.V_drewN | apply Kd.V_drew)); exact HO1.out⟩, ⟨by (with_reducible repeat (first | refine blk_drewN ?_ _ | refine blk_drew ?_ | refine blk_alloc ?_ _)); exact BK327.out⟩, ⟨by repeat (first | (with_reducible first | exact HB.out | apply below_alloc | apply pw_below_drewN | apply below_drew1 | refine below_set ?_ GE327.out) | exact HB.out)⟩⟩
  case rest =>
    clear HC4
    try clear c1
    try clear p2
    try clear c6
    try clear c6b0
    obtain ⟨kq, x21_3, rfl, HA, HJ3, HO_0, HO_1, BK327, HB⟩ := hcut
    cases kq with
    | zero => exact absurd HA.out (by simp [chaseref1_EstimateOf.j0])
    | succ kj3 =>
      have H := HA.out
      clear HA
      simp only [chaseref1_EstimateOf.j0] at H
      by_cases c7 : x21_3 = true
      · subst c7
        have H1 : (some (0, 0, 1)) = some (r1, r2, r3) := by rw [if_pos rfl] at H; exact H
        clear H
        have H := H1
        clear H1
        simp only [Option.some.injEq, Prod.mk.injEq] at H
        obtain ⟨rfl, rfl, rfl⟩ := H
        have hcz8_0 : wc.cell? ⟨gb327, 0, none⟩ = some (.int .i64 0) := (blk_cell BK327.out 0).trans rfl
        have hcz8_1 : wc.cell? ⟨gb327, 1, none⟩ = some (.int .i64 0) := (blk_cell BK327.out 1).trans rfl
        have hfz8_0 := blk_frozen BK327.out 0
        have hfz8_1 := blk_frozen BK327.out 1
        go_wp2
        refine bodyPost_ret (results_ct rfl _ _ gb327 35 #[.int .i64 0, .int .i64 0] (0, 0) _ rfl (by (with_reducible repeat (first | refine blk_drewN ?_ _ | refine blk_drew ?_ | refine blk_alloc ?_ _)); refine blk_put (cs := #[.int .i64 0, .int .i64 0]) ?_ 1 _ rfl; (with_reducible repeat (first | refine blk_drewN ?_ _ | refine blk_drew ?_ | refine blk_alloc ?_ _)); refine blk_put (cs := #[.int .i64 0, .int .i64 0]) ?_ 0 _ rfl; (with_reducible repeat (first | refine blk_drewN ?_ _ | refine blk_drew ?_ | refine blk_alloc ?_ _)); exact BK327.out) Try.underlying35 rfl (by kernel_rfl)) rfl ?_
        exact ⟨by first | rfl | (simp [errW_none, errW_some] <;> rfl) | (simp [*, errW_none, errW_some] <;> rfl), by repeat (first | (with_reducible first | exact HB.out | apply below_alloc | apply pw_below_drewN | apply below_drew1 | refine below_set ?_ GE327.out) | exact HB.out)⟩
      · replace c7 := Bool.eq_false_iff.mpr c7
        subst c7
        have H1 : ((some (([l0, l1] : List (List Int)) : List (List Int))).bind fun y328 => (chaseref1_EstimateOf.l0 kj3 l0 l1 a2 y328 (y328.length : Int) 0)) = some (r1, r2, r3) := by rw [if_neg (show ¬ (false = true) by decide)] at H; exact H
        clear H
        have H := H1
        clear H1
        obtain ⟨y328, hy328⟩ : ∃ y_ : List (List Int), y_ = (([l0, l1] : List (List Int))) := ⟨_, rfl⟩
        replace H : (chaseref1_EstimateOf.l0 kj3 l0 l1 a2 y328 (y328.length : Int) 0) = some (r1, r2, r3) := by first | (rw [hy328]; with_reducible exact H) | (have H2_ := (Option.bind_some _ _).symm.trans H; rw [hy328]; with_reducible exact H2_) | (have H2_ := (Option.bind_some _ _).symm.trans H; with_reducible exact H2_) | with_reducible exact H | (rw [hy328]; exact H) | exact H
        have Ny328 := Aside0.mk hy328
        clear hy328
        have H' := Aside0.mk H
        clear H
        go_wp2_with (first | ((with_reducible refine gate_dst (N := 25) rfl ?_); refine Kd.N_lit (Kd.slice 3 (Kd.int .i64)) _ 22 ?hg (N' := 25) ?hd (xs := ([l0, l1] : List (List Int))) (inner := [.slice A0 l0.length c0, .slice A1 l1.length c1]) (ok := (fun k_ => ((P0_ k_ ∨ P1_ k_) ∨ w.heap.size ≤ k_) ∧ k_ ≠ gb327)) (okp := (fun k_ => ((P0_ k_ ∨ P1_ k_) ∨ w.heap.size ≤ k_) ∧ k_ ≠ gb327)) ?hr ?hp (fun _ hk => hk) ((show ∀ k_, wc.heap.size ≤ k_ → (fun k_ => ((P0_ k_ ∨ P1_ k_) ∨ w.heap.size ≤ k_) ∧ k_ ≠ gb327) k_ from fun k_ hk => ⟨(.inr (Nat.le_trans (below_size (by repeat (first | (with_reducible first | exact HB.out | apply below_alloc | apply pw_below_drewN | apply below_drew1 | refine below_set ?_ GE327.out) | exact HB.out))) hk)), Kd.freshB (g := gb327) (o := .cells #[.int .i64 0, .int .i64 0] 35 (0, 0)) (by (with_reducible repeat (first | refine blk_drewN ?_ _ | refine blk_drew ?_ | refine blk_alloc ?_ _)); exact BK327.out) k_ hk⟩) _ (Nat.le_refl _)) (Below.refl _ _) (Nat.le_refl _) (by simp) ?_; (case hd => rfl); (case hg => rfl); (case hr => first | (go_simp; done) | (go_simp; rfl)); (case hp => exact (Reps.one (show Kd.FK (Kd.slice 3 (Kd.int .i64)) _ _ l0 [.slice A0 l0.length c0] from (Kd.FK_slice_mk (Kd.V_reads' (Kd.V_mono (ok' := (fun k_ => ((P0_ k_ ∨ P1_ k_) ∨ w.heap.size ≤ k_) ∧ k_ ≠ gb327)) (HO_0.out) (fun k_ hk => ⟨hk.1, hk.2⟩))).2.1 (by first | with_reducible exact Kd.V_F (Kd.V_mono (ok' := (fun k_ => ((P0_ k_ ∨ P1_ k_) ∨ w.heap.size ≤ k_) ∧ k_ ≠ gb327)) (HO_0.out) (fun k_ hk => ⟨hk.1, hk.2⟩)) | ((with_reducible repeat (first | apply Kd.F_alloc | apply Kd.F_drewN | apply Kd.F_drew)); exact Kd.V_F (Kd.V_mono (ok' := (fun k_ => ((P0_ k_ ∨ P1_ k_) ∨ w.heap.size ≤ k_) ∧ k_ ≠ gb327)) (HO_0.out) (fun k_ hk => ⟨hk.1, hk.2⟩)))))) (Reps.one (show Kd.FK (Kd.slice 3 (Kd.int .i64)) _ _ l1 [.slice A1 l1.length c1] from (Kd.FK_slice_mk (Kd.V_reads' (Kd.V_mono (ok' := (fun k_ => ((P0_ k_ ∨ P1_ k_) ∨ w.heap.size ≤ k_) ∧ k_ ≠ gb327)) (HO_1.out) (fun k_ hk => ⟨hk.1, hk.2⟩))).2.1 (by first | with_reducible exact Kd.V_F (Kd.V_mono (ok' := (fun k_ => ((P0_ k_ ∨ P1_ k_) ∨ w.heap.size ≤ k_) ∧ k_ ≠ gb327)) (HO_1.out) (fun k_ hk => ⟨hk.1, hk.2⟩)) | ((with_reducible repeat (first | apply Kd.F_alloc | apply Kd.F_drewN | apply Kd.F_drew)); exact Kd.V_F (Kd.V_mono (ok' := (fun k_ => ((P0_ k_ ∨ P1_ k_) ∨ w.heap.size ≤ k_) ∧ k_ ≠ gb327)) (HO_1.out) (fun k_ hk => ⟨hk.1, hk.2⟩)))))) (Reps.none _ _)))); intro v329 w9 ho10 hb hg_ hnew_; clear hg_ hnew_; (first | rw [← Ny328.out] at ho10 | (simp only [Int.reduceToNat] at ho10; rw [← Ny328.out] at ho10)); have n0_ := Aside0.mk (Kd.V_elder' (by (with_reducible repeat (first | apply Kd.V_alloc | apply Kd.V_drewN | apply Kd.V_drew)); exact HO_0.out) (Kd.N_base ho10) hb); have n1_ := Aside0.mk (Kd.V_elder' (by (with_reducible repeat (first | apply Kd.V_alloc | apply Kd.V_drewN | apply Kd.V_drew)); exact HO_1.out) (Kd.N_base ho10) hb); have n2_ := Aside0.mk (Kd.N_lower ho10 (below_size (by repeat (first | (with_reducible first | exact HB.out | apply below_alloc | apply pw_below_drewN | apply below_drew1 | refine below_set ?_ GE327.out) | exact HB.out)))); have n3_ := Aside0.mk (blk_below (g := gb327) (o := .cells #[.int .i64 0, .int .i64 0] 35 (0, 0)) (by (with_reducible repeat (first | refine blk_drewN ?_ _ | refine blk_drew ?_ | refine blk_alloc ?_ _)); exact BK327.out) hb); have n4_ := Aside0.mk (below_step (by repeat (first | (with_reducible first | exact HB.out | apply below_alloc | apply pw_below_drewN | apply below_drew1 | refine below_set ?_ GE327.out) | exact HB.out)) hb); clear HO_0; clear HO_1; clear BK327; clear HB; have HO_0 := n0_; have HO_1 := n1_; have HO330 := n2_; have BK327 := n3_; have HB := n4_; clear n0_ n1_ n2_ n3_ n4_; clear hb ho10; obtain ⟨Ao11, co11, eo11⟩ := Kd.N_slice HO330.out; subst eo11))
        go_loopg [27] kj3 (fun kq v27 w' => ∃ (x27_2 : Int) (x328000_2 : Int) (x328001_2 : Int), v27 = .int .i64 x27_2 ∧ Aside0 (chaseref1_EstimateOf.l0 kq l0 l1 a2 y328 (y328.length : Int) x27_2 = some (r1, r2, r3)) ∧ Aside0 (kq ≤ kj3) ∧ Aside0 (Kd.V (Kd.int .i64) 3 w' w.heap.size (fun k_ => ((P0_ k_ ∨ P1_ k_) ∨ w.heap.size ≤ k_) ∧ some k_ ≠ ((.slice Ao11 y328.length co11) : Value).ownBlock ∧ k_ ≠ gb327) (.slice A0 l0.length c0) l0) ∧ Aside0 (Kd.V (Kd.int .i64) 3 w' w.heap.size (fun k_ => ((P0_ k_ ∨ P1_ k_) ∨ w.heap.size ≤ k_) ∧ some k_ ≠ ((.slice Ao11 y328.length co11) : Value).ownBlock ∧ k_ ≠ gb327) (.slice A1 l1.length c1) l1) ∧ Aside0 (Kd.N (Kd.slice 3 (Kd.int .i64)) 22 w' w.heap.size (fun k_ => ((P0_ k_ ∨ P1_ k_) ∨ w.heap.size ≤ k_) ∧ k_ ≠ gb327) (.slice Ao11 y328.length co11) y328) ∧ Aside0 (w'.heap[gb327]? = some (.cells #[.int .i64 x328000_2, .int .i64 x328001_2] 35 (0, 0))) ∧ Aside0 (Below w.heap.size w w'))
        case atStart => exact ⟨(0), (0), (0), (by first | rfl | (simp; done) | (simp [*]; done)), H', ⟨Nat.le_refl _⟩, ⟨by (with_reducible repeat (first | apply Kd.V_alloc | apply Kd.V_drewN | apply Kd.V_drew)); exact Kd.V_mono HO_0.out (fun _ hk => ⟨hk.1.1, ⟨(by first | with_reducible exact hk.2 | exact own_len_ hk.2 | exact hk.2), hk.1.2⟩⟩)⟩, ⟨by (with_reducible repeat (first | apply Kd.V_alloc | apply Kd.V_drewN | apply Kd.V_drew)); exact Kd.V_mono HO_1.out (fun _ hk => ⟨hk.1.1, ⟨(by first | with_reducible exact hk.2 | exact own_len_ hk.2 | exact hk.2), hk.1.2⟩⟩)⟩, ⟨by (with_reducible repeat (first | apply Kd.N_alloc | apply Kd.N_drewN | apply Kd.N_drew)); exact HO330.out⟩, ⟨by (with_reducible repeat (first | refine blk_drewN ?_ _ | refine blk_drew ?_ | refine blk_alloc ?_ _)); exact BK327.out⟩, ⟨by repeat (first | (with_reducible first | exact HB.out | apply below_alloc | apply pw_below_drewN | apply below_drew1 | refine below_set ?_ GE327.out) | exact HB.out)⟩⟩
        case round =>
          clear H'
          try clear c1
          try clear p2
          try clear c6
          try clear c6b0
          try clear c7
          try clear hcz8_0
          try clear hcz8_1
          try clear hfz8_0
          try clear hfz8_1
          try clear p2
          obtain ⟨x27_2, x328000_2, x328001_2, rfl, HA, HK2, HO_0, HO_1, HO_25, BK327, HB⟩ := hrel
          cases gk with
          | zero => exact absurd HA.out (by simp [chaseref1_EstimateOf.l0])
          | succ k2 =>
            have H := HA.out
            clear HA
            simp only [chaseref1_EstimateOf.l0] at H
            by_cases c12 : x27_2 < (y328.length : Int)
            · rw [if_pos c12] at H
              have c12b0 : decide (x27_2 < (y328.length : Int)) = true := decide_eq_true c12
              clear c12
              by_cases c13 : 0 ≤ x27_2
              · rw [if_pos c13] at H
                have c13b0 : decide (0 ≤ x27_2) = true := decide_eq_true c13
                clear c13
                by_cases c14 : x27_2 < (y328.length : Int)
                · rw [if_pos c14] at H
                  have c14b0 : decide (x27_2 < (y328.length : Int)) = true := decide_eq_true c14
                  clear c14
                  by_cases c15 : ((rd_L3 y328 x27_2).length : Int) > a2
                  · rw [if_pos c15] at H
                    have c15b0 : decide (a2 < ((rd_L3 y328 x27_2).length : Int)) = true := decide_eq_true c15
                    clear c15
                    simp only [Option.some.injEq, Prod.mk.injEq] at H
                    obtain ⟨rfl, rfl, rfl⟩ := H
                    have p331 : 0 ≤ (x27_2 : Int) := of_decide_eq_true (by first | (with_reducible assumption) | assumption)
                    have q331 : x27_2 < (y328.length : Int) := of_decide_eq_true (by first | (with_reducible assumption) | assumption)
                    obtain ⟨ad331, A331_0, c331_0, e331, hx331_0, hl331_0, hi331_0⟩ := at_L3 (Kd.N_reads' HO_25.out).2.2 x27_2 p331 q331
                    cases e331
                    obtain ⟨ce331, hce331, hMe331, hcc331⟩ := Kd.N_get HO_25.out [] x27_2 p331 (by first | exact q331 | exact of_decide_eq_true (by first | (with_reducible assumption) | assumption) | (have e_ := (Kd.N_reads' HO_25.out).1; omega))
                    obtain ⟨ua331_0, uc331_0, rfl, ul331_0, ge331_0⟩ := Kd.FK_slice_open hMe331
                    have hv331_0 := hcc331 0 _ rfl
                    rw [Nat.add_zero, show ((Kd.slice 3 (Kd.int .i64))).sz = 1 from rfl, Nat.mul_one] at hv331_0
                    replace hv331_0 := Option.some.inj (hv331_0.symm.trans hx331_0)
                    injection hv331_0 with hva_ hvn_ hvc_
                    rw [hva_] at ge331_0
                    rw [hvc_] at ul331_0
                    have HL331_0 := Aside0.mk (show Kd.V (Kd.int .i64) 3 _ w.heap.size _ _ (rd_L3 y328 x27_2) from Kd.V_mk ul331_0 ge331_0)
                    clear hva_ hvn_ hvc_ ge331_0 ul331_0
                    clear hcc331 hce331
                    have HR331_0 := Aside0.mk hi331_0
                    have HC331_0 := Aside0.mk hl331_0
                    clear hi331_0 hl331_0
                    replace p331 := eq_true p331
                    replace q331 := eq_true q331
                    have hcz16_0 : wr.cell? ⟨gb327, 0, none⟩ = some (.int .i64 x328000_2) := (blk_cell BK327.out 0).trans rfl
                    have hcz16_1 : wr.cell? ⟨gb327, 1, none⟩ = some (.int .i64 x328001_2) := (blk_cell BK327.out 1).trans rfl
                    have hfz16_0 := blk_frozen BK327.out 0
                    have hfz16_1 := blk_frozen BK327.out 1
                    go_wp2
                    refine bodyPost_ret (results_ct rfl _ _ gb327 35 #[.int .i64 0, .int .i64 0] (0, 0) _ rfl (by (with_reducible repeat (first | refine blk_drewN ?_ _ | refine blk_drew ?_ | refine blk_alloc ?_ _)); refine blk_put (cs := #[.int .i64 0, .int .i64 x328001_2]) ?_ 1 _ rfl; (with_reducible repeat (first | refine blk_drewN ?_ _ | refine blk_drew ?_ | refine blk_alloc ?_ _)); refine blk_put (cs := #[.int .i64 x328000_2, .int .i64 x328001_2]) ?_ 0 _ rfl; (with_reducible repeat (first | refine blk_drewN ?_ _ | refine blk_drew ?_ | refine blk_alloc ?_ _)); exact BK327.out) Try.underlying35 rfl (by kernel_rfl)) rfl ?_
                    exact ⟨by first | rfl | (simp [errW_none, errW_some] <;> rfl) | (simp [*, errW_none, errW_some] <;> rfl), by repeat (first | (with_reducible first | exact HB.out | apply below_alloc | apply pw_below_drewN | apply below_drew1 | refine below_set ?_ GE327.out) | exact HB.out)⟩
                  · rw [if_neg c15] at H
                    have c15b0 : decide (a2 < ((rd_L3 y328 x27_2).length : Int)) = false := decide_eq_false c15
                    clear c15
                    have H' := Aside0.mk H
                    clear H
                    have p331 : 0 ≤ (x27_2 : Int) := of_decide_eq_true (by first | (with_reducible assumption) | assumption)
                    have q331 : x27_2 < (y328.length : Int) := of_decide_eq_true (by first | (with_reducible assumption) | assumption)
                    obtain ⟨ad331, A331_0, c331_0, e331, hx331_0, hl331_0, hi331_0⟩ := at_L3 (Kd.N_reads' HO_25.out).2.2 x27_2 p331 q331
                    cases e331
                    obtain ⟨ce331, hce331, hMe331, hcc331⟩ := Kd.N_get HO_25.out [] x27_2 p331 (by first | exact q331 | exact of_decide_eq_true (by first | (with_reducible assumption) | assumption) | (have e_ := (Kd.N_reads' HO_25.out).1; omega))
                    obtain ⟨ua331_0, uc331_0, rfl, ul331_0, ge331_0⟩ := Kd.FK_slice_open hMe331
                    have hv331_0 := hcc331 0 _ rfl
                    rw [Nat.add_zero, show ((Kd.slice 3 (Kd.int .i64))).sz = 1 from rfl, Nat.mul_one] at hv331_0
                    replace hv331_0 := Option.some.inj (hv331_0.symm.trans hx331_0)
                    injection hv331_0 with hva_ hvn_ hvc_
                    rw [hva_] at ge331_0
                    rw [hvc_] at ul331_0
                    have HL331_0 := Aside0.mk (show Kd.V (Kd.int .i64) 3 _ w.heap.size _ _ (rd_L3 y328 x27_2) from Kd.V_mk ul331_0 ge331_0)
                    clear hva_ hvn_ hvc_ ge331_0 ul331_0
                    clear hcc331 hce331
                    have HR331_0 := Aside0.mk hi331_0
                    have HC331_0 := Aside0.mk hl331_0
                    clear hi331_0 hl331_0
                    replace p331 := eq_true p331
                    replace q331 := eq_true q331
                    go_wp2
                    go_loopg [38] k2 (fun kq v38 w' => ∃ (x38_3 : Int) (x328000_3 : Int) (x328001_3 : Int), v38 = .int .i64 x38_3 ∧ Aside0 (chaseref1_EstimateOf.l1 kq l0 l1 a2 (rd_L3 y328 x27_2) y328 (y328.length : Int) x27_2 (rd_L3 y328 x27_2) ((rd_L3 y328 x27_2).length : Int) x38_3 = some (r1, r2, r3)) ∧ Aside0 (kq ≤ k2) ∧ Aside0 (Kd.V (Kd.int .i64) 3 w' w.heap.size (fun k_ => ((P0_ k_ ∨ P1_ k_) ∨ w.heap.size ≤ k_) ∧ some k_ ≠ ((.slice (some ad331) y328.length co11) : Value).ownBlock ∧ k_ ≠ gb327) (.slice A0 l0.length c0) l0) ∧ Aside0 (Kd.V (Kd.int .i64) 3 w' w.heap.size (fun k_ => ((P0_ k_ ∨ P1_ k_) ∨ w.heap.size ≤ k_) ∧ some k_ ≠ ((.slice (some ad331) y328.length co11) : Value).ownBlock ∧ k_ ≠ gb327) (.slice A1 l1.length c1) l1) ∧ Aside0 (Kd.N (Kd.slice 3 (Kd.int .i64)) 22 w' w.heap.size (fun k_ => ((P0_ k_ ∨ P1_ k_) ∨ w.heap.size ≤ k_) ∧ k_ ≠ gb327) (.slice (some ad331) y328.length co11) y328) ∧ Aside0 (w'.heap[gb327]? = some (.cells #[.int .i64 x328000_3, .int .i64 x328001_3] 35 (0, 0))) ∧ Aside0 (Kd.C (Kd.int .i64) w' A331_0 (rd_L3 y328 x27_2).length (rd_L3 y328 x27_2)) ∧ Aside0 (Below w.heap.size w w'))
                    case atStart => exact ⟨(0), (x328000_2), (x328001_2), (by first | rfl | (simp; done) | (simp [*]; done)), H', ⟨Nat.le_refl _⟩, ⟨by (with_reducible repeat (first | apply Kd.V_alloc | apply Kd.V_drewN | apply Kd.V_drew)); exact HO_0.out⟩, ⟨by (with_reducible repeat (first | apply Kd.V_alloc | apply Kd.V_drewN | apply Kd.V_drew)); exact HO_1.out⟩, ⟨by (with_reducible repeat (first | apply Kd.N_alloc | apply Kd.N_drewN | apply Kd.N_drew)); exact HO_25.out⟩, ⟨by (with_reducible repeat (first | refine blk_drewN ?_ _ | refine blk_drew ?_ | refine blk_alloc ?_ _)); exact BK327.out⟩, ⟨by repeat (first | (with_reducible exact HR331_0.out) | (with_reducible refine Kd.C_alloc ?_ _) | (with_reducible refine Kd.C_drewN ?_ _) | (with_reducible refine Kd.C_drew ?_) | exact HR331_0.out)⟩, ⟨by repeat (first | (with_reducible first | exact HB.out | apply below_alloc | apply pw_below_drewN | apply below_drew1 | refine below_set ?_ GE327.out) | exact HB.out)⟩⟩
                    case round =>
                      clear H'
                      try clear c1
                      try clear p2
                      try clear c3
                      try clear p3
                      try clear q3
                      try clear hx3
                      try clear c6
                      try clear c6b0
                      try clear c7
                      try clear c12
                      try clear c12b0
                      try clear c13
                      try clear c13b0
                      try clear c14
                      try clear c14b0
                      try clear c15
                      try clear c15b0
                      try clear hcz16_0
                      try clear hcz16_1
                      try clear hcz8_0
                      try clear hcz8_1
                      try clear hfz16_0
                      try clear hfz16_1
                      try clear hfz8_0
                      try clear hfz8_1
                      try clear hx331_0
                      try clear p2
                      try clear p331
                      try clear q331
                      obtain ⟨x38_3, x328000_3, x328001_3, rfl, HA, HK3, HO_0, HO_1, HO_25, BK327, HR331_0, HB⟩ := hrel
                      cases gk with
                      | zero => exact absurd HA.out (by simp [chaseref1_EstimateOf.l1])
                      | succ k3 =>
                        have H := HA.out
                        clear HA
                        simp only [chaseref1_EstimateOf.l1] at H
                        by_cases c17 : x38_3 < ((rd_L3 y328 x27_2).length : Int)
                        · rw [if_pos c17] at H
                          have c17b0 : decide (x38_3 < ((rd_L3 y328 x27_2).length : Int)) = true := decide_eq_true c17
                          clear c17
                          by_cases c18 : 0 ≤ x38_3
                          · rw [if_pos c18] at H
                            have c18b0 : decide (0 ≤ x38_3) = true := decide_eq_true c18
                            clear c18
                            by_cases c19 : x38_3 < ((rd_L3 y328 x27_2).length : Int)
                            · rw [if_pos c19] at H
                              have c19b0 : decide (x38_3 < ((rd_L3 y328 x27_2).length : Int)) = true := decide_eq_true c19
                              clear c19
                              by_cases c20 : (rd (rd_L3 y328 x27_2) x38_3) < 0
                              · rw [if_pos c20] at H
                                have c20b0 : decide ((rd (rd_L3 y328 x27_2) x38_3) < 0) = true := decide_eq_true c20
                                clear c20
                                simp only [Option.some.injEq, Prod.mk.injEq] at H
                                obtain ⟨rfl, rfl, rfl⟩ := H
                                have p332 : 0 ≤ (x38_3 : Int) := of_decide_eq_true (by first | (with_reducible assumption) | assumption)
                                have q332 : x38_3 < ((rd_L3 y328 x27_2).length : Int) := of_decide_eq_true (by first | (with_reducible assumption) | assumption)
                                obtain ⟨ad332, e332, hx332_0⟩ := Kd.at_int HR331_0.out x38_3 p332 q332
                                cases e332
                                first | replace hx332_0 := (HB.out.cell (World.block_lt_of_cell? w _ hx332_0)).trans hx332_0 | skip
                                replace p332 := eq_true p332
                                replace q332 := eq_true q332
                                have hcz21_0 : wr.cell? ⟨gb327, 0, none⟩ = some (.int .i64 x328000_3) := (blk_cell BK327.out 0).trans rfl
                                have hcz21_1 : wr.cell? ⟨gb327, 1, none⟩ = some (.int .i64 x328001_3) := (blk_cell BK327.out 1).trans rfl
                                have hfz21_0 := blk_frozen BK327.out 0
                                have hfz21_1 := blk_frozen BK327.out 1
                                go_wp2
                                refine bodyPost_ret (results_ct rfl _ _ gb327 35 #[.int .i64 0, .int .i64 0] (0, 0) _ rfl (by (with_reducible repeat (first | refine blk_drewN ?_ _ | refine blk_drew ?_ | refine blk_alloc ?_ _)); refine blk_put (cs := #[.int .i64 0, .int .i64 x328001_3]) ?_ 1 _ rfl; (with_reducible repeat (first | refine blk_drewN ?_ _ | refine blk_drew ?_ | refine blk_alloc ?_ _)); refine blk_put (cs := #[.int .i64 x328000_3, .int .i64 x328001_3]) ?_ 0 _ rfl; (with_reducible repeat (first | refine blk_drewN ?_ _ | refine blk_drew ?_ | refine blk_alloc ?_ _)); exact BK327.out) Try.underlying35 rfl (by kernel_rfl)) rfl ?_
                                exact ⟨by first | rfl | (simp [errW_none, errW_some] <;> rfl) | (simp [*, errW_none, errW_some] <;> rfl), by repeat (first | (with_reducible first | exact HB.out | apply below_alloc | apply pw_below_drewN | apply below_drew1 | refine below_set ?_ GE327.out) | exact HB.out)⟩
                              · rw [if_neg c20] at H
                                have c20b0 : decide ((rd (rd_L3 y328 x27_2) x38_3) < 0) = false := decide_eq_false c20
                                clear c20
                                by_cases c22 : x38_3 > 0
                                · rw [if_pos c22] at H
                                  have c22b0 : decide (0 < x38_3) = true := decide_eq_true c22
                                  clear c22
                                  obtain ⟨ji23, hji23⟩ : ∃ j_ : Int, (wrap64 (x38_3 - 1)) = j_ := ⟨_, rfl⟩
                                  replace H : (if 0 ≤ (ji23) then (if (ji23) < ((rd_L3 y328 x27_2).length : Int) then (if (rd (rd_L3 y328 x27_2) x38_3) ≤ (rd (rd_L3 y328 x27_2) (ji23)) then (some (0, 0, 7)) else (chaseref1_EstimateOf.l1 k3 l0 l1 a2 (rd_L3 y328 x27_2) y328 (y328.length : Int) x27_2 (rd_L3 y328 x27_2) ((rd_L3 y328 x27_2).length : Int) (wrap64 (x38_3 + 1)))) else (none)) else (none)) = some (r1, r2, r3) := by first | (rw [hji23] at H; exact H) | (simp only [hji23] at H ⊢; exact H)
                                  have hji23w : (IntKind.i64.wrap (x38_3 - 1)) = ji23 := (i64_w _).trans hji23
                                  by_cases c24 : 0 ≤ (ji23)
                                  · rw [if_pos c24] at H
                                    have c24b0 : decide (0 ≤ (ji23)) = true := decide_eq_true c24
                                    clear c24
                                    by_cases c25 : (ji23) < ((rd_L3 y328 x27_2).length : Int)
                                    · rw [if_pos c25] at H
                                      have c25b0 : decide ((ji23) < ((rd_L3 y328 x27_2).length : Int)) = true := decide_eq_true c25
                                      clear c25
                                      by_cases c26 : (rd (rd_L3 y328 x27_2) x38_3) ≤ (rd (rd_L3 y328 x27_2) (ji23))
                                      · rw [if_pos c26] at H
                                        have c26b0 : decide ((rd (rd_L3 y328 x27_2) x38_3) ≤ (rd (rd_L3 y328 x27_2) (ji23))) = true := decide_eq_true c26
                                        clear c26
                                        simp only [Option.some.injEq, Prod.mk.injEq] at H
                                        obtain ⟨rfl, rfl, rfl⟩ := H
                                        have p332 : 0 ≤ (x38_3 : Int) := of_decide_eq_true (by first | (with_reducible assumption) | assumption)
                                        have q332 : x38_3 < ((rd_L3 y328 x27_2).length : Int) := of_decide_eq_true (by first | (with_reducible assumption) | assumption)
                                        obtain ⟨ad332, e332, hx332_0⟩ := Kd.at_int HR331_0.out x38_3 p332 q332
                                        cases e332
                                        first | replace hx332_0 := (HB.out.cell (World.block_lt_of_cell? w _ hx332_0)).trans hx332_0 | skip
                                        replace p332 := eq_true p332
                                        replace q332 := eq_true q332
                                        have p333 : 0 ≤ ((ji23) : Int) := of_decide_eq_true (by first | (with_reducible assumption) | assumption)
                                        have q333 : (ji23) < ((rd_L3 y328 x27_2).length : Int) := of_decide_eq_true (by first | (with_reducible assumption) | assumption)
                                        obtain ⟨ad333, e333, hx333_0⟩ := Kd.at_int HR331_0.out (ji23) p333 q333
                                        obtain rfl : ad332 = ad333 := (by injection e333)
                                        first | replace hx333_0 := (HB.out.cell (World.block_lt_of_cell? w _ hx333_0)).trans hx333_0 | skip
                                        replace p333 := eq_true p333
                                        replace q333 := eq_true q333
                                        have hcz27_0 : wr.cell? ⟨gb327, 0, none⟩ = some (.int .i64 x328000_3) := (blk_cell BK327.out 0).trans rfl
                                        have hcz27_1 : wr.cell? ⟨gb327, 1, none⟩ = some (.int .i64 x328001_3) := (blk_cell BK327.out 1).trans rfl
                                        have hfz27_0 := blk_frozen BK327.out 0
                                        have hfz27_1 := blk_frozen BK327.out 1
                                        go_wp2
                                        refine bodyPost_ret (results_ct rfl _ _ gb327 35 #[.int .i64 0, .int .i64 0] (0, 0) _ rfl (by (with_reducible repeat (first | refine blk_drewN ?_ _ | refine blk_drew ?_ | refine blk_alloc ?_ _)); refine blk_put (cs := #[.int .i64 0, .int .i64 x328001_3]) ?_ 1 _ rfl; (with_reducible repeat (first | refine blk_drewN ?_ _ | refine blk_drew ?_ | refine blk_alloc ?_ _)); refine blk_put (cs := #[.int .i64 x328000_3, .int .i64 x328001_3]) ?_ 0 _ rfl; (with_reducible repeat (first | refine blk_drewN ?_ _ | refine blk_drew ?_ | refine blk_alloc ?_ _)); exact BK327.out) Try.underlying35 rfl (by kernel_rfl)) rfl ?_
                                        exact ⟨by first | rfl | (simp [errW_none, errW_some] <;> rfl) | (simp only [← hji23]; first | rfl | (simp [errW_none, errW_some] <;> rfl)) | (simp [*, errW_none, errW_some] <;> rfl), by repeat (first | (with_reducible first | exact HB.out | apply below_alloc | apply pw_below_drewN | apply below_drew1 | refine below_set ?_ GE327.out) | exact HB.out)⟩
                                      · rw [if_neg c26] at H
                                        have c26b0 : decide ((rd (rd_L3 y328 x27_2) x38_3) ≤ (rd (rd_L3 y328 x27_2) (ji23))) = false := decide_eq_false c26
                                        clear c26
                                        have H' := Aside0.mk H
                                        clear H
                                        have p332 : 0 ≤ (x38_3 : Int) := of_decide_eq_true (by first | (with_reducible assumption) | assumption)
                                        have q332 : x38_3 < ((rd_L3 y328 x27_2).length : Int) := of_decide_eq_true (by first | (with_reducible assumption) | assumption)
                                        obtain ⟨ad332, e332, hx332_0⟩ := Kd.at_int HR331_0.out x38_3 p332 q332
                                        cases e332
                                        first | replace hx332_0 := (HB.out.cell (World.block_lt_of_cell? w _ hx332_0)).trans hx332_0 | skip
                                        replace p332 := eq_true p332
                                        replace q332 := eq_true q332
                                        have p333 : 0 ≤ ((ji23) : Int) := of_decide_eq_true (by first | (with_reducible assumption) | assumption)
                                        have q333 : (ji23) < ((rd_L3 y328 x27_2).length : Int) := of_decide_eq_true (by first | (with_reducible assumption) | assumption)
                                        obtain ⟨ad333, e333, hx333_0⟩ := Kd.at_int HR331_0.out (ji23) p333 q333
                                        obtain rfl : ad332 = ad333 := (by injection e333)
                                        first | replace hx333_0 := (HB.out.cell (World.block_lt_of_cell? w _ hx333_0)).trans hx333_0 | skip
                                        replace p333 := eq_true p333
                                        replace q333 := eq_true q333
                                        go_wp2
                                        go_roundg k3
                                        case measure => have := HJ3.out; have := HK2.out; have := HK3.out; omega
                                        case rel => exact ⟨(wrap64 (x38_3 + 1)), (x328000_3), (x328001_3), (by first | rfl | (simp; done) | (simp [*]; done)), H', ⟨by have := HJ3.out; have := HK2.out; have := HK3.out; omega⟩, ⟨by (with_reducible repeat (first | apply Kd.V_alloc | apply Kd.V_drewN | apply Kd.V_drew)); exact HO_0.out⟩, ⟨by (with_reducible repeat (first | apply Kd.V_alloc | apply Kd.V_drewN | apply Kd.V_drew)); exact HO_1.out⟩, ⟨by (with_reducible repeat (first | apply Kd.N_alloc | apply Kd.N_drewN | apply Kd.N_drew)); exact HO_25.out⟩, ⟨by (with_reducible repeat (first | refine blk_drewN ?_ _ | refine blk_drew ?_ | refine blk_alloc ?_ _)); exact BK327.out⟩, ⟨by repeat (first | (with_reducible exact HR331_0.out) | (with_reducible refine Kd.C_alloc ?_ _) | (with_reducible refine Kd.C_drewN ?_ _) | (with_reducible refine Kd.C_drew ?_) | exact HR331_0.out)⟩, ⟨by repeat (first | (with_reducible first | exact HB.out | apply below_alloc | apply pw_below_drewN | apply below_drew1 | refine below_set ?_ GE327.out) | exact HB.out)⟩⟩
                                    · rw [if_neg c25] at H
                                      exact absurd H (by simp)
                                  · rw [if_neg c24] at H
                                    exact absurd H (by simp)
                                · rw [if_neg c22] at H
                                  have c22b0 : decide (0 < x38_3) = false := decide_eq_false c22
                                  clear c22
                                  have H' := Aside0.mk H
                                  clear H
                                  have p332 : 0 ≤ (x38_3 : Int) := of_decide_eq_true (by first | (with_reducible assumption) | assumption)
                                  have q332 : x38_3 < ((rd_L3 y328 x27_2).length : Int) := of_decide_eq_true (by first | (with_reducible assumption) | assumption)
                                  obtain ⟨ad332, e332, hx332_0⟩ := Kd.at_int HR331_0.out x38_3 p332 q332
                                  cases e332
                                  first | replace hx332_0 := (HB.out.cell (World.block_lt_of_cell? w _ hx332_0)).trans hx332_0 | skip
                                  replace p332 := eq_true p332
                                  replace q332 := eq_true q332
                                  go_wp2
                                  go_roundg k3
                                  case measure => have := HJ3.out; have := HK2.out; have := HK3.out; omega
                                  case rel => exact ⟨(wrap64 (x38_3 + 1)), (x328000_3), (x328001_3), (by first | rfl | (simp; done) | (simp [*]; done)), H', ⟨by have := HJ3.out; have := HK2.out; have := HK3.out; omega⟩, ⟨by (with_reducible repeat (first | apply Kd.V_alloc | apply Kd.V_drewN | apply Kd.V_drew)); exact HO_0.out⟩, ⟨by (with_reducible repeat (first | apply Kd.V_alloc | apply Kd.V_drewN | apply Kd.V_drew)); exact HO_1.out⟩, ⟨by (with_reducible repeat (first | apply Kd.N_alloc | apply Kd.N_drewN | apply Kd.N_drew)); exact HO_25.out⟩, ⟨by (with_reducible repeat (first | refine blk_drewN ?_ _ | refine blk_drew ?_ | refine blk_alloc ?_ _)); exact BK327.out⟩, ⟨by repeat (first | (with_reducible exact HR331_0.out) | (with_reducible refine Kd.C_alloc ?_ _) | (with_reducible refine Kd.C_drewN ?_ _) | (with_reducible refine Kd.C_drew ?_) | exact HR331_0.out)⟩, ⟨by repeat (first | (with_reducible first | exact HB.out | apply below_alloc | apply pw_below_drewN | apply below_drew1 | refine below_set ?_ GE327.out) | exact HB.out)⟩⟩
                            · rw [if_neg c19] at H
                              exact absurd H (by simp)
                          · rw [if_neg c18] at H
                            exact absurd H (by simp)
                        · rw [if_neg c17] at H
                          have c17b0 : decide (x38_3 < ((rd_L3 y328 x27_2).length : Int)) = false := decide_eq_false c17
                          clear c17
                          have H' := Aside0.mk H
                          clear H
                          go_wp2
                          go_roundg k3
                          case measure => have := HJ3.out; have := HK2.out; have := HK3.out; omega
                          case rel => exact ⟨(wrap64 (x27_2 + 1)), (x328000_3), (x328001_3), (by first | rfl | (simp; done) | (simp [*]; done)), H', ⟨by have := HJ3.out; have := HK2.out; have := HK3.out; omega⟩, ⟨by (with_reducible repeat (first | apply Kd.V_alloc | apply Kd.V_drewN | apply Kd.V_drew)); exact HO_0.out⟩, ⟨by (with_reducible repeat (first | apply Kd.V_alloc | apply Kd.V_drewN | apply Kd.V_drew)); exact HO_1.out⟩, ⟨by (with_reducible repeat (first | apply Kd.N_alloc | apply Kd.N_drewN | apply Kd.N_drew)); exact HO_25.out⟩, ⟨by (with_reducible repeat (first | refine blk_drewN ?_ _ | refine blk_drew ?_ | refine blk_alloc ?_ _)); exact BK327.out⟩, ⟨by repeat (first | (with_reducible first | exact HB.out | apply below_alloc | apply pw_below_drewN | apply below_drew1 | refine below_set ?_ GE327.out) | exact HB.out)⟩⟩
                · rw [if_neg c14] at H
                  exact absurd H (by simp)
              · rw [if_neg c13] at H
                exact absurd H (by simp)
            · rw [if_neg c12] at H
              have c12b0 : decide (x27_2 < (y328.length : Int)) = false := decide_eq_false c12
              clear c12
              obtain ⟨y334, hy334⟩ : ∃ y_ : List (List Int), y_ = (([l0, l1] : List (List Int))) := ⟨_, rfl⟩
              replace H : ((slices_Concat_int_int.f k2 y334).bind fun t337 => ((slices_Sort_int_int.f t337).bind fun t340 => ((slices_Compact_int_int.f t340).bind fun t341 => (if 0 ≤ (mn a2 (t341.length : Int)) then (if (mn a2 (t341.length : Int)) ≤ (t341.length : Int) then ((some (t341.take ((mn a2 (t341.length : Int)) : Int).toNat : List Int)).bind fun y344 => (chaseref1_EstimateOf.l2 k2 l0 l1 y344 0 y344 (y344.length : Int) 0)) else (none)) else (none))))) = some (r1, r2, r3) := by first | (rw [hy334]; with_reducible exact H) | (have H2_ := (Option.bind_some _ _).symm.trans H; rw [hy334]; with_reducible exact H2_) | (have H2_ := (Option.bind_some _ _).symm.trans H; with_reducible exact H2_) | with_reducible exact H | (rw [hy334]; exact H) | exact H
              have Ny334 := Aside0.mk hy334
              clear hy334
              replace H := Option.bind_eq_some_iff.mp H
              obtain ⟨t337, A280, H⟩ := H
              replace H : ((slices_Sort_int_int.f t337).bind fun t340 => ((slices_Compact_int_int.f t340).bind fun t341 => (if 0 ≤ (mn a2 (t341.length : Int)) then (if (mn a2 (t341.length : Int)) ≤ (t341.length : Int) then ((some (t341.take ((mn a2 (t341.length : Int)) : Int).toNat : List Int)).bind fun y344 => (chaseref1_EstimateOf.l2 k2 l0 l1 y344 0 y344 (y344.length : Int) 0)) else (none)) else (none)))) = some (r1, r2, r3) := H
              have A28 := Aside0.mk A280
              clear A280
              replace H := Option.bind_eq_some_iff.mp H
              obtain ⟨t340, A290, H⟩ := H
              replace H : ((slices_Compact_int_int.f t340).bind fun t341 => (if 0 ≤ (mn a2 (t341.length : Int)) then (if (mn a2 (t341.length : Int)) ≤ (t341.length : Int) then ((some (t341.take ((mn a2 (t341.length : Int)) : Int).toNat : List Int)).bind fun y344 => (chaseref1_EstimateOf.l2 k2 l0 l1 y344 0 y344 (y344.length : Int) 0)) else (none)) else (none))) = some (r1, r2, r3) := H
              have A29 := Aside0.mk A290
              clear A290
              replace H := Option.bind_eq_some_iff.mp H
              obtain ⟨t341, A300, H⟩ := H
              replace H : (if 0 ≤ (mn a2 (t341.length : Int)) then (if (mn a2 (t341.length : Int)) ≤ (t341.length : Int) then ((some (t341.take ((mn a2 (t341.length : Int)) : Int).toNat : List Int)).bind fun y344 => (chaseref1_EstimateOf.l2 k2 l0 l1 y344 0 y344 (y344.length : Int) 0)) else (none)) else (none)) = some (r1, r2, r3) := H
              have A30 := Aside0.mk A300
              clear A300
              obtain ⟨ji31, hji31⟩ : ∃ j_ : Int, (mn a2 (t341.length : Int)) = j_ := ⟨_, rfl⟩
              replace H : (if 0 ≤ (ji31) then (if (ji31) ≤ (t341.length : Int) then ((some (t341.take ((ji31) : Int).toNat : List Int)).bind fun y344 => (chaseref1_EstimateOf.l2 k2 l0 l1 y344 0 y344 (y344.length : Int) 0)) else (none)) else (none)) = some (r1, r2, r3) := by first | (rw [hji31] at H; exact H) | (simp only [hji31] at H ⊢; exact H)
              (try rw [hji31] at A28)
              (try rw [hji31] at A29)
              (try rw [hji31] at A30)
              have hji31_ : (if (t341.length : Int) < a2 then (t341.length : Int) else a2) = ji31 := hji31
              by_cases c32 : 0 ≤ (ji31)
              · rw [if_pos c32] at H
                have c32b0 := eq_true c32
                have c32b1 : decide (0 ≤ (ji31)) = true := decide_eq_true c32
                clear c32
                by_cases c33 : (ji31) ≤ (t341.length : Int)
                · rw [if_pos c33] at H
                  have c33b0 := eq_true c33
                  have c33b1 : decide ((ji31) ≤ (t341.length : Int)) = true := decide_eq_true c33
                  clear c33
                  obtain ⟨y344, hy344⟩ : ∃ y_ : List Int, y_ = (t341.take ((ji31) : Int).toNat) := ⟨_, rfl⟩
                  replace H : (chaseref1_EstimateOf.l2 k2 l0 l1 y344 0 y344 (y344.length : Int) 0) = some (r1, r2, r3) := by first | (rw [hy344]; with_reducible exact H) | (have H2_ := (Option.bind_some _ _).symm.trans H; rw [hy344]; with_reducible exact H2_) | (have H2_ := (Option.bind_some _ _).symm.trans H; with_reducible exact H2_) | with_reducible exact H | (rw [hy344]; exact H) | exact H
                  have Ny344 := Aside0.mk hy344
                  clear hy344
                  have H' := Aside0.mk H
                  clear H
                  go_wp2_with (first | ((with_reducible refine gate_dst (N := 62) rfl ?_); refine Kd.N_lit (Kd.slice 3 (Kd.int .i64)) _ 22 ?hg (N' := 62) ?hd (xs := ([l0, l1] : List (List Int))) (inner := [.slice A0 l0.length c0, .slice A1 l1.length c1]) (ok := (fun k_ => ((P0_ k_ ∨ P1_ k_) ∨ w.heap.size ≤ k_) ∧ some k_ ≠ (.slice Ao11 y328.length co11 : Value).ownBlock ∧ k_ ≠ gb327)) (okp := (fun k_ => ((P0_ k_ ∨ P1_ k_) ∨ w.heap.size ≤ k_) ∧ some k_ ≠ (.slice Ao11 y328.length co11 : Value).ownBlock ∧ k_ ≠ gb327)) ?hr ?hp (fun _ hk => hk) ((show ∀ k_, wr.heap.size ≤ k_ → (fun k_ => ((P0_ k_ ∨ P1_ k_) ∨ w.heap.size ≤ k_) ∧ some k_ ≠ (.slice Ao11 y328.length co11 : Value).ownBlock ∧ k_ ≠ gb327) k_ from fun k_ hk => ⟨(.inr (Nat.le_trans (below_size (by repeat (first | (with_reducible first | exact HB.out | apply below_alloc | apply pw_below_drewN | apply below_drew1 | refine below_set ?_ GE327.out) | exact HB.out))) hk)), Kd.fresh' (Kd.N_lt (by (with_reducible repeat (first | apply Kd.N_alloc | apply Kd.N_drewN | apply Kd.N_drew)); exact HO_25.out)) k_ hk, Kd.freshB (g := gb327) (o := .cells #[.int .i64 x328000_2, .int .i64 x328001_2] 35 (0, 0)) (by (with_reducible repeat (first | refine blk_drewN ?_ _ | refine blk_drew ?_ | refine blk_alloc ?_ _)); exact BK327.out) k_ hk⟩) _ (Nat.le_refl _)) (Below.refl _ _) (Nat.le_refl _) (by simp) ?_; (case hd => rfl); (case hg => rfl); (case hr => first | (go_simp; done) | (go_simp; rfl)); (case hp => exact (Reps.one (show Kd.FK (Kd.slice 3 (Kd.int .i64)) _ _ l0 [.slice A0 l0.length c0] from (Kd.FK_slice_mk (Kd.V_reads' (Kd.V_mono (ok' := (fun k_ => ((P0_ k_ ∨ P1_ k_) ∨ w.heap.size ≤ k_) ∧ some k_ ≠ (.slice Ao11 y328.length co11 : Value).ownBlock ∧ k_ ≠ gb327)) (HO_0.out) (fun k_ hk => ⟨hk.1, ⟨(by first | with_reducible exact hk.2.1 | exact own_len_ hk.2.1 | exact hk.2.1), hk.2.2⟩⟩))).2.1 (by first | with_reducible exact Kd.V_F (Kd.V_mono (ok' := (fun k_ => ((P0_ k_ ∨ P1_ k_) ∨ w.heap.size ≤ k_) ∧ some k_ ≠ (.slice Ao11 y328.length co11 : Value).ownBlock ∧ k_ ≠ gb327)) (HO_0.out) (fun k_ hk => ⟨hk.1, ⟨(by first | with_reducible exact hk.2.1 | exact own_len_ hk.2.1 | exact hk.2.1), hk.2.2⟩⟩)) | ((with_reducible repeat (first | apply Kd.F_alloc | apply Kd.F_drewN | apply Kd.F_drew)); exact Kd.V_F (Kd.V_mono (ok' := (fun k_ => ((P0_ k_ ∨ P1_ k_) ∨ w.heap.size ≤ k_) ∧ some k_ ≠ (.slice Ao11 y328.length co11 : Value).ownBlock ∧ k_ ≠ gb327)) (HO_0.out) (fun k_ hk => ⟨hk.1, ⟨(by first | with_reducible exact hk.2.1 | exact own_len_ hk.2.1 | exact hk.2.1), hk.2.2⟩⟩)))))) (Reps.one (show Kd.FK (Kd.slice 3 (Kd.int .i64)) _ _ l1 [.slice A1 l1.length c1] from (Kd.FK_slice_mk (Kd.V_reads' (Kd.V_mono (ok' := (fun k_ => ((P0_ k_ ∨ P1_ k_) ∨ w.heap.size ≤ k_) ∧ some k_ ≠ (.slice Ao11 y328.length co11 : Value).ownBlock ∧ k_ ≠ gb327)) (HO_1.out) (fun k_ hk => ⟨hk.1, ⟨(by first | with_reducible exact hk.2.1 | exact own_len_ hk.2.1 | exact hk.2.1), hk.2.2⟩⟩))).2.1 (by first | with_reducible exact Kd.V_F (Kd.V_mono (ok' := (fun k_ => ((P0_ k_ ∨ P1_ k_) ∨ w.heap.size ≤ k_) ∧ some k_ ≠ (.slice Ao11 y328.length co11 : Value).ownBlock ∧ k_ ≠ gb327)) (HO_1.out) (fun k_ hk => ⟨hk.1, ⟨(by first | with_reducible exact hk.2.1 | exact own_len_ hk.2.1 | exact hk.2.1), hk.2.2⟩⟩)) | ((with_reducible repeat (first | apply Kd.F_alloc | apply Kd.F_drewN | apply Kd.F_drew)); exact Kd.V_F (Kd.V_mono (ok' := (fun k_ => ((P0_ k_ ∨ P1_ k_) ∨ w.heap.size ≤ k_) ∧ some k_ ≠ (.slice Ao11 y328.length co11 : Value).ownBlock ∧ k_ ≠ gb327)) (HO_1.out) (fun k_ hk => ⟨hk.1, ⟨(by first | with_reducible exact hk.2.1 | exact own_len_ hk.2.1 | exact hk.2.1), hk.2.2⟩⟩)))))) (Reps.none _ _)))); intro v335 w34 ho35 hb hg_ hnew_; clear hg_ hnew_; (first | rw [← Ny334.out] at ho35 | (simp only [Int.reduceToNat] at ho35; rw [← Ny334.out] at ho35)); have n0_ := Aside0.mk (Kd.V_elder' (by (with_reducible repeat (first | apply Kd.V_alloc | apply Kd.V_drewN | apply Kd.V_drew)); exact HO_0.out) (Kd.N_base ho35) hb); have n1_ := Aside0.mk (Kd.V_elder' (by (with_reducible repeat (first | apply Kd.V_alloc | apply Kd.V_drewN | apply Kd.V_drew)); exact HO_1.out) (Kd.N_base ho35) hb); have n2_ := Aside0.mk (Kd.N_elder' (by (with_reducible repeat (first | apply Kd.N_alloc | apply Kd.N_drewN | apply Kd.N_drew)); exact HO_25.out) (Kd.N_base ho35) hb); have n3_ := Aside0.mk (Kd.N_lower ho35 (below_size (by repeat (first | (with_reducible first | exact HB.out | apply below_alloc | apply pw_below_drewN | apply below_drew1 | refine below_set ?_ GE327.out) | exact HB.out)))); have n4_ := Aside0.mk (blk_below (g := gb327) (o := .cells #[.int .i64 x328000_2, .int .i64 x328001_2] 35 (0, 0)) (by (with_reducible repeat (first | refine blk_drewN ?_ _ | refine blk_drew ?_ | refine blk_alloc ?_ _)); exact BK327.out) hb); have n5_ := Aside0.mk (below_step (by repeat (first | (with_reducible first | exact HB.out | apply below_alloc | apply pw_below_drewN | apply below_drew1 | refine below_set ?_ GE327.out) | exact HB.out)) hb); clear HO_0; clear HO_1; clear HO_25; clear BK327; clear HB; have HO_0 := n0_; have HO_1 := n1_; have HO_25 := n2_; have HO336 := n3_; have BK327 := n4_; have HB := n5_; clear n0_ n1_ n2_ n3_ n4_ n5_; clear hb ho35; obtain ⟨Ao36, co36, eo36⟩ := Kd.N_slice HO336.out; subst eo36) | ((with_reducible refine gate_callee (f := 44) rfl ?_); refine goesL_ (some 63) rfl rfl Try.func44 (by kernel_rfl) rfl #[.slice Ao36 y334.length co36] rfl (by (try simp only [List.map_toArray, List.map_cons, List.map_nil]); first | done | rfl | (simp only [List.length_drop, List.length_take]; rfl)) ?_; (with_reducible refine (slices_Concat_int_int.calls k2 _ _ y334 t337 _ ?side1 ?side2 A28.out).mono ?_); (case side1 => repeat (first | exact (Kd.N_reads' HO336.out).2.2 | (with_reducible refine Kd.C_alloc ?_ _) | (with_reducible refine Kd.C_drewN ?_ _) | (with_reducible refine Kd.C_drew ?_))); (case side2 => exact (Kd.N_reads' HO336.out).2.1); rintro e w37 ⟨v338, rfl, ho0, hb⟩; refine ⟨_, rfl, ?_⟩; have n0_ := Aside0.mk (Kd.V_elder' (by (with_reducible repeat (first | apply Kd.V_alloc | apply Kd.V_drewN | apply Kd.V_drew)); exact HO_0.out) (Kd.R_base ho0) hb); have n1_ := Aside0.mk (Kd.V_elder' (by (with_reducible repeat (first | apply Kd.V_alloc | apply Kd.V_drewN | apply Kd.V_drew)); exact HO_1.out) (Kd.R_base ho0) hb); have n2_ := Aside0.mk (Kd.N_elder' (by (with_reducible repeat (first | apply Kd.N_alloc | apply Kd.N_drewN | apply Kd.N_drew)); exact HO_25.out) (Kd.R_base ho0) hb); have n3_ := Aside0.mk (Kd.N_elder' (by (with_reducible repeat (first | apply Kd.N_alloc | apply Kd.N_drewN | apply Kd.N_drew)); exact HO336.out) (Kd.R_base ho0) hb); have n4_ := Aside0.mk (Kd.R_lower (Kd.R_newM (M := fun k_ => (w.heap.size ≤ k_)) ho0 (below_size (by repeat (first | (with_reducible first | exact HB.out | apply below_alloc | apply pw_below_drewN | apply below_drew1 | refine below_set ?_ GE327.out) | exact HB.out))) (fun k_ h_ => h_)) (below_size (by repeat (first | (with_reducible first | exact HB.out | apply below_alloc | apply pw_below_drewN | apply below_drew1 | refine below_set ?_ GE327.out) | exact HB.out)))); have n5_ := Aside0.mk (blk_below (g := gb327) (o := .cells #[.int .i64 x328000_2, .int .i64 x328001_2] 35 (0, 0)) (by (with_reducible repeat (first | refine blk_drewN ?_ _ | refine blk_drew ?_ | refine blk_alloc ?_ _)); exact BK327.out) hb); have n6_ := Aside0.mk (below_step (by repeat (first | (with_reducible first | exact HB.out | apply below_alloc | apply pw_below_drewN | apply below_drew1 | refine below_set ?_ GE327.out) | exact HB.out)) hb); clear HO_0; clear HO_1; clear HO_25; clear HO336; clear BK327; clear HB; have HO_0 := n0_; have HO_1 := n1_; have HO_25 := n2_; have HO336 := n3_; have HO339 := n4_; have BK327 := n5_; have HB := n6_; clear n0_ n1_ n2_ n3_ n4_ n5_ n6_; (try clear hb); (try clear hb2); (try clear hk); (try clear hi); (try clear ho0); obtain ⟨Ao38, co38, eo38⟩ := Kd.R_slice HO339.out; subst eo38) | ((with_reducible refine gate_callee (f := 39) rfl ?_); refine goesL_ (some 65) rfl rfl Try.func39 (by kernel_rfl) rfl #[.slice Ao38 t337.length co38] rfl (by (try simp only [List.map_toArray, List.map_cons, List.map_nil]); first | done | rfl | (simp only [List.length_drop, List.length_take]; rfl)) ?_; (with_reducible refine (slices_Sort_int_int.calls (fun k_ => some k_ = (.slice Ao38 t337.length co38 : Value).ownBlock) (.slice Ao38 t337.length co38) t337 t340 w _ ?side1 ?side2 A29.out).mono ?_); (case side1 => repeat (first | (with_reducible first | exact HB.out | apply below_alloc | apply pw_below_drewN | apply below_drew1 | refine below_set ?_ GE327.out) | exact HB.out)); (case side2 => exact Kd.R_tight rfl HO339.out); rintro e w39 ⟨rfl, hy0, hb, hkp⟩; refine ⟨_, rfl, ?_⟩; have n0_ := Aside0.mk (Kd.V_mono (ok' := fun k_ => ((P0_ k_ ∨ P1_ k_) ∨ w.heap.size ≤ k_) ∧ some k_ ≠ (.slice Ao11 y328.length co11 : Value).ownBlock ∧ some k_ ≠ (.slice Ao36 y334.length co36 : Value).ownBlock ∧ some k_ ≠ (.slice Ao38 t337.length co38 : Value).ownBlock ∧ k_ ≠ gb327) (Kd.V_keptB (HO_0.out) hkp (fun k_ hk_ hs_ => (hk_.2) hs_)) (fun k_ hk_ => ⟨hk_.1.1.1.1, hk_.1.1.1.2.1, hk_.1.1.2, hk_.1.2, hk_.1.1.1.2.2⟩)); have n1_ := Aside0.mk (Kd.V_mono (ok' := fun k_ => ((P0_ k_ ∨ P1_ k_) ∨ w.heap.size ≤ k_) ∧ some k_ ≠ (.slice Ao11 y328.length co11 : Value).ownBlock ∧ some k_ ≠ (.slice Ao36 y334.length co36 : Value).ownBlock ∧ some k_ ≠ (.slice Ao38 t337.length co38 : Value).ownBlock ∧ k_ ≠ gb327) (Kd.V_keptB (HO_1.out) hkp (fun k_ hk_ hs_ => (hk_.2) hs_)) (fun k_ hk_ => ⟨hk_.1.1.1.1, hk_.1.1.1.2.1, hk_.1.1.2, hk_.1.2, hk_.1.1.1.2.2⟩)); have n2_ := Aside0.mk (Kd.N_mono (ok' := fun k_ => ((P0_ k_ ∨ P1_ k_) ∨ w.heap.size ≤ k_) ∧ some k_ ≠ (.slice Ao36 y334.length co36 : Value).ownBlock ∧ some k_ ≠ (.slice Ao38 t337.length co38 : Value).ownBlock ∧ k_ ≠ gb327) (Kd.N_keptB (HO_25.out) hkp (fun k_ hk_ hs_ => (hk_.2) hs_)) (fun k_ hk_ => ⟨hk_.1.1.1.1, hk_.1.1.2, hk_.1.2, hk_.1.1.1.2⟩)); have n3_ := Aside0.mk (blk_kept (by (with_reducible repeat (first | refine blk_drewN ?_ _ | refine blk_drew ?_ | refine blk_alloc ?_ _)); exact BK327.out) hkp (fun hs_ => (fun e_ => (Kd.R_ne HO339.out BK327.out (by decide)) e_) hs_)); have n4_ := Aside0.mk (Kd.N_mono (ok' := fun k_ => ((P0_ k_ ∨ P1_ k_) ∨ w.heap.size ≤ k_) ∧ some k_ ≠ (.slice Ao11 y328.length co11 : Value).ownBlock ∧ some k_ ≠ (.slice Ao38 t337.length co38 : Value).ownBlock ∧ k_ ≠ gb327) (Kd.N_keptB (HO336.out) hkp (fun k_ hk_ hs_ => (hk_.2) hs_)) (fun k_ hk_ => ⟨hk_.1.1.1, hk_.1.1.2.1, hk_.1.2, hk_.1.1.2.2⟩)); have n5_ := Aside0.mk (Kd.R_reok rfl hy0 (fun k_ e_ => HO339.out.1 k_ e_)); have n6_ := Aside0.mk (hb); clear HO_0; clear HO_1; clear HO_25; clear BK327; clear HO336; clear HO339; clear HB; have HO_0 := n0_; have HO_1 := n1_; have HO_25 := n2_; have BK327 := n3_; have HO336 := n4_; have HO339 := n5_; have HB := n6_; clear n0_ n1_ n2_ n3_ n4_ n5_ n6_; (try clear hb); (try clear hkp); (try clear hy0)) | ((with_reducible refine gate_callee (f := 40) rfl ?_); refine goesL_ (some 67) rfl rfl Try.func40 (by kernel_rfl) rfl #[.slice Ao38 t337.length co38] rfl (by (try simp only [List.map_toArray, List.map_cons, List.map_nil]); first | done | rfl | (simp only [List.length_drop, List.length_take]; rfl)) ?_; (with_reducible refine (slices_Compact_int_int.calls (fun k_ => some k_ = (.slice Ao38 t337.length co38 : Value).ownBlock) (.slice Ao38 t337.length co38) t340 t341 w _ ?side1 ?side2 A30.out).mono ?_); (case side1 => repeat (first | (with_reducible first | exact HB.out | apply below_alloc | apply pw_below_drewN | apply below_drew1 | refine below_set ?_ GE327.out) | exact HB.out)); (case side2 => exact Kd.R_tight rfl HO339.out); rintro e w40 ⟨v342, rfl, ho0, hb, hkp⟩; refine ⟨_, rfl, ?_⟩; have n0_ := Aside0.mk (Kd.V_mono (ok' := fun k_ => ((P0_ k_ ∨ P1_ k_) ∨ w.heap.size ≤ k_) ∧ some k_ ≠ (.slice Ao11 y328.length co11 : Value).ownBlock ∧ some k_ ≠ (.slice Ao36 y334.length co36 : Value).ownBlock ∧ k_ ≠ gb327 ∧ some k_ ≠ (v342 : Value).ownBlock) (Kd.V_keptB (HO_0.out) hkp (fun k_ hk_ hs_ => (hk_.2.2.2.1) hs_)) (fun k_ hk_ => ⟨hk_.1.1, hk_.1.2.1, hk_.1.2.2.1, hk_.1.2.2.2.2, fun e_ => Or.elim (ho0.1 k_ e_.symm) (fun hs_ => hk_.2.1 hs_) (fun hn_ => Nat.not_le.2 hk_.2.2 hn_)⟩)); have n1_ := Aside0.mk (Kd.V_mono (ok' := fun k_ => ((P0_ k_ ∨ P1_ k_) ∨ w.heap.size ≤ k_) ∧ some k_ ≠ (.slice Ao11 y328.length co11 : Value).ownBlock ∧ some k_ ≠ (.slice Ao36 y334.length co36 : Value).ownBlock ∧ k_ ≠ gb327 ∧ some k_ ≠ (v342 : Value).ownBlock) (Kd.V_keptB (HO_1.out) hkp (fun k_ hk_ hs_ => (hk_.2.2.2.1) hs_)) (fun k_ hk_ => ⟨hk_.1.1, hk_.1.2.1, hk_.1.2.2.1, hk_.1.2.2.2.2, fun e_ => Or.elim (ho0.1 k_ e_.symm) (fun hs_ => hk_.2.1 hs_) (fun hn_ => Nat.not_le.2 hk_.2.2 hn_)⟩)); have n2_ := Aside0.mk (Kd.N_mono (ok' := fun k_ => ((P0_ k_ ∨ P1_ k_) ∨ w.heap.size ≤ k_) ∧ some k_ ≠ (.slice Ao36 y334.length co36 : Value).ownBlock ∧ k_ ≠ gb327 ∧ some k_ ≠ (v342 : Value).ownBlock) (Kd.N_keptB (HO_25.out) hkp (fun k_ hk_ hs_ => (hk_.2.2.1) hs_)) (fun k_ hk_ => ⟨hk_.1.1, hk_.1.2.1, hk_.1.2.2.2, fun e_ => Or.elim (ho0.1 k_ e_.symm) (fun hs_ => hk_.2.1 hs_) (fun hn_ => Nat.not_le.2 hk_.2.2 hn_)⟩)); have n3_ := Aside0.mk (blk_kept (by (with_reducible repeat (first | refine blk_drewN ?_ _ | refine blk_drew ?_ | refine blk_alloc ?_ _)); exact BK327.out) hkp (fun hs_ => (fun e_ => (Kd.R_ne HO339.out BK327.out (by decide)) e_) hs_)); have n4_ := Aside0.mk (Kd.N_mono (ok' := fun k_ => ((P0_ k_ ∨ P1_ k_) ∨ w.heap.size ≤ k_) ∧ some k_ ≠ (.slice Ao11 y328.length co11 : Value).ownBlock ∧ k_ ≠ gb327 ∧ some k_ ≠ (v342 : Value).ownBlock) (Kd.N_keptB (HO336.out) hkp (fun k_ hk_ hs_ => (hk_.2.2.1) hs_)) (fun k_ hk_ => ⟨hk_.1.1, hk_.1.2.1, hk_.1.2.2.2, fun e_ => Or.elim (ho0.1 k_ e_.symm) (fun hs_ => hk_.2.1 hs_) (fun hn_ => Nat.not_le.2 hk_.2.2 hn_)⟩)); have n5_ := Aside0.mk (Kd.R_mono (ok' := fun k_ => (w.heap.size ≤ k_)) ho0 (fun k_ hk_ => Or.elim hk_ (fun hs_ => (HO339.out.1 k_ (hs_).symm).1) (fun hn_ => (Nat.le_trans (below_size (by repeat (first | (with_reducible first | exact HB.out | apply below_alloc | apply pw_below_drewN | apply below_drew1 | refine below_set ?_ GE327.out) | exact HB.out))) hn_)))); have n6_ := Aside0.mk (hb); clear HO_0; clear HO_1; clear HO_25; clear BK327; clear HO336; clear HB; clear HO339; have HO_0 := n0_; have HO_1 := n1_; have HO_25 := n2_; have BK327 := n3_; have HO336 := n4_; have HO343 := n5_; have HB := n6_; clear n0_ n1_ n2_ n3_ n4_ n5_ n6_; (try clear hb); (try clear hkp); (try clear ho0); obtain ⟨Ao41, co41, eo41⟩ := Kd.R_slice HO343.out; subst eo41; have q42 : ((ji31) : Int) ≤ ((t341.length : Int) : Int) := of_decide_eq_true (by first | (with_reducible assumption) | assumption); obtain ⟨i042, hi042, _, hsz42, _⟩ := info_parts info3; have hcut42 := cut_to (P := Try.prog) 22 3 .i64 Try.underlying22 hi042 Ao41 t341.length co41 (ji31) (of_decide_eq_true (by first | (with_reducible assumption) | assumption)) q42 (Kd.R_reads' HO343.out).2.1; have hr42 := Kd.R_take (m := ((ji31) : Int).toNat) HO343.out (by omega); have hy42 : y344.length = ((ji31) : Int).toNat := (by rw [Ny344.out, List.length_take]; omega); rw [← Ny344.out] at hr42; rw [← hy42] at hr42 hcut42; clear hy42 hi042 hsz42 HO343; have HO346 := Aside0.mk hr42; clear hr42; replace q42 := eq_true q42))
                  go_loopg [13, 76] k2 (fun kq v13 v76 w' => ∃ (x13_3 : Int) (x76_3 : Int), v13 = .int .i64 x13_3 ∧ v76 = .int .i64 x76_3 ∧ Aside0 (chaseref1_EstimateOf.l2 kq l0 l1 y344 x13_3 y344 (y344.length : Int) x76_3 = some (r1, r2, r3)) ∧ Aside0 (kq ≤ k2) ∧ Aside0 (Kd.V (Kd.int .i64) 3 w' w.heap.size (fun k_ => ((P0_ k_ ∨ P1_ k_) ∨ w.heap.size ≤ k_) ∧ some k_ ≠ ((.slice Ao41 y344.length co41) : Value).ownBlock ∧ some k_ ≠ ((.slice Ao41 y344.length co41) : Value).ownBlock ∧ k_ ≠ gb327) (.slice A0 l0.length c0) l0) ∧ Aside0 (Kd.V (Kd.int .i64) 3 w' w.heap.size (fun k_ => ((P0_ k_ ∨ P1_ k_) ∨ w.heap.size ≤ k_) ∧ some k_ ≠ ((.slice Ao41 y344.length co41) : Value).ownBlock ∧ some k_ ≠ ((.slice Ao41 y344.length co41) : Value).ownBlock ∧ k_ ≠ gb327) (.slice A1 l1.length c1) l1) ∧ Aside0 (Kd.R (Kd.int .i64) 3 w' w.heap.size (fun k_ => (w.heap.size ≤ k_)) (.slice Ao41 y344.length co41) y344) ∧ Aside0 (Kd.R (Kd.int .i64) 3 w' w.heap.size (fun k_ => (w.heap.size ≤ k_)) (.slice Ao41 y344.length co41) y344) ∧ Aside0 (w'.heap[gb327]? = some (.cells #[.int .i64 x328000_2, .int .i64 x328001_2] 35 (0, 0))) ∧ Aside0 (Below w.heap.size w w'))
                  case atStart => exact ⟨(0), (0), (by first | rfl | (simp; done) | (simp [*]; done)), (by first | rfl | (simp; done) | (simp [*]; done)), H', ⟨Nat.le_refl _⟩, ⟨by (with_reducible repeat (first | apply Kd.V_alloc | apply Kd.V_drewN | apply Kd.V_drew)); exact Kd.V_mono HO_0.out (fun _ hk => ⟨hk.1, ⟨(by first | with_reducible exact hk.2.2.2.2 | exact own_len_ hk.2.2.2.2 | exact hk.2.2.2.2), ⟨(by first | with_reducible exact hk.2.2.2.2 | exact own_len_ hk.2.2.2.2 | exact hk.2.2.2.2), hk.2.2.2.1⟩⟩⟩)⟩, ⟨by (with_reducible repeat (first | apply Kd.V_alloc | apply Kd.V_drewN | apply Kd.V_drew)); exact Kd.V_mono HO_1.out (fun _ hk => ⟨hk.1, ⟨(by first | with_reducible exact hk.2.2.2.2 | exact own_len_ hk.2.2.2.2 | exact hk.2.2.2.2), ⟨(by first | with_reducible exact hk.2.2.2.2 | exact own_len_ hk.2.2.2.2 | exact hk.2.2.2.2), hk.2.2.2.1⟩⟩⟩)⟩, ⟨by (with_reducible repeat (first | apply Kd.R_alloc | apply Kd.R_drewN | apply Kd.R_drew)); exact HO346.out⟩, ⟨by (with_reducible repeat (first | apply Kd.R_alloc | apply Kd.R_drewN | apply Kd.R_drew)); exact HO346.out⟩, ⟨by (with_reducible repeat (first | refine blk_drewN ?_ _ | refine blk_drew ?_ | refine blk_alloc ?_ _)); exact BK327.out⟩, ⟨by repeat (first | (with_reducible first | exact HB.out | apply below_alloc | apply pw_below_drewN | apply below_drew1 | refine below_set ?_ GE327.out) | exact HB.out)⟩⟩
                  case round =>
                    clear H'
                    try clear c1
                    try clear c2
                    try clear p2
                    try clear c3
                    try clear p3
                    try clear q3
                    try clear hx3
                    try clear c4
                    try clear q4
                    try clear c6
                    try clear c6b0
                    try clear p6
                    try clear c7
                    try clear c12
                    try clear c12b0
                    try clear c13
                    try clear c13b0
                    try clear c14
                    try clear c14b0
                    try clear c15
                    try clear c15b0
                    try clear c17
                    try clear c17b0
                    try clear c18
                    try clear c18b0
                    try clear c19
                    try clear c19b0
                    try clear c20
                    try clear c20b0
                    try clear c22
                    try clear c22b0
                    try clear c24
                    try clear c24b0
                    try clear c25
                    try clear c25b0
                    try clear c26
                    try clear c26b0
                    try clear c32
                    try clear c32b0
                    try clear c32b1
                    try clear c33
                    try clear c33b0
                    try clear c33b1
                    try clear p33
                    try clear q33
                    try clear hx33
                    try clear c39
                    try clear c40
                    try clear q42
                    try clear hcz16_0
                    try clear hcz16_1
                    try clear hcz21_0
                    try clear hcz21_1
                    try clear hcz27_0
                    try clear hcz27_1
                    try clear hcz8_0
                    try clear hcz8_1
                    try clear hfz16_0
                    try clear hfz16_1
                    try clear hfz21_0
                    try clear hfz21_1
                    try clear hfz27_0
                    try clear hfz27_1
                    try clear hfz8_0
                    try clear hfz8_1
                    try clear hx331_0
                    try clear hx332_0
                    try clear hx333_0
                    try clear p2
                    try clear p3
                    try clear p331
                    try clear p332
                    try clear p333
                    try clear q3
                    try clear q331
                    try clear q332
                    try clear q333
                    try clear q42
                    obtain ⟨x13_3, x76_3, rfl, rfl, HA, HK3, HO_0, HO_1, HO_12, HO_74, BK327, HB⟩ := hrel
                    cases gk with
                    | zero => exact absurd HA.out (by simp [chaseref1_EstimateOf.l2])
                    | succ k3 =>
                      have H := HA.out
                      clear HA
                      simp only [chaseref1_EstimateOf.l2] at H
                      by_cases c43 : x76_3 < (y344.length : Int)
                      · rw [if_pos c43] at H
                        have c43b0 : decide (x76_3 < (y344.length : Int)) = true := decide_eq_true c43
                        clear c43
                        by_cases c44 : 0 ≤ x76_3
                        · rw [if_pos c44] at H
                          have c44b0 : decide (0 ≤ x76_3) = true := decide_eq_true c44
                          clear c44
                          by_cases c45 : x76_3 < (y344.length : Int)
                          · rw [if_pos c45] at H
                            have c45b0 : decide (x76_3 < (y344.length : Int)) = true := decide_eq_true c45
                            clear c45
                            replace H := Option.bind_eq_some_iff.mp H
                            obtain ⟨t350, A460, H⟩ := H
                            replace H : (if t350 = true then ((slices_Contains_int_int.f k3 l1 (rd y344 x76_3)).bind fun t351 => (if t351 = true then (chaseref1_EstimateOf.l2 k3 l0 l1 y344 (wrap64 (x13_3 + 1)) y344 (y344.length : Int) (wrap64 (x76_3 + 1))) else (chaseref1_EstimateOf.l2 k3 l0 l1 y344 x13_3 y344 (y344.length : Int) (wrap64 (x76_3 + 1))))) else (chaseref1_EstimateOf.l2 k3 l0 l1 y344 x13_3 y344 (y344.length : Int) (wrap64 (x76_3 + 1)))) = some (r1, r2, r3) := H
                            have A46 := Aside0.mk A460
                            clear A460
                            by_cases c47 : t350 = true
                            · subst c47
                              have H1 : ((slices_Contains_int_int.f k3 l1 (rd y344 x76_3)).bind fun t351 => (if t351 = true then (chaseref1_EstimateOf.l2 k3 l0 l1 y344 (wrap64 (x13_3 + 1)) y344 (y344.length : Int) (wrap64 (x76_3 + 1))) else (chaseref1_EstimateOf.l2 k3 l0 l1 y344 x13_3 y344 (y344.length : Int) (wrap64 (x76_3 + 1))))) = some (r1, r2, r3) := by rw [if_pos rfl] at H; exact H
                              clear H
                              have H := H1
                              clear H1
                              replace H := Option.bind_eq_some_iff.mp H
                              obtain ⟨t351, A480, H⟩ := H
                              replace H : (if t351 = true then (chaseref1_EstimateOf.l2 k3 l0 l1 y344 (wrap64 (x13_3 + 1)) y344 (y344.length : Int) (wrap64 (x76_3 + 1))) else (chaseref1_EstimateOf.l2 k3 l0 l1 y344 x13_3 y344 (y344.length : Int) (wrap64 (x76_3 + 1)))) = some (r1, r2, r3) := H
                              have A48 := Aside0.mk A480
                              clear A480
                              by_cases c49 : t351 = true
                              · subst c49
                                have H1 : (chaseref1_EstimateOf.l2 k3 l0 l1 y344 (wrap64 (x13_3 + 1)) y344 (y344.length : Int) (wrap64 (x76_3 + 1))) = some (r1, r2, r3) := by rw [if_pos rfl] at H; exact H
                                clear H
                                have H := H1
                                clear H1
                                have H' := Aside0.mk H
                                clear H
                                have p349 : 0 ≤ (x76_3 : Int) := of_decide_eq_true (by first | (with_reducible assumption) | assumption)
                                have q349 : x76_3 < (y344.length : Int) := of_decide_eq_true (by first | (with_reducible assumption) | assumption)
                                obtain ⟨ad349, e349, hx349_0⟩ := Kd.at_int (Kd.R_reads' HO_74.out).2.2 x76_3 p349 q349
                                cases e349
                                replace p349 := eq_true p349
                                replace q349 := eq_true q349
                                go_wp2_with (first | ((with_reducible refine gate_callee (f := 47) rfl ?_); refine goesL_ (some 82) rfl rfl Try.func47 (by kernel_rfl) rfl #[.slice A0 l0.length c0, .int .i64 (rd y344 x76_3)] rfl (by (try simp only [List.map_toArray, List.map_cons, List.map_nil]); first | done | rfl | (simp only [List.length_drop, List.length_take]; rfl)) ?_; (with_reducible refine (slices_Contains_int_int.calls k3 _ _ l0 (rd y344 x76_3) true _ ?side1 ?side2 A46.out).mono ?_); (case side1 => repeat (first | exact (Kd.V_reads' HO_0.out).2.2 | (with_reducible refine Kd.C_alloc ?_ _) | (with_reducible refine Kd.C_drewN ?_ _) | (with_reducible refine Kd.C_drew ?_))); (case side2 => exact (Kd.V_reads' HO_0.out).2.1); rintro e w' ⟨rfl, ⟨nd, rfl⟩⟩; refine ⟨_, rfl, ?_⟩) | (go_at_call 47; (with_reducible refine (slices_Contains_int_int.calls k3 _ _ l1 (rd y344 x76_3) true _ ?side1 ?side2 A48.out).mono ?_); (case side1 => repeat (first | exact (Kd.V_reads' HO_1.out).2.2 | (with_reducible refine Kd.C_alloc ?_ _) | (with_reducible refine Kd.C_drewN ?_ _) | (with_reducible refine Kd.C_drew ?_))); (case side2 => exact (Kd.V_reads' HO_1.out).2.1); rintro e w' ⟨rfl, ⟨nd, rfl⟩⟩))
                                go_roundg k3
                                case measure => have := HJ3.out; have := HK2.out; have := HK3.out; omega
                                case rel => exact ⟨(wrap64 (x13_3 + 1)), (wrap64 (x76_3 + 1)), (by first | rfl | (simp; done) | (simp [*]; done)), (by first | rfl | (simp; done) | (simp [*]; done)), H', ⟨by have := HJ3.out; have := HK2.out; have := HK3.out; omega⟩, ⟨by (with_reducible repeat (first | apply Kd.V_alloc | apply Kd.V_drewN | apply Kd.V_drew)); exact HO_0.out⟩, ⟨by (with_reducible repeat (first | apply Kd.V_alloc | apply Kd.V_drewN | apply Kd.V_drew)); exact HO_1.out⟩, ⟨by (with_reducible repeat (first | apply Kd.R_alloc | apply Kd.R_drewN | apply Kd.R_drew)); exact HO_12.out⟩, ⟨by (with_reducible repeat (first | apply Kd.R_alloc | apply Kd.R_drewN | apply Kd.R_drew)); exact HO_74.out⟩, ⟨by (with_reducible repeat (first | refine blk_drewN ?_ _ | refine blk_drew ?_ | refine blk_alloc ?_ _)); exact BK327.out⟩, ⟨by repeat (first | (with_reducible first | exact HB.out | apply below_alloc | apply pw_below_drewN | apply below_drew1 | refine below_set ?_ GE327.out) | exact HB.out)⟩⟩
                              · replace c49 := Bool.eq_false_iff.mpr c49
                                subst c49
                                have H1 : (chaseref1_EstimateOf.l2 k3 l0 l1 y344 x13_3 y344 (y344.length : Int) (wrap64 (x76_3 + 1))) = some (r1, r2, r3) := by rw [if_neg (show ¬ (false = true) by decide)] at H; exact H
                                clear H
                                have H := H1
                                clear H1
                                have H' := Aside0.mk H
                                clear H
                                have p349 : 0 ≤ (x76_3 : Int) := of_decide_eq_true (by first | (with_reducible assumption) | assumption)
                                have q349 : x76_3 < (y344.length : Int) := of_decide_eq_true (by first | (with_reducible assumption) | assumption)
                                obtain ⟨ad349, e349, hx349_0⟩ := Kd.at_int (Kd.R_reads' HO_74.out).2.2 x76_3 p349 q349
                                cases e349
                                replace p349 := eq_true p349
                                replace q349 := eq_true q349
                                go_wp2_with (first | ((with_reducible refine gate_callee (f := 47) rfl ?_); refine goesL_ (some 82) rfl rfl Try.func47 (by kernel_rfl) rfl #[.slice A0 l0.length c0, .int .i64 (rd y344 x76_3)] rfl (by (try simp only [List.map_toArray, List.map_cons, List.map_nil]); first | done | rfl | (simp only [List.length_drop, List.length_take]; rfl)) ?_; (with_reducible refine (slices_Contains_int_int.calls k3 _ _ l0 (rd y344 x76_3) true _ ?side1 ?side2 A46.out).mono ?_); (case side1 => repeat (first | exact (Kd.V_reads' HO_0.out).2.2 | (with_reducible refine Kd.C_alloc ?_ _) | (with_reducible refine Kd.C_drewN ?_ _) | (with_reducible refine Kd.C_drew ?_))); (case side2 => exact (Kd.V_reads' HO_0.out).2.1); rintro e w' ⟨rfl, ⟨nd, rfl⟩⟩; refine ⟨_, rfl, ?_⟩) | (go_at_call 47; (with_reducible refine (slices_Contains_int_int.calls k3 _ _ l1 (rd y344 x76_3) false _ ?side1 ?side2 A48.out).mono ?_); (case side1 => repeat (first | exact (Kd.V_reads' HO_1.out).2.2 | (with_reducible refine Kd.C_alloc ?_ _) | (with_reducible refine Kd.C_drewN ?_ _) | (with_reducible refine Kd.C_drew ?_))); (case side2 => exact (Kd.V_reads' HO_1.out).2.1); rintro e w' ⟨rfl, ⟨nd, rfl⟩⟩))
                                go_roundg k3
                                case measure => have := HJ3.out; have := HK2.out; have := HK3.out; omega
                                case rel => exact ⟨(x13_3), (wrap64 (x76_3 + 1)), (by first | rfl | (simp; done) | (simp [*]; done)), (by first | rfl | (simp; done) | (simp [*]; done)), H', ⟨by have := HJ3.out; have := HK2.out; have := HK3.out; omega⟩, ⟨by (with_reducible repeat (first | apply Kd.V_alloc | apply Kd.V_drewN | apply Kd.V_drew)); exact HO_0.out⟩, ⟨by (with_reducible repeat (first | apply Kd.V_alloc | apply Kd.V_drewN | apply Kd.V_drew)); exact HO_1.out⟩, ⟨by (with_reducible repeat (first | apply Kd.R_alloc | apply Kd.R_drewN | apply Kd.R_drew)); exact HO_12.out⟩, ⟨by (with_reducible repeat (first | apply Kd.R_alloc | apply Kd.R_drewN | apply Kd.R_drew)); exact HO_74.out⟩, ⟨by (with_reducible repeat (first | refine blk_drewN ?_ _ | refine blk_drew ?_ | refine blk_alloc ?_ _)); exact BK327.out⟩, ⟨by repeat (first | (with_reducible first | exact HB.out | apply below_alloc | apply pw_below_drewN | apply below_drew1 | refine below_set ?_ GE327.out) | exact HB.out)⟩⟩
                            · replace c47 := Bool.eq_false_iff.mpr c47
                              subst c47
                              have H1 : (chaseref1_EstimateOf.l2 k3 l0 l1 y344 x13_3 y344 (y344.length : Int) (wrap64 (x76_3 + 1))) = some (r1, r2, r3) := by rw [if_neg (show ¬ (false = true) by decide)] at H; exact H
                              clear H
                              have H := H1
                              clear H1
                              have H' := Aside0.mk H
                              clear H
                              have p349 : 0 ≤ (x76_3 : Int) := of_decide_eq_true (by first | (with_reducible assumption) | assumption)
                              have q349 : x76_3 < (y344.length : Int) := of_decide_eq_true (by first | (with_reducible assumption) | assumption)
                              obtain ⟨ad349, e349, hx349_0⟩ := Kd.at_int (Kd.R_reads' HO_74.out).2.2 x76_3 p349 q349
                              cases e349
                              replace p349 := eq_true p349
                              replace q349 := eq_true q349
                              go_wp2_with (first | ((with_reducible refine gate_callee (f := 47) rfl ?_); refine goesL_ (some 82) rfl rfl Try.func47 (by kernel_rfl) rfl #[.slice A0 l0.length c0, .int .i64 (rd y344 x76_3)] rfl (by (try simp only [List.map_toArray, List.map_cons, List.map_nil]); first | done | rfl | (simp only [List.length_drop, List.length_take]; rfl)) ?_; (with_reducible refine (slices_Contains_int_int.calls k3 _ _ l0 (rd y344 x76_3) false _ ?side1 ?side2 A46.out).mono ?_); (case side1 => repeat (first | exact (Kd.V_reads' HO_0.out).2.2 | (with_reducible refine Kd.C_alloc ?_ _) | (with_reducible refine Kd.C_drewN ?_ _) | (with_reducible refine Kd.C_drew ?_))); (case side2 => exact (Kd.V_reads' HO_0.out).2.1); rintro e w' ⟨rfl, ⟨nd, rfl⟩⟩; refine ⟨_, rfl, ?_⟩))
                              go_roundg k3
                              case measure => have := HJ3.out; have := HK2.out; have := HK3.out; omega
                              case rel => exact ⟨(x13_3), (wrap64 (x76_3 + 1)), (by first | rfl | (simp; done) | (simp [*]; done)), (by first | rfl | (simp; done) | (simp [*]; done)), H', ⟨by have := HJ3.out; have := HK2.out; have := HK3.out; omega⟩, ⟨by (with_reducible repeat (first | apply Kd.V_alloc | apply Kd.V_drewN | apply Kd.V_drew)); exact HO_0.out⟩, ⟨by (with_reducible repeat (first | apply Kd.V_alloc | apply Kd.V_drewN | apply Kd.V_drew)); exact HO_1.out⟩, ⟨by (with_reducible repeat (first | apply Kd.R_alloc | apply Kd.R_drewN | apply Kd.R_drew)); exact HO_12.out⟩, ⟨by (with_reducible repeat (first | apply Kd.R_alloc | apply Kd.R_drewN | apply Kd.R_drew)); exact HO_74.out⟩, ⟨by (with_reducible repeat (first | refine blk_drewN ?_ _ | refine blk_drew ?_ | refine blk_alloc ?_ _)); exact BK327.out⟩, ⟨by repeat (first | (with_reducible first | exact HB.out | apply below_alloc | apply pw_below_drewN | apply below_drew1 | refine below_set ?_ GE327.out) | exact HB.out)⟩⟩
                          · rw [if_neg c45] at H
                            exact absurd H (by simp)
                        · rw [if_neg c44] at H
                          exact absurd H (by simp)
                      · rw [if_neg c43] at H
                        have c43b0 : decide (x76_3 < (y344.length : Int)) = false := decide_eq_false c43
                        clear c43
                        replace H := Option.bind_eq_some_iff.mp H
                        obtain ⟨⟨t347, t348⟩, A500, H⟩ := H
                        replace H : (some (t347, t348, 0)) = some (r1, r2, r3) := H
                        have A50 := Aside0.mk A500
                        clear A500
                        simp only [Option.some.injEq, Prod.mk.injEq] at H
                        obtain ⟨rfl, rfl, rfl⟩ := H
                        go_wp2_with (first | ((with_reducible refine gate_callee (f := 48) rfl ?_); refine goesL_ (some 94) rfl rfl Try.func48 (by kernel_rfl) rfl #[.int .i64 x13_3, .int .i64 (y344.length : Int)] rfl (by (try simp only [List.map_toArray, List.map_cons, List.map_nil]); first | done | rfl | (simp only [List.length_drop, List.length_take]; rfl)) ?_; (with_reducible refine (chaseref1_part.calls k3 x13_3 (y344.length : Int) t347 t348 _ A50.out).mono ?_); rintro e w51 ⟨rfl, hb⟩; refine ⟨_, rfl, ?_⟩; have n0_ := Aside0.mk (Kd.V_below (by (with_reducible repeat (first | apply Kd.V_alloc | apply Kd.V_drewN | apply Kd.V_drew)); exact HO_0.out) hb); have n1_ := Aside0.mk (Kd.V_below (by (with_reducible repeat (first | apply Kd.V_alloc | apply Kd.V_drewN | apply Kd.V_drew)); exact HO_1.out) hb); have n2_ := Aside0.mk (Kd.R_below (by (with_reducible repeat (first | apply Kd.R_alloc | apply Kd.R_drewN | apply Kd.R_drew)); exact HO_12.out) hb); have n3_ := Aside0.mk (Kd.R_below (by (with_reducible repeat (first | apply Kd.R_alloc | apply Kd.R_drewN | apply Kd.R_drew)); exact HO_74.out) hb); have n4_ := Aside0.mk (blk_below (g := gb327) (o := .cells #[.int .i64 x328000_2, .int .i64 x328001_2] 35 (0, 0)) (by (with_reducible repeat (first | refine blk_drewN ?_ _ | refine blk_drew ?_ | refine blk_alloc ?_ _)); exact BK327.out) hb); have n5_ := Aside0.mk (below_step (by repeat (first | (with_reducible first | exact HB.out | apply below_alloc | apply pw_below_drewN | apply below_drew1 | refine below_set ?_ GE327.out) | exact HB.out)) hb); clear HO_0; clear HO_1; clear HO_12; clear HO_74; clear BK327; clear HB; have HO_0 := n0_; have HO_1 := n1_; have HO_12 := n2_; have HO_74 := n3_; have BK327 := n4_; have HB := n5_; clear n0_ n1_ n2_ n3_ n4_ n5_; (try clear hb); (try clear hb2); (try clear hk); (try clear hi); have hcz52_0 : w51.cell? ⟨gb327, 0, none⟩ = some (.int .i64 x328000_2) := (blk_cell BK327.out 0).trans rfl; have hcz52_1 : w51.cell? ⟨gb327, 1, none⟩ = some (.int .i64 x328001_2) := (blk_cell BK327.out 1).trans rfl; have hfz52_0 := blk_frozen BK327.out 0; have hfz52_1 := blk_frozen BK327.out 1))
                        refine bodyPost_ret (results_ct rfl _ _ gb327 35 #[.int .i64 t347, .int .i64 t348] (0, 0) _ rfl (by (with_reducible repeat (first | refine blk_drewN ?_ _ | refine blk_drew ?_ | refine blk_alloc ?_ _)); refine blk_put (cs := #[.int .i64 t347, .int .i64 x328001_2]) ?_ 1 _ rfl; (with_reducible repeat (first | refine blk_drewN ?_ _ | refine blk_drew ?_ | refine blk_alloc ?_ _)); refine blk_put (cs := #[.int .i64 x328000_2, .int .i64 x328001_2]) ?_ 0 _ rfl; (with_reducible repeat (first | refine blk_drewN ?_ _ | refine blk_drew ?_ | refine blk_alloc ?_ _)); exact BK327.out) Try.underlying35 rfl (by kernel_rfl)) rfl ?_
                        exact ⟨by first | rfl | (simp [errW_none, errW_some] <;> rfl) | (simp only [← hji31]; first | rfl | (simp [errW_none, errW_some] <;> rfl)) | (simp [*, errW_none, errW_some] <;> rfl), by repeat (first | (with_reducible first | exact HB.out | apply below_alloc | apply pw_below_drewN | apply below_drew1 | refine below_set ?_ GE327.out) | exact HB.out)⟩
                · rw [if_neg c33] at H
                  exact absurd H (by simp)
              · rw [if_neg c32] at H
                exact absurd H (by simp)

/-! ### near_Shingles: function 17 -/
def near_Shingles.f (k : Nat) (a0 : ByteArray) (a1 : Int) : Option (List ByteArray × Int) := (near_large.f a0).bind fun t352 => ((near_kError.f a1).bind fun t353 => ((base_First.f k (([t352, t353] : List Int))).bind fun t357 => (if t357 = 0 then ((near_shingles.f k a0 a1).bind fun t358 => (some (t358, 0))) else (some (([] : List ByteArray), t357)))))
theorem near_Shingles.mono : ∀ a0 a1 k, LeO (near_Shingles.f k a0 a1) (near_Shingles.f (k + 1) a0 a1) := by
  intro a0 a1 k
  unfold near_Shingles.f
  repeat' first
      | (with_reducible exact base_First.mono _ _)
      | (with_reducible exact near_shingles.mono _ _ _)
      | (with_reducible exact LeO.refl _)
      | (with_reducible exact LeO.none _)
      | (with_reducible refine LeO.ite ?_ ?_)
      | (with_reducible refine LeO.bind ?_ (fun _ => ?_))
      | exact base_First.mono _ _
      | exact near_shingles.mono _ _ _
      | exact LeO.none _
      | refine LeO.ite ?_ ?_
      | refine LeO.bind ?_ (fun _ => ?_)
set_option maxHeartbeats 8000000 in
set_option maxRecDepth 100000 in
theorem near_Shingles.calls (k : Nat) (a0 : ByteArray) (a1 : Int) (r1 : List ByteArray) (r2 : Int) (w : World) (h : near_Shingles.f k a0 a1 = some (r1, r2)) :
    Calls Try.prog 17 #[.string a0, .int .i64 a1] w fun e w' => ∃ v0_ : Value, e = .returned (.tuple #[v0_, .int .i64 r2]) ∧ Kd.R Kd.string 9 w' w.heap.size (fun _ => True) v0_ r1 ∧ Below w.heap.size w w' := by
  have HB := Aside0.mk (Below.refl w.heap.size w)
  have H : ((near_large.f a0).bind fun t352 => ((near_kError.f a1).bind fun t353 => ((base_First.f k (([t352, t353] : List Int))).bind fun t357 => (if t357 = 0 then ((near_shingles.f k a0 a1).bind fun t358 => (some (t358, 0))) else (some (([] : List ByteArray), t357)))))) = some (r1, r2) := h
  clear h
  replace H := Option.bind_eq_some_iff.mp H
  obtain ⟨t352, A30, H⟩ := H
  replace H : ((near_kError.f a1).bind fun t353 => ((base_First.f k (([t352, t353] : List Int))).bind fun t357 => (if t357 = 0 then ((near_shingles.f k a0 a1).bind fun t358 => (some (t358, 0))) else (some (([] : List ByteArray), t357))))) = some (r1, r2) := H
  have A3 := Aside0.mk A30
  clear A30
  replace H := Option.bind_eq_some_iff.mp H
  obtain ⟨t353, A40, H⟩ := H
  replace H : ((base_First.f k (([t352, t353] : List Int))).bind fun t357 => (if t357 = 0 then ((near_shingles.f k a0 a1).bind fun t358 => (some (t358, 0))) else (some (([] : List ByteArray), t357)))) = some (r1, r2) := H
  have A4 := Aside0.mk A40
  clear A40
  obtain ⟨y354, hy354⟩ : ∃ y_ : List Int, y_ = (([t352, t353] : List Int)) := ⟨_, rfl⟩
  replace H : ((base_First.f k y354).bind fun t357 => (if t357 = 0 then ((near_shingles.f k a0 a1).bind fun t358 => (some (t358, 0))) else (some (([] : List ByteArray), t357)))) = some (r1, r2) := by first | (rw [hy354]; with_reducible exact H) | (have H2_ := (Option.bind_some _ _).symm.trans H; rw [hy354]; with_reducible exact H2_) | (have H2_ := (Option.bind_some _ _).symm.trans H; with_reducible exact H2_) | with_reducible exact H | (rw [hy354]; exact H) | exact H
  have Ny354 := Aside0.mk hy354
  clear hy354
  replace H := Option.bind_eq_some_iff.mp H
  obtain ⟨t357, A50, H⟩ := H
  replace H : (if t357 = 0 then ((near_shingles.f k a0 a1).bind fun t358 => (some (t358, 0))) else (some (([] : List ByteArray), t357))) = some (r1, r2) := H
  have A5 := Aside0.mk A50
  clear A50
  by_cases c6 : t357 = 0
  · rw [if_pos c6] at H
    have c6b0 : (t357 == 0) = true := beq_iff_eq.mpr c6
    have c6b1 : (t357 != 0) = false := bne_eq_false_iff_eq.mpr c6
    clear c6
    replace H := Option.bind_eq_some_iff.mp H
    obtain ⟨t358, A70, H⟩ := H
    replace H : (some (t358, 0)) = some (r1, r2) := H
    have A7 := Aside0.mk A70
    clear A70
    simp only [Option.some.injEq, Prod.mk.injEq] at H
    obtain ⟨rfl, rfl⟩ := H
    go_enter Try.func17, Try.ntmps17
    go_wp2_with (first | ((with_reducible refine gate_callee (f := 35) rfl ?_); refine goesL_ (some 8) rfl rfl Try.func35 (by kernel_rfl) rfl #[.string a0] rfl (by (try simp only [List.map_toArray, List.map_cons, List.map_nil]); first | done | rfl | (simp only [List.length_drop, List.length_take]; rfl)) ?_; (with_reducible refine (near_large.calls a0 t352 _ A3.out).mono ?_); rintro e w' ⟨rfl, ⟨nd, rfl⟩⟩; refine ⟨_, rfl, ?_⟩) | ((with_reducible refine gate_callee (f := 36) rfl ?_); refine goesL_ (some 10) rfl rfl Try.func36 (by kernel_rfl) rfl #[.int .i64 a1] rfl (by (try simp only [List.map_toArray, List.map_cons, List.map_nil]); first | done | rfl | (simp only [List.length_drop, List.length_take]; rfl)) ?_; (with_reducible refine (near_kError.calls a1 t353 _ A4.out).mono ?_); rintro e w' ⟨rfl, ⟨nd, rfl⟩⟩; refine ⟨_, rfl, ?_⟩) | ((with_reducible refine gate_dst (N := 11) rfl ?_); refine Kd.R_lit (Kd.int .i64) _ 29 ?hg (N := 11) ?hd (xs := ([t352, t353] : List Int)) (inner := [.int .i64 t352, .int .i64 t353]) (ok := fun _ => True) (okp := fun _ => True) ?hr ?hp (fun _ hk => hk) trivial (Below.refl _ _) (Nat.le_refl _) (by simp) ?_; (case hd => rfl); (case hg => rfl); (case hr => first | (go_simp; done) | (go_simp; rfl)); (case hp => exact (Reps.one (show Kd.M (Kd.int .i64) _ _ _ t352 [.int .i64 t352] from rfl) (Reps.one (show Kd.M (Kd.int .i64) _ _ _ t353 [.int .i64 t353] from rfl) (Reps.none _ _)))); intro v355 w8 ho9 hb hg_ hnew_; clear hg_ hnew_; (first | rw [← Ny354.out] at ho9 | (simp only [Int.reduceToNat] at ho9; rw [← Ny354.out] at ho9)); have n0_ := Aside0.mk (Kd.R_lower ho9 (below_size (by repeat (first | (with_reducible first | exact HB.out | apply below_alloc | apply pw_below_drewN | apply below_drew1) | exact HB.out)))); have n1_ := Aside0.mk (below_step (by repeat (first | (with_reducible first | exact HB.out | apply below_alloc | apply pw_below_drewN | apply below_drew1) | exact HB.out)) hb); clear HB; have HO356 := n0_; have HB := n1_; clear n0_ n1_; clear hb ho9; obtain ⟨Ao10, co10, eo10⟩ := Kd.R_slice HO356.out; subst eo10) | ((with_reducible refine gate_callee (f := 34) rfl ?_); refine goesL_ (some 12) rfl rfl Try.func34 (by kernel_rfl) rfl #[.slice Ao10 y354.length co10] rfl (by (try simp only [List.map_toArray, List.map_cons, List.map_nil]); first | done | rfl | (simp only [List.length_drop, List.length_take]; rfl)) ?_; (with_reducible refine (base_First.calls k _ _ y354 t357 _ ?side1 ?side2 A5.out).mono ?_); (case side1 => repeat (first | exact (Kd.R_reads' HO356.out).2.2 | (with_reducible refine Kd.C_alloc ?_ _) | (with_reducible refine Kd.C_drewN ?_ _) | (with_reducible refine Kd.C_drew ?_))); (case side2 => exact (Kd.R_reads' HO356.out).2.1); rintro e w' ⟨rfl, ⟨nd, rfl⟩⟩; refine ⟨_, rfl, ?_⟩) | ((with_reducible refine gate_callee (f := 38) rfl ?_); refine goesL_ (some 18) rfl rfl Try.func38 (by kernel_rfl) rfl #[.string a0, .int .i64 a1] rfl (by (try simp only [List.map_toArray, List.map_cons, List.map_nil]); first | done | rfl | (simp only [List.length_drop, List.length_take]; rfl)) ?_; (with_reducible refine (near_shingles.calls k a0 a1 t358 _ A7.out).mono ?_); rintro e w11 ⟨v359, rfl, ho0, hb⟩; refine ⟨_, rfl, ?_⟩; have n0_ := Aside0.mk (Kd.R_below (by (with_reducible repeat (first | apply Kd.R_alloc | apply Kd.R_drewN | apply Kd.R_drew)); exact HO356.out) hb); have n1_ := Aside0.mk (Kd.R_lower ho0 (below_size (by repeat (first | (with_reducible first | exact HB.out | apply below_alloc | apply pw_below_drewN | apply below_drew1) | exact HB.out)))); have n2_ := Aside0.mk (below_step (by repeat (first | (with_reducible first | exact HB.out | apply below_alloc | apply pw_below_drewN | apply below_drew1) | exact HB.out)) hb); clear HO356; clear HB; have HO356 := n0_; have HO360 := n1_; have HB := n2_; clear n0_ n1_ n2_; (try clear hb); (try clear hb2); (try clear hk); (try clear hi); (try clear ho0)))
    go_ret2
    exact ⟨_, by first | rfl | (simp [errW_none, errW_some] <;> rfl) | (simp [*, errW_none, errW_some] <;> rfl), by (with_reducible repeat (first | apply Kd.R_alloc | apply Kd.R_drewN | apply Kd.R_drew)); exact HO360.out, by repeat (first | (with_reducible first | exact HB.out | apply below_alloc | apply pw_below_drewN | apply below_drew1) | exact HB.out)⟩
  · rw [if_neg c6] at H
    have c6b0 : (t357 == 0) = false := beq_eq_false_iff_ne.mpr c6
    have c6b1 : (t357 != 0) = true := bne_iff_ne.mpr c6
    simp only [Option.some.injEq, Prod.mk.injEq] at H
    obtain ⟨rfl, rfl⟩ := H
    go_enter Try.func17, Try.ntmps17
    go_wp2_with (first | ((with_reducible refine gate_callee (f := 35) rfl ?_); refine goesL_ (some 8) rfl rfl Try.func35 (by kernel_rfl) rfl #[.string a0] rfl (by (try simp only [List.map_toArray, List.map_cons, List.map_nil]); first | done | rfl | (simp only [List.length_drop, List.length_take]; rfl)) ?_; (with_reducible refine (near_large.calls a0 t352 _ A3.out).mono ?_); rintro e w' ⟨rfl, ⟨nd, rfl⟩⟩; refine ⟨_, rfl, ?_⟩) | ((with_reducible refine gate_callee (f := 36) rfl ?_); refine goesL_ (some 10) rfl rfl Try.func36 (by kernel_rfl) rfl #[.int .i64 a1] rfl (by (try simp only [List.map_toArray, List.map_cons, List.map_nil]); first | done | rfl | (simp only [List.length_drop, List.length_take]; rfl)) ?_; (with_reducible refine (near_kError.calls a1 t353 _ A4.out).mono ?_); rintro e w' ⟨rfl, ⟨nd, rfl⟩⟩; refine ⟨_, rfl, ?_⟩) | ((with_reducible refine gate_dst (N := 11) rfl ?_); refine Kd.R_lit (Kd.int .i64) _ 29 ?hg (N := 11) ?hd (xs := ([t352, t353] : List Int)) (inner := [.int .i64 t352, .int .i64 t353]) (ok := fun _ => True) (okp := fun _ => True) ?hr ?hp (fun _ hk => hk) trivial (Below.refl _ _) (Nat.le_refl _) (by simp) ?_; (case hd => rfl); (case hg => rfl); (case hr => first | (go_simp; done) | (go_simp; rfl)); (case hp => exact (Reps.one (show Kd.M (Kd.int .i64) _ _ _ t352 [.int .i64 t352] from rfl) (Reps.one (show Kd.M (Kd.int .i64) _ _ _ t353 [.int .i64 t353] from rfl) (Reps.none _ _)))); intro v355 w12 ho13 hb hg_ hnew_; clear hg_ hnew_; (first | rw [← Ny354.out] at ho13 | (simp only [Int.reduceToNat] at ho13; rw [← Ny354.out] at ho13)); have n0_ := Aside0.mk (Kd.R_lower ho13 (below_size (by repeat (first | (with_reducible first | exact HB.out | apply below_alloc | apply pw_below_drewN | apply below_drew1) | exact HB.out)))); have n1_ := Aside0.mk (below_step (by repeat (first | (with_reducible first | exact HB.out | apply below_alloc | apply pw_below_drewN | apply below_drew1) | exact HB.out)) hb); clear HB; have HO356 := n0_; have HB := n1_; clear n0_ n1_; clear hb ho13; obtain ⟨Ao14, co14, eo14⟩ := Kd.R_slice HO356.out; subst eo14) | ((with_reducible refine gate_callee (f := 34) rfl ?_); refine goesL_ (some 12) rfl rfl Try.func34 (by kernel_rfl) rfl #[.slice Ao14 y354.length co14] rfl (by (try simp only [List.map_toArray, List.map_cons, List.map_nil]); first | done | rfl | (simp only [List.length_drop, List.length_take]; rfl)) ?_; (with_reducible refine (base_First.calls k _ _ y354 t357 _ ?side1 ?side2 A5.out).mono ?_); (case side1 => repeat (first | exact (Kd.R_reads' HO356.out).2.2 | (with_reducible refine Kd.C_alloc ?_ _) | (with_reducible refine Kd.C_drewN ?_ _) | (with_reducible refine Kd.C_drew ?_))); (case side2 => exact (Kd.R_reads' HO356.out).2.1); rintro e w' ⟨rfl, ⟨nd, rfl⟩⟩; refine ⟨_, rfl, ?_⟩))
    go_ret2
    exact ⟨_, by first | rfl | (simp [errW_none, errW_some] <;> rfl) | (simp [*, errW_none, errW_some] <;> rfl), by first | exact Kd.R_nil _ _ _ _ _ | exact Kd.N_nil _ _ _ _ _ | exact Kd.V_nil _ _ _ _ _ | exact Kd.Q_nil _ _ _ _ _ | exact Kd.S_nil _ _ _ _ _, by repeat (first | (with_reducible first | exact HB.out | apply below_alloc | apply pw_below_drewN | apply below_drew1) | exact HB.out)⟩

end Go.Proofs.Ytbamfhcifpfocaa.Ps
