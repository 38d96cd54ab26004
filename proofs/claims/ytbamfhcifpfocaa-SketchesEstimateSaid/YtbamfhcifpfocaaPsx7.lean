-- written by this session's program wip/gprint over the kit's print; nothing of it is trusted
import Derived.Test.YtbamfhcifpfocaaPsx0
import Derived.Test.YtbamfhcifpfocaaPsx2
import Derived.Test.YtbamfhcifpfocaaPsx3
import Derived.Test.YtbamfhcifpfocaaPsx6
namespace Go.Proofs.Ytbamfhcifpfocaa.Ps
open Go.RowKit Go.Proofs.Ytbamfhcifpfocaa.GBase Go.Proofs.YtbamfhcifpfocaaW.PrintWords Go.Proofs.YtbamfhcifpfocaaW.PrintLast Go.Proofs.YtbamfhcifpfocaaW.PrintMore
attribute [local go_sem] max2_int min2_int max_two min_two max_three min_three max_four min_four   -- for this text's walks alone
set_option linter.unusedVariables false
set_option linter.unusedSimpArgs false

/-! ### near_Estimate: function 13 -/
mutual
def near_Estimate.l0 : Nat → List Int → List Int → Int → List (List Int) → Int → Int → Option (Int × Int × Int)
  | 0, _, _, _, _, _, _ => none
  | k + 1, x0, x1, x2, x30, x31, x32 => if x32 < x31 then (if 0 ≤ x32 then (if x32 < (x30.length : Int) then (if ((rd_L3 x30 x32).length : Int) > x2 then (some (0, 0, 2)) else (near_Estimate.l1 k x0 x1 x2 (rd_L3 x30 x32) x30 x31 x32 (rd_L3 x30 x32) ((rd_L3 x30 x32).length : Int) 0)) else (none)) else (none)) else ((slices_Concat_int_int.f k (([x0, x1] : List (List Int)))).bind fun t307 => ((slices_Sort_int_int.f t307).bind fun t310 => ((slices_Compact_int_int.f t310).bind fun t311 => (if 0 ≤ (mn x2 (t311.length : Int)) then (if (mn x2 (t311.length : Int)) ≤ (t311.length : Int) then ((some (t311.take ((mn x2 (t311.length : Int)) : Int).toNat : List Int)).bind fun y314 => (near_Estimate.l2 k x0 x1 y314 0 y314 (y314.length : Int) 0)) else (none)) else (none)))))
def near_Estimate.l1 : Nat → List Int → List Int → Int → List Int → List (List Int) → Int → Int → List Int → Int → Int → Option (Int × Int × Int)
  | 0, _, _, _, _, _, _, _, _, _, _ => none
  | k + 1, x0, x1, x2, x10, x30, x31, x32, x41, x42, x43 => if x43 < x42 then (if 0 ≤ x43 then (if x43 < (x41.length : Int) then ((base_When.f (decide ((rd x41 x43) < 0)) 1).bind fun t292 => (if x43 > 0 then (if 0 ≤ (wrap64 ((mx x43 1) - 1)) then (if (wrap64 ((mx x43 1) - 1)) < (x10.length : Int) then ((base_When.f (decide ((rd x41 x43) ≤ (rd x10 (wrap64 ((mx x43 1) - 1))))) 7).bind fun t294 => ((base_First.f k (([t292, t294] : List Int))).bind fun t298 => (if t298 = 0 then (near_Estimate.l1 k x0 x1 x2 x10 x30 x31 x32 x41 x42 (wrap64 (x43 + 1))) else (some (0, 0, t298))))) else (none)) else (none)) else ((base_When.f false 7).bind fun t299 => ((base_First.f k (([t292, t299] : List Int))).bind fun t303 => (if t303 = 0 then (near_Estimate.l1 k x0 x1 x2 x10 x30 x31 x32 x41 x42 (wrap64 (x43 + 1))) else (some (0, 0, t303))))))) else (none)) else (none)) else (near_Estimate.l0 k x0 x1 x2 x30 x31 (wrap64 (x32 + 1)))
def near_Estimate.l2 : Nat → List Int → List Int → List Int → Int → List Int → Int → Int → Option (Int × Int × Int)
  | 0, _, _, _, _, _, _, _ => none
  | k + 1, x0, x1, x14, x15, x86, x87, x88 => if x88 < x87 then (if 0 ≤ x88 then (if x88 < (x86.length : Int) then ((slices_BinarySearch_int_int.f k x0 (rd x86 x88)).bind fun bt320 => ((slices_BinarySearch_int_int.f k x1 (rd x86 x88)).bind fun bt322 => (if bt320.2 = true then (if bt322.2 = true then (near_Estimate.l2 k x0 x1 x14 (wrap64 (x15 + 1)) x86 x87 (wrap64 (x88 + 1))) else (near_Estimate.l2 k x0 x1 x14 x15 x86 x87 (wrap64 (x88 + 1)))) else (near_Estimate.l2 k x0 x1 x14 x15 x86 x87 (wrap64 (x88 + 1)))))) else (none)) else (none)) else ((near_fraction.f k x15 (x14.length : Int)).bind fun bt317 => (some (bt317.1, bt317.2, 0)))
end
def near_Estimate.f (k : Nat) (l0 : List Int) (l1 : List Int) (a2 : Int) : Option (Int × Int × Int) := (near_sizeError.f a2).bind fun t286 => (if t286 = 0 then ((some (([l0, l1] : List (List Int)) : List (List Int))).bind fun y287 => (near_Estimate.l0 k l0 l1 a2 y287 (y287.length : Int) 0)) else (some (0, 0, t286)))
theorem near_Estimate.mono_l : ∀ k, (∀ y0 y1 y2 y3 y4 y5, LeO (near_Estimate.l0 k y0 y1 y2 y3 y4 y5) (near_Estimate.l0 (k + 1) y0 y1 y2 y3 y4 y5)) ∧ (∀ y0 y1 y2 y3 y4 y5 y6 y7 y8 y9, LeO (near_Estimate.l1 k y0 y1 y2 y3 y4 y5 y6 y7 y8 y9) (near_Estimate.l1 (k + 1) y0 y1 y2 y3 y4 y5 y6 y7 y8 y9)) ∧ (∀ y0 y1 y2 y3 y4 y5 y6, LeO (near_Estimate.l2 k y0 y1 y2 y3 y4 y5 y6) (near_Estimate.l2 (k + 1) y0 y1 y2 y3 y4 y5 y6))
  | 0 => ⟨fun _ _ _ _ _ _ r h => by simp [near_Estimate.l0] at h, fun _ _ _ _ _ _ _ _ _ _ r h => by simp [near_Estimate.l1] at h, fun _ _ _ _ _ _ _ r h => by simp [near_Estimate.l2] at h⟩
  | k + 1 => by
    obtain ⟨ih0, ih1, ih2⟩ := near_Estimate.mono_l k
    refine ⟨?_, ?_, ?_⟩
    · intro y0 y1 y2 y3 y4 y5
      unfold near_Estimate.l0
      repeat' first
      | (with_reducible exact ih0 _ _ _ _ _ _)
      | (with_reducible exact ih1 _ _ _ _ _ _ _ _ _ _)
      | (with_reducible exact ih2 _ _ _ _ _ _ _)
      | (with_reducible exact base_First.mono _ _)
      | (with_reducible exact near_fraction.mono _ _ _)
      | (with_reducible exact slices_BinarySearch_int_int.mono _ _ _)
      | (with_reducible exact slices_Concat_int_int.mono _ _)
      | (with_reducible exact LeO.refl _)
      | (with_reducible exact LeO.none _)
      | (with_reducible refine LeO.ite ?_ ?_)
      | (with_reducible refine LeO.bind ?_ (fun _ => ?_))
      | exact ih0 _ _ _ _ _ _
      | exact ih1 _ _ _ _ _ _ _ _ _ _
      | exact ih2 _ _ _ _ _ _ _
      | exact base_First.mono _ _
      | exact near_fraction.mono _ _ _
      | exact slices_BinarySearch_int_int.mono _ _ _
      | exact slices_Concat_int_int.mono _ _
      | exact LeO.none _
      | refine LeO.ite ?_ ?_
      | refine LeO.bind ?_ (fun _ => ?_)
    · intro y0 y1 y2 y3 y4 y5 y6 y7 y8 y9
      unfold near_Estimate.l1
      repeat' first
      | (with_reducible exact ih0 _ _ _ _ _ _)
      | (with_reducible exact ih1 _ _ _ _ _ _ _ _ _ _)
      | (with_reducible exact ih2 _ _ _ _ _ _ _)
      | (with_reducible exact base_First.mono _ _)
      | (with_reducible exact near_fraction.mono _ _ _)
      | (with_reducible exact slices_BinarySearch_int_int.mono _ _ _)
      | (with_reducible exact slices_Concat_int_int.mono _ _)
      | (with_reducible exact LeO.refl _)
      | (with_reducible exact LeO.none _)
      | (with_reducible refine LeO.ite ?_ ?_)
      | (with_reducible refine LeO.bind ?_ (fun _ => ?_))
      | exact ih0 _ _ _ _ _ _
      | exact ih1 _ _ _ _ _ _ _ _ _ _
      | exact ih2 _ _ _ _ _ _ _
      | exact base_First.mono _ _
      | exact near_fraction.mono _ _ _
      | exact slices_BinarySearch_int_int.mono _ _ _
      | exact slices_Concat_int_int.mono _ _
      | exact LeO.none _
      | refine LeO.ite ?_ ?_
      | refine LeO.bind ?_ (fun _ => ?_)
    · intro y0 y1 y2 y3 y4 y5 y6
      unfold near_Estimate.l2
      repeat' first
      | (with_reducible exact ih0 _ _ _ _ _ _)
      | (with_reducible exact ih1 _ _ _ _ _ _ _ _ _ _)
      | (with_reducible exact ih2 _ _ _ _ _ _ _)
      | (with_reducible exact base_First.mono _ _)
      | (with_reducible exact near_fraction.mono _ _ _)
      | (with_reducible exact slices_BinarySearch_int_int.mono _ _ _)
      | (with_reducible exact slices_Concat_int_int.mono _ _)
      | (with_reducible exact LeO.refl _)
      | (with_reducible exact LeO.none _)
      | (with_reducible refine LeO.ite ?_ ?_)
      | (with_reducible refine LeO.bind ?_ (fun _ => ?_))
      | exact ih0 _ _ _ _ _ _
      | exact ih1 _ _ _ _ _ _ _ _ _ _
      | exact ih2 _ _ _ _ _ _ _
      | exact base_First.mono _ _
      | exact near_fraction.mono _ _ _
      | exact slices_BinarySearch_int_int.mono _ _ _
      | exact slices_Concat_int_int.mono _ _
      | exact LeO.none _
      | refine LeO.ite ?_ ?_
      | refine LeO.bind ?_ (fun _ => ?_)
theorem near_Estimate.mono : ∀ a0 a1 a2 k, LeO (near_Estimate.f k a0 a1 a2) (near_Estimate.f (k + 1) a0 a1 a2) := by
  intro a0 a1 a2 k
  obtain ⟨ih0, ih1, ih2⟩ := near_Estimate.mono_l k
  unfold near_Estimate.f
  repeat' first
      | (with_reducible exact ih0 _ _ _ _ _ _)
      | (with_reducible exact ih1 _ _ _ _ _ _ _ _ _ _)
      | (with_reducible exact ih2 _ _ _ _ _ _ _)
      | (with_reducible exact base_First.mono _ _)
      | (with_reducible exact near_fraction.mono _ _ _)
      | (with_reducible exact slices_BinarySearch_int_int.mono _ _ _)
      | (with_reducible exact slices_Concat_int_int.mono _ _)
      | (with_reducible exact LeO.refl _)
      | (with_reducible exact LeO.none _)
      | (with_reducible refine LeO.ite ?_ ?_)
      | (with_reducible refine LeO.bind ?_ (fun _ => ?_))
      | exact ih0 _ _ _ _ _ _
      | exact ih1 _ _ _ _ _ _ _ _ _ _
      | exact ih2 _ _ _ _ _ _ _
      | exact base_First.mono _ _
      | exact near_fraction.mono _ _ _
      | exact slices_BinarySearch_int_int.mono _ _ _
      | exact slices_Concat_int_int.mono _ _
      | exact LeO.none _
      | refine LeO.ite ?_ ?_
      | refine LeO.bind ?_ (fun _ => ?_)
set_option maxHeartbeats 8000000 in
set_option maxRecDepth 100000 in
theorem near_Estimate.calls (k : Nat) (P0_ : Nat → Prop) (A0 : Option Addr) (c0 : Nat) (l0 : List Int) (P1_ : Nat → Prop) (A1 : Option Addr) (c1 : Nat) (l1 : List Int) (a2 : Int) (r1 : Int) (r2 : Int) (r3 : Int) (w : World) (hs0 : Kd.V (Kd.int .i64) 3 w w.heap.size (fun k_ => P0_ k_) (.slice A0 l0.length c0) l0) (hs1 : Kd.V (Kd.int .i64) 3 w w.heap.size (fun k_ => P1_ k_) (.slice A1 l1.length c1) l1) (h : near_Estimate.f k l0 l1 a2 = some (r1, r2, r3)) :
    Calls Try.prog 13 #[.slice A0 l0.length c0, .slice A1 l1.length c1, .int .i64 a2] w fun e w' => e = .returned (.tuple #[.agg #[.int .i64 r1, .int .i64 r2], .int .i64 r3]) ∧ Below w.heap.size w w' := by
  have hu35 := Try.underlying35
  have HO0 := Aside0.mk (show Kd.V (Kd.int .i64) 3 w w.heap.size (fun k_ => ((P0_ k_ ∨ P1_ k_) ∨ w.heap.size ≤ k_)) (.slice A0 l0.length c0) l0 from Kd.V_mono hs0 (fun k_ hk => .inl (.inl hk)))
  have HO1 := Aside0.mk (show Kd.V (Kd.int .i64) 3 w w.heap.size (fun k_ => ((P0_ k_ ∨ P1_ k_) ∨ w.heap.size ≤ k_)) (.slice A1 l1.length c1) l1 from Kd.V_mono hs1 (fun k_ hk => .inl (.inr hk)))
  have HB := Aside0.mk (Below.refl w.heap.size w)
  have H : ((near_sizeError.f a2).bind fun t286 => (if t286 = 0 then ((some (([l0, l1] : List (List Int)) : List (List Int))).bind fun y287 => (near_Estimate.l0 k l0 l1 a2 y287 (y287.length : Int) 0)) else (some (0, 0, t286)))) = some (r1, r2, r3) := h
  clear h
  replace H := Option.bind_eq_some_iff.mp H
  obtain ⟨t286, A40, H⟩ := H
  replace H : (if t286 = 0 then ((some (([l0, l1] : List (List Int)) : List (List Int))).bind fun y287 => (near_Estimate.l0 k l0 l1 a2 y287 (y287.length : Int) 0)) else (some (0, 0, t286))) = some (r1, r2, r3) := H
  have A4 := Aside0.mk A40
  clear A40
  by_cases c5 : t286 = 0
  · rw [if_pos c5] at H
    have c5b0 : (t286 == 0) = true := beq_iff_eq.mpr c5
    have c5b1 : (t286 != 0) = false := bne_eq_false_iff_eq.mpr c5
    clear c5
    obtain ⟨y287, hy287⟩ : ∃ y_ : List (List Int), y_ = (([l0, l1] : List (List Int))) := ⟨_, rfl⟩
    replace H : (near_Estimate.l0 k l0 l1 a2 y287 (y287.length : Int) 0) = some (r1, r2, r3) := by first | (rw [hy287]; with_reducible exact H) | (have H2_ := (Option.bind_some _ _).symm.trans H; rw [hy287]; with_reducible exact H2_) | (have H2_ := (Option.bind_some _ _).symm.trans H; with_reducible exact H2_) | with_reducible exact H | (rw [hy287]; exact H) | exact H
    have Ny287 := Aside0.mk hy287
    clear hy287
    have H' := Aside0.mk H
    clear H
    go_enter Try.func13, Try.ntmps13
    go_wp2_with (first | ((with_reducible refine gate_dst (N := 6) rfl ?_); (try (refine gate_guard (by rfl) ?_; dsimp only)); refine box_event ?hg (N := 6) ?hd (cs := #[.int .i64 0, .int .i64 0]) (t := 35) ?hr ?_; (case hd => rfl); (case hg => rfl); (case hr => first | (go_simp; done) | (go_simp; rfl)); intro gb285 hg w6 hbox hb; have n0_ := Aside0.mk (Kd.V_below (Kd.V_elderB (by (with_reducible repeat (first | apply Kd.V_alloc | apply Kd.V_drewN | apply Kd.V_drew)); exact HO0.out) gb285 (Nat.le_of_eq hg.symm)) hb); have n1_ := Aside0.mk (Kd.V_below (Kd.V_elderB (by (with_reducible repeat (first | apply Kd.V_alloc | apply Kd.V_drewN | apply Kd.V_drew)); exact HO1.out) gb285 (Nat.le_of_eq hg.symm)) hb); have n2_ := Aside0.mk (below_step (by repeat (first | (with_reducible first | exact HB.out | apply below_alloc | apply pw_below_drewN | apply below_drew1) | exact HB.out)) hb); have n3_ := Aside0.mk (hbox); have n4_ := Aside0.mk ((by rw [hg]; exact (below_size (by repeat (first | (with_reducible first | exact HB.out | apply below_alloc | apply pw_below_drewN | apply below_drew1) | exact HB.out))) : w.heap.size ≤ gb285)); have n5_ := Aside0.mk ((by rw [hg]; exact (below_size (by repeat (first | (with_reducible first | exact HB.out | apply below_alloc | apply pw_below_drewN | apply below_drew1) | exact HB.out))) : w.heap.size ≤ gb285)); clear HO0; clear HO1; clear HB; have HO0 := n0_; have HO1 := n1_; have HB := n2_; have BK285 := n3_; have GW285 := n4_; have GE285 := n5_; clear n0_ n1_ n2_ n3_ n4_ n5_; clear hb hbox hg) | ((with_reducible refine gate_callee (f := 37) rfl ?_); refine goesL_ (some 23) rfl rfl Try.func37 (by kernel_rfl) rfl #[.int .i64 a2] rfl (by (try simp only [List.map_toArray, List.map_cons, List.map_nil]); first | done | rfl | (simp only [List.length_drop, List.length_take]; rfl)) ?_; (with_reducible refine (near_sizeError.calls a2 t286 _ A4.out).mono ?_); rintro e w' ⟨rfl, ⟨nd, rfl⟩⟩; refine ⟨_, rfl, ?_⟩) | ((with_reducible refine gate_dst (N := 30) rfl ?_); (try (refine gate_guard (by rfl) ?_; dsimp only)); refine Kd.N_lit (Kd.slice 3 (Kd.int .i64)) _ 22 ?hg (N' := 30) ?hd (xs := ([l0, l1] : List (List Int))) (inner := [.slice A0 l0.length c0, .slice A1 l1.length c1]) (ok := (fun k_ => ((P0_ k_ ∨ P1_ k_) ∨ w.heap.size ≤ k_) ∧ k_ ≠ gb285)) (okp := (fun k_ => ((P0_ k_ ∨ P1_ k_) ∨ w.heap.size ≤ k_) ∧ k_ ≠ gb285)) ?hr ?hp (fun _ hk => hk) ((show ∀ k_, w6.heap.size ≤ k_ → (fun k_ => ((P0_ k_ ∨ P1_ k_) ∨ w.heap.size ≤ k_) ∧ k_ ≠ gb285) k_ from fun k_ hk => ⟨(.inr (Nat.le_trans (below_size (by repeat (first | (with_reducible first | exact HB.out | apply below_alloc | apply pw_below_drewN | apply below_drew1 | refine below_set ?_ GE285.out) | exact HB.out))) hk)), Kd.freshB (g := gb285) (o := .cells #[.int .i64 0, .int .i64 0] 35 (0, 0)) (by (with_reducible repeat (first | refine blk_drewN ?_ _ | refine blk_drew ?_ | refine blk_alloc ?_ _)); exact BK285.out) k_ hk⟩) _ (Nat.le_refl _)) (Below.refl _ _) (Nat.le_refl _) (by simp) ?_; (case hd => rfl); (case hg => rfl); (case hr => first | (go_simp; done) | (go_simp; rfl)); (case hp => exact (Reps.one (show Kd.FK (Kd.slice 3 (Kd.int .i64)) _ _ l0 [.slice A0 l0.length c0] from (Kd.FK_slice_mk (Kd.V_reads' (Kd.V_mono (ok' := (fun k_ => ((P0_ k_ ∨ P1_ k_) ∨ w.heap.size ≤ k_) ∧ k_ ≠ gb285)) (HO0.out) (fun k_ hk => ⟨hk.1, hk.2⟩))).2.1 (by first | with_reducible exact Kd.V_F (Kd.V_mono (ok' := (fun k_ => ((P0_ k_ ∨ P1_ k_) ∨ w.heap.size ≤ k_) ∧ k_ ≠ gb285)) (HO0.out) (fun k_ hk => ⟨hk.1, hk.2⟩)) | ((with_reducible repeat (first | apply Kd.F_alloc | apply Kd.F_drewN | apply Kd.F_drew)); exact Kd.V_F (Kd.V_mono (ok' := (fun k_ => ((P0_ k_ ∨ P1_ k_) ∨ w.heap.size ≤ k_) ∧ k_ ≠ gb285)) (HO0.out) (fun k_ hk => ⟨hk.1, hk.2⟩)))))) (Reps.one (show Kd.FK (Kd.slice 3 (Kd.int .i64)) _ _ l1 [.slice A1 l1.length c1] from (Kd.FK_slice_mk (Kd.V_reads' (Kd.V_mono (ok' := (fun k_ => ((P0_ k_ ∨ P1_ k_) ∨ w.heap.size ≤ k_) ∧ k_ ≠ gb285)) (HO1.out) (fun k_ hk => ⟨hk.1, hk.2⟩))).2.1 (by first | with_reducible exact Kd.V_F (Kd.V_mono (ok' := (fun k_ => ((P0_ k_ ∨ P1_ k_) ∨ w.heap.size ≤ k_) ∧ k_ ≠ gb285)) (HO1.out) (fun k_ hk => ⟨hk.1, hk.2⟩)) | ((with_reducible repeat (first | apply Kd.F_alloc | apply Kd.F_drewN | apply Kd.F_drew)); exact Kd.V_F (Kd.V_mono (ok' := (fun k_ => ((P0_ k_ ∨ P1_ k_) ∨ w.heap.size ≤ k_) ∧ k_ ≠ gb285)) (HO1.out) (fun k_ hk => ⟨hk.1, hk.2⟩)))))) (Reps.none _ _)))); intro v288 w7 ho8 hb hg_ hnew_; clear hg_ hnew_; (first | rw [← Ny287.out] at ho8 | (simp only [Int.reduceToNat] at ho8; rw [← Ny287.out] at ho8)); have n0_ := Aside0.mk (Kd.V_elder' (by (with_reducible repeat (first | apply Kd.V_alloc | apply Kd.V_drewN | apply Kd.V_drew)); exact HO0.out) (Kd.N_base ho8) hb); have n1_ := Aside0.mk (Kd.V_elder' (by (with_reducible repeat (first | apply Kd.V_alloc | apply Kd.V_drewN | apply Kd.V_drew)); exact HO1.out) (Kd.N_base ho8) hb); have n2_ := Aside0.mk (Kd.N_lower ho8 (below_size (by repeat (first | (with_reducible first | exact HB.out | apply below_alloc | apply pw_below_drewN | apply below_drew1 | refine below_set ?_ GE285.out) | exact HB.out)))); have n3_ := Aside0.mk (blk_below (g := gb285) (o := .cells #[.int .i64 0, .int .i64 0] 35 (0, 0)) (by (with_reducible repeat (first | refine blk_drewN ?_ _ | refine blk_drew ?_ | refine blk_alloc ?_ _)); exact BK285.out) hb); have n4_ := Aside0.mk (below_step (by repeat (first | (with_reducible first | exact HB.out | apply below_alloc | apply pw_below_drewN | apply below_drew1 | refine below_set ?_ GE285.out) | exact HB.out)) hb); clear HO0; clear HO1; clear BK285; clear HB; have HO0 := n0_; have HO1 := n1_; have HO289 := n2_; have BK285 := n3_; have HB := n4_; clear n0_ n1_ n2_ n3_ n4_; clear hb ho8; obtain ⟨Ao9, co9, eo9⟩ := Kd.N_slice HO289.out; subst eo9))
    go_loopg [32] k (fun kq v32 w' => ∃ (x32_1 : Int) (x286000_1 : Int) (x286001_1 : Int), v32 = .int .i64 x32_1 ∧ Aside0 (near_Estimate.l0 kq l0 l1 a2 y287 (y287.length : Int) x32_1 = some (r1, r2, r3)) ∧ Aside0 (kq ≤ k) ∧ Aside0 (Kd.V (Kd.int .i64) 3 w' w.heap.size (fun k_ => ((P0_ k_ ∨ P1_ k_) ∨ w.heap.size ≤ k_) ∧ some k_ ≠ ((.slice Ao9 y287.length co9) : Value).ownBlock ∧ k_ ≠ gb285) (.slice A0 l0.length c0) l0) ∧ Aside0 (Kd.V (Kd.int .i64) 3 w' w.heap.size (fun k_ => ((P0_ k_ ∨ P1_ k_) ∨ w.heap.size ≤ k_) ∧ some k_ ≠ ((.slice Ao9 y287.length co9) : Value).ownBlock ∧ k_ ≠ gb285) (.slice A1 l1.length c1) l1) ∧ Aside0 (Kd.N (Kd.slice 3 (Kd.int .i64)) 22 w' w.heap.size (fun k_ => ((P0_ k_ ∨ P1_ k_) ∨ w.heap.size ≤ k_) ∧ k_ ≠ gb285) (.slice Ao9 y287.length co9) y287) ∧ Aside0 (w'.heap[gb285]? = some (.cells #[.int .i64 x286000_1, .int .i64 x286001_1] 35 (0, 0))) ∧ Aside0 (Below w.heap.size w w'))
    case atStart => exact ⟨(0), (0), (0), (by first | rfl | (simp; done) | (simp [*]; done)), H', ⟨Nat.le_refl _⟩, ⟨by (with_reducible repeat (first | apply Kd.V_alloc | apply Kd.V_drewN | apply Kd.V_drew)); exact Kd.V_mono HO0.out (fun _ hk => ⟨hk.1.1, ⟨(by first | with_reducible exact hk.2 | exact own_len_ hk.2 | exact hk.2), hk.1.2⟩⟩)⟩, ⟨by (with_reducible repeat (first | apply Kd.V_alloc | apply Kd.V_drewN | apply Kd.V_drew)); exact Kd.V_mono HO1.out (fun _ hk => ⟨hk.1.1, ⟨(by first | with_reducible exact hk.2 | exact own_len_ hk.2 | exact hk.2), hk.1.2⟩⟩)⟩, ⟨by (with_reducible repeat (first | apply Kd.N_alloc | apply Kd.N_drewN | apply Kd.N_drew)); exact HO289.out⟩, ⟨by (with_reducible repeat (first | refine blk_drewN ?_ _ | refine blk_drew ?_ | refine blk_alloc ?_ _)); exact BK285.out⟩, ⟨by repeat (first | (with_reducible first | exact HB.out | apply below_alloc | apply pw_below_drewN | apply below_drew1 | refine below_set ?_ GE285.out) | exact HB.out)⟩⟩
    case round =>
      clear H'
      try clear c1
      try clear p2
      try clear c3
      try clear c5
      try clear c5b0
      try clear c5b1
      obtain ⟨x32_1, x286000_1, x286001_1, rfl, HA, HK1, HO_0, HO_1, HO_30, BK285, HB⟩ := hrel
      cases gk with
      | zero => exact absurd HA.out (by simp [near_Estimate.l0])
      | succ k1 =>
        have H := HA.out
        clear HA
        simp only [near_Estimate.l0] at H
        by_cases c10 : x32_1 < (y287.length : Int)
        · rw [if_pos c10] at H
          have c10b0 : decide (x32_1 < (y287.length : Int)) = true := decide_eq_true c10
          clear c10
          by_cases c11 : 0 ≤ x32_1
          · rw [if_pos c11] at H
            have c11b0 : decide (0 ≤ x32_1) = true := decide_eq_true c11
            clear c11
            by_cases c12 : x32_1 < (y287.length : Int)
            · rw [if_pos c12] at H
              have c12b0 : decide (x32_1 < (y287.length : Int)) = true := decide_eq_true c12
              clear c12
              by_cases c13 : ((rd_L3 y287 x32_1).length : Int) > a2
              · rw [if_pos c13] at H
                have c13b0 : decide (a2 < ((rd_L3 y287 x32_1).length : Int)) = true := decide_eq_true c13
                clear c13
                simp only [Option.some.injEq, Prod.mk.injEq] at H
                obtain ⟨rfl, rfl, rfl⟩ := H
                have p290 : 0 ≤ (x32_1 : Int) := of_decide_eq_true (by first | (with_reducible assumption) | assumption)
                have q290 : x32_1 < (y287.length : Int) := of_decide_eq_true (by first | (with_reducible assumption) | assumption)
                obtain ⟨ad290, A290_0, c290_0, e290, hx290_0, hl290_0, hi290_0⟩ := at_L3 (Kd.N_reads' HO_30.out).2.2 x32_1 p290 q290
                cases e290
                obtain ⟨ce290, hce290, hMe290, hcc290⟩ := Kd.N_get HO_30.out [] x32_1 p290 (by first | exact q290 | exact of_decide_eq_true (by first | (with_reducible assumption) | assumption) | (have e_ := (Kd.N_reads' HO_30.out).1; omega))
                obtain ⟨ua290_0, uc290_0, rfl, ul290_0, ge290_0⟩ := Kd.FK_slice_open hMe290
                have hv290_0 := hcc290 0 _ rfl
                rw [Nat.add_zero, show ((Kd.slice 3 (Kd.int .i64))).sz = 1 from rfl, Nat.mul_one] at hv290_0
                replace hv290_0 := Option.some.inj (hv290_0.symm.trans hx290_0)
                injection hv290_0 with hva_ hvn_ hvc_
                rw [hva_] at ge290_0
                rw [hvc_] at ul290_0
                have HL290_0 := Aside0.mk (show Kd.V (Kd.int .i64) 3 _ w.heap.size _ _ (rd_L3 y287 x32_1) from Kd.V_mk ul290_0 ge290_0)
                clear hva_ hvn_ hvc_ ge290_0 ul290_0
                clear hcc290 hce290
                have HR290_0 := Aside0.mk hi290_0
                have HC290_0 := Aside0.mk hl290_0
                clear hi290_0 hl290_0
                replace p290 := eq_true p290
                replace q290 := eq_true q290
                have hcz14_0 : wr.cell? ⟨gb285, 0, none⟩ = some (.int .i64 x286000_1) := (blk_cell BK285.out 0).trans rfl
                have hcz14_1 : wr.cell? ⟨gb285, 1, none⟩ = some (.int .i64 x286001_1) := (blk_cell BK285.out 1).trans rfl
                have hfz14_0 := blk_frozen BK285.out 0
                have hfz14_1 := blk_frozen BK285.out 1
                go_wp2
                refine bodyPost_ret (results_ct rfl _ _ gb285 35 #[.int .i64 0, .int .i64 0] (0, 0) _ rfl (by (with_reducible repeat (first | refine blk_drewN ?_ _ | refine blk_drew ?_ | refine blk_alloc ?_ _)); refine blk_put (cs := #[.int .i64 0, .int .i64 x286001_1]) ?_ 1 _ rfl; (with_reducible repeat (first | refine blk_drewN ?_ _ | refine blk_drew ?_ | refine blk_alloc ?_ _)); refine blk_put (cs := #[.int .i64 x286000_1, .int .i64 x286001_1]) ?_ 0 _ rfl; (with_reducible repeat (first | refine blk_drewN ?_ _ | refine blk_drew ?_ | refine blk_alloc ?_ _)); exact BK285.out) Try.underlying35 rfl (by kernel_rfl)) rfl ?_
                exact ⟨by first | rfl | (simp [errW_none, errW_some] <;> rfl) | (simp [*, errW_none, errW_some] <;> rfl), by repeat (first | (with_reducible first | exact HB.out | apply below_alloc | apply pw_below_drewN | apply below_drew1 | refine below_set ?_ GE285.out) | exact HB.out)⟩
              · rw [if_neg c13] at H
                have c13b0 : decide (a2 < ((rd_L3 y287 x32_1).length : Int)) = false := decide_eq_false c13
                clear c13
                have H' := Aside0.mk H
                clear H
                have p290 : 0 ≤ (x32_1 : Int) := of_decide_eq_true (by first | (with_reducible assumption) | assumption)
                have q290 : x32_1 < (y287.length : Int) := of_decide_eq_true (by first | (with_reducible assumption) | assumption)
                obtain ⟨ad290, A290_0, c290_0, e290, hx290_0, hl290_0, hi290_0⟩ := at_L3 (Kd.N_reads' HO_30.out).2.2 x32_1 p290 q290
                cases e290
                obtain ⟨ce290, hce290, hMe290, hcc290⟩ := Kd.N_get HO_30.out [] x32_1 p290 (by first | exact q290 | exact of_decide_eq_true (by first | (with_reducible assumption) | assumption) | (have e_ := (Kd.N_reads' HO_30.out).1; omega))
                obtain ⟨ua290_0, uc290_0, rfl, ul290_0, ge290_0⟩ := Kd.FK_slice_open hMe290
                have hv290_0 := hcc290 0 _ rfl
                rw [Nat.add_zero, show ((Kd.slice 3 (Kd.int .i64))).sz = 1 from rfl, Nat.mul_one] at hv290_0
                replace hv290_0 := Option.some.inj (hv290_0.symm.trans hx290_0)
                injection hv290_0 with hva_ hvn_ hvc_
                rw [hva_] at ge290_0
                rw [hvc_] at ul290_0
                have HL290_0 := Aside0.mk (show Kd.V (Kd.int .i64) 3 _ w.heap.size _ _ (rd_L3 y287 x32_1) from Kd.V_mk ul290_0 ge290_0)
                clear hva_ hvn_ hvc_ ge290_0 ul290_0
                clear hcc290 hce290
                have HR290_0 := Aside0.mk hi290_0
                have HC290_0 := Aside0.mk hl290_0
                clear hi290_0 hl290_0
                replace p290 := eq_true p290
                replace q290 := eq_true q290
                go_wp2
                go_loopg [43] k1 (fun kq v43 w' => ∃ (x43_2 : Int) (x286000_2 : Int) (x286001_2 : Int), v43 = .int .i64 x43_2 ∧ Aside0 (near_Estimate.l1 kq l0 l1 a2 (rd_L3 y287 x32_1) y287 (y287.length : Int) x32_1 (rd_L3 y287 x32_1) ((rd_L3 y287 x32_1).length : Int) x43_2 = some (r1, r2, r3)) ∧ Aside0 (kq ≤ k1) ∧ Aside0 (Kd.V (Kd.int .i64) 3 w' w.heap.size (fun k_ => ((P0_ k_ ∨ P1_ k_) ∨ w.heap.size ≤ k_) ∧ some k_ ≠ ((.slice (some ad290) y287.length co9) : Value).ownBlock ∧ k_ ≠ gb285) (.slice A0 l0.length c0) l0) ∧ Aside0 (Kd.V (Kd.int .i64) 3 w' w.heap.size (fun k_ => ((P0_ k_ ∨ P1_ k_) ∨ w.heap.size ≤ k_) ∧ some k_ ≠ ((.slice (some ad290) y287.length co9) : Value).ownBlock ∧ k_ ≠ gb285) (.slice A1 l1.length c1) l1) ∧ Aside0 (Kd.N (Kd.slice 3 (Kd.int .i64)) 22 w' w.heap.size (fun k_ => ((P0_ k_ ∨ P1_ k_) ∨ w.heap.size ≤ k_) ∧ k_ ≠ gb285) (.slice (some ad290) y287.length co9) y287) ∧ Aside0 (w'.heap[gb285]? = some (.cells #[.int .i64 x286000_2, .int .i64 x286001_2] 35 (0, 0))) ∧ Aside0 (Kd.C (Kd.int .i64) w' A290_0 (rd_L3 y287 x32_1).length (rd_L3 y287 x32_1)) ∧ Aside0 (Below w.heap.size w w'))
                case atStart => exact ⟨(0), (x286000_1), (x286001_1), (by first | rfl | (simp; done) | (simp [*]; done)), H', ⟨Nat.le_refl _⟩, ⟨by (with_reducible repeat (first | apply Kd.V_alloc | apply Kd.V_drewN | apply Kd.V_drew)); exact HO_0.out⟩, ⟨by (with_reducible repeat (first | apply Kd.V_alloc | apply Kd.V_drewN | apply Kd.V_drew)); exact HO_1.out⟩, ⟨by (with_reducible repeat (first | apply Kd.N_alloc | apply Kd.N_drewN | apply Kd.N_drew)); exact HO_30.out⟩, ⟨by (with_reducible repeat (first | refine blk_drewN ?_ _ | refine blk_drew ?_ | refine blk_alloc ?_ _)); exact BK285.out⟩, ⟨by repeat (first | (with_reducible exact HR290_0.out) | (with_reducible refine Kd.C_alloc ?_ _) | (with_reducible refine Kd.C_drewN ?_ _) | (with_reducible refine Kd.C_drew ?_) | exact HR290_0.out)⟩, ⟨by repeat (first | (with_reducible first | exact HB.out | apply below_alloc | apply pw_below_drewN | apply below_drew1 | refine below_set ?_ GE285.out) | exact HB.out)⟩⟩
                case round =>
                  clear H'
                  try clear c1
                  try clear c2
                  try clear p2
                  try clear q2
                  try clear hx2
                  try clear c3
                  try clear c5
                  try clear c5b0
                  try clear c5b1
                  try clear c10
                  try clear c10b0
                  try clear c11
                  try clear c11b0
                  try clear c12
                  try clear c12b0
                  try clear c13
                  try clear c13b0
                  try clear hcz14_0
                  try clear hcz14_1
                  try clear hfz14_0
                  try clear hfz14_1
                  try clear hx290_0
                  try clear p2
                  try clear p290
                  try clear q290
                  obtain ⟨x43_2, x286000_2, x286001_2, rfl, HA, HK2, HO_0, HO_1, HO_30, BK285, HR290_0, HB⟩ := hrel
                  cases gk with
                  | zero => exact absurd HA.out (by simp [near_Estimate.l1])
                  | succ k2 =>
                    have H := HA.out
                    clear HA
                    simp only [near_Estimate.l1] at H
                    by_cases c15 : x43_2 < ((rd_L3 y287 x32_1).length : Int)
                    · rw [if_pos c15] at H
                      have c15b0 : decide (x43_2 < ((rd_L3 y287 x32_1).length : Int)) = true := decide_eq_true c15
                      clear c15
                      by_cases c16 : 0 ≤ x43_2
                      · rw [if_pos c16] at H
                        have c16b0 : decide (0 ≤ x43_2) = true := decide_eq_true c16
                        clear c16
                        by_cases c17 : x43_2 < ((rd_L3 y287 x32_1).length : Int)
                        · rw [if_pos c17] at H
                          have c17b0 : decide (x43_2 < ((rd_L3 y287 x32_1).length : Int)) = true := decide_eq_true c17
                          clear c17
                          replace H := Option.bind_eq_some_iff.mp H
                          obtain ⟨t292, A180, H⟩ := H
                          replace H : (if x43_2 > 0 then (if 0 ≤ (wrap64 ((mx x43_2 1) - 1)) then (if (wrap64 ((mx x43_2 1) - 1)) < ((rd_L3 y287 x32_1).length : Int) then ((base_When.f (decide ((rd (rd_L3 y287 x32_1) x43_2) ≤ (rd (rd_L3 y287 x32_1) (wrap64 ((mx x43_2 1) - 1))))) 7).bind fun t294 => ((base_First.f k2 (([t292, t294] : List Int))).bind fun t298 => (if t298 = 0 then (near_Estimate.l1 k2 l0 l1 a2 (rd_L3 y287 x32_1) y287 (y287.length : Int) x32_1 (rd_L3 y287 x32_1) ((rd_L3 y287 x32_1).length : Int) (wrap64 (x43_2 + 1))) else (some (0, 0, t298))))) else (none)) else (none)) else ((base_When.f false 7).bind fun t299 => ((base_First.f k2 (([t292, t299] : List Int))).bind fun t303 => (if t303 = 0 then (near_Estimate.l1 k2 l0 l1 a2 (rd_L3 y287 x32_1) y287 (y287.length : Int) x32_1 (rd_L3 y287 x32_1) ((rd_L3 y287 x32_1).length : Int) (wrap64 (x43_2 + 1))) else (some (0, 0, t303)))))) = some (r1, r2, r3) := H
                          have A18 := Aside0.mk A180
                          clear A180
                          by_cases c19 : x43_2 > 0
                          · rw [if_pos c19] at H
                            have c19b0 : decide (0 < x43_2) = true := decide_eq_true c19
                            clear c19
                            obtain ⟨ji20, hji20⟩ : ∃ j_ : Int, (mx x43_2 1) = j_ := ⟨_, rfl⟩
                            replace H : (if 0 ≤ (wrap64 ((ji20) - 1)) then (if (wrap64 ((ji20) - 1)) < ((rd_L3 y287 x32_1).length : Int) then ((base_When.f (decide ((rd (rd_L3 y287 x32_1) x43_2) ≤ (rd (rd_L3 y287 x32_1) (wrap64 ((ji20) - 1))))) 7).bind fun t294 => ((base_First.f k2 (([t292, t294] : List Int))).bind fun t298 => (if t298 = 0 then (near_Estimate.l1 k2 l0 l1 a2 (rd_L3 y287 x32_1) y287 (y287.length : Int) x32_1 (rd_L3 y287 x32_1) ((rd_L3 y287 x32_1).length : Int) (wrap64 (x43_2 + 1))) else (some (0, 0, t298))))) else (none)) else (none)) = some (r1, r2, r3) := by first | (rw [hji20] at H; exact H) | (simp only [hji20] at H ⊢; exact H)
                            (try rw [hji20] at A18)
                            have hji20_ : (if x43_2 < 1 then 1 else x43_2) = ji20 := hji20
                            obtain ⟨ji21, hji21⟩ : ∃ j_ : Int, (wrap64 ((ji20) - 1)) = j_ := ⟨_, rfl⟩
                            replace H : (if 0 ≤ (ji21) then (if (ji21) < ((rd_L3 y287 x32_1).length : Int) then ((base_When.f (decide ((rd (rd_L3 y287 x32_1) x43_2) ≤ (rd (rd_L3 y287 x32_1) (ji21)))) 7).bind fun t294 => ((base_First.f k2 (([t292, t294] : List Int))).bind fun t298 => (if t298 = 0 then (near_Estimate.l1 k2 l0 l1 a2 (rd_L3 y287 x32_1) y287 (y287.length : Int) x32_1 (rd_L3 y287 x32_1) ((rd_L3 y287 x32_1).length : Int) (wrap64 (x43_2 + 1))) else (some (0, 0, t298))))) else (none)) else (none)) = some (r1, r2, r3) := by first | (rw [hji21] at H; exact H) | (simp only [hji21] at H ⊢; exact H)
                            (try rw [hji21] at A18)
                            have hji21w : (IntKind.i64.wrap ((ji20) - 1)) = ji21 := (i64_w _).trans hji21
                            by_cases c22 : 0 ≤ (ji21)
                            · rw [if_pos c22] at H
                              have c22b0 : decide (0 ≤ (ji21)) = true := decide_eq_true c22
                              clear c22
                              by_cases c23 : (ji21) < ((rd_L3 y287 x32_1).length : Int)
                              · rw [if_pos c23] at H
                                have c23b0 : decide ((ji21) < ((rd_L3 y287 x32_1).length : Int)) = true := decide_eq_true c23
                                clear c23
                                replace H := Option.bind_eq_some_iff.mp H
                                obtain ⟨t294, A240, H⟩ := H
                                replace H : ((base_First.f k2 (([t292, t294] : List Int))).bind fun t298 => (if t298 = 0 then (near_Estimate.l1 k2 l0 l1 a2 (rd_L3 y287 x32_1) y287 (y287.length : Int) x32_1 (rd_L3 y287 x32_1) ((rd_L3 y287 x32_1).length : Int) (wrap64 (x43_2 + 1))) else (some (0, 0, t298)))) = some (r1, r2, r3) := H
                                have A24 := Aside0.mk A240
                                clear A240
                                obtain ⟨y295, hy295⟩ : ∃ y_ : List Int, y_ = (([t292, t294] : List Int)) := ⟨_, rfl⟩
                                replace H : ((base_First.f k2 y295).bind fun t298 => (if t298 = 0 then (near_Estimate.l1 k2 l0 l1 a2 (rd_L3 y287 x32_1) y287 (y287.length : Int) x32_1 (rd_L3 y287 x32_1) ((rd_L3 y287 x32_1).length : Int) (wrap64 (x43_2 + 1))) else (some (0, 0, t298)))) = some (r1, r2, r3) := by first | (rw [hy295]; with_reducible exact H) | (have H2_ := (Option.bind_some _ _).symm.trans H; rw [hy295]; with_reducible exact H2_) | (have H2_ := (Option.bind_some _ _).symm.trans H; with_reducible exact H2_) | with_reducible exact H | (rw [hy295]; exact H) | exact H
                                have Ny295 := Aside0.mk hy295
                                clear hy295
                                replace H := Option.bind_eq_some_iff.mp H
                                obtain ⟨t298, A250, H⟩ := H
                                replace H : (if t298 = 0 then (near_Estimate.l1 k2 l0 l1 a2 (rd_L3 y287 x32_1) y287 (y287.length : Int) x32_1 (rd_L3 y287 x32_1) ((rd_L3 y287 x32_1).length : Int) (wrap64 (x43_2 + 1))) else (some (0, 0, t298))) = some (r1, r2, r3) := H
                                have A25 := Aside0.mk A250
                                clear A250
                                by_cases c26 : t298 = 0
                                · rw [if_pos c26] at H
                                  have c26b0 : (t298 == 0) = true := beq_iff_eq.mpr c26
                                  have c26b1 : (t298 != 0) = false := bne_eq_false_iff_eq.mpr c26
                                  clear c26
                                  have H' := Aside0.mk H
                                  clear H
                                  have p291 : 0 ≤ (x43_2 : Int) := of_decide_eq_true (by first | (with_reducible assumption) | assumption)
                                  have q291 : x43_2 < ((rd_L3 y287 x32_1).length : Int) := of_decide_eq_true (by first | (with_reducible assumption) | assumption)
                                  obtain ⟨ad291, e291, hx291_0⟩ := Kd.at_int HR290_0.out x43_2 p291 q291
                                  cases e291
                                  first | replace hx291_0 := (HB.out.cell (World.block_lt_of_cell? w _ hx291_0)).trans hx291_0 | skip
                                  replace p291 := eq_true p291
                                  replace q291 := eq_true q291
                                  go_wp2_with (first | ((with_reducible refine gate_callee (f := 43) rfl ?_); refine goesL_ (some 50) rfl rfl Try.func43 (by kernel_rfl) rfl #[.bool (decide ((rd (rd_L3 y287 x32_1) x43_2) < 0)), .int .i64 1] rfl (by (try simp only [List.map_toArray, List.map_cons, List.map_nil]); first | done | rfl | (simp only [List.length_drop, List.length_take]; rfl)) ?_; (with_reducible refine (base_When.calls (decide ((rd (rd_L3 y287 x32_1) x43_2) < 0)) 1 t292 _ A18.out).mono ?_); rintro e w' ⟨rfl, ⟨nd, rfl⟩⟩; refine ⟨_, rfl, ?_⟩; have p293 : 0 ≤ ((ji21) : Int) := of_decide_eq_true (by first | (with_reducible assumption) | assumption); have q293 : (ji21) < ((rd_L3 y287 x32_1).length : Int) := of_decide_eq_true (by first | (with_reducible assumption) | assumption); obtain ⟨ad293, e293, hx293_0⟩ := Kd.at_int HR290_0.out (ji21) p293 q293; obtain rfl : ad291 = ad293 := (by injection e293); first | replace hx293_0 := (HB.out.cell (World.block_lt_of_cell? w _ hx293_0)).trans hx293_0 | skip; replace p293 := eq_true p293; replace q293 := eq_true q293) | ((with_reducible refine gate_callee (f := 43) rfl ?_); refine goesL_ (some 63) rfl rfl Try.func43 (by kernel_rfl) rfl #[.bool (decide ((rd (rd_L3 y287 x32_1) x43_2) ≤ (rd (rd_L3 y287 x32_1) (ji21)))), .int .i64 7] rfl (by (try simp only [List.map_toArray, List.map_cons, List.map_nil]); first | done | (simp only [hji21]; rfl) | rfl | (simp only [List.length_drop, List.length_take]; rfl)) ?_; (with_reducible refine (base_When.calls (decide ((rd (rd_L3 y287 x32_1) x43_2) ≤ (rd (rd_L3 y287 x32_1) (ji21)))) 7 t294 _ A24.out).mono ?_); rintro e w' ⟨rfl, ⟨nd, rfl⟩⟩; refine ⟨_, rfl, ?_⟩) | ((with_reducible refine gate_dst (N := 64) rfl ?_); (try (refine gate_guard (by rfl) ?_; dsimp only)); refine Kd.R_lit (Kd.int .i64) _ 29 ?hg (N := 64) ?hd (xs := ([t292, t294] : List Int)) (inner := [.int .i64 t292, .int .i64 t294]) (ok := fun _ => True) (okp := fun _ => True) ?hr ?hp (fun _ hk => hk) trivial (Below.refl _ _) (Nat.le_refl _) (by simp) ?_; (case hd => rfl); (case hg => rfl); (case hr => first | (go_simp; done) | (go_simp; rfl)); (case hp => exact (Reps.one (show Kd.M (Kd.int .i64) _ _ _ t292 [.int .i64 t292] from rfl) (Reps.one (show Kd.M (Kd.int .i64) _ _ _ t294 [.int .i64 t294] from rfl) (Reps.none _ _)))); intro v296 w27 ho28 hb hg_ hnew_; clear hg_ hnew_; (first | rw [← Ny295.out] at ho28 | (simp only [Int.reduceToNat] at ho28; rw [← Ny295.out] at ho28)); have n0_ := Aside0.mk (Kd.V_elder' (by (with_reducible repeat (first | apply Kd.V_alloc | apply Kd.V_drewN | apply Kd.V_drew)); exact HO_0.out) (Kd.R_base ho28) hb); have n1_ := Aside0.mk (Kd.V_elder' (by (with_reducible repeat (first | apply Kd.V_alloc | apply Kd.V_drewN | apply Kd.V_drew)); exact HO_1.out) (Kd.R_base ho28) hb); have n2_ := Aside0.mk (Kd.N_elder' (by (with_reducible repeat (first | apply Kd.N_alloc | apply Kd.N_drewN | apply Kd.N_drew)); exact HO_30.out) (Kd.R_base ho28) hb); have n3_ := Aside0.mk (Kd.R_lower (Kd.R_newM (M := fun k_ => (w.heap.size ≤ k_)) ho28 (below_size (by repeat (first | (with_reducible first | exact HB.out | apply below_alloc | apply pw_below_drewN | apply below_drew1 | refine below_set ?_ GE285.out) | exact HB.out))) (fun k_ h_ => h_)) (below_size (by repeat (first | (with_reducible first | exact HB.out | apply below_alloc | apply pw_below_drewN | apply below_drew1 | refine below_set ?_ GE285.out) | exact HB.out)))); have n4_ := Aside0.mk (blk_below (g := gb285) (o := .cells #[.int .i64 x286000_2, .int .i64 x286001_2] 35 (0, 0)) (by (with_reducible repeat (first | refine blk_drewN ?_ _ | refine blk_drew ?_ | refine blk_alloc ?_ _)); exact BK285.out) hb); have n5_ := Aside0.mk (Kd.C_below (by repeat (first | (with_reducible exact HR290_0.out) | (with_reducible refine Kd.C_alloc ?_ _) | (with_reducible refine Kd.C_drewN ?_ _) | (with_reducible refine Kd.C_drew ?_) | exact HR290_0.out)) hb); have n6_ := Aside0.mk (below_step (by repeat (first | (with_reducible first | exact HB.out | apply below_alloc | apply pw_below_drewN | apply below_drew1 | refine below_set ?_ GE285.out) | exact HB.out)) hb); clear HO_0; clear HO_1; clear HO_30; clear BK285; clear HR290_0; clear HB; have HO_0 := n0_; have HO_1 := n1_; have HO_30 := n2_; have HO297 := n3_; have BK285 := n4_; have HR290_0 := n5_; have HB := n6_; clear n0_ n1_ n2_ n3_ n4_ n5_ n6_; clear hb ho28; obtain ⟨Ao29, co29, eo29⟩ := Kd.R_slice HO297.out; subst eo29) | ((with_reducible refine gate_callee (f := 34) rfl ?_); refine goesL_ (some 65) rfl rfl Try.func34 (by kernel_rfl) rfl #[.slice Ao29 y295.length co29] rfl (by (try simp only [List.map_toArray, List.map_cons, List.map_nil]); first | done | rfl | (simp only [List.length_drop, List.length_take]; rfl)) ?_; (with_reducible refine (base_First.calls k2 _ _ y295 t298 _ ?side1 ?side2 A25.out).mono ?_); (case side1 => repeat (first | exact (Kd.R_reads' HO297.out).2.2 | (with_reducible refine Kd.C_alloc ?_ _) | (with_reducible refine Kd.C_drewN ?_ _) | (with_reducible refine Kd.C_drew ?_))); (case side2 => exact (Kd.R_reads' HO297.out).2.1); rintro e w' ⟨rfl, ⟨nd, rfl⟩⟩; refine ⟨_, rfl, ?_⟩))
                                  go_roundg k2
                                  case measure => have := HK1.out; have := HK2.out; omega
                                  case rel => exact ⟨(wrap64 (x43_2 + 1)), (x286000_2), (x286001_2), (by first | rfl | (simp; done) | (simp [*]; done)), H', ⟨by have := HK1.out; have := HK2.out; omega⟩, ⟨by (with_reducible repeat (first | apply Kd.V_alloc | apply Kd.V_drewN | apply Kd.V_drew)); exact Kd.V_mono HO_0.out (fun _ hk => ⟨hk.1.1, ⟨(by first | with_reducible exact hk.1.2.1 | exact own_len_ hk.1.2.1 | exact hk.1.2.1), hk.1.2.2⟩⟩)⟩, ⟨by (with_reducible repeat (first | apply Kd.V_alloc | apply Kd.V_drewN | apply Kd.V_drew)); exact Kd.V_mono HO_1.out (fun _ hk => ⟨hk.1.1, ⟨(by first | with_reducible exact hk.1.2.1 | exact own_len_ hk.1.2.1 | exact hk.1.2.1), hk.1.2.2⟩⟩)⟩, ⟨by (with_reducible repeat (first | apply Kd.N_alloc | apply Kd.N_drewN | apply Kd.N_drew)); exact Kd.N_mono HO_30.out (fun _ hk => ⟨hk.1.1, hk.1.2⟩)⟩, ⟨by (with_reducible repeat (first | refine blk_drewN ?_ _ | refine blk_drew ?_ | refine blk_alloc ?_ _)); exact BK285.out⟩, ⟨by repeat (first | (with_reducible exact HR290_0.out) | (with_reducible refine Kd.C_alloc ?_ _) | (with_reducible refine Kd.C_drewN ?_ _) | (with_reducible refine Kd.C_drew ?_) | exact HR290_0.out)⟩, ⟨by repeat (first | (with_reducible first | exact HB.out | apply below_alloc | apply pw_below_drewN | apply below_drew1 | refine below_set ?_ GE285.out) | exact HB.out)⟩⟩
                                · rw [if_neg c26] at H
                                  have c26b0 : (t298 == 0) = false := beq_eq_false_iff_ne.mpr c26
                                  have c26b1 : (t298 != 0) = true := bne_iff_ne.mpr c26
                                  simp only [Option.some.injEq, Prod.mk.injEq] at H
                                  obtain ⟨rfl, rfl, rfl⟩ := H
                                  have p291 : 0 ≤ (x43_2 : Int) := of_decide_eq_true (by first | (with_reducible assumption) | assumption)
                                  have q291 : x43_2 < ((rd_L3 y287 x32_1).length : Int) := of_decide_eq_true (by first | (with_reducible assumption) | assumption)
                                  obtain ⟨ad291, e291, hx291_0⟩ := Kd.at_int HR290_0.out x43_2 p291 q291
                                  cases e291
                                  first | replace hx291_0 := (HB.out.cell (World.block_lt_of_cell? w _ hx291_0)).trans hx291_0 | skip
                                  replace p291 := eq_true p291
                                  replace q291 := eq_true q291
                                  go_wp2_with (first | ((with_reducible refine gate_callee (f := 43) rfl ?_); refine goesL_ (some 50) rfl rfl Try.func43 (by kernel_rfl) rfl #[.bool (decide ((rd (rd_L3 y287 x32_1) x43_2) < 0)), .int .i64 1] rfl (by (try simp only [List.map_toArray, List.map_cons, List.map_nil]); first | done | rfl | (simp only [List.length_drop, List.length_take]; rfl)) ?_; (with_reducible refine (base_When.calls (decide ((rd (rd_L3 y287 x32_1) x43_2) < 0)) 1 t292 _ A18.out).mono ?_); rintro e w' ⟨rfl, ⟨nd, rfl⟩⟩; refine ⟨_, rfl, ?_⟩; (try (rw [drewN_self wr]; generalize hq_ : World.drewN wr _ = wr; have n0_ : Aside0 (Kd.V (Kd.int .i64) 3 wr w.heap.size (fun k_ => ((P0_ k_ ∨ P1_ k_) ∨ w.heap.size ≤ k_) ∧ some k_ ≠ (.slice (some ad290) y287.length co9 : Value).ownBlock ∧ k_ ≠ gb285) (.slice A0 l0.length c0) l0) := ⟨by rw [← hq_]; exact (by (with_reducible repeat (first | apply Kd.V_alloc | apply Kd.V_drewN | apply Kd.V_drew)); exact HO_0.out)⟩; have n1_ : Aside0 (Kd.V (Kd.int .i64) 3 wr w.heap.size (fun k_ => ((P0_ k_ ∨ P1_ k_) ∨ w.heap.size ≤ k_) ∧ some k_ ≠ (.slice (some ad290) y287.length co9 : Value).ownBlock ∧ k_ ≠ gb285) (.slice A1 l1.length c1) l1) := ⟨by rw [← hq_]; exact (by (with_reducible repeat (first | apply Kd.V_alloc | apply Kd.V_drewN | apply Kd.V_drew)); exact HO_1.out)⟩; have n2_ : Aside0 (Kd.N (Kd.slice 3 (Kd.int .i64)) 22 wr w.heap.size (fun k_ => ((P0_ k_ ∨ P1_ k_) ∨ w.heap.size ≤ k_) ∧ k_ ≠ gb285) (.slice (some ad290) y287.length co9) y287) := ⟨by rw [← hq_]; exact (by (with_reducible repeat (first | apply Kd.N_alloc | apply Kd.N_drewN | apply Kd.N_drew)); exact HO_30.out)⟩; have n3_ : Aside0 (wr.heap[gb285]? = some (.cells #[.int .i64 x286000_2, .int .i64 x286001_2] 35 (0, 0))) := ⟨by rw [← hq_]; exact (by (with_reducible repeat (first | refine blk_drewN ?_ _ | refine blk_drew ?_ | refine blk_alloc ?_ _)); exact BK285.out)⟩; have n4_ : Aside0 (Below w.heap.size w wr) := ⟨by rw [← hq_]; exact (by repeat (first | (with_reducible first | exact HB.out | apply below_alloc | apply pw_below_drewN | apply below_drew1 | refine below_set ?_ GE285.out) | exact HB.out))⟩; have n5_ : Aside0 (Kd.C (Kd.int .i64) wr (some ad291) (rd_L3 y287 x32_1).length (rd_L3 y287 x32_1)) := ⟨by rw [← hq_]; exact (by repeat (first | (with_reducible exact HR290_0.out) | (with_reducible refine Kd.C_alloc ?_ _) | (with_reducible refine Kd.C_drewN ?_ _) | (with_reducible refine Kd.C_drew ?_) | exact HR290_0.out))⟩; clear HO_0 HO_1 HO_30 BK285 HB HR290_0 hq_; have HO_0 := n0_; have HO_1 := n1_; have HO_30 := n2_; have BK285 := n3_; have HB := n4_; have HR290_0 := n5_; clear n0_ n1_ n2_ n3_ n4_ n5_)); have p293 : 0 ≤ ((ji21) : Int) := of_decide_eq_true (by first | (with_reducible assumption) | assumption); have q293 : (ji21) < ((rd_L3 y287 x32_1).length : Int) := of_decide_eq_true (by first | (with_reducible assumption) | assumption); obtain ⟨ad293, e293, hx293_0⟩ := Kd.at_int HR290_0.out (ji21) p293 q293; obtain rfl : ad291 = ad293 := (by injection e293); first | replace hx293_0 := (HB.out.cell (World.block_lt_of_cell? w _ hx293_0)).trans hx293_0 | skip; replace p293 := eq_true p293; replace q293 := eq_true q293) | ((with_reducible refine gate_callee (f := 43) rfl ?_); refine goesL_ (some 63) rfl rfl Try.func43 (by kernel_rfl) rfl #[.bool (decide ((rd (rd_L3 y287 x32_1) x43_2) ≤ (rd (rd_L3 y287 x32_1) (ji21)))), .int .i64 7] rfl (by (try simp only [List.map_toArray, List.map_cons, List.map_nil]); first | done | (simp only [hji21]; rfl) | rfl | (simp only [List.length_drop, List.length_take]; rfl)) ?_; (with_reducible refine (base_When.calls (decide ((rd (rd_L3 y287 x32_1) x43_2) ≤ (rd (rd_L3 y287 x32_1) (ji21)))) 7 t294 _ A24.out).mono ?_); rintro e w' ⟨rfl, ⟨nd, rfl⟩⟩; refine ⟨_, rfl, ?_⟩; (try (rw [drewN_self wr]; generalize hq_ : World.drewN wr _ = wr; have n0_ : Aside0 (Kd.V (Kd.int .i64) 3 wr w.heap.size (fun k_ => ((P0_ k_ ∨ P1_ k_) ∨ w.heap.size ≤ k_) ∧ some k_ ≠ (.slice (some ad290) y287.length co9 : Value).ownBlock ∧ k_ ≠ gb285) (.slice A0 l0.length c0) l0) := ⟨by rw [← hq_]; exact (by (with_reducible repeat (first | apply Kd.V_alloc | apply Kd.V_drewN | apply Kd.V_drew)); exact HO_0.out)⟩; have n1_ : Aside0 (Kd.V (Kd.int .i64) 3 wr w.heap.size (fun k_ => ((P0_ k_ ∨ P1_ k_) ∨ w.heap.size ≤ k_) ∧ some k_ ≠ (.slice (some ad290) y287.length co9 : Value).ownBlock ∧ k_ ≠ gb285) (.slice A1 l1.length c1) l1) := ⟨by rw [← hq_]; exact (by (with_reducible repeat (first | apply Kd.V_alloc | apply Kd.V_drewN | apply Kd.V_drew)); exact HO_1.out)⟩; have n2_ : Aside0 (Kd.N (Kd.slice 3 (Kd.int .i64)) 22 wr w.heap.size (fun k_ => ((P0_ k_ ∨ P1_ k_) ∨ w.heap.size ≤ k_) ∧ k_ ≠ gb285) (.slice (some ad290) y287.length co9) y287) := ⟨by rw [← hq_]; exact (by (with_reducible repeat (first | apply Kd.N_alloc | apply Kd.N_drewN | apply Kd.N_drew)); exact HO_30.out)⟩; have n3_ : Aside0 (wr.heap[gb285]? = some (.cells #[.int .i64 x286000_2, .int .i64 x286001_2] 35 (0, 0))) := ⟨by rw [← hq_]; exact (by (with_reducible repeat (first | refine blk_drewN ?_ _ | refine blk_drew ?_ | refine blk_alloc ?_ _)); exact BK285.out)⟩; have n4_ : Aside0 (Below w.heap.size w wr) := ⟨by rw [← hq_]; exact (by repeat (first | (with_reducible first | exact HB.out | apply below_alloc | apply pw_below_drewN | apply below_drew1 | refine below_set ?_ GE285.out) | exact HB.out))⟩; have n5_ : Aside0 (Kd.C (Kd.int .i64) wr (some ad291) (rd_L3 y287 x32_1).length (rd_L3 y287 x32_1)) := ⟨by rw [← hq_]; exact (by repeat (first | (with_reducible exact HR290_0.out) | (with_reducible refine Kd.C_alloc ?_ _) | (with_reducible refine Kd.C_drewN ?_ _) | (with_reducible refine Kd.C_drew ?_) | exact HR290_0.out))⟩; clear HO_0 HO_1 HO_30 BK285 HB HR290_0 hq_; have HO_0 := n0_; have HO_1 := n1_; have HO_30 := n2_; have BK285 := n3_; have HB := n4_; have HR290_0 := n5_; clear n0_ n1_ n2_ n3_ n4_ n5_))) | ((with_reducible refine gate_dst (N := 64) rfl ?_); (try (refine gate_guard (by rfl) ?_; dsimp only)); refine Kd.R_lit (Kd.int .i64) _ 29 ?hg (N := 64) ?hd (xs := ([t292, t294] : List Int)) (inner := [.int .i64 t292, .int .i64 t294]) (ok := fun _ => True) (okp := fun _ => True) ?hr ?hp (fun _ hk => hk) trivial (Below.refl _ _) (Nat.le_refl _) (by simp) ?_; (case hd => rfl); (case hg => rfl); (case hr => first | (go_simp; done) | (go_simp; rfl)); (case hp => exact (Reps.one (show Kd.M (Kd.int .i64) _ _ _ t292 [.int .i64 t292] from rfl) (Reps.one (show Kd.M (Kd.int .i64) _ _ _ t294 [.int .i64 t294] from rfl) (Reps.none _ _)))); intro v296 w30 ho31 hb hg_ hnew_; clear hg_ hnew_; (first | rw [← Ny295.out] at ho31 | (simp only [Int.reduceToNat] at ho31; rw [← Ny295.out] at ho31)); have n0_ := Aside0.mk (Kd.V_elder' (by (with_reducible repeat (first | apply Kd.V_alloc | apply Kd.V_drewN | apply Kd.V_drew)); exact HO_0.out) (Kd.R_base ho31) hb); have n1_ := Aside0.mk (Kd.V_elder' (by (with_reducible repeat (first | apply Kd.V_alloc | apply Kd.V_drewN | apply Kd.V_drew)); exact HO_1.out) (Kd.R_base ho31) hb); have n2_ := Aside0.mk (Kd.N_elder' (by (with_reducible repeat (first | apply Kd.N_alloc | apply Kd.N_drewN | apply Kd.N_drew)); exact HO_30.out) (Kd.R_base ho31) hb); have n3_ := Aside0.mk (Kd.R_lower (Kd.R_newM (M := fun k_ => (w.heap.size ≤ k_)) ho31 (below_size (by repeat (first | (with_reducible first | exact HB.out | apply below_alloc | apply pw_below_drewN | apply below_drew1 | refine below_set ?_ GE285.out) | exact HB.out))) (fun k_ h_ => h_)) (below_size (by repeat (first | (with_reducible first | exact HB.out | apply below_alloc | apply pw_below_drewN | apply below_drew1 | refine below_set ?_ GE285.out) | exact HB.out)))); have n4_ := Aside0.mk (blk_below (g := gb285) (o := .cells #[.int .i64 x286000_2, .int .i64 x286001_2] 35 (0, 0)) (by (with_reducible repeat (first | refine blk_drewN ?_ _ | refine blk_drew ?_ | refine blk_alloc ?_ _)); exact BK285.out) hb); have n5_ := Aside0.mk (Kd.C_below (by repeat (first | (with_reducible exact HR290_0.out) | (with_reducible refine Kd.C_alloc ?_ _) | (with_reducible refine Kd.C_drewN ?_ _) | (with_reducible refine Kd.C_drew ?_) | exact HR290_0.out)) hb); have n6_ := Aside0.mk (below_step (by repeat (first | (with_reducible first | exact HB.out | apply below_alloc | apply pw_below_drewN | apply below_drew1 | refine below_set ?_ GE285.out) | exact HB.out)) hb); clear HO_0; clear HO_1; clear HO_30; clear BK285; clear HR290_0; clear HB; have HO_0 := n0_; have HO_1 := n1_; have HO_30 := n2_; have HO297 := n3_; have BK285 := n4_; have HR290_0 := n5_; have HB := n6_; clear n0_ n1_ n2_ n3_ n4_ n5_ n6_; clear hb ho31; obtain ⟨Ao32, co32, eo32⟩ := Kd.R_slice HO297.out; subst eo32) | ((with_reducible refine gate_callee (f := 34) rfl ?_); refine goesL_ (some 65) rfl rfl Try.func34 (by kernel_rfl) rfl #[.slice Ao32 y295.length co32] rfl (by (try simp only [List.map_toArray, List.map_cons, List.map_nil]); first | done | rfl | (simp only [List.length_drop, List.length_take]; rfl)) ?_; (with_reducible refine (base_First.calls k2 _ _ y295 t298 _ ?side1 ?side2 A25.out).mono ?_); (case side1 => repeat (first | exact (Kd.R_reads' HO297.out).2.2 | (with_reducible refine Kd.C_alloc ?_ _) | (with_reducible refine Kd.C_drewN ?_ _) | (with_reducible refine Kd.C_drew ?_))); (case side2 => exact (Kd.R_reads' HO297.out).2.1); rintro e w' ⟨rfl, ⟨nd, rfl⟩⟩; refine ⟨_, rfl, ?_⟩; (try (rw [drewN_self w30]; generalize hq_ : World.drewN w30 _ = w30; have n0_ : Aside0 (Kd.R (Kd.int .i64) 29 w30 w.heap.size (fun k_ => (w.heap.size ≤ k_)) (.slice Ao32 y295.length co32) y295) := ⟨by rw [← hq_]; exact (by (with_reducible repeat (first | apply Kd.R_alloc | apply Kd.R_drewN | apply Kd.R_drew)); exact Kd.R_mono HO297.out (fun _ hk => hk.1))⟩; have n1_ : Aside0 (Kd.V (Kd.int .i64) 3 w30 w.heap.size (fun k_ => ((P0_ k_ ∨ P1_ k_) ∨ w.heap.size ≤ k_) ∧ some k_ ≠ (.slice Ao32 y295.length co32 : Value).ownBlock ∧ some k_ ≠ (.slice (some ad290) y287.length co9 : Value).ownBlock ∧ k_ ≠ gb285) (.slice A0 l0.length c0) l0) := ⟨by rw [← hq_]; exact (by (with_reducible repeat (first | apply Kd.V_alloc | apply Kd.V_drewN | apply Kd.V_drew)); exact Kd.V_mono HO_0.out (fun _ hk => ⟨hk.1.1, ⟨(by first | with_reducible exact hk.2 | exact own_len_ hk.2 | exact hk.2), ⟨(by first | with_reducible exact hk.1.2.1 | exact own_len_ hk.1.2.1 | exact hk.1.2.1), hk.1.2.2⟩⟩⟩))⟩; have n2_ : Aside0 (Kd.V (Kd.int .i64) 3 w30 w.heap.size (fun k_ => ((P0_ k_ ∨ P1_ k_) ∨ w.heap.size ≤ k_) ∧ some k_ ≠ (.slice Ao32 y295.length co32 : Value).ownBlock ∧ some k_ ≠ (.slice (some ad290) y287.length co9 : Value).ownBlock ∧ k_ ≠ gb285) (.slice A1 l1.length c1) l1) := ⟨by rw [← hq_]; exact (by (with_reducible repeat (first | apply Kd.V_alloc | apply Kd.V_drewN | apply Kd.V_drew)); exact Kd.V_mono HO_1.out (fun _ hk => ⟨hk.1.1, ⟨(by first | with_reducible exact hk.2 | exact own_len_ hk.2 | exact hk.2), ⟨(by first | with_reducible exact hk.1.2.1 | exact own_len_ hk.1.2.1 | exact hk.1.2.1), hk.1.2.2⟩⟩⟩))⟩; have n3_ : Aside0 (Kd.N (Kd.slice 3 (Kd.int .i64)) 22 w30 w.heap.size (fun k_ => ((P0_ k_ ∨ P1_ k_) ∨ w.heap.size ≤ k_) ∧ some k_ ≠ (.slice Ao32 y295.length co32 : Value).ownBlock ∧ k_ ≠ gb285) (.slice (some ad290) y287.length co9) y287) := ⟨by rw [← hq_]; exact (by (with_reducible repeat (first | apply Kd.N_alloc | apply Kd.N_drewN | apply Kd.N_drew)); exact Kd.N_mono HO_30.out (fun _ hk => ⟨hk.1.1, ⟨(by first | with_reducible exact hk.2 | exact own_len_ hk.2 | exact hk.2), hk.1.2⟩⟩))⟩; have n4_ : Aside0 (w30.heap[gb285]? = some (.cells #[.int .i64 x286000_2, .int .i64 x286001_2] 35 (0, 0))) := ⟨by rw [← hq_]; exact (by (with_reducible repeat (first | refine blk_drewN ?_ _ | refine blk_drew ?_ | refine blk_alloc ?_ _)); exact BK285.out)⟩; have n5_ : Aside0 (Below w.heap.size w w30) := ⟨by rw [← hq_]; exact (by repeat (first | (with_reducible first | exact HB.out | apply below_alloc | apply pw_below_drewN | apply below_drew1 | refine below_set ?_ GE285.out) | exact HB.out))⟩; have n6_ : Aside0 (Kd.C (Kd.int .i64) w30 (some ad291) (rd_L3 y287 x32_1).length (rd_L3 y287 x32_1)) := ⟨by rw [← hq_]; exact (by repeat (first | (with_reducible exact HR290_0.out) | (with_reducible refine Kd.C_alloc ?_ _) | (with_reducible refine Kd.C_drewN ?_ _) | (with_reducible refine Kd.C_drew ?_) | exact HR290_0.out))⟩; clear HO297 HO_0 HO_1 HO_30 BK285 HB HR290_0 hq_; have HO297 := n0_; have HO_0 := n1_; have HO_1 := n2_; have HO_30 := n3_; have BK285 := n4_; have HB := n5_; have HR290_0 := n6_; clear n0_ n1_ n2_ n3_ n4_ n5_ n6_)); have hcz33_0 : w30.cell? ⟨gb285, 0, none⟩ = some (.int .i64 x286000_2) := (blk_cell BK285.out 0).trans rfl; have hcz33_1 : w30.cell? ⟨gb285, 1, none⟩ = some (.int .i64 x286001_2) := (blk_cell BK285.out 1).trans rfl; have hfz33_0 := blk_frozen BK285.out 0; have hfz33_1 := blk_frozen BK285.out 1))
                                  refine bodyPost_ret (results_ct rfl _ _ gb285 35 #[.int .i64 0, .int .i64 0] (0, 0) _ rfl (by (with_reducible repeat (first | refine blk_drewN ?_ _ | refine blk_drew ?_ | refine blk_alloc ?_ _)); refine blk_put (cs := #[.int .i64 0, .int .i64 x286001_2]) ?_ 1 _ rfl; (with_reducible repeat (first | refine blk_drewN ?_ _ | refine blk_drew ?_ | refine blk_alloc ?_ _)); refine blk_put (cs := #[.int .i64 x286000_2, .int .i64 x286001_2]) ?_ 0 _ rfl; (with_reducible repeat (first | refine blk_drewN ?_ _ | refine blk_drew ?_ | refine blk_alloc ?_ _)); exact BK285.out) Try.underlying35 rfl (by kernel_rfl)) rfl ?_
                                  exact ⟨by first | rfl | (simp [errW_none, errW_some] <;> rfl) | (simp only [← hji20, ← hji21]; first | rfl | (simp [errW_none, errW_some] <;> rfl)) | (simp [*, errW_none, errW_some] <;> rfl), by repeat (first | (with_reducible first | exact HB.out | apply below_alloc | apply pw_below_drewN | apply below_drew1 | refine below_set ?_ GE285.out) | exact HB.out)⟩
                              · rw [if_neg c23] at H
                                exact absurd H (by simp)
                            · rw [if_neg c22] at H
                              exact absurd H (by simp)
                          · rw [if_neg c19] at H
                            have c19b0 : decide (0 < x43_2) = false := decide_eq_false c19
                            clear c19
                            replace H := Option.bind_eq_some_iff.mp H
                            obtain ⟨t299, A340, H⟩ := H
                            replace H : ((base_First.f k2 (([t292, t299] : List Int))).bind fun t303 => (if t303 = 0 then (near_Estimate.l1 k2 l0 l1 a2 (rd_L3 y287 x32_1) y287 (y287.length : Int) x32_1 (rd_L3 y287 x32_1) ((rd_L3 y287 x32_1).length : Int) (wrap64 (x43_2 + 1))) else (some (0, 0, t303)))) = some (r1, r2, r3) := H
                            have A34 := Aside0.mk A340
                            clear A340
                            obtain ⟨y300, hy300⟩ : ∃ y_ : List Int, y_ = (([t292, t299] : List Int)) := ⟨_, rfl⟩
                            replace H : ((base_First.f k2 y300).bind fun t303 => (if t303 = 0 then (near_Estimate.l1 k2 l0 l1 a2 (rd_L3 y287 x32_1) y287 (y287.length : Int) x32_1 (rd_L3 y287 x32_1) ((rd_L3 y287 x32_1).length : Int) (wrap64 (x43_2 + 1))) else (some (0, 0, t303)))) = some (r1, r2, r3) := by first | (rw [hy300]; with_reducible exact H) | (have H2_ := (Option.bind_some _ _).symm.trans H; rw [hy300]; with_reducible exact H2_) | (have H2_ := (Option.bind_some _ _).symm.trans H; with_reducible exact H2_) | with_reducible exact H | (rw [hy300]; exact H) | exact H
                            have Ny300 := Aside0.mk hy300
                            clear hy300
                            replace H := Option.bind_eq_some_iff.mp H
                            obtain ⟨t303, A350, H⟩ := H
                            replace H : (if t303 = 0 then (near_Estimate.l1 k2 l0 l1 a2 (rd_L3 y287 x32_1) y287 (y287.length : Int) x32_1 (rd_L3 y287 x32_1) ((rd_L3 y287 x32_1).length : Int) (wrap64 (x43_2 + 1))) else (some (0, 0, t303))) = some (r1, r2, r3) := H
                            have A35 := Aside0.mk A350
                            clear A350
                            by_cases c36 : t303 = 0
                            · rw [if_pos c36] at H
                              have c36b0 : (t303 == 0) = true := beq_iff_eq.mpr c36
                              have c36b1 : (t303 != 0) = false := bne_eq_false_iff_eq.mpr c36
                              clear c36
                              have H' := Aside0.mk H
                              clear H
                              have p291 : 0 ≤ (x43_2 : Int) := of_decide_eq_true (by first | (with_reducible assumption) | assumption)
                              have q291 : x43_2 < ((rd_L3 y287 x32_1).length : Int) := of_decide_eq_true (by first | (with_reducible assumption) | assumption)
                              obtain ⟨ad291, e291, hx291_0⟩ := Kd.at_int HR290_0.out x43_2 p291 q291
                              cases e291
                              first | replace hx291_0 := (HB.out.cell (World.block_lt_of_cell? w _ hx291_0)).trans hx291_0 | skip
                              replace p291 := eq_true p291
                              replace q291 := eq_true q291
                              go_wp2_with (first | ((with_reducible refine gate_callee (f := 43) rfl ?_); refine goesL_ (some 50) rfl rfl Try.func43 (by kernel_rfl) rfl #[.bool (decide ((rd (rd_L3 y287 x32_1) x43_2) < 0)), .int .i64 1] rfl (by (try simp only [List.map_toArray, List.map_cons, List.map_nil]); first | done | rfl | (simp only [List.length_drop, List.length_take]; rfl)) ?_; (with_reducible refine (base_When.calls (decide ((rd (rd_L3 y287 x32_1) x43_2) < 0)) 1 t292 _ A18.out).mono ?_); rintro e w' ⟨rfl, ⟨nd, rfl⟩⟩; refine ⟨_, rfl, ?_⟩) | ((with_reducible refine gate_callee (f := 43) rfl ?_); refine goesL_ (some 63) rfl rfl Try.func43 (by kernel_rfl) rfl #[.bool false, .int .i64 7] rfl (by (try simp only [List.map_toArray, List.map_cons, List.map_nil]); first | done | rfl | (simp only [List.length_drop, List.length_take]; rfl)) ?_; (with_reducible refine (base_When.calls false 7 t299 _ A34.out).mono ?_); rintro e w' ⟨rfl, ⟨nd, rfl⟩⟩; refine ⟨_, rfl, ?_⟩) | ((with_reducible refine gate_dst (N := 64) rfl ?_); (try (refine gate_guard (by rfl) ?_; dsimp only)); refine Kd.R_lit (Kd.int .i64) _ 29 ?hg (N := 64) ?hd (xs := ([t292, t299] : List Int)) (inner := [.int .i64 t292, .int .i64 t299]) (ok := fun _ => True) (okp := fun _ => True) ?hr ?hp (fun _ hk => hk) trivial (Below.refl _ _) (Nat.le_refl _) (by simp) ?_; (case hd => rfl); (case hg => rfl); (case hr => first | (go_simp; done) | (go_simp; rfl)); (case hp => exact (Reps.one (show Kd.M (Kd.int .i64) _ _ _ t292 [.int .i64 t292] from rfl) (Reps.one (show Kd.M (Kd.int .i64) _ _ _ t299 [.int .i64 t299] from rfl) (Reps.none _ _)))); intro v301 w37 ho38 hb hg_ hnew_; clear hg_ hnew_; (first | rw [← Ny300.out] at ho38 | (simp only [Int.reduceToNat] at ho38; rw [← Ny300.out] at ho38)); have n0_ := Aside0.mk (Kd.V_elder' (by (with_reducible repeat (first | apply Kd.V_alloc | apply Kd.V_drewN | apply Kd.V_drew)); exact HO_0.out) (Kd.R_base ho38) hb); have n1_ := Aside0.mk (Kd.V_elder' (by (with_reducible repeat (first | apply Kd.V_alloc | apply Kd.V_drewN | apply Kd.V_drew)); exact HO_1.out) (Kd.R_base ho38) hb); have n2_ := Aside0.mk (Kd.N_elder' (by (with_reducible repeat (first | apply Kd.N_alloc | apply Kd.N_drewN | apply Kd.N_drew)); exact HO_30.out) (Kd.R_base ho38) hb); have n3_ := Aside0.mk (Kd.R_lower (Kd.R_newM (M := fun k_ => (w.heap.size ≤ k_)) ho38 (below_size (by repeat (first | (with_reducible first | exact HB.out | apply below_alloc | apply pw_below_drewN | apply below_drew1 | refine below_set ?_ GE285.out) | exact HB.out))) (fun k_ h_ => h_)) (below_size (by repeat (first | (with_reducible first | exact HB.out | apply below_alloc | apply pw_below_drewN | apply below_drew1 | refine below_set ?_ GE285.out) | exact HB.out)))); have n4_ := Aside0.mk (blk_below (g := gb285) (o := .cells #[.int .i64 x286000_2, .int .i64 x286001_2] 35 (0, 0)) (by (with_reducible repeat (first | refine blk_drewN ?_ _ | refine blk_drew ?_ | refine blk_alloc ?_ _)); exact BK285.out) hb); have n5_ := Aside0.mk (Kd.C_below (by repeat (first | (with_reducible exact HR290_0.out) | (with_reducible refine Kd.C_alloc ?_ _) | (with_reducible refine Kd.C_drewN ?_ _) | (with_reducible refine Kd.C_drew ?_) | exact HR290_0.out)) hb); have n6_ := Aside0.mk (below_step (by repeat (first | (with_reducible first | exact HB.out | apply below_alloc | apply pw_below_drewN | apply below_drew1 | refine below_set ?_ GE285.out) | exact HB.out)) hb); clear HO_0; clear HO_1; clear HO_30; clear BK285; clear HR290_0; clear HB; have HO_0 := n0_; have HO_1 := n1_; have HO_30 := n2_; have HO302 := n3_; have BK285 := n4_; have HR290_0 := n5_; have HB := n6_; clear n0_ n1_ n2_ n3_ n4_ n5_ n6_; clear hb ho38; obtain ⟨Ao39, co39, eo39⟩ := Kd.R_slice HO302.out; subst eo39) | ((with_reducible refine gate_callee (f := 34) rfl ?_); refine goesL_ (some 65) rfl rfl Try.func34 (by kernel_rfl) rfl #[.slice Ao39 y300.length co39] rfl (by (try simp only [List.map_toArray, List.map_cons, List.map_nil]); first | done | rfl | (simp only [List.length_drop, List.length_take]; rfl)) ?_; (with_reducible refine (base_First.calls k2 _ _ y300 t303 _ ?side1 ?side2 A35.out).mono ?_); (case side1 => repeat (first | exact (Kd.R_reads' HO302.out).2.2 | (with_reducible refine Kd.C_alloc ?_ _) | (with_reducible refine Kd.C_drewN ?_ _) | (with_reducible refine Kd.C_drew ?_))); (case side2 => exact (Kd.R_reads' HO302.out).2.1); rintro e w' ⟨rfl, ⟨nd, rfl⟩⟩; refine ⟨_, rfl, ?_⟩))
                              go_roundg k2
                              case measure => have := HK1.out; have := HK2.out; omega
                              case rel => exact ⟨(wrap64 (x43_2 + 1)), (x286000_2), (x286001_2), (by first | rfl | (simp; done) | (simp [*]; done)), H', ⟨by have := HK1.out; have := HK2.out; omega⟩, ⟨by (with_reducible repeat (first | apply Kd.V_alloc | apply Kd.V_drewN | apply Kd.V_drew)); exact Kd.V_mono HO_0.out (fun _ hk => ⟨hk.1.1, ⟨(by first | with_reducible exact hk.1.2.1 | exact own_len_ hk.1.2.1 | exact hk.1.2.1), hk.1.2.2⟩⟩)⟩, ⟨by (with_reducible repeat (first | apply Kd.V_alloc | apply Kd.V_drewN | apply Kd.V_drew)); exact Kd.V_mono HO_1.out (fun _ hk => ⟨hk.1.1, ⟨(by first | with_reducible exact hk.1.2.1 | exact own_len_ hk.1.2.1 | exact hk.1.2.1), hk.1.2.2⟩⟩)⟩, ⟨by (with_reducible repeat (first | apply Kd.N_alloc | apply Kd.N_drewN | apply Kd.N_drew)); exact Kd.N_mono HO_30.out (fun _ hk => ⟨hk.1.1, hk.1.2⟩)⟩, ⟨by (with_reducible repeat (first | refine blk_drewN ?_ _ | refine blk_drew ?_ | refine blk_alloc ?_ _)); exact BK285.out⟩, ⟨by repeat (first | (with_reducible exact HR290_0.out) | (with_reducible refine Kd.C_alloc ?_ _) | (with_reducible refine Kd.C_drewN ?_ _) | (with_reducible refine Kd.C_drew ?_) | exact HR290_0.out)⟩, ⟨by repeat (first | (with_reducible first | exact HB.out | apply below_alloc | apply pw_below_drewN | apply below_drew1 | refine below_set ?_ GE285.out) | exact HB.out)⟩⟩
                            · rw [if_neg c36] at H
                              have c36b0 : (t303 == 0) = false := beq_eq_false_iff_ne.mpr c36
                              have c36b1 : (t303 != 0) = true := bne_iff_ne.mpr c36
                              simp only [Option.some.injEq, Prod.mk.injEq] at H
                              obtain ⟨rfl, rfl, rfl⟩ := H
                              have p291 : 0 ≤ (x43_2 : Int) := of_decide_eq_true (by first | (with_reducible assumption) | assumption)
                              have q291 : x43_2 < ((rd_L3 y287 x32_1).length : Int) := of_decide_eq_true (by first | (with_reducible assumption) | assumption)
                              obtain ⟨ad291, e291, hx291_0⟩ := Kd.at_int HR290_0.out x43_2 p291 q291
                              cases e291
                              first | replace hx291_0 := (HB.out.cell (World.block_lt_of_cell? w _ hx291_0)).trans hx291_0 | skip
                              replace p291 := eq_true p291
                              replace q291 := eq_true q291
                              go_wp2_with (first | ((with_reducible refine gate_callee (f := 43) rfl ?_); refine goesL_ (some 50) rfl rfl Try.func43 (by kernel_rfl) rfl #[.bool (decide ((rd (rd_L3 y287 x32_1) x43_2) < 0)), .int .i64 1] rfl (by (try simp only [List.map_toArray, List.map_cons, List.map_nil]); first | done | rfl | (simp only [List.length_drop, List.length_take]; rfl)) ?_; (with_reducible refine (base_When.calls (decide ((rd (rd_L3 y287 x32_1) x43_2) < 0)) 1 t292 _ A18.out).mono ?_); rintro e w' ⟨rfl, ⟨nd, rfl⟩⟩; refine ⟨_, rfl, ?_⟩; (try (rw [drewN_self wr]; generalize hq_ : World.drewN wr _ = wr; have n0_ : Aside0 (Kd.V (Kd.int .i64) 3 wr w.heap.size (fun k_ => ((P0_ k_ ∨ P1_ k_) ∨ w.heap.size ≤ k_) ∧ some k_ ≠ (.slice (some ad290) y287.length co9 : Value).ownBlock ∧ k_ ≠ gb285) (.slice A0 l0.length c0) l0) := ⟨by rw [← hq_]; exact (by (with_reducible repeat (first | apply Kd.V_alloc | apply Kd.V_drewN | apply Kd.V_drew)); exact HO_0.out)⟩; have n1_ : Aside0 (Kd.V (Kd.int .i64) 3 wr w.heap.size (fun k_ => ((P0_ k_ ∨ P1_ k_) ∨ w.heap.size ≤ k_) ∧ some k_ ≠ (.slice (some ad290) y287.length co9 : Value).ownBlock ∧ k_ ≠ gb285) (.slice A1 l1.length c1) l1) := ⟨by rw [← hq_]; exact (by (with_reducible repeat (first | apply Kd.V_alloc | apply Kd.V_drewN | apply Kd.V_drew)); exact HO_1.out)⟩; have n2_ : Aside0 (Kd.N (Kd.slice 3 (Kd.int .i64)) 22 wr w.heap.size (fun k_ => ((P0_ k_ ∨ P1_ k_) ∨ w.heap.size ≤ k_) ∧ k_ ≠ gb285) (.slice (some ad290) y287.length co9) y287) := ⟨by rw [← hq_]; exact (by (with_reducible repeat (first | apply Kd.N_alloc | apply Kd.N_drewN | apply Kd.N_drew)); exact HO_30.out)⟩; have n3_ : Aside0 (wr.heap[gb285]? = some (.cells #[.int .i64 x286000_2, .int .i64 x286001_2] 35 (0, 0))) := ⟨by rw [← hq_]; exact (by (with_reducible repeat (first | refine blk_drewN ?_ _ | refine blk_drew ?_ | refine blk_alloc ?_ _)); exact BK285.out)⟩; have n4_ : Aside0 (Below w.heap.size w wr) := ⟨by rw [← hq_]; exact (by repeat (first | (with_reducible first | exact HB.out | apply below_alloc | apply pw_below_drewN | apply below_drew1 | refine below_set ?_ GE285.out) | exact HB.out))⟩; have n5_ : Aside0 (Kd.C (Kd.int .i64) wr (some ad291) (rd_L3 y287 x32_1).length (rd_L3 y287 x32_1)) := ⟨by rw [← hq_]; exact (by repeat (first | (with_reducible exact HR290_0.out) | (with_reducible refine Kd.C_alloc ?_ _) | (with_reducible refine Kd.C_drewN ?_ _) | (with_reducible refine Kd.C_drew ?_) | exact HR290_0.out))⟩; clear HO_0 HO_1 HO_30 BK285 HB HR290_0 hq_; have HO_0 := n0_; have HO_1 := n1_; have HO_30 := n2_; have BK285 := n3_; have HB := n4_; have HR290_0 := n5_; clear n0_ n1_ n2_ n3_ n4_ n5_))) | ((with_reducible refine gate_callee (f := 43) rfl ?_); refine goesL_ (some 63) rfl rfl Try.func43 (by kernel_rfl) rfl #[.bool false, .int .i64 7] rfl (by (try simp only [List.map_toArray, List.map_cons, List.map_nil]); first | done | rfl | (simp only [List.length_drop, List.length_take]; rfl)) ?_; (with_reducible refine (base_When.calls false 7 t299 _ A34.out).mono ?_); rintro e w' ⟨rfl, ⟨nd, rfl⟩⟩; refine ⟨_, rfl, ?_⟩; (try (rw [drewN_self wr]; generalize hq_ : World.drewN wr _ = wr; have n0_ : Aside0 (Kd.V (Kd.int .i64) 3 wr w.heap.size (fun k_ => ((P0_ k_ ∨ P1_ k_) ∨ w.heap.size ≤ k_) ∧ some k_ ≠ (.slice (some ad290) y287.length co9 : Value).ownBlock ∧ k_ ≠ gb285) (.slice A0 l0.length c0) l0) := ⟨by rw [← hq_]; exact (by (with_reducible repeat (first | apply Kd.V_alloc | apply Kd.V_drewN | apply Kd.V_drew)); exact HO_0.out)⟩; have n1_ : Aside0 (Kd.V (Kd.int .i64) 3 wr w.heap.size (fun k_ => ((P0_ k_ ∨ P1_ k_) ∨ w.heap.size ≤ k_) ∧ some k_ ≠ (.slice (some ad290) y287.length co9 : Value).ownBlock ∧ k_ ≠ gb285) (.slice A1 l1.length c1) l1) := ⟨by rw [← hq_]; exact (by (with_reducible repeat (first | apply Kd.V_alloc | apply Kd.V_drewN | apply Kd.V_drew)); exact HO_1.out)⟩; have n2_ : Aside0 (Kd.N (Kd.slice 3 (Kd.int .i64)) 22 wr w.heap.size (fun k_ => ((P0_ k_ ∨ P1_ k_) ∨ w.heap.size ≤ k_) ∧ k_ ≠ gb285) (.slice (some ad290) y287.length co9) y287) := ⟨by rw [← hq_]; exact (by (with_reducible repeat (first | apply Kd.N_alloc | apply Kd.N_drewN | apply Kd.N_drew)); exact HO_30.out)⟩; have n3_ : Aside0 (wr.heap[gb285]? = some (.cells #[.int .i64 x286000_2, .int .i64 x286001_2] 35 (0, 0))) := ⟨by rw [← hq_]; exact (by (with_reducible repeat (first | refine blk_drewN ?_ _ | refine blk_drew ?_ | refine blk_alloc ?_ _)); exact BK285.out)⟩; have n4_ : Aside0 (Below w.heap.size w wr) := ⟨by rw [← hq_]; exact (by repeat (first | (with_reducible first | exact HB.out | apply below_alloc | apply pw_below_drewN | apply below_drew1 | refine below_set ?_ GE285.out) | exact HB.out))⟩; have n5_ : Aside0 (Kd.C (Kd.int .i64) wr (some ad291) (rd_L3 y287 x32_1).length (rd_L3 y287 x32_1)) := ⟨by rw [← hq_]; exact (by repeat (first | (with_reducible exact HR290_0.out) | (with_reducible refine Kd.C_alloc ?_ _) | (with_reducible refine Kd.C_drewN ?_ _) | (with_reducible refine Kd.C_drew ?_) | exact HR290_0.out))⟩; clear HO_0 HO_1 HO_30 BK285 HB HR290_0 hq_; have HO_0 := n0_; have HO_1 := n1_; have HO_30 := n2_; have BK285 := n3_; have HB := n4_; have HR290_0 := n5_; clear n0_ n1_ n2_ n3_ n4_ n5_))) | ((with_reducible refine gate_dst (N := 64) rfl ?_); (try (refine gate_guard (by rfl) ?_; dsimp only)); refine Kd.R_lit (Kd.int .i64) _ 29 ?hg (N := 64) ?hd (xs := ([t292, t299] : List Int)) (inner := [.int .i64 t292, .int .i64 t299]) (ok := fun _ => True) (okp := fun _ => True) ?hr ?hp (fun _ hk => hk) trivial (Below.refl _ _) (Nat.le_refl _) (by simp) ?_; (case hd => rfl); (case hg => rfl); (case hr => first | (go_simp; done) | (go_simp; rfl)); (case hp => exact (Reps.one (show Kd.M (Kd.int .i64) _ _ _ t292 [.int .i64 t292] from rfl) (Reps.one (show Kd.M (Kd.int .i64) _ _ _ t299 [.int .i64 t299] from rfl) (Reps.none _ _)))); intro v301 w40 ho41 hb hg_ hnew_; clear hg_ hnew_; (first | rw [← Ny300.out] at ho41 | (simp only [Int.reduceToNat] at ho41; rw [← Ny300.out] at ho41)); have n0_ := Aside0.mk (Kd.V_elder' (by (with_reducible repeat (first | apply Kd.V_alloc | apply Kd.V_drewN | apply Kd.V_drew)); exact HO_0.out) (Kd.R_base ho41) hb); have n1_ := Aside0.mk (Kd.V_elder' (by (with_reducible repeat (first | apply Kd.V_alloc | apply Kd.V_drewN | apply Kd.V_drew)); exact HO_1.out) (Kd.R_base ho41) hb); have n2_ := Aside0.mk (Kd.N_elder' (by (with_reducible repeat (first | apply Kd.N_alloc | apply Kd.N_drewN | apply Kd.N_drew)); exact HO_30.out) (Kd.R_base ho41) hb); have n3_ := Aside0.mk (Kd.R_lower (Kd.R_newM (M := fun k_ => (w.heap.size ≤ k_)) ho41 (below_size (by repeat (first | (with_reducible first | exact HB.out | apply below_alloc | apply pw_below_drewN | apply below_drew1 | refine below_set ?_ GE285.out) | exact HB.out))) (fun k_ h_ => h_)) (below_size (by repeat (first | (with_reducible first | exact HB.out | apply below_alloc | apply pw_below_drewN | apply below_drew1 | refine below_set ?_ GE285.out) | exact HB.out)))); have n4_ := Aside0.mk (blk_below (g := gb285) (o := .cells #[.int .i64 x286000_2, .int .i64 x286001_2] 35 (0, 0)) (by (with_reducible repeat (first | refine blk_drewN ?_ _ | refine blk_drew ?_ | refine blk_alloc ?_ _)); exact BK285.out) hb); have n5_ := Aside0.mk (Kd.C_below (by repeat (first | (with_reducible exact HR290_0.out) | (with_reducible refine Kd.C_alloc ?_ _) | (with_reducible refine Kd.C_drewN ?_ _) | (with_reducible refine Kd.C_drew ?_) | exact HR290_0.out)) hb); have n6_ := Aside0.mk (below_step (by repeat (first | (with_reducible first | exact HB.out | apply below_alloc | apply pw_below_drewN | apply below_drew1 | refine below_set ?_ GE285.out) | exact HB.out)) hb); clear HO_0; clear HO_1; clear HO_30; clear BK285; clear HR290_0; clear HB; have HO_0 := n0_; have HO_1 := n1_; have HO_30 := n2_; have HO302 := n3_; have BK285 := n4_; have HR290_0 := n5_; have HB := n6_; clear n0_ n1_ n2_ n3_ n4_ n5_ n6_; clear hb ho41; obtain ⟨Ao42, co42, eo42⟩ := Kd.R_slice HO302.out; subst eo42) | ((with_reducible refine gate_callee (f := 34) rfl ?_); refine goesL_ (some 65) rfl rfl Try.func34 (by kernel_rfl) rfl #[.slice Ao42 y300.length co42] rfl (by (try simp only [List.map_toArray, List.map_cons, List.map_nil]); first | done | rfl | (simp only [List.length_drop, List.length_take]; rfl)) ?_; (with_reducible refine (base_First.calls k2 _ _ y300 t303 _ ?side1 ?side2 A35.out).mono ?_); (case side1 => repeat (first | exact (Kd.R_reads' HO302.out).2.2 | (with_reducible refine Kd.C_alloc ?_ _) | (with_reducible refine Kd.C_drewN ?_ _) | (with_reducible refine Kd.C_drew ?_))); (case side2 => exact (Kd.R_reads' HO302.out).2.1); rintro e w' ⟨rfl, ⟨nd, rfl⟩⟩; refine ⟨_, rfl, ?_⟩; (try (rw [drewN_self w40]; generalize hq_ : World.drewN w40 _ = w40; have n0_ : Aside0 (Kd.R (Kd.int .i64) 29 w40 w.heap.size (fun k_ => (w.heap.size ≤ k_)) (.slice Ao42 y300.length co42) y300) := ⟨by rw [← hq_]; exact (by (with_reducible repeat (first | apply Kd.R_alloc | apply Kd.R_drewN | apply Kd.R_drew)); exact Kd.R_mono HO302.out (fun _ hk => hk.1))⟩; have n1_ : Aside0 (Kd.V (Kd.int .i64) 3 w40 w.heap.size (fun k_ => ((P0_ k_ ∨ P1_ k_) ∨ w.heap.size ≤ k_) ∧ some k_ ≠ (.slice Ao42 y300.length co42 : Value).ownBlock ∧ some k_ ≠ (.slice (some ad290) y287.length co9 : Value).ownBlock ∧ k_ ≠ gb285) (.slice A0 l0.length c0) l0) := ⟨by rw [← hq_]; exact (by (with_reducible repeat (first | apply Kd.V_alloc | apply Kd.V_drewN | apply Kd.V_drew)); exact Kd.V_mono HO_0.out (fun _ hk => ⟨hk.1.1, ⟨(by first | with_reducible exact hk.2 | exact own_len_ hk.2 | exact hk.2), ⟨(by first | with_reducible exact hk.1.2.1 | exact own_len_ hk.1.2.1 | exact hk.1.2.1), hk.1.2.2⟩⟩⟩))⟩; have n2_ : Aside0 (Kd.V (Kd.int .i64) 3 w40 w.heap.size (fun k_ => ((P0_ k_ ∨ P1_ k_) ∨ w.heap.size ≤ k_) ∧ some k_ ≠ (.slice Ao42 y300.length co42 : Value).ownBlock ∧ some k_ ≠ (.slice (some ad290) y287.length co9 : Value).ownBlock ∧ k_ ≠ gb285) (.slice A1 l1.length c1) l1) := ⟨by rw [← hq_]; exact (by (with_reducible repeat (first | apply Kd.V_alloc | apply Kd.V_drewN | apply Kd.V_drew)); exact Kd.V_mono HO_1.out (fun _ hk => ⟨hk.1.1, ⟨(by first | with_reducible exact hk.2 | exact own_len_ hk.2 | exact hk.2), ⟨(by first | with_reducible exact hk.1.2.1 | exact own_len_ hk.1.2.1 | exact hk.1.2.1), hk.1.2.2⟩⟩⟩))⟩; have n3_ : Aside0 (Kd.N (Kd.slice 3 (Kd.int .i64)) 22 w40 w.heap.size (fun k_ => ((P0_ k_ ∨ P1_ k_) ∨ w.heap.size ≤ k_) ∧ some k_ ≠ (.slice Ao42 y300.length co42 : Value).ownBlock ∧ k_ ≠ gb285) (.slice (some ad290) y287.length co9) y287) := ⟨by rw [← hq_]; exact (by (with_reducible repeat (first | apply Kd.N_alloc | apply Kd.N_drewN | apply Kd.N_drew)); exact Kd.N_mono HO_30.out (fun _ hk => ⟨hk.1.1, ⟨(by first | with_reducible exact hk.2 | exact own_len_ hk.2 | exact hk.2), hk.1.2⟩⟩))⟩; have n4_ : Aside0 (w40.heap[gb285]? = some (.cells #[.int .i64 x286000_2, .int .i64 x286001_2] 35 (0, 0))) := ⟨by rw [← hq_]; exact (by (with_reducible repeat (first | refine blk_drewN ?_ _ | refine blk_drew ?_ | refine blk_alloc ?_ _)); exact BK285.out)⟩; have n5_ : Aside0 (Below w.heap.size w w40) := ⟨by rw [← hq_]; exact (by repeat (first | (with_reducible first | exact HB.out | apply below_alloc | apply pw_below_drewN | apply below_drew1 | refine below_set ?_ GE285.out) | exact HB.out))⟩; have n6_ : Aside0 (Kd.C (Kd.int .i64) w40 (some ad291) (rd_L3 y287 x32_1).length (rd_L3 y287 x32_1)) := ⟨by rw [← hq_]; exact (by repeat (first | (with_reducible exact HR290_0.out) | (with_reducible refine Kd.C_alloc ?_ _) | (with_reducible refine Kd.C_drewN ?_ _) | (with_reducible refine Kd.C_drew ?_) | exact HR290_0.out))⟩; clear HO302 HO_0 HO_1 HO_30 BK285 HB HR290_0 hq_; have HO302 := n0_; have HO_0 := n1_; have HO_1 := n2_; have HO_30 := n3_; have BK285 := n4_; have HB := n5_; have HR290_0 := n6_; clear n0_ n1_ n2_ n3_ n4_ n5_ n6_)); have hcz43_0 : w40.cell? ⟨gb285, 0, none⟩ = some (.int .i64 x286000_2) := (blk_cell BK285.out 0).trans rfl; have hcz43_1 : w40.cell? ⟨gb285, 1, none⟩ = some (.int .i64 x286001_2) := (blk_cell BK285.out 1).trans rfl; have hfz43_0 := blk_frozen BK285.out 0; have hfz43_1 := blk_frozen BK285.out 1))
                              refine bodyPost_ret (results_ct rfl _ _ gb285 35 #[.int .i64 0, .int .i64 0] (0, 0) _ rfl (by (with_reducible repeat (first | refine blk_drewN ?_ _ | refine blk_drew ?_ | refine blk_alloc ?_ _)); refine blk_put (cs := #[.int .i64 0, .int .i64 x286001_2]) ?_ 1 _ rfl; (with_reducible repeat (first | refine blk_drewN ?_ _ | refine blk_drew ?_ | refine blk_alloc ?_ _)); refine blk_put (cs := #[.int .i64 x286000_2, .int .i64 x286001_2]) ?_ 0 _ rfl; (with_reducible repeat (first | refine blk_drewN ?_ _ | refine blk_drew ?_ | refine blk_alloc ?_ _)); exact BK285.out) Try.underlying35 rfl (by kernel_rfl)) rfl ?_
                              exact ⟨by first | rfl | (simp [errW_none, errW_some] <;> rfl) | (simp [*, errW_none, errW_some] <;> rfl), by repeat (first | (with_reducible first | exact HB.out | apply below_alloc | apply pw_below_drewN | apply below_drew1 | refine below_set ?_ GE285.out) | exact HB.out)⟩
                        · rw [if_neg c17] at H
                          exact absurd H (by simp)
                      · rw [if_neg c16] at H
                        exact absurd H (by simp)
                    · rw [if_neg c15] at H
                      have c15b0 : decide (x43_2 < ((rd_L3 y287 x32_1).length : Int)) = false := decide_eq_false c15
                      clear c15
                      have H' := Aside0.mk H
                      clear H
                      go_wp2
                      go_roundg k2
                      case measure => have := HK1.out; have := HK2.out; omega
                      case rel => exact ⟨(wrap64 (x32_1 + 1)), (x286000_2), (x286001_2), (by first | rfl | (simp; done) | (simp [*]; done)), H', ⟨by have := HK1.out; have := HK2.out; omega⟩, ⟨by (with_reducible repeat (first | apply Kd.V_alloc | apply Kd.V_drewN | apply Kd.V_drew)); exact HO_0.out⟩, ⟨by (with_reducible repeat (first | apply Kd.V_alloc | apply Kd.V_drewN | apply Kd.V_drew)); exact HO_1.out⟩, ⟨by (with_reducible repeat (first | apply Kd.N_alloc | apply Kd.N_drewN | apply Kd.N_drew)); exact HO_30.out⟩, ⟨by (with_reducible repeat (first | refine blk_drewN ?_ _ | refine blk_drew ?_ | refine blk_alloc ?_ _)); exact BK285.out⟩, ⟨by repeat (first | (with_reducible first | exact HB.out | apply below_alloc | apply pw_below_drewN | apply below_drew1 | refine below_set ?_ GE285.out) | exact HB.out)⟩⟩
            · rw [if_neg c12] at H
              exact absurd H (by simp)
          · rw [if_neg c11] at H
            exact absurd H (by simp)
        · rw [if_neg c10] at H
          have c10b0 : decide (x32_1 < (y287.length : Int)) = false := decide_eq_false c10
          clear c10
          obtain ⟨y304, hy304⟩ : ∃ y_ : List (List Int), y_ = (([l0, l1] : List (List Int))) := ⟨_, rfl⟩
          replace H : ((slices_Concat_int_int.f k1 y304).bind fun t307 => ((slices_Sort_int_int.f t307).bind fun t310 => ((slices_Compact_int_int.f t310).bind fun t311 => (if 0 ≤ (mn a2 (t311.length : Int)) then (if (mn a2 (t311.length : Int)) ≤ (t311.length : Int) then ((some (t311.take ((mn a2 (t311.length : Int)) : Int).toNat : List Int)).bind fun y314 => (near_Estimate.l2 k1 l0 l1 y314 0 y314 (y314.length : Int) 0)) else (none)) else (none))))) = some (r1, r2, r3) := by first | (rw [hy304]; with_reducible exact H) | (have H2_ := (Option.bind_some _ _).symm.trans H; rw [hy304]; with_reducible exact H2_) | (have H2_ := (Option.bind_some _ _).symm.trans H; with_reducible exact H2_) | with_reducible exact H | (rw [hy304]; exact H) | exact H
          have Ny304 := Aside0.mk hy304
          clear hy304
          replace H := Option.bind_eq_some_iff.mp H
          obtain ⟨t307, A440, H⟩ := H
          replace H : ((slices_Sort_int_int.f t307).bind fun t310 => ((slices_Compact_int_int.f t310).bind fun t311 => (if 0 ≤ (mn a2 (t311.length : Int)) then (if (mn a2 (t311.length : Int)) ≤ (t311.length : Int) then ((some (t311.take ((mn a2 (t311.length : Int)) : Int).toNat : List Int)).bind fun y314 => (near_Estimate.l2 k1 l0 l1 y314 0 y314 (y314.length : Int) 0)) else (none)) else (none)))) = some (r1, r2, r3) := H
          have A44 := Aside0.mk A440
          clear A440
          replace H := Option.bind_eq_some_iff.mp H
          obtain ⟨t310, A450, H⟩ := H
          replace H : ((slices_Compact_int_int.f t310).bind fun t311 => (if 0 ≤ (mn a2 (t311.length : Int)) then (if (mn a2 (t311.length : Int)) ≤ (t311.length : Int) then ((some (t311.take ((mn a2 (t311.length : Int)) : Int).toNat : List Int)).bind fun y314 => (near_Estimate.l2 k1 l0 l1 y314 0 y314 (y314.length : Int) 0)) else (none)) else (none))) = some (r1, r2, r3) := H
          have A45 := Aside0.mk A450
          clear A450
          replace H := Option.bind_eq_some_iff.mp H
          obtain ⟨t311, A460, H⟩ := H
          replace H : (if 0 ≤ (mn a2 (t311.length : Int)) then (if (mn a2 (t311.length : Int)) ≤ (t311.length : Int) then ((some (t311.take ((mn a2 (t311.length : Int)) : Int).toNat : List Int)).bind fun y314 => (near_Estimate.l2 k1 l0 l1 y314 0 y314 (y314.length : Int) 0)) else (none)) else (none)) = some (r1, r2, r3) := H
          have A46 := Aside0.mk A460
          clear A460
          obtain ⟨ji47, hji47⟩ : ∃ j_ : Int, (mn a2 (t311.length : Int)) = j_ := ⟨_, rfl⟩
          replace H : (if 0 ≤ (ji47) then (if (ji47) ≤ (t311.length : Int) then ((some (t311.take ((ji47) : Int).toNat : List Int)).bind fun y314 => (near_Estimate.l2 k1 l0 l1 y314 0 y314 (y314.length : Int) 0)) else (none)) else (none)) = some (r1, r2, r3) := by first | (rw [hji47] at H; exact H) | (simp only [hji47] at H ⊢; exact H)
          (try rw [hji47] at A44)
          (try rw [hji47] at A45)
          (try rw [hji47] at A46)
          have hji47_ : (if (t311.length : Int) < a2 then (t311.length : Int) else a2) = ji47 := hji47
          by_cases c48 : 0 ≤ (ji47)
          · rw [if_pos c48] at H
            have c48b0 := eq_true c48
            have c48b1 : decide (0 ≤ (ji47)) = true := decide_eq_true c48
            clear c48
            by_cases c49 : (ji47) ≤ (t311.length : Int)
            · rw [if_pos c49] at H
              have c49b0 := eq_true c49
              have c49b1 : decide ((ji47) ≤ (t311.length : Int)) = true := decide_eq_true c49
              clear c49
              obtain ⟨y314, hy314⟩ : ∃ y_ : List Int, y_ = (t311.take ((ji47) : Int).toNat) := ⟨_, rfl⟩
              replace H : (near_Estimate.l2 k1 l0 l1 y314 0 y314 (y314.length : Int) 0) = some (r1, r2, r3) := by first | (rw [hy314]; with_reducible exact H) | (have H2_ := (Option.bind_some _ _).symm.trans H; rw [hy314]; with_reducible exact H2_) | (have H2_ := (Option.bind_some _ _).symm.trans H; with_reducible exact H2_) | with_reducible exact H | (rw [hy314]; exact H) | exact H
              have Ny314 := Aside0.mk hy314
              clear hy314
              have H' := Aside0.mk H
              clear H
              go_wp2_with (first | ((with_reducible refine gate_dst (N := 74) rfl ?_); (try (refine gate_guard (by rfl) ?_; dsimp only)); refine Kd.N_lit (Kd.slice 3 (Kd.int .i64)) _ 22 ?hg (N' := 74) ?hd (xs := ([l0, l1] : List (List Int))) (inner := [.slice A0 l0.length c0, .slice A1 l1.length c1]) (ok := (fun k_ => ((P0_ k_ ∨ P1_ k_) ∨ w.heap.size ≤ k_) ∧ some k_ ≠ (.slice Ao9 y287.length co9 : Value).ownBlock ∧ k_ ≠ gb285)) (okp := (fun k_ => ((P0_ k_ ∨ P1_ k_) ∨ w.heap.size ≤ k_) ∧ some k_ ≠ (.slice Ao9 y287.length co9 : Value).ownBlock ∧ k_ ≠ gb285)) ?hr ?hp (fun _ hk => hk) ((show ∀ k_, wr.heap.size ≤ k_ → (fun k_ => ((P0_ k_ ∨ P1_ k_) ∨ w.heap.size ≤ k_) ∧ some k_ ≠ (.slice Ao9 y287.length co9 : Value).ownBlock ∧ k_ ≠ gb285) k_ from fun k_ hk => ⟨(.inr (Nat.le_trans (below_size (by repeat (first | (with_reducible first | exact HB.out | apply below_alloc | apply pw_below_drewN | apply below_drew1 | refine below_set ?_ GE285.out) | exact HB.out))) hk)), Kd.fresh' (Kd.N_lt (by (with_reducible repeat (first | apply Kd.N_alloc | apply Kd.N_drewN | apply Kd.N_drew)); exact HO_30.out)) k_ hk, Kd.freshB (g := gb285) (o := .cells #[.int .i64 x286000_1, .int .i64 x286001_1] 35 (0, 0)) (by (with_reducible repeat (first | refine blk_drewN ?_ _ | refine blk_drew ?_ | refine blk_alloc ?_ _)); exact BK285.out) k_ hk⟩) _ (Nat.le_refl _)) (Below.refl _ _) (Nat.le_refl _) (by simp) ?_; (case hd => rfl); (case hg => rfl); (case hr => first | (go_simp; done) | (go_simp; rfl)); (case hp => exact (Reps.one (show Kd.FK (Kd.slice 3 (Kd.int .i64)) _ _ l0 [.slice A0 l0.length c0] from (Kd.FK_slice_mk (Kd.V_reads' (Kd.V_mono (ok' := (fun k_ => ((P0_ k_ ∨ P1_ k_) ∨ w.heap.size ≤ k_) ∧ some k_ ≠ (.slice Ao9 y287.length co9 : Value).ownBlock ∧ k_ ≠ gb285)) (HO_0.out) (fun k_ hk => ⟨hk.1, ⟨(by first | with_reducible exact hk.2.1 | exact own_len_ hk.2.1 | exact hk.2.1), hk.2.2⟩⟩))).2.1 (by first | with_reducible exact Kd.V_F (Kd.V_mono (ok' := (fun k_ => ((P0_ k_ ∨ P1_ k_) ∨ w.heap.size ≤ k_) ∧ some k_ ≠ (.slice Ao9 y287.length co9 : Value).ownBlock ∧ k_ ≠ gb285)) (HO_0.out) (fun k_ hk => ⟨hk.1, ⟨(by first | with_reducible exact hk.2.1 | exact own_len_ hk.2.1 | exact hk.2.1), hk.2.2⟩⟩)) | ((with_reducible repeat (first | apply Kd.F_alloc | apply Kd.F_drewN | apply Kd.F_drew)); exact Kd.V_F (Kd.V_mono (ok' := (fun k_ => ((P0_ k_ ∨ P1_ k_) ∨ w.heap.size ≤ k_) ∧ some k_ ≠ (.slice Ao9 y287.length co9 : Value).ownBlock ∧ k_ ≠ gb285)) (HO_0.out) (fun k_ hk => ⟨hk.1, ⟨(by first | with_reducible exact hk.2.1 | exact own_len_ hk.2.1 | exact hk.2.1), hk.2.2⟩⟩)))))) (Reps.one (show Kd.FK (Kd.slice 3 (Kd.int .i64)) _ _ l1 [.slice A1 l1.length c1] from (Kd.FK_slice_mk (Kd.V_reads' (Kd.V_mono (ok' := (fun k_ => ((P0_ k_ ∨ P1_ k_) ∨ w.heap.size ≤ k_) ∧ some k_ ≠ (.slice Ao9 y287.length co9 : Value).ownBlock ∧ k_ ≠ gb285)) (HO_1.out) (fun k_ hk => ⟨hk.1, ⟨(by first | with_reducible exact hk.2.1 | exact own_len_ hk.2.1 | exact hk.2.1), hk.2.2⟩⟩))).2.1 (by first | with_reducible exact Kd.V_F (Kd.V_mono (ok' := (fun k_ => ((P0_ k_ ∨ P1_ k_) ∨ w.heap.size ≤ k_) ∧ some k_ ≠ (.slice Ao9 y287.length co9 : Value).ownBlock ∧ k_ ≠ gb285)) (HO_1.out) (fun k_ hk => ⟨hk.1, ⟨(by first | with_reducible exact hk.2.1 | exact own_len_ hk.2.1 | exact hk.2.1), hk.2.2⟩⟩)) | ((with_reducible repeat (first | apply Kd.F_alloc | apply Kd.F_drewN | apply Kd.F_drew)); exact Kd.V_F (Kd.V_mono (ok' := (fun k_ => ((P0_ k_ ∨ P1_ k_) ∨ w.heap.size ≤ k_) ∧ some k_ ≠ (.slice Ao9 y287.length co9 : Value).ownBlock ∧ k_ ≠ gb285)) (HO_1.out) (fun k_ hk => ⟨hk.1, ⟨(by first | with_reducible exact hk.2.1 | exact own_len_ hk.2.1 | exact hk.2.1), hk.2.2⟩⟩)))))) (Reps.none _ _)))); intro v305 w50 ho51 hb hg_ hnew_; clear hg_ hnew_; (first | rw [← Ny304.out] at ho51 | (simp only [Int.reduceToNat] at ho51; rw [← Ny304.out] at ho51)); have n0_ := Aside0.mk (Kd.V_elder' (by (with_reducible repeat (first | apply Kd.V_alloc | apply Kd.V_drewN | apply Kd.V_drew)); exact HO_0.out) (Kd.N_base ho51) hb); have n1_ := Aside0.mk (Kd.V_elder' (by (with_reducible repeat (first | apply Kd.V_alloc | apply Kd.V_drewN | apply Kd.V_drew)); exact HO_1.out) (Kd.N_base ho51) hb); have n2_ := Aside0.mk (Kd.N_elder' (by (with_reducible repeat (first | apply Kd.N_alloc | apply Kd.N_drewN | apply Kd.N_drew)); exact HO_30.out) (Kd.N_base ho51) hb); have n3_ := Aside0.mk (Kd.N_lower ho51 (below_size (by repeat (first | (with_reducible first | exact HB.out | apply below_alloc | apply pw_below_drewN | apply below_drew1 | refine below_set ?_ GE285.out) | exact HB.out)))); have n4_ := Aside0.mk (blk_below (g := gb285) (o := .cells #[.int .i64 x286000_1, .int .i64 x286001_1] 35 (0, 0)) (by (with_reducible repeat (first | refine blk_drewN ?_ _ | refine blk_drew ?_ | refine blk_alloc ?_ _)); exact BK285.out) hb); have n5_ := Aside0.mk (below_step (by repeat (first | (with_reducible first | exact HB.out | apply below_alloc | apply pw_below_drewN | apply below_drew1 | refine below_set ?_ GE285.out) | exact HB.out)) hb); clear HO_0; clear HO_1; clear HO_30; clear BK285; clear HB; have HO_0 := n0_; have HO_1 := n1_; have HO_30 := n2_; have HO306 := n3_; have BK285 := n4_; have HB := n5_; clear n0_ n1_ n2_ n3_ n4_ n5_; clear hb ho51; obtain ⟨Ao52, co52, eo52⟩ := Kd.N_slice HO306.out; subst eo52) | ((with_reducible refine gate_callee (f := 44) rfl ?_); refine goesL_ (some 75) rfl rfl Try.func44 (by kernel_rfl) rfl #[.slice Ao52 y304.length co52] rfl (by (try simp only [List.map_toArray, List.map_cons, List.map_nil]); first | done | rfl | (simp only [List.length_drop, List.length_take]; rfl)) ?_; (with_reducible refine (slices_Concat_int_int.calls k1 _ _ y304 t307 _ ?side1 ?side2 A44.out).mono ?_); (case side1 => repeat (first | exact (Kd.N_reads' HO306.out).2.2 | (with_reducible refine Kd.C_alloc ?_ _) | (with_reducible refine Kd.C_drewN ?_ _) | (with_reducible refine Kd.C_drew ?_))); (case side2 => exact (Kd.N_reads' HO306.out).2.1); rintro e w53 ⟨v308, rfl, ho0, hb⟩; refine ⟨_, rfl, ?_⟩; have n0_ := Aside0.mk (Kd.V_elder' (by (with_reducible repeat (first | apply Kd.V_alloc | apply Kd.V_drewN | apply Kd.V_drew)); exact HO_0.out) (Kd.R_base ho0) hb); have n1_ := Aside0.mk (Kd.V_elder' (by (with_reducible repeat (first | apply Kd.V_alloc | apply Kd.V_drewN | apply Kd.V_drew)); exact HO_1.out) (Kd.R_base ho0) hb); have n2_ := Aside0.mk (Kd.N_elder' (by (with_reducible repeat (first | apply Kd.N_alloc | apply Kd.N_drewN | apply Kd.N_drew)); exact HO_30.out) (Kd.R_base ho0) hb); have n3_ := Aside0.mk (Kd.N_elder' (by (with_reducible repeat (first | apply Kd.N_alloc | apply Kd.N_drewN | apply Kd.N_drew)); exact HO306.out) (Kd.R_base ho0) hb); have n4_ := Aside0.mk (Kd.R_lower (Kd.R_newM (M := fun k_ => (w.heap.size ≤ k_)) ho0 (below_size (by repeat (first | (with_reducible first | exact HB.out | apply below_alloc | apply pw_below_drewN | apply below_drew1 | refine below_set ?_ GE285.out) | exact HB.out))) (fun k_ h_ => h_)) (below_size (by repeat (first | (with_reducible first | exact HB.out | apply below_alloc | apply pw_below_drewN | apply below_drew1 | refine below_set ?_ GE285.out) | exact HB.out)))); have n5_ := Aside0.mk (blk_below (g := gb285) (o := .cells #[.int .i64 x286000_1, .int .i64 x286001_1] 35 (0, 0)) (by (with_reducible repeat (first | refine blk_drewN ?_ _ | refine blk_drew ?_ | refine blk_alloc ?_ _)); exact BK285.out) hb); have n6_ := Aside0.mk (below_step (by repeat (first | (with_reducible first | exact HB.out | apply below_alloc | apply pw_below_drewN | apply below_drew1 | refine below_set ?_ GE285.out) | exact HB.out)) hb); clear HO_0; clear HO_1; clear HO_30; clear HO306; clear BK285; clear HB; have HO_0 := n0_; have HO_1 := n1_; have HO_30 := n2_; have HO306 := n3_; have HO309 := n4_; have BK285 := n5_; have HB := n6_; clear n0_ n1_ n2_ n3_ n4_ n5_ n6_; (try clear hb); (try clear hb2); (try clear hk); (try clear hi); (try clear ho0); obtain ⟨Ao54, co54, eo54⟩ := Kd.R_slice HO309.out; subst eo54) | ((with_reducible refine gate_callee (f := 39) rfl ?_); refine goesL_ (some 77) rfl rfl Try.func39 (by kernel_rfl) rfl #[.slice Ao54 t307.length co54] rfl (by (try simp only [List.map_toArray, List.map_cons, List.map_nil]); first | done | rfl | (simp only [List.length_drop, List.length_take]; rfl)) ?_; (with_reducible refine (slices_Sort_int_int.calls (fun k_ => some k_ = (.slice Ao54 t307.length co54 : Value).ownBlock) (.slice Ao54 t307.length co54) t307 t310 w _ ?side1 ?side2 A45.out).mono ?_); (case side1 => repeat (first | (with_reducible first | exact HB.out | apply below_alloc | apply pw_below_drewN | apply below_drew1 | refine below_set ?_ GE285.out) | exact HB.out)); (case side2 => exact Kd.R_tight rfl HO309.out); rintro e w55 ⟨rfl, hy0, hb, hkp⟩; refine ⟨_, rfl, ?_⟩; have n0_ := Aside0.mk (Kd.V_mono (ok' := fun k_ => ((P0_ k_ ∨ P1_ k_) ∨ w.heap.size ≤ k_) ∧ some k_ ≠ (.slice Ao9 y287.length co9 : Value).ownBlock ∧ some k_ ≠ (.slice Ao52 y304.length co52 : Value).ownBlock ∧ some k_ ≠ (.slice Ao54 t307.length co54 : Value).ownBlock ∧ k_ ≠ gb285) (Kd.V_keptB (HO_0.out) hkp (fun k_ hk_ hs_ => (hk_.2) hs_)) (fun k_ hk_ => ⟨hk_.1.1.1.1, hk_.1.1.1.2.1, hk_.1.1.2, hk_.1.2, hk_.1.1.1.2.2⟩)); have n1_ := Aside0.mk (Kd.V_mono (ok' := fun k_ => ((P0_ k_ ∨ P1_ k_) ∨ w.heap.size ≤ k_) ∧ some k_ ≠ (.slice Ao9 y287.length co9 : Value).ownBlock ∧ some k_ ≠ (.slice Ao52 y304.length co52 : Value).ownBlock ∧ some k_ ≠ (.slice Ao54 t307.length co54 : Value).ownBlock ∧ k_ ≠ gb285) (Kd.V_keptB (HO_1.out) hkp (fun k_ hk_ hs_ => (hk_.2) hs_)) (fun k_ hk_ => ⟨hk_.1.1.1.1, hk_.1.1.1.2.1, hk_.1.1.2, hk_.1.2, hk_.1.1.1.2.2⟩)); have n2_ := Aside0.mk (Kd.N_mono (ok' := fun k_ => ((P0_ k_ ∨ P1_ k_) ∨ w.heap.size ≤ k_) ∧ some k_ ≠ (.slice Ao52 y304.length co52 : Value).ownBlock ∧ some k_ ≠ (.slice Ao54 t307.length co54 : Value).ownBlock ∧ k_ ≠ gb285) (Kd.N_keptB (HO_30.out) hkp (fun k_ hk_ hs_ => (hk_.2) hs_)) (fun k_ hk_ => ⟨hk_.1.1.1.1, hk_.1.1.2, hk_.1.2, hk_.1.1.1.2⟩)); have n3_ := Aside0.mk (blk_kept (by (with_reducible repeat (first | refine blk_drewN ?_ _ | refine blk_drew ?_ | refine blk_alloc ?_ _)); exact BK285.out) hkp (fun hs_ => (fun e_ => (Kd.R_ne HO309.out BK285.out (by decide)) e_) hs_)); have n4_ := Aside0.mk (Kd.N_mono (ok' := fun k_ => ((P0_ k_ ∨ P1_ k_) ∨ w.heap.size ≤ k_) ∧ some k_ ≠ (.slice Ao9 y287.length co9 : Value).ownBlock ∧ some k_ ≠ (.slice Ao54 t307.length co54 : Value).ownBlock ∧ k_ ≠ gb285) (Kd.N_keptB (HO306.out) hkp (fun k_ hk_ hs_ => (hk_.2) hs_)) (fun k_ hk_ => ⟨hk_.1.1.1, hk_.1.1.2.1, hk_.1.2, hk_.1.1.2.2⟩)); have n5_ := Aside0.mk (Kd.R_reok rfl hy0 (fun k_ e_ => HO309.out.1 k_ e_)); have n6_ := Aside0.mk (hb); clear HO_0; clear HO_1; clear HO_30; clear BK285; clear HO306; clear HO309; clear HB; have HO_0 := n0_; have HO_1 := n1_; have HO_30 := n2_; have BK285 := n3_; have HO306 := n4_; have HO309 := n5_; have HB := n6_; clear n0_ n1_ n2_ n3_ n4_ n5_ n6_; (try clear hb); (try clear hkp); (try clear hy0)) | ((with_reducible refine gate_callee (f := 40) rfl ?_); refine goesL_ (some 79) rfl rfl Try.func40 (by kernel_rfl) rfl #[.slice Ao54 t307.length co54] rfl (by (try simp only [List.map_toArray, List.map_cons, List.map_nil]); first | done | rfl | (simp only [List.length_drop, List.length_take]; rfl)) ?_; (with_reducible refine (slices_Compact_int_int.calls (fun k_ => some k_ = (.slice Ao54 t307.length co54 : Value).ownBlock) (.slice Ao54 t307.length co54) t310 t311 w _ ?side1 ?side2 A46.out).mono ?_); (case side1 => repeat (first | (with_reducible first | exact HB.out | apply below_alloc | apply pw_below_drewN | apply below_drew1 | refine below_set ?_ GE285.out) | exact HB.out)); (case side2 => exact Kd.R_tight rfl HO309.out); rintro e w56 ⟨v312, rfl, ho0, hb, hkp⟩; refine ⟨_, rfl, ?_⟩; have n0_ := Aside0.mk (Kd.V_mono (ok' := fun k_ => ((P0_ k_ ∨ P1_ k_) ∨ w.heap.size ≤ k_) ∧ some k_ ≠ (.slice Ao9 y287.length co9 : Value).ownBlock ∧ some k_ ≠ (.slice Ao52 y304.length co52 : Value).ownBlock ∧ k_ ≠ gb285 ∧ some k_ ≠ (v312 : Value).ownBlock) (Kd.V_keptB (HO_0.out) hkp (fun k_ hk_ hs_ => (hk_.2.2.2.1) hs_)) (fun k_ hk_ => ⟨hk_.1.1, hk_.1.2.1, hk_.1.2.2.1, hk_.1.2.2.2.2, fun e_ => Or.elim (ho0.1 k_ e_.symm) (fun hs_ => hk_.2.1 hs_) (fun hn_ => Nat.not_le.2 hk_.2.2 hn_)⟩)); have n1_ := Aside0.mk (Kd.V_mono (ok' := fun k_ => ((P0_ k_ ∨ P1_ k_) ∨ w.heap.size ≤ k_) ∧ some k_ ≠ (.slice Ao9 y287.length co9 : Value).ownBlock ∧ some k_ ≠ (.slice Ao52 y304.length co52 : Value).ownBlock ∧ k_ ≠ gb285 ∧ some k_ ≠ (v312 : Value).ownBlock) (Kd.V_keptB (HO_1.out) hkp (fun k_ hk_ hs_ => (hk_.2.2.2.1) hs_)) (fun k_ hk_ => ⟨hk_.1.1, hk_.1.2.1, hk_.1.2.2.1, hk_.1.2.2.2.2, fun e_ => Or.elim (ho0.1 k_ e_.symm) (fun hs_ => hk_.2.1 hs_) (fun hn_ => Nat.not_le.2 hk_.2.2 hn_)⟩)); have n2_ := Aside0.mk (Kd.N_mono (ok' := fun k_ => ((P0_ k_ ∨ P1_ k_) ∨ w.heap.size ≤ k_) ∧ some k_ ≠ (.slice Ao52 y304.length co52 : Value).ownBlock ∧ k_ ≠ gb285 ∧ some k_ ≠ (v312 : Value).ownBlock) (Kd.N_keptB (HO_30.out) hkp (fun k_ hk_ hs_ => (hk_.2.2.1) hs_)) (fun k_ hk_ => ⟨hk_.1.1, hk_.1.2.1, hk_.1.2.2.2, fun e_ => Or.elim (ho0.1 k_ e_.symm) (fun hs_ => hk_.2.1 hs_) (fun hn_ => Nat.not_le.2 hk_.2.2 hn_)⟩)); have n3_ := Aside0.mk (blk_kept (by (with_reducible repeat (first | refine blk_drewN ?_ _ | refine blk_drew ?_ | refine blk_alloc ?_ _)); exact BK285.out) hkp (fun hs_ => (fun e_ => (Kd.R_ne HO309.out BK285.out (by decide)) e_) hs_)); have n4_ := Aside0.mk (Kd.N_mono (ok' := fun k_ => ((P0_ k_ ∨ P1_ k_) ∨ w.heap.size ≤ k_) ∧ some k_ ≠ (.slice Ao9 y287.length co9 : Value).ownBlock ∧ k_ ≠ gb285 ∧ some k_ ≠ (v312 : Value).ownBlock) (Kd.N_keptB (HO306.out) hkp (fun k_ hk_ hs_ => (hk_.2.2.1) hs_)) (fun k_ hk_ => ⟨hk_.1.1, hk_.1.2.1, hk_.1.2.2.2, fun e_ => Or.elim (ho0.1 k_ e_.symm) (fun hs_ => hk_.2.1 hs_) (fun hn_ => Nat.not_le.2 hk_.2.2 hn_)⟩)); have n5_ := Aside0.mk (Kd.R_mono (ok' := fun k_ => (w.heap.size ≤ k_)) ho0 (fun k_ hk_ => Or.elim hk_ (fun hs_ => (HO309.out.1 k_ (hs_).symm).1) (fun hn_ => (Nat.le_trans (below_size (by repeat (first | (with_reducible first | exact HB.out | apply below_alloc | apply pw_below_drewN | apply below_drew1 | refine below_set ?_ GE285.out) | exact HB.out))) hn_)))); have n6_ := Aside0.mk (hb); clear HO_0; clear HO_1; clear HO_30; clear BK285; clear HO306; clear HB; clear HO309; have HO_0 := n0_; have HO_1 := n1_; have HO_30 := n2_; have BK285 := n3_; have HO306 := n4_; have HO313 := n5_; have HB := n6_; clear n0_ n1_ n2_ n3_ n4_ n5_ n6_; (try clear hb); (try clear hkp); (try clear ho0); obtain ⟨Ao57, co57, eo57⟩ := Kd.R_slice HO313.out; subst eo57; have q58 : ((ji47) : Int) ≤ ((t311.length : Int) : Int) := of_decide_eq_true (by first | (with_reducible assumption) | assumption); obtain ⟨i058, hi058, _, hsz58, _⟩ := info_parts info3; have hcut58 := cut_to (P := Try.prog) 22 3 .i64 Try.underlying22 hi058 Ao57 t311.length co57 (ji47) (of_decide_eq_true (by first | (with_reducible assumption) | assumption)) q58 (Kd.R_reads' HO313.out).2.1; have hr58 := Kd.R_take (m := ((ji47) : Int).toNat) HO313.out (by omega); have hy58 : y314.length = ((ji47) : Int).toNat := (by rw [Ny314.out, List.length_take]; omega); rw [← Ny314.out] at hr58; rw [← hy58] at hr58 hcut58; clear hy58 hi058 hsz58 HO313; have HO316 := Aside0.mk hr58; clear hr58; replace q58 := eq_true q58))
              go_loopg [15, 88] k1 (fun kq v15 v88 w' => ∃ (x15_2 : Int) (x88_2 : Int), v15 = .int .i64 x15_2 ∧ v88 = .int .i64 x88_2 ∧ Aside0 (near_Estimate.l2 kq l0 l1 y314 x15_2 y314 (y314.length : Int) x88_2 = some (r1, r2, r3)) ∧ Aside0 (kq ≤ k1) ∧ Aside0 (Kd.V (Kd.int .i64) 3 w' w.heap.size (fun k_ => ((P0_ k_ ∨ P1_ k_) ∨ w.heap.size ≤ k_) ∧ some k_ ≠ ((.slice Ao57 y314.length co57) : Value).ownBlock ∧ some k_ ≠ ((.slice Ao57 y314.length co57) : Value).ownBlock ∧ k_ ≠ gb285) (.slice A0 l0.length c0) l0) ∧ Aside0 (Kd.V (Kd.int .i64) 3 w' w.heap.size (fun k_ => ((P0_ k_ ∨ P1_ k_) ∨ w.heap.size ≤ k_) ∧ some k_ ≠ ((.slice Ao57 y314.length co57) : Value).ownBlock ∧ some k_ ≠ ((.slice Ao57 y314.length co57) : Value).ownBlock ∧ k_ ≠ gb285) (.slice A1 l1.length c1) l1) ∧ Aside0 (Kd.R (Kd.int .i64) 3 w' w.heap.size (fun k_ => (w.heap.size ≤ k_)) (.slice Ao57 y314.length co57) y314) ∧ Aside0 (Kd.R (Kd.int .i64) 3 w' w.heap.size (fun k_ => (w.heap.size ≤ k_)) (.slice Ao57 y314.length co57) y314) ∧ Aside0 (w'.heap[gb285]? = some (.cells #[.int .i64 x286000_1, .int .i64 x286001_1] 35 (0, 0))) ∧ Aside0 (Below w.heap.size w w'))
              case atStart => exact ⟨(0), (0), (by first | rfl | (simp; done) | (simp [*]; done)), (by first | rfl | (simp; done) | (simp [*]; done)), H', ⟨Nat.le_refl _⟩, ⟨by (with_reducible repeat (first | apply Kd.V_alloc | apply Kd.V_drewN | apply Kd.V_drew)); exact Kd.V_mono HO_0.out (fun _ hk => ⟨hk.1, ⟨(by first | with_reducible exact hk.2.2.2.2 | exact own_len_ hk.2.2.2.2 | exact hk.2.2.2.2), ⟨(by first | with_reducible exact hk.2.2.2.2 | exact own_len_ hk.2.2.2.2 | exact hk.2.2.2.2), hk.2.2.2.1⟩⟩⟩)⟩, ⟨by (with_reducible repeat (first | apply Kd.V_alloc | apply Kd.V_drewN | apply Kd.V_drew)); exact Kd.V_mono HO_1.out (fun _ hk => ⟨hk.1, ⟨(by first | with_reducible exact hk.2.2.2.2 | exact own_len_ hk.2.2.2.2 | exact hk.2.2.2.2), ⟨(by first | with_reducible exact hk.2.2.2.2 | exact own_len_ hk.2.2.2.2 | exact hk.2.2.2.2), hk.2.2.2.1⟩⟩⟩)⟩, ⟨by (with_reducible repeat (first | apply Kd.R_alloc | apply Kd.R_drewN | apply Kd.R_drew)); exact HO316.out⟩, ⟨by (with_reducible repeat (first | apply Kd.R_alloc | apply Kd.R_drewN | apply Kd.R_drew)); exact HO316.out⟩, ⟨by (with_reducible repeat (first | refine blk_drewN ?_ _ | refine blk_drew ?_ | refine blk_alloc ?_ _)); exact BK285.out⟩, ⟨by repeat (first | (with_reducible first | exact HB.out | apply below_alloc | apply pw_below_drewN | apply below_drew1 | refine below_set ?_ GE285.out) | exact HB.out)⟩⟩
              case round =>
                clear H'
                try clear c1
                try clear c2
                try clear p2
                try clear q2
                try clear hx2
                try clear c3
                try clear c4
                try clear c5
                try clear c5b0
                try clear c5b1
                try clear q5
                try clear p6
                try clear c10
                try clear c10b0
                try clear c11
                try clear c11b0
                try clear c12
                try clear c12b0
                try clear c13
                try clear c13b0
                try clear c15
                try clear c15b0
                try clear c16
                try clear c16b0
                try clear c17
                try clear c17b0
                try clear c19
                try clear c19b0
                try clear c22
                try clear c22b0
                try clear c23
                try clear c23b0
                try clear c26
                try clear c26b0
                try clear c26b1
                try clear c29
                try clear p29
                try clear q29
                try clear hx29
                try clear c34
                try clear c36
                try clear c36b0
                try clear c36b1
                try clear c37
                try clear c39
                try clear c40
                try clear c43
                try clear c44
                try clear c48
                try clear c48b0
                try clear c48b1
                try clear c49
                try clear c49b0
                try clear c49b1
                try clear q58
                try clear hcz14_0
                try clear hcz14_1
                try clear hcz33_0
                try clear hcz33_1
                try clear hcz43_0
                try clear hcz43_1
                try clear hfz14_0
                try clear hfz14_1
                try clear hfz33_0
                try clear hfz33_1
                try clear hfz43_0
                try clear hfz43_1
                try clear hx290_0
                try clear hx291_0
                try clear hx293_0
                try clear p2
                try clear p290
                try clear p291
                try clear p293
                try clear q2
                try clear q290
                try clear q291
                try clear q293
                try clear q58
                obtain ⟨x15_2, x88_2, rfl, rfl, HA, HK2, HO_0, HO_1, HO_14, HO_86, BK285, HB⟩ := hrel
                cases gk with
                | zero => exact absurd HA.out (by simp [near_Estimate.l2])
                | succ k2 =>
                  have H := HA.out
                  clear HA
                  simp only [near_Estimate.l2] at H
                  by_cases c59 : x88_2 < (y314.length : Int)
                  · rw [if_pos c59] at H
                    have c59b0 : decide (x88_2 < (y314.length : Int)) = true := decide_eq_true c59
                    clear c59
                    by_cases c60 : 0 ≤ x88_2
                    · rw [if_pos c60] at H
                      have c60b0 : decide (0 ≤ x88_2) = true := decide_eq_true c60
                      clear c60
                      by_cases c61 : x88_2 < (y314.length : Int)
                      · rw [if_pos c61] at H
                        have c61b0 : decide (x88_2 < (y314.length : Int)) = true := decide_eq_true c61
                        clear c61
                        replace H := Option.bind_eq_some_iff.mp H
                        obtain ⟨⟨t320, t321⟩, A620, H⟩ := H
                        replace H : ((slices_BinarySearch_int_int.f k2 l1 (rd y314 x88_2)).bind fun bt322 => (if t321 = true then (if bt322.2 = true then (near_Estimate.l2 k2 l0 l1 y314 (wrap64 (x15_2 + 1)) y314 (y314.length : Int) (wrap64 (x88_2 + 1))) else (near_Estimate.l2 k2 l0 l1 y314 x15_2 y314 (y314.length : Int) (wrap64 (x88_2 + 1)))) else (near_Estimate.l2 k2 l0 l1 y314 x15_2 y314 (y314.length : Int) (wrap64 (x88_2 + 1))))) = some (r1, r2, r3) := H
                        have A62 := Aside0.mk A620
                        clear A620
                        replace H := Option.bind_eq_some_iff.mp H
                        obtain ⟨⟨t322, t323⟩, A630, H⟩ := H
                        replace H : (if t321 = true then (if t323 = true then (near_Estimate.l2 k2 l0 l1 y314 (wrap64 (x15_2 + 1)) y314 (y314.length : Int) (wrap64 (x88_2 + 1))) else (near_Estimate.l2 k2 l0 l1 y314 x15_2 y314 (y314.length : Int) (wrap64 (x88_2 + 1)))) else (near_Estimate.l2 k2 l0 l1 y314 x15_2 y314 (y314.length : Int) (wrap64 (x88_2 + 1)))) = some (r1, r2, r3) := H
                        have A63 := Aside0.mk A630
                        clear A630
                        by_cases c64 : t321 = true
                        · subst c64
                          have H1 : (if t323 = true then (near_Estimate.l2 k2 l0 l1 y314 (wrap64 (x15_2 + 1)) y314 (y314.length : Int) (wrap64 (x88_2 + 1))) else (near_Estimate.l2 k2 l0 l1 y314 x15_2 y314 (y314.length : Int) (wrap64 (x88_2 + 1)))) = some (r1, r2, r3) := by rw [if_pos rfl] at H; exact H
                          clear H
                          have H := H1
                          clear H1
                          by_cases c65 : t323 = true
                          · subst c65
                            have H1 : (near_Estimate.l2 k2 l0 l1 y314 (wrap64 (x15_2 + 1)) y314 (y314.length : Int) (wrap64 (x88_2 + 1))) = some (r1, r2, r3) := by rw [if_pos rfl] at H; exact H
                            clear H
                            have H := H1
                            clear H1
                            have H' := Aside0.mk H
                            clear H
                            have p319 : 0 ≤ (x88_2 : Int) := of_decide_eq_true (by first | (with_reducible assumption) | assumption)
                            have q319 : x88_2 < (y314.length : Int) := of_decide_eq_true (by first | (with_reducible assumption) | assumption)
                            obtain ⟨ad319, e319, hx319_0⟩ := Kd.at_int (Kd.R_reads' HO_86.out).2.2 x88_2 p319 q319
                            cases e319
                            replace p319 := eq_true p319
                            replace q319 := eq_true q319
                            go_wp2_with (first | ((with_reducible refine gate_callee (f := 45) rfl ?_); refine goesL_ (some 95) rfl rfl Try.func45 (by kernel_rfl) rfl #[.slice A0 l0.length c0, .int .i64 (rd y314 x88_2)] rfl (by (try simp only [List.map_toArray, List.map_cons, List.map_nil]); first | done | rfl | (simp only [List.length_drop, List.length_take]; rfl)) ?_; (with_reducible refine (slices_BinarySearch_int_int.calls k2 _ _ l0 (rd y314 x88_2) t320 true _ ?side1 ?side2 A62.out).mono ?_); (case side1 => repeat (first | exact (Kd.V_reads' HO_0.out).2.2 | (with_reducible refine Kd.C_alloc ?_ _) | (with_reducible refine Kd.C_drewN ?_ _) | (with_reducible refine Kd.C_drew ?_))); (case side2 => exact (Kd.V_reads' HO_0.out).2.1); rintro e w' ⟨rfl, ⟨nd, rfl⟩⟩; refine ⟨_, rfl, ?_⟩) | ((with_reducible refine gate_callee (f := 45) rfl ?_); refine goesL_ (some 101) rfl rfl Try.func45 (by kernel_rfl) rfl #[.slice A1 l1.length c1, .int .i64 (rd y314 x88_2)] rfl (by (try simp only [List.map_toArray, List.map_cons, List.map_nil]); first | done | rfl | (simp only [List.length_drop, List.length_take]; rfl)) ?_; (with_reducible refine (slices_BinarySearch_int_int.calls k2 _ _ l1 (rd y314 x88_2) t322 true _ ?side1 ?side2 A63.out).mono ?_); (case side1 => repeat (first | exact (Kd.V_reads' HO_1.out).2.2 | (with_reducible refine Kd.C_alloc ?_ _) | (with_reducible refine Kd.C_drewN ?_ _) | (with_reducible refine Kd.C_drew ?_))); (case side2 => exact (Kd.V_reads' HO_1.out).2.1); rintro e w' ⟨rfl, ⟨nd, rfl⟩⟩; refine ⟨_, rfl, ?_⟩))
                            go_roundg k2
                            case measure => have := HK1.out; have := HK2.out; omega
                            case rel => exact ⟨(wrap64 (x15_2 + 1)), (wrap64 (x88_2 + 1)), (by first | rfl | (simp; done) | (simp [*]; done)), (by first | rfl | (simp; done) | (simp [*]; done)), H', ⟨by have := HK1.out; have := HK2.out; omega⟩, ⟨by (with_reducible repeat (first | apply Kd.V_alloc | apply Kd.V_drewN | apply Kd.V_drew)); exact HO_0.out⟩, ⟨by (with_reducible repeat (first | apply Kd.V_alloc | apply Kd.V_drewN | apply Kd.V_drew)); exact HO_1.out⟩, ⟨by (with_reducible repeat (first | apply Kd.R_alloc | apply Kd.R_drewN | apply Kd.R_drew)); exact HO_14.out⟩, ⟨by (with_reducible repeat (first | apply Kd.R_alloc | apply Kd.R_drewN | apply Kd.R_drew)); exact HO_86.out⟩, ⟨by (with_reducible repeat (first | refine blk_drewN ?_ _ | refine blk_drew ?_ | refine blk_alloc ?_ _)); exact BK285.out⟩, ⟨by repeat (first | (with_reducible first | exact HB.out | apply below_alloc | apply pw_below_drewN | apply below_drew1 | refine below_set ?_ GE285.out) | exact HB.out)⟩⟩
                          · replace c65 := Bool.eq_false_iff.mpr c65
                            subst c65
                            have H1 : (near_Estimate.l2 k2 l0 l1 y314 x15_2 y314 (y314.length : Int) (wrap64 (x88_2 + 1))) = some (r1, r2, r3) := by rw [if_neg (show ¬ (false = true) by decide)] at H; exact H
                            clear H
                            have H := H1
                            clear H1
                            have H' := Aside0.mk H
                            clear H
                            have p319 : 0 ≤ (x88_2 : Int) := of_decide_eq_true (by first | (with_reducible assumption) | assumption)
                            have q319 : x88_2 < (y314.length : Int) := of_decide_eq_true (by first | (with_reducible assumption) | assumption)
                            obtain ⟨ad319, e319, hx319_0⟩ := Kd.at_int (Kd.R_reads' HO_86.out).2.2 x88_2 p319 q319
                            cases e319
                            replace p319 := eq_true p319
                            replace q319 := eq_true q319
                            go_wp2_with (first | ((with_reducible refine gate_callee (f := 45) rfl ?_); refine goesL_ (some 95) rfl rfl Try.func45 (by kernel_rfl) rfl #[.slice A0 l0.length c0, .int .i64 (rd y314 x88_2)] rfl (by (try simp only [List.map_toArray, List.map_cons, List.map_nil]); first | done | rfl | (simp only [List.length_drop, List.length_take]; rfl)) ?_; (with_reducible refine (slices_BinarySearch_int_int.calls k2 _ _ l0 (rd y314 x88_2) t320 true _ ?side1 ?side2 A62.out).mono ?_); (case side1 => repeat (first | exact (Kd.V_reads' HO_0.out).2.2 | (with_reducible refine Kd.C_alloc ?_ _) | (with_reducible refine Kd.C_drewN ?_ _) | (with_reducible refine Kd.C_drew ?_))); (case side2 => exact (Kd.V_reads' HO_0.out).2.1); rintro e w' ⟨rfl, ⟨nd, rfl⟩⟩; refine ⟨_, rfl, ?_⟩) | ((with_reducible refine gate_callee (f := 45) rfl ?_); refine goesL_ (some 101) rfl rfl Try.func45 (by kernel_rfl) rfl #[.slice A1 l1.length c1, .int .i64 (rd y314 x88_2)] rfl (by (try simp only [List.map_toArray, List.map_cons, List.map_nil]); first | done | rfl | (simp only [List.length_drop, List.length_take]; rfl)) ?_; (with_reducible refine (slices_BinarySearch_int_int.calls k2 _ _ l1 (rd y314 x88_2) t322 false _ ?side1 ?side2 A63.out).mono ?_); (case side1 => repeat (first | exact (Kd.V_reads' HO_1.out).2.2 | (with_reducible refine Kd.C_alloc ?_ _) | (with_reducible refine Kd.C_drewN ?_ _) | (with_reducible refine Kd.C_drew ?_))); (case side2 => exact (Kd.V_reads' HO_1.out).2.1); rintro e w' ⟨rfl, ⟨nd, rfl⟩⟩; refine ⟨_, rfl, ?_⟩))
                            go_roundg k2
                            case measure => have := HK1.out; have := HK2.out; omega
                            case rel => exact ⟨(x15_2), (wrap64 (x88_2 + 1)), (by first | rfl | (simp; done) | (simp [*]; done)), (by first | rfl | (simp; done) | (simp [*]; done)), H', ⟨by have := HK1.out; have := HK2.out; omega⟩, ⟨by (with_reducible repeat (first | apply Kd.V_alloc | apply Kd.V_drewN | apply Kd.V_drew)); exact HO_0.out⟩, ⟨by (with_reducible repeat (first | apply Kd.V_alloc | apply Kd.V_drewN | apply Kd.V_drew)); exact HO_1.out⟩, ⟨by (with_reducible repeat (first | apply Kd.R_alloc | apply Kd.R_drewN | apply Kd.R_drew)); exact HO_14.out⟩, ⟨by (with_reducible repeat (first | apply Kd.R_alloc | apply Kd.R_drewN | apply Kd.R_drew)); exact HO_86.out⟩, ⟨by (with_reducible repeat (first | refine blk_drewN ?_ _ | refine blk_drew ?_ | refine blk_alloc ?_ _)); exact BK285.out⟩, ⟨by repeat (first | (with_reducible first | exact HB.out | apply below_alloc | apply pw_below_drewN | apply below_drew1 | refine below_set ?_ GE285.out) | exact HB.out)⟩⟩
                        · replace c64 := Bool.eq_false_iff.mpr c64
                          subst c64
                          have H1 : (near_Estimate.l2 k2 l0 l1 y314 x15_2 y314 (y314.length : Int) (wrap64 (x88_2 + 1))) = some (r1, r2, r3) := by rw [if_neg (show ¬ (false = true) by decide)] at H; exact H
                          clear H
                          have H := H1
                          clear H1
                          have H' := Aside0.mk H
                          clear H
                          have p319 : 0 ≤ (x88_2 : Int) := of_decide_eq_true (by first | (with_reducible assumption) | assumption)
                          have q319 : x88_2 < (y314.length : Int) := of_decide_eq_true (by first | (with_reducible assumption) | assumption)
                          obtain ⟨ad319, e319, hx319_0⟩ := Kd.at_int (Kd.R_reads' HO_86.out).2.2 x88_2 p319 q319
                          cases e319
                          replace p319 := eq_true p319
                          replace q319 := eq_true q319
                          go_wp2_with (first | ((with_reducible refine gate_callee (f := 45) rfl ?_); refine goesL_ (some 95) rfl rfl Try.func45 (by kernel_rfl) rfl #[.slice A0 l0.length c0, .int .i64 (rd y314 x88_2)] rfl (by (try simp only [List.map_toArray, List.map_cons, List.map_nil]); first | done | rfl | (simp only [List.length_drop, List.length_take]; rfl)) ?_; (with_reducible refine (slices_BinarySearch_int_int.calls k2 _ _ l0 (rd y314 x88_2) t320 false _ ?side1 ?side2 A62.out).mono ?_); (case side1 => repeat (first | exact (Kd.V_reads' HO_0.out).2.2 | (with_reducible refine Kd.C_alloc ?_ _) | (with_reducible refine Kd.C_drewN ?_ _) | (with_reducible refine Kd.C_drew ?_))); (case side2 => exact (Kd.V_reads' HO_0.out).2.1); rintro e w' ⟨rfl, ⟨nd, rfl⟩⟩; refine ⟨_, rfl, ?_⟩) | ((with_reducible refine gate_callee (f := 45) rfl ?_); refine goesL_ (some 101) rfl rfl Try.func45 (by kernel_rfl) rfl #[.slice A1 l1.length c1, .int .i64 (rd y314 x88_2)] rfl (by (try simp only [List.map_toArray, List.map_cons, List.map_nil]); first | done | rfl | (simp only [List.length_drop, List.length_take]; rfl)) ?_; (with_reducible refine (slices_BinarySearch_int_int.calls k2 _ _ l1 (rd y314 x88_2) t322 t323 _ ?side1 ?side2 A63.out).mono ?_); (case side1 => repeat (first | exact (Kd.V_reads' HO_1.out).2.2 | (with_reducible refine Kd.C_alloc ?_ _) | (with_reducible refine Kd.C_drewN ?_ _) | (with_reducible refine Kd.C_drew ?_))); (case side2 => exact (Kd.V_reads' HO_1.out).2.1); rintro e w' ⟨rfl, ⟨nd, rfl⟩⟩; refine ⟨_, rfl, ?_⟩))
                          go_roundg k2
                          case measure => have := HK1.out; have := HK2.out; omega
                          case rel => exact ⟨(x15_2), (wrap64 (x88_2 + 1)), (by first | rfl | (simp; done) | (simp [*]; done)), (by first | rfl | (simp; done) | (simp [*]; done)), H', ⟨by have := HK1.out; have := HK2.out; omega⟩, ⟨by (with_reducible repeat (first | apply Kd.V_alloc | apply Kd.V_drewN | apply Kd.V_drew)); exact HO_0.out⟩, ⟨by (with_reducible repeat (first | apply Kd.V_alloc | apply Kd.V_drewN | apply Kd.V_drew)); exact HO_1.out⟩, ⟨by (with_reducible repeat (first | apply Kd.R_alloc | apply Kd.R_drewN | apply Kd.R_drew)); exact HO_14.out⟩, ⟨by (with_reducible repeat (first | apply Kd.R_alloc | apply Kd.R_drewN | apply Kd.R_drew)); exact HO_86.out⟩, ⟨by (with_reducible repeat (first | refine blk_drewN ?_ _ | refine blk_drew ?_ | refine blk_alloc ?_ _)); exact BK285.out⟩, ⟨by repeat (first | (with_reducible first | exact HB.out | apply below_alloc | apply pw_below_drewN | apply below_drew1 | refine below_set ?_ GE285.out) | exact HB.out)⟩⟩
                      · rw [if_neg c61] at H
                        exact absurd H (by simp)
                    · rw [if_neg c60] at H
                      exact absurd H (by simp)
                  · rw [if_neg c59] at H
                    have c59b0 : decide (x88_2 < (y314.length : Int)) = false := decide_eq_false c59
                    clear c59
                    replace H := Option.bind_eq_some_iff.mp H
                    obtain ⟨⟨t317, t318⟩, A660, H⟩ := H
                    replace H : (some (t317, t318, 0)) = some (r1, r2, r3) := H
                    have A66 := Aside0.mk A660
                    clear A660
                    simp only [Option.some.injEq, Prod.mk.injEq] at H
                    obtain ⟨rfl, rfl, rfl⟩ := H
                    go_wp2_with (first | ((with_reducible refine gate_callee (f := 46) rfl ?_); refine goesL_ (some 114) rfl rfl Try.func46 (by kernel_rfl) rfl #[.int .i64 x15_2, .int .i64 (y314.length : Int)] rfl (by (try simp only [List.map_toArray, List.map_cons, List.map_nil]); first | done | rfl | (simp only [List.length_drop, List.length_take]; rfl)) ?_; (with_reducible refine (near_fraction.calls k2 x15_2 (y314.length : Int) t317 t318 _ A66.out).mono ?_); rintro e w67 ⟨rfl, hb⟩; refine ⟨_, rfl, ?_⟩; have n0_ := Aside0.mk (Kd.V_below (by (with_reducible repeat (first | apply Kd.V_alloc | apply Kd.V_drewN | apply Kd.V_drew)); exact HO_0.out) hb); have n1_ := Aside0.mk (Kd.V_below (by (with_reducible repeat (first | apply Kd.V_alloc | apply Kd.V_drewN | apply Kd.V_drew)); exact HO_1.out) hb); have n2_ := Aside0.mk (Kd.R_below (by (with_reducible repeat (first | apply Kd.R_alloc | apply Kd.R_drewN | apply Kd.R_drew)); exact HO_14.out) hb); have n3_ := Aside0.mk (Kd.R_below (by (with_reducible repeat (first | apply Kd.R_alloc | apply Kd.R_drewN | apply Kd.R_drew)); exact HO_86.out) hb); have n4_ := Aside0.mk (blk_below (g := gb285) (o := .cells #[.int .i64 x286000_1, .int .i64 x286001_1] 35 (0, 0)) (by (with_reducible repeat (first | refine blk_drewN ?_ _ | refine blk_drew ?_ | refine blk_alloc ?_ _)); exact BK285.out) hb); have n5_ := Aside0.mk (below_step (by repeat (first | (with_reducible first | exact HB.out | apply below_alloc | apply pw_below_drewN | apply below_drew1 | refine below_set ?_ GE285.out) | exact HB.out)) hb); clear HO_0; clear HO_1; clear HO_14; clear HO_86; clear BK285; clear HB; have HO_0 := n0_; have HO_1 := n1_; have HO_14 := n2_; have HO_86 := n3_; have BK285 := n4_; have HB := n5_; clear n0_ n1_ n2_ n3_ n4_ n5_; (try clear hb); (try clear hb2); (try clear hk); (try clear hi); have hcz68_0 : w67.cell? ⟨gb285, 0, none⟩ = some (.int .i64 x286000_1) := (blk_cell BK285.out 0).trans rfl; have hcz68_1 : w67.cell? ⟨gb285, 1, none⟩ = some (.int .i64 x286001_1) := (blk_cell BK285.out 1).trans rfl; have hfz68_0 := blk_frozen BK285.out 0; have hfz68_1 := blk_frozen BK285.out 1))
                    refine bodyPost_ret (results_ct rfl _ _ gb285 35 #[.int .i64 t317, .int .i64 t318] (0, 0) _ rfl (by (with_reducible repeat (first | refine blk_drewN ?_ _ | refine blk_drew ?_ | refine blk_alloc ?_ _)); refine blk_put (cs := #[.int .i64 t317, .int .i64 x286001_1]) ?_ 1 _ rfl; (with_reducible repeat (first | refine blk_drewN ?_ _ | refine blk_drew ?_ | refine blk_alloc ?_ _)); refine blk_put (cs := #[.int .i64 x286000_1, .int .i64 x286001_1]) ?_ 0 _ rfl; (with_reducible repeat (first | refine blk_drewN ?_ _ | refine blk_drew ?_ | refine blk_alloc ?_ _)); exact BK285.out) Try.underlying35 rfl (by kernel_rfl)) rfl ?_
                    exact ⟨by first | rfl | (simp [errW_none, errW_some] <;> rfl) | (simp only [← hji47]; first | rfl | (simp [errW_none, errW_some] <;> rfl)) | (simp [*, errW_none, errW_some] <;> rfl), by repeat (first | (with_reducible first | exact HB.out | apply below_alloc | apply pw_below_drewN | apply below_drew1 | refine below_set ?_ GE285.out) | exact HB.out)⟩
            · rw [if_neg c49] at H
              exact absurd H (by simp)
          · rw [if_neg c48] at H
            exact absurd H (by simp)
  · rw [if_neg c5] at H
    have c5b0 : (t286 == 0) = false := beq_eq_false_iff_ne.mpr c5
    have c5b1 : (t286 != 0) = true := bne_iff_ne.mpr c5
    simp only [Option.some.injEq, Prod.mk.injEq] at H
    obtain ⟨rfl, rfl, rfl⟩ := H
    go_enter Try.func13, Try.ntmps13
    go_wp2_with (first | ((with_reducible refine gate_dst (N := 6) rfl ?_); (try (refine gate_guard (by rfl) ?_; dsimp only)); refine box_event ?hg (N := 6) ?hd (cs := #[.int .i64 0, .int .i64 0]) (t := 35) ?hr ?_; (case hd => rfl); (case hg => rfl); (case hr => first | (go_simp; done) | (go_simp; rfl)); intro gb285 hg w69 hbox hb; have n0_ := Aside0.mk (Kd.V_below (Kd.V_elderB (by (with_reducible repeat (first | apply Kd.V_alloc | apply Kd.V_drewN | apply Kd.V_drew)); exact HO0.out) gb285 (Nat.le_of_eq hg.symm)) hb); have n1_ := Aside0.mk (Kd.V_below (Kd.V_elderB (by (with_reducible repeat (first | apply Kd.V_alloc | apply Kd.V_drewN | apply Kd.V_drew)); exact HO1.out) gb285 (Nat.le_of_eq hg.symm)) hb); have n2_ := Aside0.mk (below_step (by repeat (first | (with_reducible first | exact HB.out | apply below_alloc | apply pw_below_drewN | apply below_drew1) | exact HB.out)) hb); have n3_ := Aside0.mk (hbox); have n4_ := Aside0.mk ((by rw [hg]; exact (below_size (by repeat (first | (with_reducible first | exact HB.out | apply below_alloc | apply pw_below_drewN | apply below_drew1) | exact HB.out))) : w.heap.size ≤ gb285)); have n5_ := Aside0.mk ((by rw [hg]; exact (below_size (by repeat (first | (with_reducible first | exact HB.out | apply below_alloc | apply pw_below_drewN | apply below_drew1) | exact HB.out))) : w.heap.size ≤ gb285)); clear HO0; clear HO1; clear HB; have HO0 := n0_; have HO1 := n1_; have HB := n2_; have BK285 := n3_; have GW285 := n4_; have GE285 := n5_; clear n0_ n1_ n2_ n3_ n4_ n5_; clear hb hbox hg) | ((with_reducible refine gate_callee (f := 37) rfl ?_); refine goesL_ (some 23) rfl rfl Try.func37 (by kernel_rfl) rfl #[.int .i64 a2] rfl (by (try simp only [List.map_toArray, List.map_cons, List.map_nil]); first | done | rfl | (simp only [List.length_drop, List.length_take]; rfl)) ?_; (with_reducible refine (near_sizeError.calls a2 t286 _ A4.out).mono ?_); rintro e w' ⟨rfl, ⟨nd, rfl⟩⟩; refine ⟨_, rfl, ?_⟩; (try (rw [drewN_self w69]; generalize hq_ : World.drewN w69 _ = w69; have n0_ : Aside0 (Kd.V (Kd.int .i64) 3 w69 w.heap.size (fun k_ => ((P0_ k_ ∨ P1_ k_) ∨ w.heap.size ≤ k_) ∧ k_ ≠ gb285) (.slice A0 l0.length c0) l0) := ⟨by rw [← hq_]; exact (by (with_reducible repeat (first | apply Kd.V_alloc | apply Kd.V_drewN | apply Kd.V_drew)); exact HO0.out)⟩; have n1_ : Aside0 (Kd.V (Kd.int .i64) 3 w69 w.heap.size (fun k_ => ((P0_ k_ ∨ P1_ k_) ∨ w.heap.size ≤ k_) ∧ k_ ≠ gb285) (.slice A1 l1.length c1) l1) := ⟨by rw [← hq_]; exact (by (with_reducible repeat (first | apply Kd.V_alloc | apply Kd.V_drewN | apply Kd.V_drew)); exact HO1.out)⟩; have n2_ : Aside0 (w69.heap[gb285]? = some (.cells #[.int .i64 0, .int .i64 0] 35 (0, 0))) := ⟨by rw [← hq_]; exact (by (with_reducible repeat (first | refine blk_drewN ?_ _ | refine blk_drew ?_ | refine blk_alloc ?_ _)); exact BK285.out)⟩; have n3_ : Aside0 (Below w.heap.size w w69) := ⟨by rw [← hq_]; exact (by repeat (first | (with_reducible first | exact HB.out | apply below_alloc | apply pw_below_drewN | apply below_drew1 | refine below_set ?_ GE285.out) | exact HB.out))⟩; clear HO0 HO1 BK285 HB hq_; have HO0 := n0_; have HO1 := n1_; have BK285 := n2_; have HB := n3_; clear n0_ n1_ n2_ n3_)); have hcz70_0 : w69.cell? ⟨gb285, 0, none⟩ = some (.int .i64 0) := (blk_cell BK285.out 0).trans rfl; have hcz70_1 : w69.cell? ⟨gb285, 1, none⟩ = some (.int .i64 0) := (blk_cell BK285.out 1).trans rfl; have hfz70_0 := blk_frozen BK285.out 0; have hfz70_1 := blk_frozen BK285.out 1))
    refine bodyPost_ret (results_ct rfl _ _ gb285 35 #[.int .i64 0, .int .i64 0] (0, 0) _ rfl (by (with_reducible repeat (first | refine blk_drewN ?_ _ | refine blk_drew ?_ | refine blk_alloc ?_ _)); refine blk_put (cs := #[.int .i64 0, .int .i64 0]) ?_ 1 _ rfl; (with_reducible repeat (first | refine blk_drewN ?_ _ | refine blk_drew ?_ | refine blk_alloc ?_ _)); refine blk_put (cs := #[.int .i64 0, .int .i64 0]) ?_ 0 _ rfl; (with_reducible repeat (first | refine blk_drewN ?_ _ | refine blk_drew ?_ | refine blk_alloc ?_ _)); exact BK285.out) Try.underlying35 rfl (by kernel_rfl)) rfl ?_
    exact ⟨by first | rfl | (simp [errW_none, errW_some] <;> rfl) | (simp [*, errW_none, errW_some] <;> rfl), by repeat (first | (with_reducible first | exact HB.out | apply below_alloc | apply pw_below_drewN | apply below_drew1 | refine below_set ?_ GE285.out) | exact HB.out)⟩

/-! ### slices_Index_int_int: function 73 -/
def slices_Index_int_int.l0 : Nat → List Int → Int → Int → Int → Option (Int)
  | 0, _, _, _, _ => none
  | k + 1, x0, x1, x7, x8 => if x8 < x7 then (if 0 ≤ x8 then (if x8 < (x0.length : Int) then (if x1 = (rd x0 x8) then (some x8) else (slices_Index_int_int.l0 k x0 x1 x7 (wrap64 (x8 + 1)))) else (none)) else (none)) else (some (-1))
def slices_Index_int_int.f (k : Nat) (l0 : List Int) (a1 : Int) : Option (Int) := slices_Index_int_int.l0 k l0 a1 (l0.length : Int) 0
theorem slices_Index_int_int.mono_l : ∀ k, (∀ y0 y1 y2 y3, LeO (slices_Index_int_int.l0 k y0 y1 y2 y3) (slices_Index_int_int.l0 (k + 1) y0 y1 y2 y3))
  | 0 => fun _ _ _ _ r h => by simp [slices_Index_int_int.l0] at h
  | k + 1 => by
    have ih0 := slices_Index_int_int.mono_l k
    · intro y0 y1 y2 y3
      unfold slices_Index_int_int.l0
      repeat' first
      | (with_reducible exact ih0 _ _ _ _)
      | (with_reducible exact LeO.refl _)
      | (with_reducible exact LeO.none _)
      | (with_reducible refine LeO.ite ?_ ?_)
      | (with_reducible refine LeO.bind ?_ (fun _ => ?_))
      | exact ih0 _ _ _ _
      | exact LeO.none _
      | refine LeO.ite ?_ ?_
      | refine LeO.bind ?_ (fun _ => ?_)
theorem slices_Index_int_int.mono : ∀ a0 a1 k, LeO (slices_Index_int_int.f k a0 a1) (slices_Index_int_int.f (k + 1) a0 a1) := by
  intro a0 a1 k
  have ih0 := slices_Index_int_int.mono_l k
  unfold slices_Index_int_int.f
  repeat' first
      | (with_reducible exact ih0 _ _ _ _)
      | (with_reducible exact LeO.refl _)
      | (with_reducible exact LeO.none _)
      | (with_reducible refine LeO.ite ?_ ?_)
      | (with_reducible refine LeO.bind ?_ (fun _ => ?_))
      | exact ih0 _ _ _ _
      | exact LeO.none _
      | refine LeO.ite ?_ ?_
      | refine LeO.bind ?_ (fun _ => ?_)
set_option maxHeartbeats 8000000 in
set_option maxRecDepth 100000 in
theorem slices_Index_int_int.calls (k : Nat) (A0 : Option Addr) (c0 : Nat) (l0 : List Int) (a1 : Int) (r : Int) (w : World) (hr0 : Kd.C (Kd.int .i64) w A0 l0.length l0) (hc0 : l0.length ≤ c0) (h : slices_Index_int_int.f k l0 a1 = some r) :
    Calls Try.prog 73 #[.slice A0 l0.length c0, .int .i64 a1] w fun e w' => e = .returned (.int .i64 r) ∧ Drawn0 w w' := by
  have HR0 := Aside0.mk hr0
  have HC0 := Aside0.mk hc0
  clear hr0 hc0
  have H : (slices_Index_int_int.l0 k l0 a1 (l0.length : Int) 0) = some r := h
  clear h
  have H' := Aside0.mk H
  clear H
  go_enter Try.func73, Try.ntmps73
  go_wp2
  go_loopg [8] k (fun kq v8 w' => ∃ (x8_1 : Int), v8 = .int .i64 x8_1 ∧ Aside0 (slices_Index_int_int.l0 kq l0 a1 (l0.length : Int) x8_1 = some r) ∧ Aside0 (kq ≤ k) ∧ Drawn0 w w')
  case atStart => exact ⟨(0), (by first | rfl | (simp; done) | (simp [*]; done)), H', ⟨Nat.le_refl _⟩, by repeat (first | exact Drawn0.refl _ | apply Drawn0.step)⟩
  case round =>
    clear H'
    try clear p2
    obtain ⟨x8_1, rfl, HA, HK1, ⟨m1, rfl⟩⟩ := hrel
    cases gk with
    | zero => exact absurd HA.out (by simp [slices_Index_int_int.l0])
    | succ k1 =>
      have H := HA.out
      clear HA
      simp only [slices_Index_int_int.l0] at H
      by_cases c3 : x8_1 < (l0.length : Int)
      · rw [if_pos c3] at H
        have c3b0 : decide (x8_1 < (l0.length : Int)) = true := decide_eq_true c3
        clear c3
        by_cases c4 : 0 ≤ x8_1
        · rw [if_pos c4] at H
          have c4b0 : decide (0 ≤ x8_1) = true := decide_eq_true c4
          clear c4
          by_cases c5 : x8_1 < (l0.length : Int)
          · rw [if_pos c5] at H
            have c5b0 : decide (x8_1 < (l0.length : Int)) = true := decide_eq_true c5
            clear c5
            by_cases c6 : a1 = (rd l0 x8_1)
            · rw [if_pos c6] at H
              have c6b0 : (a1 == (rd l0 x8_1)) = true := beq_iff_eq.mpr c6
              have c6b1 : (a1 != (rd l0 x8_1)) = false := bne_eq_false_iff_eq.mpr c6
              clear c6
              obtain rfl := Option.some.inj H
              have p324 : 0 ≤ (x8_1 : Int) := of_decide_eq_true (by first | (with_reducible assumption) | assumption)
              have q324 : x8_1 < (l0.length : Int) := of_decide_eq_true (by first | (with_reducible assumption) | assumption)
              obtain ⟨ad324, e324, hx324_0⟩ := Kd.at_int HR0.out x8_1 p324 q324
              cases e324
              replace p324 := eq_true p324
              replace q324 := eq_true q324
              go_wp2
              go_ret
              exact ⟨by first | rfl | (simp; done) | (simp [*]; done), by repeat (first | exact Drawn0.refl _ | apply Drawn0.step)⟩
            · rw [if_neg c6] at H
              have c6b0 : (a1 == (rd l0 x8_1)) = false := beq_eq_false_iff_ne.mpr c6
              have c6b1 : (a1 != (rd l0 x8_1)) = true := bne_iff_ne.mpr c6
              have H' := Aside0.mk H
              clear H
              have p324 : 0 ≤ (x8_1 : Int) := of_decide_eq_true (by first | (with_reducible assumption) | assumption)
              have q324 : x8_1 < (l0.length : Int) := of_decide_eq_true (by first | (with_reducible assumption) | assumption)
              obtain ⟨ad324, e324, hx324_0⟩ := Kd.at_int HR0.out x8_1 p324 q324
              cases e324
              replace p324 := eq_true p324
              replace q324 := eq_true q324
              go_wp2
              go_roundg k1
              case measure => have := HK1.out; omega
              case rel => exact ⟨(wrap64 (x8_1 + 1)), (by first | rfl | (simp; done) | (simp [*]; done)), H', ⟨by have := HK1.out; omega⟩, by repeat (first | exact Drawn0.refl _ | apply Drawn0.step)⟩
          · rw [if_neg c5] at H
            exact absurd H (by simp)
        · rw [if_neg c4] at H
          exact absurd H (by simp)
      · rw [if_neg c3] at H
        have c3b0 : decide (x8_1 < (l0.length : Int)) = false := decide_eq_false c3
        clear c3
        obtain rfl := Option.some.inj H
        go_wp2
        go_ret
        exact ⟨by first | rfl | (simp; done) | (simp [*]; done), by repeat (first | exact Drawn0.refl _ | apply Drawn0.step)⟩

/-! ### slices_Contains_int_int: function 47 -/
def slices_Contains_int_int.f (k : Nat) (l0 : List Int) (a1 : Int) : Option (Bool) := (slices_Index_int_int.f k l0 a1).bind fun t325 => (some (decide (t325 ≥ 0)))
theorem slices_Contains_int_int.mono : ∀ a0 a1 k, LeO (slices_Contains_int_int.f k a0 a1) (slices_Contains_int_int.f (k + 1) a0 a1) := by
  intro a0 a1 k
  unfold slices_Contains_int_int.f
  repeat' first
      | (with_reducible exact slices_Index_int_int.mono _ _ _)
      | (with_reducible exact LeO.refl _)
      | (with_reducible exact LeO.none _)
      | (with_reducible refine LeO.ite ?_ ?_)
      | (with_reducible refine LeO.bind ?_ (fun _ => ?_))
      | exact slices_Index_int_int.mono _ _ _
      | exact LeO.none _
      | refine LeO.ite ?_ ?_
      | refine LeO.bind ?_ (fun _ => ?_)
set_option maxHeartbeats 8000000 in
set_option maxRecDepth 100000 in
theorem slices_Contains_int_int.calls (k : Nat) (A0 : Option Addr) (c0 : Nat) (l0 : List Int) (a1 : Int) (r : Bool) (w : World) (hr0 : Kd.C (Kd.int .i64) w A0 l0.length l0) (hc0 : l0.length ≤ c0) (h : slices_Contains_int_int.f k l0 a1 = some r) :
    Calls Try.prog 47 #[.slice A0 l0.length c0, .int .i64 a1] w fun e w' => e = .returned (.bool r) ∧ Drawn0 w w' := by
  have HR0 := Aside0.mk hr0
  have HC0 := Aside0.mk hc0
  clear hr0 hc0
  have H : ((slices_Index_int_int.f k l0 a1).bind fun t325 => (some (decide (t325 ≥ 0)))) = some r := h
  clear h
  replace H := Option.bind_eq_some_iff.mp H
  obtain ⟨t325, A30, H⟩ := H
  replace H : (some (decide (t325 ≥ 0))) = some r := H
  have A3 := Aside0.mk A30
  clear A30
  obtain rfl := Option.some.inj H
  go_enter Try.func47, Try.ntmps47
  go_wp2_with (first | ((with_reducible refine gate_callee (f := 73) rfl ?_); refine goesL_ (some 7) rfl rfl Try.func73 (by kernel_rfl) rfl #[.slice A0 l0.length c0, .int .i64 a1] rfl (by (try simp only [List.map_toArray, List.map_cons, List.map_nil]); first | done | rfl | (simp only [List.length_drop, List.length_take]; rfl)) ?_; (with_reducible refine (slices_Index_int_int.calls k _ _ l0 a1 t325 _ ?side1 ?side2 A3.out).mono ?_); (case side1 => repeat (first | exact HR0.out | (with_reducible refine Kd.C_alloc ?_ _) | (with_reducible refine Kd.C_drewN ?_ _) | (with_reducible refine Kd.C_drew ?_))); (case side2 => exact HC0.out); rintro e w' ⟨rfl, ⟨nd, rfl⟩⟩; refine ⟨_, rfl, ?_⟩))
  go_ret
  exact ⟨by first | rfl | (simp; done) | (simp [*]; done), by repeat (first | exact Drawn0.refl _ | apply Drawn0.step)⟩

end Go.Proofs.Ytbamfhcifpfocaa.Ps
