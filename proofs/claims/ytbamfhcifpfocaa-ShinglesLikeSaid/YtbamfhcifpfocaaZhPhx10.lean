/- Part of the proof that the law shinglesLike is true for every input. No conditions. Laid by a program of this session over the kit's print and words; declarations that nothing names are left out. -/
import Derived.Test.YtbamfhcifpfocaaZhPhx0
import Derived.Test.YtbamfhcifpfocaaZhPhx1
import Derived.Test.YtbamfhcifpfocaaZhPhx2
import Derived.Test.YtbamfhcifpfocaaZhPhx3
import Derived.Test.YtbamfhcifpfocaaZhPhx4
import Derived.Test.YtbamfhcifpfocaaZhPhx5
import Derived.Test.YtbamfhcifpfocaaZhPhx6
import Derived.Test.YtbamfhcifpfocaaZhPhx7
import Derived.Test.YtbamfhcifpfocaaZhPhx8
import Derived.Test.YtbamfhcifpfocaaZhPhx9
namespace Go.Proofs.Ytbamfhcifpfocaa.Ph
open Go.RowKit Go.Proofs.Ytbamfhcifpfocaa.GBase Go.Proofs.YtbamfhcifpfocaaW.PrintWords Go.Proofs.YtbamfhcifpfocaaW.PrintLast Go.Proofs.YtbamfhcifpfocaaW.PrintMore
attribute [local go_sem] max2_int min2_int max_two min_two max_three min_three max_four min_four
set_option linter.unusedVariables false
set_option linter.unusedSimpArgs false
attribute [local go_sem high] eqA35
def chaseref1_CompareOf.f (a0_0 : Int) (a0_1 : Int) (a1_0 : Int) (a1_1 : Int) : Option (Int) := (cmp_Compare_int.f (wrap64 (a0_0 * a1_1)) (wrap64 (a1_0 * a0_1))).bind fun t333 => (some t333)
set_option maxHeartbeats 8000000 in
set_option maxRecDepth 100000 in
theorem chaseref1_CompareOf.calls (a0_0 : Int) (a0_1 : Int) (a1_0 : Int) (a1_1 : Int) (r : Int) (w : World) (h : chaseref1_CompareOf.f a0_0 a0_1 a1_0 a1_1 = some r) :
    Calls Try.prog 29 #[.agg #[.int .i64 a0_0, .int .i64 a0_1], .agg #[.int .i64 a1_0, .int .i64 a1_1]] w fun e w' => e = .returned (.int .i64 r) ∧ Below w.heap.size w w' := by
  have hu35 := Try.underlying35
  have HB := Aside0.mk (Below.refl w.heap.size w)
  have H : ((cmp_Compare_int.f (wrap64 (a0_0 * a1_1)) (wrap64 (a1_0 * a0_1))).bind fun t333 => (some t333)) = some r := h
  clear h
  replace H := Option.bind_eq_some_iff.mp H
  obtain ⟨t333, A30, H⟩ := H
  replace H : (some t333) = some r := H
  have A3 := Aside0.mk A30
  clear A30
  obtain rfl := Option.some.inj H
  go_enter Try.func29, Try.ntmps29
  go_wp2_with (first | ((with_reducible refine gate_dst (N := 2) rfl ?_); refine box_event ?hg (N := 2) ?hd (cs := #[.int .i64 a0_0, .int .i64 a0_1]) (t := 35) ?hr ?_; (case hd => rfl); (case hg => rfl); (case hr => first | (go_simp; done) | (go_simp; rfl)); intro gb331 hg w4 hbox hb; have n0_ := Aside0.mk (below_step (by repeat (first | (with_reducible first | exact HB.out | apply below_alloc | apply pw_below_drewN | apply below_drew1) | exact HB.out)) hb); have n1_ := Aside0.mk (hbox); have n2_ := Aside0.mk ((by rw [hg]; exact (below_size (by repeat (first | (with_reducible first | exact HB.out | apply below_alloc | apply pw_below_drewN | apply below_drew1) | exact HB.out))) : w.heap.size ≤ gb331)); have n3_ := Aside0.mk ((by rw [hg]; exact (below_size (by repeat (first | (with_reducible first | exact HB.out | apply below_alloc | apply pw_below_drewN | apply below_drew1) | exact HB.out))) : w.heap.size ≤ gb331)); clear HB; have HB := n0_; have BK331 := n1_; have GW331 := n2_; have GE331 := n3_; clear n0_ n1_ n2_ n3_; clear hb hbox hg) | ((with_reducible refine gate_dst (N := 3) rfl ?_); refine box_event ?hg (N := 3) ?hd (cs := #[.int .i64 a1_0, .int .i64 a1_1]) (t := 35) ?hr ?_; (case hd => rfl); (case hg => rfl); (case hr => first | (go_simp; done) | (go_simp; rfl)); intro gb332 hg w5 hbox hb; have n0_ := Aside0.mk (blk_below (g := gb331) (o := .cells #[.int .i64 a0_0, .int .i64 a0_1] 35 (0, 0)) (by (with_reducible repeat (first | refine blk_drewN ?_ _ | refine blk_drew ?_ | refine blk_alloc ?_ _)); exact BK331.out) hb); have n1_ := Aside0.mk (below_step (by repeat (first | (with_reducible first | exact HB.out | apply below_alloc | apply pw_below_drewN | apply below_drew1 | refine below_set ?_ GE331.out) | exact HB.out)) hb); have n2_ := Aside0.mk (hbox); have n3_ := Aside0.mk ((by rw [hg]; exact (below_size (by repeat (first | (with_reducible first | exact HB.out | apply below_alloc | apply pw_below_drewN | apply below_drew1 | refine below_set ?_ GE331.out) | exact HB.out))) : w.heap.size ≤ gb332)); have n4_ := Aside0.mk ((by rw [hg]; exact (below_size (by repeat (first | (with_reducible first | exact HB.out | apply below_alloc | apply pw_below_drewN | apply below_drew1 | refine below_set ?_ GE331.out) | exact HB.out))) : w.heap.size ≤ gb332)); have n5_ := Aside0.mk ((by rw [hg]; exact Nat.ne_of_lt (blk_lt (g := gb331) (o := .cells #[.int .i64 a0_0, .int .i64 a0_1] 35 (0, 0)) (by (with_reducible repeat (first | refine blk_drewN ?_ _ | refine blk_drew ?_ | refine blk_alloc ?_ _)); exact BK331.out)) : gb331 ≠ gb332)); have n6_ := Aside0.mk ((by rw [hg]; exact Nat.ne_of_gt (blk_lt (g := gb331) (o := .cells #[.int .i64 a0_0, .int .i64 a0_1] 35 (0, 0)) (by (with_reducible repeat (first | refine blk_drewN ?_ _ | refine blk_drew ?_ | refine blk_alloc ?_ _)); exact BK331.out)) : gb332 ≠ gb331)); clear BK331; clear HB; have BK331 := n0_; have HB := n1_; have BK332 := n2_; have GW332 := n3_; have GE332 := n4_; have NB331_332 := n5_; have NB332_331 := n6_; clear n0_ n1_ n2_ n3_ n4_ n5_ n6_; clear hb hbox hg; have hnb6 := NB331_332.out; have hnc6 := NB332_331.out; have hcz7_0 : w5.cell? ⟨gb331, 0, none⟩ = some (.int .i64 a0_0) := (blk_cell BK331.out 0).trans rfl; have hcz7_1 : w5.cell? ⟨gb331, 1, none⟩ = some (.int .i64 a0_1) := (blk_cell BK331.out 1).trans rfl; have hfz7_0 := blk_frozen BK331.out 0; have hfz7_1 := blk_frozen BK331.out 1; have hcz8_0 : w5.cell? ⟨gb332, 0, none⟩ = some (.int .i64 a1_0) := (blk_cell BK332.out 0).trans rfl; have hcz8_1 : w5.cell? ⟨gb332, 1, none⟩ = some (.int .i64 a1_1) := (blk_cell BK332.out 1).trans rfl; have hfz8_0 := blk_frozen BK332.out 0; have hfz8_1 := blk_frozen BK332.out 1) | ((with_reducible refine gate_callee (f := 59) rfl ?_); refine goesL_ (some 15) rfl rfl Try.func59 (by kernel_rfl) rfl #[.int .i64 (wrap64 (a0_0 * a1_1)), .int .i64 (wrap64 (a1_0 * a0_1))] rfl (by (try simp only [List.map_toArray, List.map_cons, List.map_nil]); first | done | rfl | (simp only [List.length_drop, List.length_take]; rfl)) ?_; (with_reducible refine (cmp_Compare_int.calls (wrap64 (a0_0 * a1_1)) (wrap64 (a1_0 * a0_1)) t333 _ A3.out).mono ?_); rintro e w' ⟨rfl, ⟨nd, rfl⟩⟩; refine ⟨_, rfl, ?_⟩))
  go_ret
  exact ⟨by first | rfl | (simp [errW_none, errW_some] <;> rfl) | (simp [*, errW_none, errW_some] <;> rfl), by repeat (first | (with_reducible first | exact HB.out | apply below_alloc | apply pw_below_drewN | apply below_drew1 | refine below_set ?_ GE331.out | refine below_set ?_ GE332.out) | exact HB.out)⟩
mutual
def chaselaw1_ShinglesLike.j1 : Nat → Bool → List Int → Int → Option (Bool)
  | 0, _, _, _ => none
  | k + 1, x102, x335000, x335001 => if x102 = true then (some false) else ((chasemake_Stream_Next.f x335000 x335001 9).bind fun bt363 => ((chasemake_Stream_Range.f x335000 bt363.2 0 8).bind fun bt365 => ((chasemake_Stream_Pick.f x335000 bt365.2 (([0, 1, 1000000, 1000001, (-1)] : List Int))).bind fun bt370 => ((chasemake_Stream_Pick.f x335000 bt370.2 (([1, 7, 999999, 1000000, 1000001] : List Int))).bind fun bt375 => ((near_Compare.f k bt363.1 bt365.1 bt370.1 bt375.1).bind fun bt379 => ((chaseref1_FractionRight.f k bt363.1 bt365.1).bind fun t381 => (if t381 = true then ((chaseref1_FractionRight.f k bt370.1 bt375.1).bind fun t382 => (chaselaw1_ShinglesLike.j2 k bt379.1 bt379.2 (!t382) bt363.1 bt365.1 bt370.1 bt375.1)) else (chaselaw1_ShinglesLike.j2 k bt379.1 bt379.2 true bt363.1 bt365.1 bt370.1 bt375.1))))))))
def chaselaw1_ShinglesLike.j2 : Nat → Int → Int → Bool → Int → Int → Int → Int → Option (Bool)
  | 0, _, _, _, _, _, _, _ => none
  | k + 1, x16, x17, x128, x378000, x378001, x379000, x379001 => if x128 = true then ((chaselaw1_nears.f k).bind fun t383 => (if t383 = true then (chaselaw1_ShinglesLike.j3 k (x17 == 3)) else (chaselaw1_ShinglesLike.j3 k false))) else ((chaselaw1_nears.f k).bind fun t384 => (if t384 = true then (if x17 = 0 then ((chaseref1_CompareOf.f x378000 x378001 x379000 x379001).bind fun t385 => (chaselaw1_ShinglesLike.j4 k (x16 == t385))) else (chaselaw1_ShinglesLike.j4 k false)) else (chaselaw1_ShinglesLike.j4 k false)))
def chaselaw1_ShinglesLike.j3 : Nat → Bool → Option (Bool)
  | 0, _ => none
  | k + 1, x2 => some x2
def chaselaw1_ShinglesLike.j4 : Nat → Bool → Option (Bool)
  | 0, _ => none
  | k + 1, x2 => some x2
def chaselaw1_ShinglesLike.j0 : Nat → Bool → Option (Bool)
  | 0, _ => none
  | k + 1, x2 => some x2
end
def chaselaw1_ShinglesLike.f (k : Nat) (l0 : List Int) : Option (Bool) := (chasemake_Stream_Prose.f k l0 0 12).bind fun bt335 => ((chasemake_Stream_Size.f l0 bt335.2).bind fun bt337 => ((chasemake_Stream_Changed.f k l0 bt337.2 bt335.1 (⟨#[97, 98, 32, 120]⟩ : ByteArray)).bind fun bt339 => ((near_Shingles.f k bt335.1 bt337.1).bind fun bt341 => ((near_Resemblance.f k bt335.1 bt339.1 bt337.1).bind fun bt345 => ((near_Containment.f k bt335.1 bt339.1 bt337.1).bind fun bt349 => ((chaseref1_ShinglesFault.f bt335.1 bt337.1).bind fun t353 => (if t353 = 0 then (if bt341.2 = 0 then (if bt345.2.2 = 0 then (if bt349.2.2 = 0 then ((chaseref1_ShinglesOf.f k bt335.1 bt337.1).bind fun t355 => ((slices_Equal_string_string.f k bt341.1 t355).bind fun t358 => (if t358 = true then ((chaseref1_LikeOf.f k bt335.1 bt339.1 bt337.1).bind fun bt359 => (if (!(bt345.1 == bt359.1) || (!(bt345.2.1 == bt359.2))) = true then (chaselaw1_ShinglesLike.j1 k true l0 bt339.2) else ((chaseref1_ContainmentOf.f k bt335.1 bt339.1 bt337.1).bind fun bt361 => (chaselaw1_ShinglesLike.j1 k (!(bt349.1 == bt361.1) || (!(bt349.2.1 == bt361.2))) l0 bt339.2)))) else (chaselaw1_ShinglesLike.j1 k true l0 bt339.2)))) else (chaselaw1_ShinglesLike.j1 k true l0 bt339.2)) else (chaselaw1_ShinglesLike.j1 k true l0 bt339.2)) else (chaselaw1_ShinglesLike.j1 k true l0 bt339.2)) else ((chaselaw1_nears.f k).bind fun t354 => (if t354 = true then (if bt341.2 = t353 then (if bt345.2.2 = t353 then (chaselaw1_ShinglesLike.j0 k (bt349.2.2 == t353)) else (chaselaw1_ShinglesLike.j0 k false)) else (chaselaw1_ShinglesLike.j0 k false)) else (chaselaw1_ShinglesLike.j0 k false))))))))))
theorem chaselaw1_ShinglesLike.mono_l : ∀ k, (∀ y0 y1 y2, LeO (chaselaw1_ShinglesLike.j1 k y0 y1 y2) (chaselaw1_ShinglesLike.j1 (k + 1) y0 y1 y2)) ∧ (∀ y0 y1 y2 y3 y4 y5 y6, LeO (chaselaw1_ShinglesLike.j2 k y0 y1 y2 y3 y4 y5 y6) (chaselaw1_ShinglesLike.j2 (k + 1) y0 y1 y2 y3 y4 y5 y6)) ∧ (∀ y0, LeO (chaselaw1_ShinglesLike.j3 k y0) (chaselaw1_ShinglesLike.j3 (k + 1) y0)) ∧ (∀ y0, LeO (chaselaw1_ShinglesLike.j4 k y0) (chaselaw1_ShinglesLike.j4 (k + 1) y0)) ∧ (∀ y0, LeO (chaselaw1_ShinglesLike.j0 k y0) (chaselaw1_ShinglesLike.j0 (k + 1) y0))
  | 0 => ⟨fun _ _ _ r h => by simp [chaselaw1_ShinglesLike.j1] at h, fun _ _ _ _ _ _ _ r h => by simp [chaselaw1_ShinglesLike.j2] at h, fun _ r h => by simp [chaselaw1_ShinglesLike.j3] at h, fun _ r h => by simp [chaselaw1_ShinglesLike.j4] at h, fun _ r h => by simp [chaselaw1_ShinglesLike.j0] at h⟩
  | k + 1 => by
    obtain ⟨ih0, ih1, ih2, ih3, ih4⟩ := chaselaw1_ShinglesLike.mono_l k
    refine ⟨?_, ?_, ?_, ?_, ?_⟩
    · intro y0 y1 y2
      unfold chaselaw1_ShinglesLike.j1
      repeat' first
      | (with_reducible exact ih0 _ _ _)
      | (with_reducible exact ih1 _ _ _ _ _ _ _)
      | (with_reducible exact ih2 _)
      | (with_reducible exact ih3 _)
      | (with_reducible exact ih4 _)
      | (with_reducible exact chaselaw1_nears.mono _)
      | (with_reducible exact chasemake_Stream_Changed.mono _ _ _ _ _)
      | (with_reducible exact chasemake_Stream_Prose.mono _ _ _ _)
      | (with_reducible exact chaseref1_ContainmentOf.mono _ _ _ _)
      | (with_reducible exact chaseref1_FractionRight.mono _ _ _)
      | (with_reducible exact chaseref1_LikeOf.mono _ _ _ _)
      | (with_reducible exact chaseref1_ShinglesOf.mono _ _ _)
      | (with_reducible exact near_Compare.mono _ _ _ _ _)
      | (with_reducible exact near_Containment.mono _ _ _ _)
      | (with_reducible exact near_Resemblance.mono _ _ _ _)
      | (with_reducible exact near_Shingles.mono _ _ _)
      | (with_reducible exact slices_Equal_string_string.mono _ _ _)
      | (with_reducible exact LeO.refl _)
      | (with_reducible exact LeO.none _)
      | (with_reducible refine LeO.ite ?_ ?_)
      | (with_reducible refine LeO.bind ?_ (fun _ => ?_))
      | exact ih0 _ _ _
      | exact ih1 _ _ _ _ _ _ _
      | exact ih2 _
      | exact ih3 _
      | exact ih4 _
      | exact chaselaw1_nears.mono _
      | exact chasemake_Stream_Changed.mono _ _ _ _ _
      | exact chasemake_Stream_Prose.mono _ _ _ _
      | exact chaseref1_ContainmentOf.mono _ _ _ _
      | exact chaseref1_FractionRight.mono _ _ _
      | exact chaseref1_LikeOf.mono _ _ _ _
      | exact chaseref1_ShinglesOf.mono _ _ _
      | exact near_Compare.mono _ _ _ _ _
      | exact near_Containment.mono _ _ _ _
      | exact near_Resemblance.mono _ _ _ _
      | exact near_Shingles.mono _ _ _
      | exact slices_Equal_string_string.mono _ _ _
      | exact LeO.none _
      | refine LeO.ite ?_ ?_
      | refine LeO.bind ?_ (fun _ => ?_)
    · intro y0 y1 y2 y3 y4 y5 y6
      unfold chaselaw1_ShinglesLike.j2
      repeat' first
      | (with_reducible exact ih0 _ _ _)
      | (with_reducible exact ih1 _ _ _ _ _ _ _)
      | (with_reducible exact ih2 _)
      | (with_reducible exact ih3 _)
      | (with_reducible exact ih4 _)
      | (with_reducible exact chaselaw1_nears.mono _)
      | (with_reducible exact chasemake_Stream_Changed.mono _ _ _ _ _)
      | (with_reducible exact chasemake_Stream_Prose.mono _ _ _ _)
      | (with_reducible exact chaseref1_ContainmentOf.mono _ _ _ _)
      | (with_reducible exact chaseref1_FractionRight.mono _ _ _)
      | (with_reducible exact chaseref1_LikeOf.mono _ _ _ _)
      | (with_reducible exact chaseref1_ShinglesOf.mono _ _ _)
      | (with_reducible exact near_Compare.mono _ _ _ _ _)
      | (with_reducible exact near_Containment.mono _ _ _ _)
      | (with_reducible exact near_Resemblance.mono _ _ _ _)
      | (with_reducible exact near_Shingles.mono _ _ _)
      | (with_reducible exact slices_Equal_string_string.mono _ _ _)
      | (with_reducible exact LeO.refl _)
      | (with_reducible exact LeO.none _)
      | (with_reducible refine LeO.ite ?_ ?_)
      | (with_reducible refine LeO.bind ?_ (fun _ => ?_))
      | exact ih0 _ _ _
      | exact ih1 _ _ _ _ _ _ _
      | exact ih2 _
      | exact ih3 _
      | exact ih4 _
      | exact chaselaw1_nears.mono _
      | exact chasemake_Stream_Changed.mono _ _ _ _ _
      | exact chasemake_Stream_Prose.mono _ _ _ _
      | exact chaseref1_ContainmentOf.mono _ _ _ _
      | exact chaseref1_FractionRight.mono _ _ _
      | exact chaseref1_LikeOf.mono _ _ _ _
      | exact chaseref1_ShinglesOf.mono _ _ _
      | exact near_Compare.mono _ _ _ _ _
      | exact near_Containment.mono _ _ _ _
      | exact near_Resemblance.mono _ _ _ _
      | exact near_Shingles.mono _ _ _
      | exact slices_Equal_string_string.mono _ _ _
      | exact LeO.none _
      | refine LeO.ite ?_ ?_
      | refine LeO.bind ?_ (fun _ => ?_)
    · intro y0
      unfold chaselaw1_ShinglesLike.j3
      repeat' first
      | (with_reducible exact ih0 _ _ _)
      | (with_reducible exact ih1 _ _ _ _ _ _ _)
      | (with_reducible exact ih2 _)
      | (with_reducible exact ih3 _)
      | (with_reducible exact ih4 _)
      | (with_reducible exact chaselaw1_nears.mono _)
      | (with_reducible exact chasemake_Stream_Changed.mono _ _ _ _ _)
      | (with_reducible exact chasemake_Stream_Prose.mono _ _ _ _)
      | (with_reducible exact chaseref1_ContainmentOf.mono _ _ _ _)
      | (with_reducible exact chaseref1_FractionRight.mono _ _ _)
      | (with_reducible exact chaseref1_LikeOf.mono _ _ _ _)
      | (with_reducible exact chaseref1_ShinglesOf.mono _ _ _)
      | (with_reducible exact near_Compare.mono _ _ _ _ _)
      | (with_reducible exact near_Containment.mono _ _ _ _)
      | (with_reducible exact near_Resemblance.mono _ _ _ _)
      | (with_reducible exact near_Shingles.mono _ _ _)
      | (with_reducible exact slices_Equal_string_string.mono _ _ _)
      | (with_reducible exact LeO.refl _)
      | (with_reducible exact LeO.none _)
      | (with_reducible refine LeO.ite ?_ ?_)
      | (with_reducible refine LeO.bind ?_ (fun _ => ?_))
      | exact ih0 _ _ _
      | exact ih1 _ _ _ _ _ _ _
      | exact ih2 _
      | exact ih3 _
      | exact ih4 _
      | exact chaselaw1_nears.mono _
      | exact chasemake_Stream_Changed.mono _ _ _ _ _
      | exact chasemake_Stream_Prose.mono _ _ _ _
      | exact chaseref1_ContainmentOf.mono _ _ _ _
      | exact chaseref1_FractionRight.mono _ _ _
      | exact chaseref1_LikeOf.mono _ _ _ _
      | exact chaseref1_ShinglesOf.mono _ _ _
      | exact near_Compare.mono _ _ _ _ _
      | exact near_Containment.mono _ _ _ _
      | exact near_Resemblance.mono _ _ _ _
      | exact near_Shingles.mono _ _ _
      | exact slices_Equal_string_string.mono _ _ _
      | exact LeO.none _
      | refine LeO.ite ?_ ?_
      | refine LeO.bind ?_ (fun _ => ?_)
    · intro y0
      unfold chaselaw1_ShinglesLike.j4
      repeat' first
      | (with_reducible exact ih0 _ _ _)
      | (with_reducible exact ih1 _ _ _ _ _ _ _)
      | (with_reducible exact ih2 _)
      | (with_reducible exact ih3 _)
      | (with_reducible exact ih4 _)
      | (with_reducible exact chaselaw1_nears.mono _)
      | (with_reducible exact chasemake_Stream_Changed.mono _ _ _ _ _)
      | (with_reducible exact chasemake_Stream_Prose.mono _ _ _ _)
      | (with_reducible exact chaseref1_ContainmentOf.mono _ _ _ _)
      | (with_reducible exact chaseref1_FractionRight.mono _ _ _)
      | (with_reducible exact chaseref1_LikeOf.mono _ _ _ _)
      | (with_reducible exact chaseref1_ShinglesOf.mono _ _ _)
      | (with_reducible exact near_Compare.mono _ _ _ _ _)
      | (with_reducible exact near_Containment.mono _ _ _ _)
      | (with_reducible exact near_Resemblance.mono _ _ _ _)
      | (with_reducible exact near_Shingles.mono _ _ _)
      | (with_reducible exact slices_Equal_string_string.mono _ _ _)
      | (with_reducible exact LeO.refl _)
      | (with_reducible exact LeO.none _)
      | (with_reducible refine LeO.ite ?_ ?_)
      | (with_reducible refine LeO.bind ?_ (fun _ => ?_))
      | exact ih0 _ _ _
      | exact ih1 _ _ _ _ _ _ _
      | exact ih2 _
      | exact ih3 _
      | exact ih4 _
      | exact chaselaw1_nears.mono _
      | exact chasemake_Stream_Changed.mono _ _ _ _ _
      | exact chasemake_Stream_Prose.mono _ _ _ _
      | exact chaseref1_ContainmentOf.mono _ _ _ _
      | exact chaseref1_FractionRight.mono _ _ _
      | exact chaseref1_LikeOf.mono _ _ _ _
      | exact chaseref1_ShinglesOf.mono _ _ _
      | exact near_Compare.mono _ _ _ _ _
      | exact near_Containment.mono _ _ _ _
      | exact near_Resemblance.mono _ _ _ _
      | exact near_Shingles.mono _ _ _
      | exact slices_Equal_string_string.mono _ _ _
      | exact LeO.none _
      | refine LeO.ite ?_ ?_
      | refine LeO.bind ?_ (fun _ => ?_)
    · intro y0
      unfold chaselaw1_ShinglesLike.j0
      repeat' first
      | (with_reducible exact ih0 _ _ _)
      | (with_reducible exact ih1 _ _ _ _ _ _ _)
      | (with_reducible exact ih2 _)
      | (with_reducible exact ih3 _)
      | (with_reducible exact ih4 _)
      | (with_reducible exact chaselaw1_nears.mono _)
      | (with_reducible exact chasemake_Stream_Changed.mono _ _ _ _ _)
      | (with_reducible exact chasemake_Stream_Prose.mono _ _ _ _)
      | (with_reducible exact chaseref1_ContainmentOf.mono _ _ _ _)
      | (with_reducible exact chaseref1_FractionRight.mono _ _ _)
      | (with_reducible exact chaseref1_LikeOf.mono _ _ _ _)
      | (with_reducible exact chaseref1_ShinglesOf.mono _ _ _)
      | (with_reducible exact near_Compare.mono _ _ _ _ _)
      | (with_reducible exact near_Containment.mono _ _ _ _)
      | (with_reducible exact near_Resemblance.mono _ _ _ _)
      | (with_reducible exact near_Shingles.mono _ _ _)
      | (with_reducible exact slices_Equal_string_string.mono _ _ _)
      | (with_reducible exact LeO.refl _)
      | (with_reducible exact LeO.none _)
      | (with_reducible refine LeO.ite ?_ ?_)
      | (with_reducible refine LeO.bind ?_ (fun _ => ?_))
      | exact ih0 _ _ _
      | exact ih1 _ _ _ _ _ _ _
      | exact ih2 _
      | exact ih3 _
      | exact ih4 _
      | exact chaselaw1_nears.mono _
      | exact chasemake_Stream_Changed.mono _ _ _ _ _
      | exact chasemake_Stream_Prose.mono _ _ _ _
      | exact chaseref1_ContainmentOf.mono _ _ _ _
      | exact chaseref1_FractionRight.mono _ _ _
      | exact chaseref1_LikeOf.mono _ _ _ _
      | exact chaseref1_ShinglesOf.mono _ _ _
      | exact near_Compare.mono _ _ _ _ _
      | exact near_Containment.mono _ _ _ _
      | exact near_Resemblance.mono _ _ _ _
      | exact near_Shingles.mono _ _ _
      | exact slices_Equal_string_string.mono _ _ _
      | exact LeO.none _
      | refine LeO.ite ?_ ?_
      | refine LeO.bind ?_ (fun _ => ?_)
theorem chaselaw1_ShinglesLike.mono : ∀ a0 k, LeO (chaselaw1_ShinglesLike.f k a0) (chaselaw1_ShinglesLike.f (k + 1) a0) := by
  intro a0 k
  obtain ⟨ih0, ih1, ih2, ih3, ih4⟩ := chaselaw1_ShinglesLike.mono_l k
  unfold chaselaw1_ShinglesLike.f
  repeat' first
      | (with_reducible exact ih0 _ _ _)
      | (with_reducible exact ih1 _ _ _ _ _ _ _)
      | (with_reducible exact ih2 _)
      | (with_reducible exact ih3 _)
      | (with_reducible exact ih4 _)
      | (with_reducible exact chaselaw1_nears.mono _)
      | (with_reducible exact chasemake_Stream_Changed.mono _ _ _ _ _)
      | (with_reducible exact chasemake_Stream_Prose.mono _ _ _ _)
      | (with_reducible exact chaseref1_ContainmentOf.mono _ _ _ _)
      | (with_reducible exact chaseref1_FractionRight.mono _ _ _)
      | (with_reducible exact chaseref1_LikeOf.mono _ _ _ _)
      | (with_reducible exact chaseref1_ShinglesOf.mono _ _ _)
      | (with_reducible exact near_Compare.mono _ _ _ _ _)
      | (with_reducible exact near_Containment.mono _ _ _ _)
      | (with_reducible exact near_Resemblance.mono _ _ _ _)
      | (with_reducible exact near_Shingles.mono _ _ _)
      | (with_reducible exact slices_Equal_string_string.mono _ _ _)
      | (with_reducible exact LeO.refl _)
      | (with_reducible exact LeO.none _)
      | (with_reducible refine LeO.ite ?_ ?_)
      | (with_reducible refine LeO.bind ?_ (fun _ => ?_))
      | exact ih0 _ _ _
      | exact ih1 _ _ _ _ _ _ _
      | exact ih2 _
      | exact ih3 _
      | exact ih4 _
      | exact chaselaw1_nears.mono _
      | exact chasemake_Stream_Changed.mono _ _ _ _ _
      | exact chasemake_Stream_Prose.mono _ _ _ _
      | exact chaseref1_ContainmentOf.mono _ _ _ _
      | exact chaseref1_FractionRight.mono _ _ _
      | exact chaseref1_LikeOf.mono _ _ _ _
      | exact chaseref1_ShinglesOf.mono _ _ _
      | exact near_Compare.mono _ _ _ _ _
      | exact near_Containment.mono _ _ _ _
      | exact near_Resemblance.mono _ _ _ _
      | exact near_Shingles.mono _ _ _
      | exact slices_Equal_string_string.mono _ _ _
      | exact LeO.none _
      | refine LeO.ite ?_ ?_
      | refine LeO.bind ?_ (fun _ => ?_)
def chaselaw1_ShinglesLike.T10 : Bool × List (List Nat × List Nat) := (true, [([], []), ([0], [0]), ([1], [1]), ([2], [2]), ([3, 2], [2, 3]), ([2, 4], [2, 4]), ([5, 2], [5]), ([6], [6]), ([7, 6], [6, 7]), ([6, 8], [6, 8]), ([9, 6], [9]), ([10], [10]), ([10], [10]), ([10], [10]), ([12, 13, 10, 10], [10, 12, 13]), ([11, 14, 14, 10], [10, 11, 14]), ([15, 10], [10, 15]), ([10, 16], [10, 16]), ([17, 15], [17]), ([18], [18]), ([18], [18]), ([18], [18]), ([18], [18]), ([20, 21, 22, 18, 18], [18, 20, 21, 22]), ([19, 23, 18], [18, 19, 23]), ([18, 24], [18, 24]), ([25, 23], [25]), ([26], [26]), ([26], [26]), ([26], [26]), ([26], [26]), ([28, 29, 30, 26, 26], [26, 28, 29, 30]), ([27, 31, 26], [26, 27, 31]), ([26, 32], [26, 32])])
def chaselaw1_ShinglesLike.B10 : List Nat := [0, 1, 3, 7, 15, 31, 63, 127, 255, 511, 1023, 2047, 2047, 2047, 14335, 32767, 65535, 131071, 262143, 524287, 524287, 524287, 524287, 7864319, 16777215, 33554431, 67108863, 134217727, 134217727, 134217727, 134217727, 2013265919, 4294967295, 8589934591]
theorem chaselaw1_ShinglesLike.tab10 : rtab .any (opsOf Try.f4 10) = chaselaw1_ShinglesLike.T10 := by kernel_rfl
theorem chaselaw1_ShinglesLike.bits10 : waitsOk chaselaw1_ShinglesLike.T10.2 chaselaw1_ShinglesLike.B10 = true := by kernel_rfl
abbrev chaselaw1_ShinglesLike.D0 : Array Bool := #[false, false, false, false, false, false, false, false, false, false, false, false, false, false, false, false, false, false, false, false, false, false, false, false, false, false, false, false, false, false, false, false, false, false]
abbrev chaselaw1_ShinglesLike.D1 : Array Bool := #[true, false, false, false, false, false, false, false, false, false, false, false, false, false, false, false, false, false, false, false, false, false, false, false, false, false, false, false, false, false, false, false, false, false]
abbrev chaselaw1_ShinglesLike.D2 : Array Bool := #[true, true, false, false, false, false, false, false, false, false, false, false, false, false, false, false, false, false, false, false, false, false, false, false, false, false, false, false, false, false, false, false, false, false]
abbrev chaselaw1_ShinglesLike.D3 : Array Bool := #[true, true, true, false, false, false, false, false, false, false, false, false, false, false, false, false, false, false, false, false, false, false, false, false, false, false, false, false, false, false, false, false, false, false]
abbrev chaselaw1_ShinglesLike.D4 : Array Bool := #[true, true, true, true, false, false, false, false, false, false, false, false, false, false, false, false, false, false, false, false, false, false, false, false, false, false, false, false, false, false, false, false, false, false]
abbrev chaselaw1_ShinglesLike.D5 : Array Bool := #[true, true, true, true, true, false, false, false, false, false, false, false, false, false, false, false, false, false, false, false, false, false, false, false, false, false, false, false, false, false, false, false, false, false]
abbrev chaselaw1_ShinglesLike.D6 : Array Bool := #[true, true, true, true, true, true, false, false, false, false, false, false, false, false, false, false, false, false, false, false, false, false, false, false, false, false, false, false, false, false, false, false, false, false]
abbrev chaselaw1_ShinglesLike.D7 : Array Bool := #[true, true, true, true, true, true, true, false, false, false, false, false, false, false, false, false, false, false, false, false, false, false, false, false, false, false, false, false, false, false, false, false, false, false]
abbrev chaselaw1_ShinglesLike.D8 : Array Bool := #[true, true, true, true, true, true, true, true, false, false, false, false, false, false, false, false, false, false, false, false, false, false, false, false, false, false, false, false, false, false, false, false, false, false]
abbrev chaselaw1_ShinglesLike.D9 : Array Bool := #[true, true, true, true, true, true, true, true, true, false, false, false, false, false, false, false, false, false, false, false, false, false, false, false, false, false, false, false, false, false, false, false, false, false]
abbrev chaselaw1_ShinglesLike.D10 : Array Bool := #[true, true, true, true, true, true, true, true, true, true, false, false, false, false, false, false, false, false, false, false, false, false, false, false, false, false, false, false, false, false, false, false, false, false]
abbrev chaselaw1_ShinglesLike.D11 : Array Bool := #[true, true, true, true, true, true, true, true, true, true, true, false, false, false, false, false, false, false, false, false, false, false, false, false, false, false, false, false, false, false, false, false, false, false]
abbrev chaselaw1_ShinglesLike.D12 : Array Bool := #[true, true, true, true, true, true, true, true, true, true, true, true, false, false, false, false, false, false, false, false, false, false, false, false, false, false, false, false, false, false, false, false, false, false]
abbrev chaselaw1_ShinglesLike.D13 : Array Bool := #[true, true, true, true, true, true, true, true, true, true, true, true, true, false, false, false, false, false, false, false, false, false, false, false, false, false, false, false, false, false, false, false, false, false]
abbrev chaselaw1_ShinglesLike.D14 : Array Bool := #[true, true, true, true, true, true, true, true, true, true, true, true, true, true, false, false, false, false, false, false, false, false, false, false, false, false, false, false, false, false, false, false, false, false]
abbrev chaselaw1_ShinglesLike.D15 : Array Bool := #[true, true, true, true, true, true, true, true, true, true, true, true, true, true, true, false, false, false, false, false, false, false, false, false, false, false, false, false, false, false, false, false, false, false]
abbrev chaselaw1_ShinglesLike.D16 : Array Bool := #[true, true, true, true, true, true, true, true, true, true, true, true, true, true, true, true, false, false, false, false, false, false, false, false, false, false, false, false, false, false, false, false, false, false]
abbrev chaselaw1_ShinglesLike.D17 : Array Bool := #[true, true, true, true, true, true, true, true, true, true, true, true, true, true, true, true, true, false, false, false, false, false, false, false, false, false, false, false, false, false, false, false, false, false]
abbrev chaselaw1_ShinglesLike.D18 : Array Bool := #[true, true, true, true, true, true, true, true, true, true, true, true, true, true, true, true, true, true, false, false, false, false, false, false, false, false, false, false, false, false, false, false, false, false]
abbrev chaselaw1_ShinglesLike.D19 : Array Bool := #[true, true, true, true, true, true, true, true, true, true, true, true, true, true, true, true, true, true, true, false, false, false, false, false, false, false, false, false, false, false, false, false, false, false]
abbrev chaselaw1_ShinglesLike.D20 : Array Bool := #[true, true, true, true, true, true, true, true, true, true, true, true, true, true, true, true, true, true, true, false, true, false, false, false, false, false, false, false, false, false, false, false, false, false]
abbrev chaselaw1_ShinglesLike.D21 : Array Bool := #[true, true, true, true, true, true, true, true, true, true, true, true, true, true, true, true, true, true, true, false, true, true, false, false, false, false, false, false, false, false, false, false, false, false]
abbrev chaselaw1_ShinglesLike.D22 : Array Bool := #[true, true, true, true, true, true, true, true, true, true, true, true, true, true, true, true, true, true, true, false, true, true, true, false, false, false, false, false, false, false, false, false, false, false]
abbrev chaselaw1_ShinglesLike.D23 : Array Bool := #[true, true, true, true, true, true, true, true, true, true, true, true, true, true, true, true, true, true, true, true, false, false, false, false, false, false, false, false, false, false, false, false, false, false]
abbrev chaselaw1_ShinglesLike.D24 : Array Bool := #[true, true, true, true, true, true, true, true, true, true, true, true, true, true, true, true, true, true, true, true, true, false, false, false, false, false, false, false, false, false, false, false, false, false]
abbrev chaselaw1_ShinglesLike.D25 : Array Bool := #[true, true, true, true, true, true, true, true, true, true, true, true, true, true, true, true, true, true, true, true, true, true, false, false, false, false, false, false, false, false, false, false, false, false]
abbrev chaselaw1_ShinglesLike.D26 : Array Bool := #[true, true, true, true, true, true, true, true, true, true, true, true, true, true, true, true, true, true, true, true, true, true, true, false, false, false, false, false, false, false, false, false, false, false]
abbrev chaselaw1_ShinglesLike.D27 : Array Bool := #[true, true, true, true, true, true, true, true, true, true, true, true, true, true, true, true, true, true, true, true, true, true, true, true, false, false, false, false, false, false, false, false, false, false]
abbrev chaselaw1_ShinglesLike.D28 : Array Bool := #[true, true, true, true, true, true, true, true, true, true, true, true, true, true, true, true, true, true, true, true, true, true, true, true, true, false, false, false, false, false, false, false, false, false]
abbrev chaselaw1_ShinglesLike.D29 : Array Bool := #[true, true, true, true, true, true, true, true, true, true, true, true, true, true, true, true, true, true, true, true, true, true, true, true, true, true, false, false, false, false, false, false, false, false]
abbrev chaselaw1_ShinglesLike.D30 : Array Bool := #[true, true, true, true, true, true, true, true, true, true, true, true, true, true, true, true, true, true, true, true, true, true, true, true, true, true, true, false, false, false, false, false, false, false]
abbrev chaselaw1_ShinglesLike.D31 : Array Bool := #[true, true, true, true, true, true, true, true, true, true, true, true, true, true, true, true, true, true, true, true, true, true, true, true, true, true, true, false, true, false, false, false, false, false]
abbrev chaselaw1_ShinglesLike.D32 : Array Bool := #[true, true, true, true, true, true, true, true, true, true, true, true, true, true, true, true, true, true, true, true, true, true, true, true, true, true, true, false, true, true, false, false, false, false]
abbrev chaselaw1_ShinglesLike.D33 : Array Bool := #[true, true, true, true, true, true, true, true, true, true, true, true, true, true, true, true, true, true, true, true, true, true, true, true, true, true, true, false, true, true, true, false, false, false]
abbrev chaselaw1_ShinglesLike.D34 : Array Bool := #[true, true, true, true, true, true, true, true, true, true, true, true, true, true, true, true, true, true, true, true, true, true, true, true, true, true, true, true, false, false, false, false, false, false]
abbrev chaselaw1_ShinglesLike.D35 : Array Bool := #[true, true, true, true, true, true, true, true, true, true, true, true, true, true, true, true, true, true, true, true, true, true, true, true, true, true, true, true, true, false, false, false, false, false]
abbrev chaselaw1_ShinglesLike.D36 : Array Bool := #[true, true, true, true, true, true, true, true, true, true, true, true, true, true, true, true, true, true, true, true, true, true, true, true, true, true, true, true, true, true, false, false, false, false]
abbrev chaselaw1_ShinglesLike.D37 : Array Bool := #[true, true, true, true, true, true, true, true, true, true, true, true, true, true, true, true, true, true, true, true, true, true, true, true, true, true, true, true, true, true, true, false, false, false]
abbrev chaselaw1_ShinglesLike.D38 : Array Bool := #[true, true, true, true, true, true, true, true, true, true, true, true, true, true, true, true, true, true, true, true, true, true, true, true, true, true, true, true, true, true, true, true, false, false]
abbrev chaselaw1_ShinglesLike.D39 : Array Bool := #[true, true, true, true, true, true, true, true, true, true, true, true, true, true, true, true, true, true, true, true, true, true, true, true, true, true, true, true, true, true, true, true, true, false]
abbrev chaselaw1_ShinglesLike.D40 : Array Bool := #[true, true, true, true, true, true, true, true, true, true, true, true, true, true, true, true, true, true, true, true, true, true, true, true, true, true, true, true, true, true, true, true, true, true]
end Go.Proofs.Ytbamfhcifpfocaa.Ph
