/- A part of the proof of wordsDiffer. No conditions. Laid by program over the kit's print and words. -/
import Derived.Test.YtbamfhcifpfocaaDoorZdPwx0
import Derived.Test.YtbamfhcifpfocaaDoorZdPwx1
import Derived.Test.YtbamfhcifpfocaaDoorZdPwx6
import Derived.Test.YtbamfhcifpfocaaDoorZdPwx7
import Derived.Test.YtbamfhcifpfocaaDoorZdPwx8
import Derived.Test.YtbamfhcifpfocaaDoorZdPwx9
namespace Go.Proofs.YtbamfhcifpfocaaDoor.Pw
open Go.RowKit Go.Proofs.YtbamfhcifpfocaaDoor.GBase Go.Proofs.YtbamfhcifpfocaaDoorW.PrintWords Go.Proofs.YtbamfhcifpfocaaDoorW.PrintLast Go.Proofs.YtbamfhcifpfocaaDoorW.PrintMore
attribute [local go_sem] str_leq max2_int min2_int max_two min_two max_three min_three max_four min_four
set_option linter.unusedVariables false
set_option linter.unusedSimpArgs false
def chaseref1_DistanceOf.f (k : Nat) (a0 : ByteArray) (a1 : ByteArray) : Option (Int) := (chaseref1_TokensOf.f k a0).bind fun t356 => ((chaseref1_TokensOf.f k a1).bind fun t359 => ((chaseref1_keptOf.f k t356 t359).bind fun t362 => (some (wrap64 ((wrap64 ((t356.length : Int) + (t359.length : Int))) - (wrap64 (2 * (t362.length : Int))))))))
theorem chaseref1_DistanceOf.mono : ∀ a0 a1 k, LeO (chaseref1_DistanceOf.f k a0 a1) (chaseref1_DistanceOf.f (k + 1) a0 a1) := by
  intro a0 a1 k
  unfold chaseref1_DistanceOf.f
  repeat' first
      | (with_reducible exact chaseref1_TokensOf.mono _ _)
      | (with_reducible exact chaseref1_keptOf.mono _ _ _)
      | (with_reducible exact LeO.refl _)
      | (with_reducible exact LeO.none _)
      | (with_reducible refine LeO.ite ?_ ?_)
      | (with_reducible refine LeO.bind ?_ (fun _ => ?_))
      | exact LeO.none _
      | refine LeO.ite ?_ ?_
      | refine LeO.bind ?_ (fun _ => ?_)
set_option maxHeartbeats 8000000 in
set_option maxRecDepth 100000 in
theorem chaseref1_DistanceOf.calls (k : Nat) (a0 : ByteArray) (a1 : ByteArray) (r : Int) (w : World) (hGl : Wd w) (h : chaseref1_DistanceOf.f k a0 a1 = some r) :
  Calls Tryd.prog 62 #[.string a0, .string a1] w fun e w' => e = .returned (.int .i64 r) ∧ Below w.heap.size w w' := by
 have HGl := am_ hGl; clear hGl
 have HB := am_ (Below.refl w.heap.size w)
 have H : ((chaseref1_TokensOf.f k a0).bind fun t356 => ((chaseref1_TokensOf.f k a1).bind fun t359 => ((chaseref1_keptOf.f k t356 t359).bind fun t362 => (some (wrap64 ((wrap64 ((t356.length : Int) + (t359.length : Int))) - (wrap64 (2 * (t362.length : Int))))))))) = some r := h
 clear h; replace H := Option.bind_eq_some_iff.mp H; obtain ⟨t356, A30, H⟩ := H; have A3 := am_ A30; clear A30; replace H := Option.bind_eq_some_iff.mp H; obtain ⟨t359, A40, H⟩ := H; have A4 := am_ A40; clear A40; replace H := Option.bind_eq_some_iff.mp H; obtain ⟨t362, A50, H⟩ := H; have A5 := am_ A50; clear A50
 obtain rfl := Option.some.inj H
 go_enter Tryd.func62, Tryd.ntmps62
 go_wp2_with (first | ((with_reducible refine gate_callee (f := 39) rfl ?_); refine goesL_ (some 8) rfl rfl Tryd.func39 (by kernel_rfl) rfl #[.string a0] rfl (by (try simp only [m1_, m2_, m3_]); first | done | rfl | (simp only [List.length_drop, List.length_take]; rfl)) ?_; (with_reducible refine (chaseref1_TokensOf.calls k a0 t356 _ ?side1 A3.out).mono ?_); (case side1 => exact Wd.below HGl.out (by repeat (first | (with_reducible first | exact HB.out | apply b3_ | apply b1_ | apply b2_) | exact HB.out))); rintro e w6 ⟨v357, rfl, ho0, hb⟩; refine ⟨_, rfl, ?_⟩; have n0_ := am_ (Kd.R_lower ho0 (below_size (by repeat (first | (with_reducible first | exact HB.out | apply b3_ | apply b1_ | apply b2_) | exact HB.out)))); have n1_ := am_ (below_step (by repeat (first | (with_reducible first | exact HB.out | apply b3_ | apply b1_ | apply b2_) | exact HB.out)) hb); clear HB; have HO358 := n0_; have HB := n1_; clear n0_ n1_; (try clear hb); (try clear hb2); (try clear hk); (try clear hi); (try clear ho0)) | ((with_reducible refine gate_callee (f := 39) rfl ?_); refine goesL_ (some 10) rfl rfl Tryd.func39 (by kernel_rfl) rfl #[.string a1] rfl (by (try simp only [m1_, m2_, m3_]); first | done | rfl | (simp only [List.length_drop, List.length_take]; rfl)) ?_; (with_reducible refine (chaseref1_TokensOf.calls k a1 t359 _ ?side1 A4.out).mono ?_); (case side1 => exact Wd.below HGl.out (by repeat (first | (with_reducible first | exact HB.out | apply b3_ | apply b1_ | apply b2_) | exact HB.out))); rintro e w7 ⟨v360, rfl, ho0, hb⟩; refine ⟨_, rfl, ?_⟩; have n0_ := am_ (Kd.R_elder' (by (with_reducible repeat (first | apply r1_ | apply r2_ | apply r3_)); exact HO358.out) (Kd.R_base ho0) hb); have n1_ := am_ (Kd.R_lower (Kd.R_new' ho0 (Kd.R_lt (by (with_reducible repeat (first | apply r1_ | apply r2_ | apply r3_)); exact HO358.out))) (below_size (by repeat (first | (with_reducible first | exact HB.out | apply b3_ | apply b1_ | apply b2_) | exact HB.out)))); have n2_ := am_ (below_step (by repeat (first | (with_reducible first | exact HB.out | apply b3_ | apply b1_ | apply b2_) | exact HB.out)) hb); clear HO358; clear HB; have HO358 := n0_; have HO361 := n1_; have HB := n2_; clear n0_ n1_ n2_; (try clear hb); (try clear hb2); (try clear hk); (try clear hi); (try clear ho0); obtain ⟨Ao8, co8, eo8⟩ := Kd.R_slice HO358.out; subst eo8; obtain ⟨Ao9, co9, eo9⟩ := Kd.R_slice HO361.out; subst eo9) | ((with_reducible refine gate_callee (f := 121) rfl ?_); refine goesL_ (some 18) rfl rfl Tryd.func121 (by kernel_rfl) rfl #[.slice Ao8 t356.length co8, .slice Ao9 t359.length co9] rfl (by (try simp only [m1_, m2_, m3_]); first | done | rfl | (simp only [List.length_drop, List.length_take]; rfl)) ?_; (with_reducible refine (chaseref1_keptOf.calls k _ _ t356 _ _ t359 t362 _ ?side1 ?side2 ?side3 ?side4 A5.out).mono ?_); (case side1 => repeat (first | exact (Kd.R_reads' HO358.out).2.2 | (with_reducible refine Kd.C_alloc ?_ _) | (with_reducible refine Kd.C_drewN ?_ _) | (with_reducible refine Kd.C_drew ?_))); (case side2 => exact (Kd.R_reads' HO358.out).2.1); (case side3 => repeat (first | exact (Kd.R_reads' HO361.out).2.2 | (with_reducible refine Kd.C_alloc ?_ _) | (with_reducible refine Kd.C_drewN ?_ _) | (with_reducible refine Kd.C_drew ?_))); (case side4 => exact (Kd.R_reads' HO361.out).2.1); rintro e w10 ⟨v363, rfl, ho0, hb⟩; refine ⟨_, rfl, ?_⟩; have n0_ := am_ (Kd.R_below (by (with_reducible repeat (first | apply r1_ | apply r2_ | apply r3_)); exact HO358.out) hb); have n1_ := am_ (Kd.R_below (by (with_reducible repeat (first | apply r1_ | apply r2_ | apply r3_)); exact HO361.out) hb); have n2_ := am_ (Kd.R_lower ho0 (below_size (by repeat (first | (with_reducible first | exact HB.out | apply b3_ | apply b1_ | apply b2_) | exact HB.out)))); have n3_ := am_ (below_step (by repeat (first | (with_reducible first | exact HB.out | apply b3_ | apply b1_ | apply b2_) | exact HB.out)) hb); clear HO358; clear HO361; clear HB; have HO358 := n0_; have HO361 := n1_; have HO364 := n2_; have HB := n3_; clear n0_ n1_ n2_ n3_; (try clear hb); (try clear hb2); (try clear hk); (try clear hi); (try clear ho0); obtain ⟨Ao11, co11, eo11⟩ := Kd.R_slice HO364.out; subst eo11))
 go_ret
 exact ⟨by first | rfl | (simp [errW_none, errW_some] <;> rfl) | (simp [*, errW_none, errW_some] <;> rfl), by repeat (first | (with_reducible first | exact HB.out | apply b3_ | apply b1_ | apply b2_) | exact HB.out)⟩
def chaseref1_SameChanges_1.f (k : Nat) (a0_0 : Int) (l0_1 : List ByteArray) (l0_2 : List ByteArray) (a1_0 : Int) (l1_1 : List ByteArray) (l1_2 : List ByteArray) : Option (Bool) := if a0_0 = a1_0 then ((slices_Equal_string_string.f k l0_1 l1_1).bind fun t367 => (if t367 = true then ((slices_Equal_string_string.f k l0_2 l1_2).bind fun t368 => (some t368)) else (some false))) else (some false)
theorem chaseref1_SameChanges_1.mono : ∀ a0 a1 a2 a3 a4 a5 k, LeO (chaseref1_SameChanges_1.f k a0 a1 a2 a3 a4 a5) (chaseref1_SameChanges_1.f (k + 1) a0 a1 a2 a3 a4 a5) := by
  intro a0 a1 a2 a3 a4 a5 k
  unfold chaseref1_SameChanges_1.f
  repeat' first
      | (with_reducible exact slices_Equal_string_string.mono _ _ _)
      | (with_reducible exact LeO.refl _)
      | (with_reducible exact LeO.none _)
      | (with_reducible refine LeO.ite ?_ ?_)
      | (with_reducible refine LeO.bind ?_ (fun _ => ?_))
      | exact LeO.none _
      | refine LeO.ite ?_ ?_
      | refine LeO.bind ?_ (fun _ => ?_)
set_option maxHeartbeats 8000000 in
set_option maxRecDepth 100000 in
theorem chaseref1_SameChanges_1.calls (k : Nat) (a0_0 : Int) (A0_1 : Option Addr) (c0_1 : Nat) (l0_1 : List ByteArray) (A0_2 : Option Addr) (c0_2 : Nat) (l0_2 : List ByteArray) (a1_0 : Int) (A1_1 : Option Addr) (c1_1 : Nat) (l1_1 : List ByteArray) (A1_2 : Option Addr) (c1_2 : Nat) (l1_2 : List ByteArray) (r : Bool) (w : World) (hr0_1 : Kd.C Kd.string w A0_1 l0_1.length l0_1) (hc0_1 : l0_1.length ≤ c0_1) (hr0_2 : Kd.C Kd.string w A0_2 l0_2.length l0_2) (hc0_2 : l0_2.length ≤ c0_2) (hr1_1 : Kd.C Kd.string w A1_1 l1_1.length l1_1) (hc1_1 : l1_1.length ≤ c1_1) (hr1_2 : Kd.C Kd.string w A1_2 l1_2.length l1_2) (hc1_2 : l1_2.length ≤ c1_2) (h : chaseref1_SameChanges_1.f k a0_0 l0_1 l0_2 a1_0 l1_1 l1_2 = some r) :
  Calls Tryd.prog 123 #[.agg #[.int .i64 a0_0, .slice A0_1 l0_1.length c0_1, .slice A0_2 l0_2.length c0_2], .agg #[.int .i64 a1_0, .slice A1_1 l1_1.length c1_1, .slice A1_2 l1_2.length c1_2]] w fun e w' => e = .returned (.bool r) ∧ Below w.heap.size w w' := by
 have hu129 := Tryd.underlying129
 have HR0_1 := am_ hr0_1; have HC0_1 := am_ hc0_1; clear hr0_1 hc0_1; have HR0_2 := am_ hr0_2; have HC0_2 := am_ hc0_2; clear hr0_2 hc0_2; have HR1_1 := am_ hr1_1; have HC1_1 := am_ hc1_1; clear hr1_1 hc1_1; have HR1_2 := am_ hr1_2; have HC1_2 := am_ hc1_2; clear hr1_2 hc1_2
 have HB := am_ (Below.refl w.heap.size w)
 have H : (if a0_0 = a1_0 then ((slices_Equal_string_string.f k l0_1 l1_1).bind fun t367 => (if t367 = true then ((slices_Equal_string_string.f k l0_2 l1_2).bind fun t368 => (some t368)) else (some false))) else (some false)) = some r := h
 clear h
 by_cases c3 : a0_0 = a1_0
 ·rw [if_pos c3] at H
  have c3b0 : (a0_0 == a1_0) = true := beq_iff_eq.mpr c3
  have c3b1 : (a0_0 != a1_0) = false := bne_eq_false_iff_eq.mpr c3
  clear c3; replace H := Option.bind_eq_some_iff.mp H; obtain ⟨t367, A40, H⟩ := H; have A4 := am_ A40; clear A40
  by_cases c5 : t367 = true
  ·subst c5
   have H1 : ((slices_Equal_string_string.f k l0_2 l1_2).bind fun t368 => (some t368)) = some r := by rw [if_pos rfl] at H; exact H
   clear H
   have H := H1
   clear H1; replace H := Option.bind_eq_some_iff.mp H; obtain ⟨t368, A60, H⟩ := H
   replace H : (some t368) = some r := H
   have A6 := am_ A60; clear A60
   obtain rfl := Option.some.inj H
   go_enter Tryd.func123, Tryd.ntmps123
   go_wp2_with (first | ((with_reducible refine gate_dst (N := 2) rfl ?_); refine box_event ?hg (N := 2) ?hd (cs := #[.int .i64 a0_0, .slice A0_1 l0_1.length c0_1, .slice A0_2 l0_2.length c0_2]) (t := 129) ?hr ?_; (case hd => rfl); (case hg => rfl); (case hr => first | (go_simp; done) | (go_simp; rfl)); intro gb365 hg w7 hbox hb; have n0_ := am_ (below_step (by repeat (first | (with_reducible first | exact HB.out | apply b3_ | apply b1_ | apply b2_) | exact HB.out)) hb); have n1_ := am_ (hbox); have n2_ := am_ ((by rw [hg]; exact (below_size (by repeat (first | (with_reducible first | exact HB.out | apply b3_ | apply b1_ | apply b2_) | exact HB.out))) : w.heap.size ≤ gb365)); have n3_ := am_ ((by rw [hg]; exact (below_size (by repeat (first | (with_reducible first | exact HB.out | apply b3_ | apply b1_ | apply b2_) | exact HB.out))) : w.heap.size ≤ gb365)); clear HB; have HB := n0_; have BK365 := n1_; have GW365 := n2_; have GE365 := n3_; clear n0_ n1_ n2_ n3_; clear hb hbox hg) | ((with_reducible refine gate_dst (N := 3) rfl ?_); refine box_event ?hg (N := 3) ?hd (cs := #[.int .i64 a1_0, .slice A1_1 l1_1.length c1_1, .slice A1_2 l1_2.length c1_2]) (t := 129) ?hr ?_; (case hd => rfl); (case hg => rfl); (case hr => first | (go_simp; done) | (go_simp; rfl)); intro gb366 hg w8 hbox hb; have n0_ := am_ (blk_below (g := gb365) (o := .cells #[.int .i64 a0_0, .slice A0_1 l0_1.length c0_1, .slice A0_2 l0_2.length c0_2] 129 (0, 0)) (by (with_reducible repeat (first | refine blk_drewN ?_ _ | refine blk_drew ?_ | refine blk_alloc ?_ _)); exact BK365.out) hb); have n1_ := am_ (below_step (by repeat (first | (with_reducible first | exact HB.out | apply b3_ | apply b1_ | apply b2_ | refine below_set ?_ GE365.out) | exact HB.out)) hb); have n2_ := am_ (hbox); have n3_ := am_ ((by rw [hg]; exact (below_size (by repeat (first | (with_reducible first | exact HB.out | apply b3_ | apply b1_ | apply b2_ | refine below_set ?_ GE365.out) | exact HB.out))) : w.heap.size ≤ gb366)); have n4_ := am_ ((by rw [hg]; exact (below_size (by repeat (first | (with_reducible first | exact HB.out | apply b3_ | apply b1_ | apply b2_ | refine below_set ?_ GE365.out) | exact HB.out))) : w.heap.size ≤ gb366)); have n5_ := am_ ((by rw [hg]; exact Nat.ne_of_lt (blk_lt (g := gb365) (o := .cells #[.int .i64 a0_0, .slice A0_1 l0_1.length c0_1, .slice A0_2 l0_2.length c0_2] 129 (0, 0)) (by (with_reducible repeat (first | refine blk_drewN ?_ _ | refine blk_drew ?_ | refine blk_alloc ?_ _)); exact BK365.out)) : gb365 ≠ gb366)); have n6_ := am_ ((by rw [hg]; exact Nat.ne_of_gt (blk_lt (g := gb365) (o := .cells #[.int .i64 a0_0, .slice A0_1 l0_1.length c0_1, .slice A0_2 l0_2.length c0_2] 129 (0, 0)) (by (with_reducible repeat (first | refine blk_drewN ?_ _ | refine blk_drew ?_ | refine blk_alloc ?_ _)); exact BK365.out)) : gb366 ≠ gb365)); clear BK365; clear HB; have BK365 := n0_; have HB := n1_; have BK366 := n2_; have GW366 := n3_; have GE366 := n4_; have NB365_366 := n5_; have NB366_365 := n6_; clear n0_ n1_ n2_ n3_ n4_ n5_ n6_; clear hb hbox hg; have hnb9 := NB365_366.out; have hnc9 := NB366_365.out; have hcz10_0 : w8.cell? ⟨gb365, 0, none⟩ = some (.int .i64 a0_0) := (blk_cell BK365.out 0).trans rfl; have hcz10_1 : w8.cell? ⟨gb365, 1, none⟩ = some (.slice A0_1 l0_1.length c0_1) := (blk_cell BK365.out 1).trans rfl; have hcz10_2 : w8.cell? ⟨gb365, 2, none⟩ = some (.slice A0_2 l0_2.length c0_2) := (blk_cell BK365.out 2).trans rfl; have hfz10_0 := blk_frozen BK365.out 0; have hfz10_1 := blk_frozen BK365.out 1; have hfz10_2 := blk_frozen BK365.out 2; have hcz11_0 : w8.cell? ⟨gb366, 0, none⟩ = some (.int .i64 a1_0) := (blk_cell BK366.out 0).trans rfl; have hcz11_1 : w8.cell? ⟨gb366, 1, none⟩ = some (.slice A1_1 l1_1.length c1_1) := (blk_cell BK366.out 1).trans rfl; have hcz11_2 : w8.cell? ⟨gb366, 2, none⟩ = some (.slice A1_2 l1_2.length c1_2) := (blk_cell BK366.out 2).trans rfl; have hfz11_0 := blk_frozen BK366.out 0; have hfz11_1 := blk_frozen BK366.out 1; have hfz11_2 := blk_frozen BK366.out 2) | (go_at_call 18; (with_reducible refine (slices_Equal_string_string.calls k _ _ l0_1 _ _ l1_1 true _ ?side1 ?side2 ?side3 ?side4 A4.out).mono ?_); (case side1 => repeat (first | exact (Kd.C_below HR0_1.out HB.out) | (with_reducible refine Kd.C_alloc ?_ _) | (with_reducible refine Kd.C_drewN ?_ _) | (with_reducible refine Kd.C_drew ?_))); (case side2 => exact HC0_1.out); (case side3 => repeat (first | exact (Kd.C_below HR1_1.out HB.out) | (with_reducible refine Kd.C_alloc ?_ _) | (with_reducible refine Kd.C_drewN ?_ _) | (with_reducible refine Kd.C_drew ?_))); (case side4 => exact HC1_1.out); rintro e w' ⟨rfl, ⟨nd, rfl⟩⟩) | (go_at_call 18; (with_reducible refine (slices_Equal_string_string.calls k _ _ l0_2 _ _ l1_2 t368 _ ?side1 ?side2 ?side3 ?side4 A6.out).mono ?_); (case side1 => repeat (first | exact (Kd.C_below HR0_2.out (by repeat (first | (with_reducible first | exact HB.out | apply b3_ | apply b1_ | apply b2_ | refine below_set ?_ GE365.out | refine below_set ?_ GE366.out) | exact HB.out))) | (with_reducible refine Kd.C_alloc ?_ _) | (with_reducible refine Kd.C_drewN ?_ _) | (with_reducible refine Kd.C_drew ?_))); (case side2 => exact HC0_2.out); (case side3 => repeat (first | exact (Kd.C_below HR1_2.out (by repeat (first | (with_reducible first | exact HB.out | apply b3_ | apply b1_ | apply b2_ | refine below_set ?_ GE365.out | refine below_set ?_ GE366.out) | exact HB.out))) | (with_reducible refine Kd.C_alloc ?_ _) | (with_reducible refine Kd.C_drewN ?_ _) | (with_reducible refine Kd.C_drew ?_))); (case side4 => exact HC1_2.out); rintro e w' ⟨rfl, ⟨nd, rfl⟩⟩))
   go_ret
   exact ⟨by first | rfl | (simp [errW_none, errW_some] <;> rfl) | (simp [*, errW_none, errW_some] <;> rfl), by repeat (first | (with_reducible first | exact HB.out | apply b3_ | apply b1_ | apply b2_ | refine below_set ?_ GE365.out | refine below_set ?_ GE366.out) | exact HB.out)⟩
  ·replace c5 := Bool.eq_false_iff.mpr c5
   subst c5
   have H1 : (some false) = some r := by rw [if_neg (show ¬ (false = true) by decide)] at H; exact H
   clear H
   have H := H1
   clear H1
   obtain rfl := Option.some.inj H
   go_enter Tryd.func123, Tryd.ntmps123
   go_wp2_with (first | ((with_reducible refine gate_dst (N := 2) rfl ?_); refine box_event ?hg (N := 2) ?hd (cs := #[.int .i64 a0_0, .slice A0_1 l0_1.length c0_1, .slice A0_2 l0_2.length c0_2]) (t := 129) ?hr ?_; (case hd => rfl); (case hg => rfl); (case hr => first | (go_simp; done) | (go_simp; rfl)); intro gb365 hg w12 hbox hb; have n0_ := am_ (below_step (by repeat (first | (with_reducible first | exact HB.out | apply b3_ | apply b1_ | apply b2_) | exact HB.out)) hb); have n1_ := am_ (hbox); have n2_ := am_ ((by rw [hg]; exact (below_size (by repeat (first | (with_reducible first | exact HB.out | apply b3_ | apply b1_ | apply b2_) | exact HB.out))) : w.heap.size ≤ gb365)); have n3_ := am_ ((by rw [hg]; exact (below_size (by repeat (first | (with_reducible first | exact HB.out | apply b3_ | apply b1_ | apply b2_) | exact HB.out))) : w.heap.size ≤ gb365)); clear HB; have HB := n0_; have BK365 := n1_; have GW365 := n2_; have GE365 := n3_; clear n0_ n1_ n2_ n3_; clear hb hbox hg) | ((with_reducible refine gate_dst (N := 3) rfl ?_); refine box_event ?hg (N := 3) ?hd (cs := #[.int .i64 a1_0, .slice A1_1 l1_1.length c1_1, .slice A1_2 l1_2.length c1_2]) (t := 129) ?hr ?_; (case hd => rfl); (case hg => rfl); (case hr => first | (go_simp; done) | (go_simp; rfl)); intro gb366 hg w13 hbox hb; have n0_ := am_ (blk_below (g := gb365) (o := .cells #[.int .i64 a0_0, .slice A0_1 l0_1.length c0_1, .slice A0_2 l0_2.length c0_2] 129 (0, 0)) (by (with_reducible repeat (first | refine blk_drewN ?_ _ | refine blk_drew ?_ | refine blk_alloc ?_ _)); exact BK365.out) hb); have n1_ := am_ (below_step (by repeat (first | (with_reducible first | exact HB.out | apply b3_ | apply b1_ | apply b2_ | refine below_set ?_ GE365.out) | exact HB.out)) hb); have n2_ := am_ (hbox); have n3_ := am_ ((by rw [hg]; exact (below_size (by repeat (first | (with_reducible first | exact HB.out | apply b3_ | apply b1_ | apply b2_ | refine below_set ?_ GE365.out) | exact HB.out))) : w.heap.size ≤ gb366)); have n4_ := am_ ((by rw [hg]; exact (below_size (by repeat (first | (with_reducible first | exact HB.out | apply b3_ | apply b1_ | apply b2_ | refine below_set ?_ GE365.out) | exact HB.out))) : w.heap.size ≤ gb366)); have n5_ := am_ ((by rw [hg]; exact Nat.ne_of_lt (blk_lt (g := gb365) (o := .cells #[.int .i64 a0_0, .slice A0_1 l0_1.length c0_1, .slice A0_2 l0_2.length c0_2] 129 (0, 0)) (by (with_reducible repeat (first | refine blk_drewN ?_ _ | refine blk_drew ?_ | refine blk_alloc ?_ _)); exact BK365.out)) : gb365 ≠ gb366)); have n6_ := am_ ((by rw [hg]; exact Nat.ne_of_gt (blk_lt (g := gb365) (o := .cells #[.int .i64 a0_0, .slice A0_1 l0_1.length c0_1, .slice A0_2 l0_2.length c0_2] 129 (0, 0)) (by (with_reducible repeat (first | refine blk_drewN ?_ _ | refine blk_drew ?_ | refine blk_alloc ?_ _)); exact BK365.out)) : gb366 ≠ gb365)); clear BK365; clear HB; have BK365 := n0_; have HB := n1_; have BK366 := n2_; have GW366 := n3_; have GE366 := n4_; have NB365_366 := n5_; have NB366_365 := n6_; clear n0_ n1_ n2_ n3_ n4_ n5_ n6_; clear hb hbox hg; have hnb14 := NB365_366.out; have hnc14 := NB366_365.out; have hcz15_0 : w13.cell? ⟨gb365, 0, none⟩ = some (.int .i64 a0_0) := (blk_cell BK365.out 0).trans rfl; have hcz15_1 : w13.cell? ⟨gb365, 1, none⟩ = some (.slice A0_1 l0_1.length c0_1) := (blk_cell BK365.out 1).trans rfl; have hcz15_2 : w13.cell? ⟨gb365, 2, none⟩ = some (.slice A0_2 l0_2.length c0_2) := (blk_cell BK365.out 2).trans rfl; have hfz15_0 := blk_frozen BK365.out 0; have hfz15_1 := blk_frozen BK365.out 1; have hfz15_2 := blk_frozen BK365.out 2; have hcz16_0 : w13.cell? ⟨gb366, 0, none⟩ = some (.int .i64 a1_0) := (blk_cell BK366.out 0).trans rfl; have hcz16_1 : w13.cell? ⟨gb366, 1, none⟩ = some (.slice A1_1 l1_1.length c1_1) := (blk_cell BK366.out 1).trans rfl; have hcz16_2 : w13.cell? ⟨gb366, 2, none⟩ = some (.slice A1_2 l1_2.length c1_2) := (blk_cell BK366.out 2).trans rfl; have hfz16_0 := blk_frozen BK366.out 0; have hfz16_1 := blk_frozen BK366.out 1; have hfz16_2 := blk_frozen BK366.out 2) | (go_at_call 18; (with_reducible refine (slices_Equal_string_string.calls k _ _ l0_1 _ _ l1_1 false _ ?side1 ?side2 ?side3 ?side4 A4.out).mono ?_); (case side1 => repeat (first | exact (Kd.C_below HR0_1.out HB.out) | (with_reducible refine Kd.C_alloc ?_ _) | (with_reducible refine Kd.C_drewN ?_ _) | (with_reducible refine Kd.C_drew ?_))); (case side2 => exact HC0_1.out); (case side3 => repeat (first | exact (Kd.C_below HR1_1.out HB.out) | (with_reducible refine Kd.C_alloc ?_ _) | (with_reducible refine Kd.C_drewN ?_ _) | (with_reducible refine Kd.C_drew ?_))); (case side4 => exact HC1_1.out); rintro e w' ⟨rfl, ⟨nd, rfl⟩⟩))
   go_ret
   exact ⟨by first | rfl | (simp [errW_none, errW_some] <;> rfl) | (simp [*, errW_none, errW_some] <;> rfl), by repeat (first | (with_reducible first | exact HB.out | apply b3_ | apply b1_ | apply b2_ | refine below_set ?_ GE365.out | refine below_set ?_ GE366.out) | exact HB.out)⟩
 ·rw [if_neg c3] at H
  have c3b0 : (a0_0 == a1_0) = false := beq_eq_false_iff_ne.mpr c3
  have c3b1 : (a0_0 != a1_0) = true := bne_iff_ne.mpr c3
  obtain rfl := Option.some.inj H
  go_enter Tryd.func123, Tryd.ntmps123
  go_wp2_with (first | ((with_reducible refine gate_dst (N := 2) rfl ?_); refine box_event ?hg (N := 2) ?hd (cs := #[.int .i64 a0_0, .slice A0_1 l0_1.length c0_1, .slice A0_2 l0_2.length c0_2]) (t := 129) ?hr ?_; (case hd => rfl); (case hg => rfl); (case hr => first | (go_simp; done) | (go_simp; rfl)); intro gb365 hg w17 hbox hb; have n0_ := am_ (below_step (by repeat (first | (with_reducible first | exact HB.out | apply b3_ | apply b1_ | apply b2_) | exact HB.out)) hb); have n1_ := am_ (hbox); have n2_ := am_ ((by rw [hg]; exact (below_size (by repeat (first | (with_reducible first | exact HB.out | apply b3_ | apply b1_ | apply b2_) | exact HB.out))) : w.heap.size ≤ gb365)); have n3_ := am_ ((by rw [hg]; exact (below_size (by repeat (first | (with_reducible first | exact HB.out | apply b3_ | apply b1_ | apply b2_) | exact HB.out))) : w.heap.size ≤ gb365)); clear HB; have HB := n0_; have BK365 := n1_; have GW365 := n2_; have GE365 := n3_; clear n0_ n1_ n2_ n3_; clear hb hbox hg) | ((with_reducible refine gate_dst (N := 3) rfl ?_); refine box_event ?hg (N := 3) ?hd (cs := #[.int .i64 a1_0, .slice A1_1 l1_1.length c1_1, .slice A1_2 l1_2.length c1_2]) (t := 129) ?hr ?_; (case hd => rfl); (case hg => rfl); (case hr => first | (go_simp; done) | (go_simp; rfl)); intro gb366 hg w18 hbox hb; have n0_ := am_ (blk_below (g := gb365) (o := .cells #[.int .i64 a0_0, .slice A0_1 l0_1.length c0_1, .slice A0_2 l0_2.length c0_2] 129 (0, 0)) (by (with_reducible repeat (first | refine blk_drewN ?_ _ | refine blk_drew ?_ | refine blk_alloc ?_ _)); exact BK365.out) hb); have n1_ := am_ (below_step (by repeat (first | (with_reducible first | exact HB.out | apply b3_ | apply b1_ | apply b2_ | refine below_set ?_ GE365.out) | exact HB.out)) hb); have n2_ := am_ (hbox); have n3_ := am_ ((by rw [hg]; exact (below_size (by repeat (first | (with_reducible first | exact HB.out | apply b3_ | apply b1_ | apply b2_ | refine below_set ?_ GE365.out) | exact HB.out))) : w.heap.size ≤ gb366)); have n4_ := am_ ((by rw [hg]; exact (below_size (by repeat (first | (with_reducible first | exact HB.out | apply b3_ | apply b1_ | apply b2_ | refine below_set ?_ GE365.out) | exact HB.out))) : w.heap.size ≤ gb366)); have n5_ := am_ ((by rw [hg]; exact Nat.ne_of_lt (blk_lt (g := gb365) (o := .cells #[.int .i64 a0_0, .slice A0_1 l0_1.length c0_1, .slice A0_2 l0_2.length c0_2] 129 (0, 0)) (by (with_reducible repeat (first | refine blk_drewN ?_ _ | refine blk_drew ?_ | refine blk_alloc ?_ _)); exact BK365.out)) : gb365 ≠ gb366)); have n6_ := am_ ((by rw [hg]; exact Nat.ne_of_gt (blk_lt (g := gb365) (o := .cells #[.int .i64 a0_0, .slice A0_1 l0_1.length c0_1, .slice A0_2 l0_2.length c0_2] 129 (0, 0)) (by (with_reducible repeat (first | refine blk_drewN ?_ _ | refine blk_drew ?_ | refine blk_alloc ?_ _)); exact BK365.out)) : gb366 ≠ gb365)); clear BK365; clear HB; have BK365 := n0_; have HB := n1_; have BK366 := n2_; have GW366 := n3_; have GE366 := n4_; have NB365_366 := n5_; have NB366_365 := n6_; clear n0_ n1_ n2_ n3_ n4_ n5_ n6_; clear hb hbox hg; have hnb19 := NB365_366.out; have hnc19 := NB366_365.out; have hcz20_0 : w18.cell? ⟨gb365, 0, none⟩ = some (.int .i64 a0_0) := (blk_cell BK365.out 0).trans rfl; have hcz20_1 : w18.cell? ⟨gb365, 1, none⟩ = some (.slice A0_1 l0_1.length c0_1) := (blk_cell BK365.out 1).trans rfl; have hcz20_2 : w18.cell? ⟨gb365, 2, none⟩ = some (.slice A0_2 l0_2.length c0_2) := (blk_cell BK365.out 2).trans rfl; have hfz20_0 := blk_frozen BK365.out 0; have hfz20_1 := blk_frozen BK365.out 1; have hfz20_2 := blk_frozen BK365.out 2; have hcz21_0 : w18.cell? ⟨gb366, 0, none⟩ = some (.int .i64 a1_0) := (blk_cell BK366.out 0).trans rfl; have hcz21_1 : w18.cell? ⟨gb366, 1, none⟩ = some (.slice A1_1 l1_1.length c1_1) := (blk_cell BK366.out 1).trans rfl; have hcz21_2 : w18.cell? ⟨gb366, 2, none⟩ = some (.slice A1_2 l1_2.length c1_2) := (blk_cell BK366.out 2).trans rfl; have hfz21_0 := blk_frozen BK366.out 0; have hfz21_1 := blk_frozen BK366.out 1; have hfz21_2 := blk_frozen BK366.out 2))
  go_ret
  exact ⟨by first | rfl | (simp [errW_none, errW_some] <;> rfl) | (simp [*, errW_none, errW_some] <;> rfl), by repeat (first | (with_reducible first | exact HB.out | apply b3_ | apply b1_ | apply b2_ | refine below_set ?_ GE365.out | refine below_set ?_ GE366.out) | exact HB.out)⟩
def api_WordChange.eqL : List ByteArray → List ByteArray → Bool
  | [], [] => true
  | x :: a, y :: b => decide (x.toList = y.toList) && api_WordChange.eqL a b
  | _, _ => false
theorem api_WordChange.eqL_ne : ∀ a b : List ByteArray, ¬ a.length = b.length → api_WordChange.eqL a b = false
  | [], [], h => absurd rfl h
  | [], _ :: _, _ => rfl
  | _ :: _, [], _ => rfl
  | x :: a, y :: b, h => by
    simp only [api_WordChange.eqL, api_WordChange.eqL_ne a b (fun e => h (by rw [List.length_cons, List.length_cons, e])), Bool.and_false]
theorem api_WordChange.eqL_loop (a b : List ByteArray) (hl : a.length = b.length) (hm : a.length ≤ 9223372036854775807) (d : Nat) : ∀ j : Nat, a.length - j ≤ d → j ≤ a.length → Ev (fun k => slices_Equal_string_string.l0 k a b (a.length : Int) (j : Int)) (api_WordChange.eqL (a.drop j) (b.drop j)) := by
  have stop : ∀ j : Nat, ¬ j < a.length → Ev (fun k => slices_Equal_string_string.l0 k a b (a.length : Int) (j : Int)) (api_WordChange.eqL (a.drop j) (b.drop j)) := fun j hj => by
    rw [List.drop_eq_nil_of_le (by omega), List.drop_eq_nil_of_le (by omega)]
    exact Ev.step (fun _ => slices_Equal_string_string.l0.eq_2 ..) (ev_neg (by omega) (Ev.now _))
  induction d with
  | zero => exact fun j h1 h2 => stop j (by omega)
  | succ d ih =>
    intro j h1 h2
    by_cases hj : j < a.length
    · have hw : wrap64 ((j : Int) + 1) = ((j + 1 : Nat) : Int) := by rw [wr64 (by omega) (by omega)]; omega
      have e1 : rdOf ByteArray.empty a (j : Int) = a[j] := by simp [rdOf, List.getD, hj]
      have e2 : rdOf ByteArray.empty b (j : Int) = b[j] := by simp [rdOf, List.getD, show j < b.length from hl ▸ hj]
      refine Ev.step (fun _ => slices_Equal_string_string.l0.eq_2 ..) (ev_pos (by omega) (ev_pos (by omega) (ev_pos (by omega) (ev_pos (by omega) ?_))))
      rw [e1, e2, hw, List.drop_eq_getElem_cons hj, List.drop_eq_getElem_cons (show j < b.length from hl ▸ hj)]
      simp only [api_WordChange.eqL]
      by_cases e : a[j].toList = b[j].toList
      · rw [decide_eq_true e, Bool.true_and]
        exact ev_pos e (ih (j + 1) (by omega) (by omega))
      · rw [decide_eq_false e, Bool.false_and]
        exact ev_neg e (Ev.now _)
    · exact stop j hj
theorem api_WordChange.eqL_ev (a b : List ByteArray) (hm : a.length ≤ 9223372036854775807) : Ev (fun k => slices_Equal_string_string.f k a b) (api_WordChange.eqL a b) := by
  refine Ev.congr (fun _ => slices_Equal_string_string.f.eq_1 ..) ?_
  by_cases hl : a.length = b.length
  · refine ev_pos (by omega) ?_
    have := api_WordChange.eqL_loop a b hl hm _ 0 (Nat.le_refl _) (Nat.zero_le _)
    rw [List.drop_zero, List.drop_zero] at this
    exact this
  · rw [api_WordChange.eqL_ne a b hl]
    exact ev_neg (by omega) (Ev.now _)
def api_WordChange.eqW (x y : S129) : Bool := decide (x.f0 = y.f0) && (api_WordChange.eqL x.f1 y.f1 && api_WordChange.eqL x.f2 y.f2)
theorem api_WordChange.same_ev (x y : S129) (h1 : x.f1.length ≤ 9223372036854775807) (h2 : x.f2.length ≤ 9223372036854775807) : Ev (fun k => chaseref1_SameChanges_1.f k x.f0 x.f1 x.f2 y.f0 y.f1 y.f2) (api_WordChange.eqW x y) := by
  refine Ev.congr (fun _ => chaseref1_SameChanges_1.f.eq_1 ..) ?_
  unfold api_WordChange.eqW
  by_cases e : x.f0 = y.f0
  · rw [decide_eq_true e, Bool.true_and]
    refine ev_pos e (Ev.bind (api_WordChange.eqL_ev _ _ h1) ?_)
    cases api_WordChange.eqL x.f1 y.f1 with
    | false => exact ev_neg (by decide) (Ev.now _)
    | true => exact ev_pos rfl (Ev.bind (api_WordChange.eqL_ev _ _ h2) (Ev.now _))
  · rw [decide_eq_false e, Bool.false_and]
    exact ev_neg e (Ev.now _)
def api_WordChange.eqC : List S129 → List S129 → Bool
  | [], [] => true
  | x :: a, y :: b => api_WordChange.eqW x y && api_WordChange.eqC a b
  | _, _ => false
theorem api_WordChange.eqC_ne : ∀ a b : List S129, ¬ a.length = b.length → api_WordChange.eqC a b = false
  | [], [], h => absurd rfl h
  | [], _ :: _, _ => rfl
  | _ :: _, [], _ => rfl
  | x :: a, y :: b, h => by
    simp only [api_WordChange.eqC, api_WordChange.eqC_ne a b (fun e => h (by rw [List.length_cons, List.length_cons, e])), Bool.and_false]
def api_WordChange.f (l0 : List (S129)) (l1 : List (S129)) (a2 : Nat) : Option (Bool) := if a2 = 123 then (some (api_WordChange.eqC l0 l1)) else (none)
set_option maxHeartbeats 8000000 in
set_option maxRecDepth 100000 in
theorem api_WordChange.calls (A0 : Option Addr) (c0 : Nat) (l0 : List (S129)) (A1 : Option Addr) (c1 : Nat) (l1 : List (S129)) (a2 : Nat) (r : Bool) (w : World) (hr0 : Kd.C k129 w A0 l0.length l0) (hc0 : l0.length ≤ c0) (hr1 : Kd.C k129 w A1 l1.length l1) (hc1 : l1.length ≤ c1) (h : api_WordChange.f l0 l1 a2 = some r) :
    Calls Tryd.prog 122 #[.slice A0 l0.length c0, .slice A1 l1.length c1, .func (.func a2) #[] #[]] w fun e w' => e = .returned (.bool r) ∧ Below w.heap.size w w' := by
  unfold api_WordChange.f at h
  by_cases h1 : a2 = 123
  · rw [if_pos h1] at h
    subst h1
    have hm0 := Kd.C_max hr0
    have hm1 := Kd.C_max hr1
    have HR0 := am_ hr0; have HR1 := am_ hr1
    obtain rfl := Option.some.inj h
    clear hr0 hr1 hc0 hc1 h
    by_cases hl : l0.length = l1.length
    · have H : Aside0 (api_WordChange.eqC (l0.drop 0) (l1.drop 0) = api_WordChange.eqC l0 l1) := ⟨by rw [List.drop_zero, List.drop_zero]⟩
      have HB := am_ (Below.refl w.heap.size w)
      have hne : ((l0.length : Int) != (l1.length : Int)) = false := by rw [hl]; exact bne_self_eq_false _
      have HL := am_ hl; clear hl
      generalize api_WordChange.eqC l0 l1 = r at *
      go_enter Tryd.func122, Tryd.ntmps122
      go_wp2
      go_loopw [17] (fun i wr => ∃ j : Nat, i = .int .i64 j ∧ Aside0 (j ≤ l0.length) ∧ Aside0 (Kd.C k129 wr A0 l0.length l0) ∧ Aside0 (Kd.C k129 wr A1 l1.length l1) ∧ Aside0 (Below w.heap.size w wr) ∧ Aside0 (api_WordChange.eqC (l0.drop j) (l1.drop j) = r)) (fun i _ => l0.length - (intOf i).toNat)
      case atStart => exact ⟨0, rfl, ⟨Nat.zero_le _⟩, HR0, HR1, HB, H⟩
      case round =>
        obtain ⟨j, rfl, HJ, HC0, HC1, HBw, HE⟩ := hrel; clear HR0 HR1 HB H
        by_cases hlt : j < l0.length
        · obtain ⟨ad, A01, c01, A02, c02, eA, hx0, hx1, hx2, hk1, hg1, hk2, hg2⟩ := at_T129 HC0.out (j : Int) (by omega) (by omega)
          cases eA
          simp only [Int.toNat_natCast] at hx0 hx1 hx2
          have HCa := Kd.C_alloc HC1.out (.cells #[.int .i64 (rd_T129 l0 j).f0, .slice A01 (rd_T129 l0 j).f1.length c01, .slice A02 (rd_T129 l0 j).f2.length c02] 129)
          obtain ⟨ad1, A11, c11, A12, c12, eA, hy0, hy1, hy2, hk3, hg3, hk4, hg4⟩ := at_T129 HCa (j : Int) (by omega) (by have := HL.out; omega)
          cases eA
          simp only [Int.toNat_natCast] at hy0 hy1 hy2
          have hd0 : l0.drop j = rd_T129 l0 j :: l0.drop (j + 1) := by
            rw [List.drop_eq_getElem_cons hlt]
            simp [rd_T129, List.getD_eq_getElem?_getD, List.getElem?_eq_getElem hlt]
          have hlt1 : j < l1.length := by have := HL.out; omega
          have hd1 : l1.drop j = rd_T129 l1 j :: l1.drop (j + 1) := by
            rw [List.drop_eq_getElem_cons hlt1]
            simp [rd_T129, List.getD_eq_getElem?_getD, List.getElem?_eq_getElem hlt1]
          have h4 := HE.out
          rw [hd0, hd1] at h4
          simp only [api_WordChange.eqC] at h4
          clear hd0 hd1 HE
          generalize rd_T129 l0 j = x at *
          generalize rd_T129 l1 j = y at *
          obtain ⟨K, hK⟩ := (api_WordChange.same_ev x y (Kd.C_max hg1) (Kd.C_max hg2)).rounds
          have H4 := am_ h4
          have HD1 := fun (o : Obj) => Kd.C_alloc (Kd.C_alloc hg1 (.cells #[.int .i64 x.f0, .slice A01 x.f1.length c01, .slice A02 x.f2.length c02] 129)) o
          have HD2 := fun (o : Obj) => Kd.C_alloc (Kd.C_alloc hg2 (.cells #[.int .i64 x.f0, .slice A01 x.f1.length c01, .slice A02 x.f2.length c02] 129)) o
          have HD3 := fun (o : Obj) => Kd.C_alloc hg3 o
          have HD4 := fun (o : Obj) => Kd.C_alloc hg4 o
          have HK : Aside0 (∀ o, Calls Tryd.prog 123 _ _ _) := ⟨fun o => chaseref1_SameChanges_1.calls K x.f0 A01 c01 x.f1 A02 c02 x.f2 y.f0 A11 c11 y.f1 A12 c12 y.f2 (api_WordChange.eqW x y) ((wr.alloc (.cells #[.int .i64 x.f0, .slice A01 x.f1.length c01, .slice A02 x.f2.length c02] 129)).alloc o) (HD1 o) hk1 (HD2 o) hk2 (HD3 o) hk3 (HD4 o) hk4 hK⟩
          have HB2 : Aside0 (∀ o, Below w.heap.size w ((wr.alloc (.cells #[.int .i64 x.f0, .slice A01 x.f1.length c01, .slice A02 x.f2.length c02] 129)).alloc o)) := ⟨fun o => (HBw.out.alloc HBw.out.size _).alloc (HBw.out.alloc HBw.out.size _).size _⟩
          have HCC0 : Aside0 (∀ o w', Below ((wr.alloc (.cells #[.int .i64 x.f0, .slice A01 x.f1.length c01, .slice A02 x.f2.length c02] 129)).alloc o).heap.size ((wr.alloc (.cells #[.int .i64 x.f0, .slice A01 x.f1.length c01, .slice A02 x.f2.length c02] 129)).alloc o) w' → Kd.C k129 w' (some ad) l0.length l0) := ⟨fun o w' hb => Kd.C_below (Kd.C_alloc (Kd.C_alloc HC0.out _) _) hb⟩
          have HCC1 : Aside0 (∀ o w', Below ((wr.alloc (.cells #[.int .i64 x.f0, .slice A01 x.f1.length c01, .slice A02 x.f2.length c02] 129)).alloc o).heap.size ((wr.alloc (.cells #[.int .i64 x.f0, .slice A01 x.f1.length c01, .slice A02 x.f2.length c02] 129)).alloc o) w' → Kd.C k129 w' (some ad1) l1.length l1) := ⟨fun o w' hb => Kd.C_below (Kd.C_alloc (Kd.C_alloc HC1.out _) _) hb⟩
          clear h4 hK hg1 hg2 hg3 hg4 hk1 hk2 hk3 hk4 HCa HD1 HD2 HD3 HD4 HC0 HC1
          have hw : wrap64 ((j : Int) + 1) = ((j + 1 : Nat) : Int) := by unfold wrap64; omega
          cases hq : api_WordChange.eqW x y with
          | true =>
            have H6 := H4.out
            rw [hq, Bool.true_and] at H6
            have H7 := am_ H6
            rw [hq] at HK
            clear H6 hq H4
            go_wp2_with (go_at_call 123; refine (HK.out _).mono ?_; rintro e w1 ⟨rfl, hb1⟩)
            go_roundw
            case rel => exact ⟨j + 1, by go_num, ⟨by omega⟩, ⟨HCC0.out _ _ hb1⟩, ⟨HCC1.out _ _ hb1⟩, ⟨below_step (HB2.out _) hb1⟩, H7⟩
            case measure => simp [intOf]; omega
          | false =>
            have H6 := H4.out
            rw [hq, Bool.false_and] at H6
            subst H6
            rw [hq] at HK
            clear hq H4
            go_wp2_with (go_at_call 123; refine (HK.out _).mono ?_; rintro e w1 ⟨rfl, hb1⟩)
            go_ret
            exact ⟨rfl, below_step (HB2.out _) hb1⟩
        · obtain rfl : j = l0.length := by have := HJ.out; omega
          have h4 := HE.out
          rw [List.drop_eq_nil_of_le (Nat.le_refl _), List.drop_eq_nil_of_le (by have := HL.out; omega)] at h4
          simp only [api_WordChange.eqC] at h4
          subst h4; clear HC0 HC1 HE
          go_wp2
          go_ret
          exact ⟨rfl, HBw.out⟩
    · rw [api_WordChange.eqC_ne _ _ hl]
      have hne : ((l0.length : Int) != (l1.length : Int)) = true := bne_iff_ne.mpr (by omega)
      have HB := Below.refl w.heap.size w
      clear hl HR0 HR1
      go_enter Tryd.func122, Tryd.ntmps122
      go_wp2
      go_ret
      exact ⟨rfl, HB⟩
  · rw [if_neg h1] at h
    exact absurd h (by simp)
def chaseref1_SameChanges.f (l0 : List (S129)) (l1 : List (S129)) : Option (Bool) := (api_WordChange.f l0 l1 123).bind fun t369 => (some t369)
set_option maxHeartbeats 8000000 in
set_option maxRecDepth 100000 in
theorem chaseref1_SameChanges.calls (A0 : Option Addr) (c0 : Nat) (l0 : List (S129)) (A1 : Option Addr) (c1 : Nat) (l1 : List (S129)) (r : Bool) (w : World) (hr0 : Kd.C k129 w A0 l0.length l0) (hc0 : l0.length ≤ c0) (hr1 : Kd.C k129 w A1 l1.length l1) (hc1 : l1.length ≤ c1) (h : chaseref1_SameChanges.f l0 l1 = some r) :
  Calls Tryd.prog 63 #[.slice A0 l0.length c0, .slice A1 l1.length c1] w fun e w' => e = .returned (.bool r) ∧ Below w.heap.size w w' := by
 have HR0 := am_ hr0; have HC0 := am_ hc0; clear hr0 hc0; have HR1 := am_ hr1; have HC1 := am_ hc1; clear hr1 hc1
 have HB := am_ (Below.refl w.heap.size w)
 have H : ((api_WordChange.f l0 l1 123).bind fun t369 => (some t369)) = some r := h
 clear h; replace H := Option.bind_eq_some_iff.mp H; obtain ⟨t369, A30, H⟩ := H
 replace H : (some t369) = some r := H
 have A3 := am_ A30; clear A30
 obtain rfl := Option.some.inj H
 go_enter Tryd.func63, Tryd.ntmps63
 go_wp2_with (first | ((with_reducible refine gate_callee (f := 122) rfl ?_); refine goesL_ (some 7) rfl rfl Tryd.func122 (by kernel_rfl) rfl #[.slice A0 l0.length c0, .slice A1 l1.length c1, .func (.func 123) #[] #[]] rfl (by (try simp only [m1_, m2_, m3_]); first | done | rfl | (simp only [List.length_drop, List.length_take]; rfl)) ?_; (with_reducible refine (api_WordChange.calls _ _ l0 _ _ l1 123 t369 _ ?side1 ?side2 ?side3 ?side4 A3.out).mono ?_); (case side1 => repeat (first | exact HR0.out | (with_reducible refine Kd.C_alloc ?_ _) | (with_reducible refine Kd.C_drewN ?_ _) | (with_reducible refine Kd.C_drew ?_))); (case side2 => exact HC0.out); (case side3 => repeat (first | exact HR1.out | (with_reducible refine Kd.C_alloc ?_ _) | (with_reducible refine Kd.C_drewN ?_ _) | (with_reducible refine Kd.C_drew ?_))); (case side4 => exact HC1.out); rintro e w4 ⟨rfl, hb⟩; refine ⟨_, rfl, ?_⟩; have n0_ := am_ (below_step (by repeat (first | (with_reducible first | exact HB.out | apply b3_ | apply b1_ | apply b2_) | exact HB.out)) hb); clear HB; have HB := n0_; clear n0_; (try clear hb); (try clear hb2); (try clear hk); (try clear hi)))
 go_ret
 exact ⟨by first | rfl | (simp [errW_none, errW_some] <;> rfl) | (simp [*, errW_none, errW_some] <;> rfl), by repeat (first | (with_reducible first | exact HB.out | apply b3_ | apply b1_ | apply b2_) | exact HB.out)⟩
mutual
def chaseref1_DifferOf.l0 : Nat → List ByteArray → List ByteArray → List (S129) → Int → Int → List (S132) → Int → Int → Option ((List (S129)))
  | 0, _, _, _, _, _, _, _, _ => none
  | k + 1, x5, x6, x7, x8, x9, x25, x26, x27 => if x27 < x26 then (if 0 ≤ x27 then (if x27 < (x25.length : Int) then (if ((rd_T132 x25 x27).f0) > x8 then (chaseref1_DifferOf.j1 k x5 x6 x7 x8 x9 x25 x26 x27 true ((rd_T132 x25 x27).f0) ((rd_T132 x25 x27).f1)) else (chaseref1_DifferOf.j1 k x5 x6 x7 x8 x9 x25 x26 x27 (decide (((rd_T132 x25 x27).f1) > x9)) ((rd_T132 x25 x27).f0) ((rd_T132 x25 x27).f1))) else (none)) else (none)) else (some x7)
def chaseref1_DifferOf.j1 : Nat → List ByteArray → List ByteArray → List (S129) → Int → Int → List (S132) → Int → Int → Bool → Int → Int → Option ((List (S129)))
  | 0, _, _, _, _, _, _, _, _, _, _, _ => none
  | k + 1, x5, x6, x7, x8, x9, x25, x26, x27, x40, x384000, x384001 => if x40 = true then (if 0 ≤ x8 then (if x8 ≤ x384000 then (if x384000 ≤ (x5.length : Int) then ((slices_Clone_string_string.f ((x5.take (x384000 : Int).toNat).drop (x8 : Int).toNat)).bind fun t388 => (if 0 ≤ x9 then (if x9 ≤ x384001 then (if x384001 ≤ (x6.length : Int) then ((slices_Clone_string_string.f ((x6.take (x384001 : Int).toNat).drop (x9 : Int).toNat)).bind fun t395 => (if x7.length < 2513169434916 then (chaseref1_DifferOf.l0 k x5 x6 (x7 ++ [(⟨x8, t388, t395⟩ : S129)]) (wrap64 (x384000 + 1)) (wrap64 (x384001 + 1)) x25 x26 (wrap64 (x27 + 1))) else (none))) else (none)) else (none)) else (none))) else (none)) else (none)) else (none)) else (chaseref1_DifferOf.l0 k x5 x6 x7 (wrap64 (x384000 + 1)) (wrap64 (x384001 + 1)) x25 x26 (wrap64 (x27 + 1)))
end
def chaseref1_DifferOf.f (k : Nat) (a0 : ByteArray) (a1 : ByteArray) : Option ((List (S129))) := (chaseref1_TokensOf.f k a0).bind fun t370 => ((chaseref1_TokensOf.f k a1).bind fun t373 => ((chaseref1_keptOf.f k t370 t373).bind fun t376 => (if t376.length < 8796093022208 then ((some (t376 ++ [(⟨(t370.length : Int), (t373.length : Int)⟩ : S132)] : List (S132))).bind fun y379 => (chaseref1_DifferOf.l0 k t370 t373 ([] : List (S129)) 0 0 y379 (y379.length : Int) 0)) else (none))))
theorem chaseref1_DifferOf.mono_l : ∀ k, (∀ y0 y1 y2 y3 y4 y5 y6 y7, LeO (chaseref1_DifferOf.l0 k y0 y1 y2 y3 y4 y5 y6 y7) (chaseref1_DifferOf.l0 (k + 1) y0 y1 y2 y3 y4 y5 y6 y7)) ∧ (∀ y0 y1 y2 y3 y4 y5 y6 y7 y8 y9 y10, LeO (chaseref1_DifferOf.j1 k y0 y1 y2 y3 y4 y5 y6 y7 y8 y9 y10) (chaseref1_DifferOf.j1 (k + 1) y0 y1 y2 y3 y4 y5 y6 y7 y8 y9 y10))
  | 0 => ⟨fun _ _ _ _ _ _ _ _ r h => by simp [chaseref1_DifferOf.l0] at h, fun _ _ _ _ _ _ _ _ _ _ _ r h => by simp [chaseref1_DifferOf.j1] at h⟩
  | k + 1 => by
    obtain ⟨ih0, ih1⟩ := chaseref1_DifferOf.mono_l k
    refine ⟨?_, ?_⟩
    · intro y0 y1 y2 y3 y4 y5 y6 y7
      unfold chaseref1_DifferOf.l0
      repeat' first
      | (with_reducible exact ih0 _ _ _ _ _ _ _ _)
      | (with_reducible exact ih1 _ _ _ _ _ _ _ _ _ _ _)
      | (with_reducible exact chaseref1_TokensOf.mono _ _)
      | (with_reducible exact chaseref1_keptOf.mono _ _ _)
      | (with_reducible exact LeO.refl _)
      | (with_reducible exact LeO.none _)
      | (with_reducible refine LeO.ite ?_ ?_)
      | (with_reducible refine LeO.bind ?_ (fun _ => ?_))
      | exact ih0 _ _ _ _ _ _ _ _
      | exact ih1 _ _ _ _ _ _ _ _ _ _ _
      | exact LeO.none _
      | refine LeO.ite ?_ ?_
      | refine LeO.bind ?_ (fun _ => ?_)
    · intro y0 y1 y2 y3 y4 y5 y6 y7 y8 y9 y10
      unfold chaseref1_DifferOf.j1
      repeat' first
      | (with_reducible exact ih0 _ _ _ _ _ _ _ _)
      | (with_reducible exact ih1 _ _ _ _ _ _ _ _ _ _ _)
      | (with_reducible exact chaseref1_TokensOf.mono _ _)
      | (with_reducible exact chaseref1_keptOf.mono _ _ _)
      | (with_reducible exact LeO.refl _)
      | (with_reducible exact LeO.none _)
      | (with_reducible refine LeO.ite ?_ ?_)
      | (with_reducible refine LeO.bind ?_ (fun _ => ?_))
      | exact ih0 _ _ _ _ _ _ _ _
      | exact ih1 _ _ _ _ _ _ _ _ _ _ _
      | exact LeO.none _
      | refine LeO.ite ?_ ?_
      | refine LeO.bind ?_ (fun _ => ?_)
theorem chaseref1_DifferOf.mono : ∀ a0 a1 k, LeO (chaseref1_DifferOf.f k a0 a1) (chaseref1_DifferOf.f (k + 1) a0 a1) := by
  intro a0 a1 k
  obtain ⟨ih0, ih1⟩ := chaseref1_DifferOf.mono_l k
  unfold chaseref1_DifferOf.f
  repeat' first
      | (with_reducible exact ih0 _ _ _ _ _ _ _ _)
      | (with_reducible exact ih1 _ _ _ _ _ _ _ _ _ _ _)
      | (with_reducible exact chaseref1_TokensOf.mono _ _)
      | (with_reducible exact chaseref1_keptOf.mono _ _ _)
      | (with_reducible exact LeO.refl _)
      | (with_reducible exact LeO.none _)
      | (with_reducible refine LeO.ite ?_ ?_)
      | (with_reducible refine LeO.bind ?_ (fun _ => ?_))
      | exact ih0 _ _ _ _ _ _ _ _
      | exact ih1 _ _ _ _ _ _ _ _ _ _ _
      | exact LeO.none _
      | refine LeO.ite ?_ ?_
      | refine LeO.bind ?_ (fun _ => ?_)
def chaseref1_DifferOf.T8 : Bool × List (List Nat × List Nat) := (true, [([], []), ([], []), ([], []), ([], []), ([], []), ([4], [4]), ([2, 3, 5], [2, 3, 5]), ([6], [6]), ([], []), ([], []), ([], []), ([10], [10]), ([8, 9, 11], [8, 9, 11]), ([12, 7], [12]), ([1, 7, 13], [1, 7, 13]), ([14], [14]), ([0, 15, 13], [0, 15]), ([16, 16, 0, 1, 2, 3, 4, 5, 6, 7, 8, 9, 10, 11, 12, 13, 14, 15, 16], [0, 16])])
def chaseref1_DifferOf.B8 : List Nat := [0, 0, 0, 0, 0, 16, 60, 124, 0, 0, 0, 1024, 3840, 8188, 16382, 32766, 65535, 131071]
theorem chaseref1_DifferOf.tab8 : rtab .any (opsOf Tryd.f64 8) = chaseref1_DifferOf.T8 := by kernel_rfl
theorem chaseref1_DifferOf.bits8 : waitsOk chaseref1_DifferOf.T8.2 chaseref1_DifferOf.B8 = true := by kernel_rfl
def chaseref1_DifferOf.T9 : Bool × List (List Nat × List Nat) := (true, [([], []), ([0], [0]), ([1], [1]), ([], []), ([3], [3]), ([4], [4]), ([2, 0, 1, 2], [2]), ([5, 6, 0, 1, 2, 3, 4, 5, 6], [5])])
def chaseref1_DifferOf.B9 : List Nat := [0, 1, 3, 0, 8, 24, 7, 127]
theorem chaseref1_DifferOf.tab9 : rtab .any (opsOf Tryd.f64 9) = chaseref1_DifferOf.T9 := by kernel_rfl
theorem chaseref1_DifferOf.bits9 : waitsOk chaseref1_DifferOf.T9.2 chaseref1_DifferOf.B9 = true := by kernel_rfl
abbrev chaseref1_DifferOf.D0 : Array Bool := #[false, false, false, false, false, false, false, false, false, false, false, false, false, false, false, false, false, false]
abbrev chaseref1_DifferOf.D1 : Array Bool := #[false, false, false, false, false, false, false, false]
abbrev chaseref1_DifferOf.D2 : Array Bool := #[true, false, false, false, false, false, false, false, false, false, false, false, false, false, false, false, false, false]
abbrev chaseref1_DifferOf.D3 : Array Bool := #[true, false, false, false, false, false, false, false]
abbrev chaseref1_DifferOf.D4 : Array Bool := #[true, false, false, true, false, false, false, false]
abbrev chaseref1_DifferOf.D5 : Array Bool := #[true, true, false, false, false, false, false, false, false, false, false, false, false, false, false, false, false, false]
abbrev chaseref1_DifferOf.D6 : Array Bool := #[true, true, false, true, false, false, false, false]
abbrev chaseref1_DifferOf.D7 : Array Bool := #[true, true, true, false, false, false, false, false, false, false, false, false, false, false, false, false, false, false]
abbrev chaseref1_DifferOf.D8 : Array Bool := #[true, true, true, true, false, false, false, false, false, false, false, false, false, false, false, false, false, false]
abbrev chaseref1_DifferOf.D9 : Array Bool := #[true, true, true, true, false, false, false, false]
abbrev chaseref1_DifferOf.D10 : Array Bool := #[true, true, true, true, false, false, true, false]
abbrev chaseref1_DifferOf.D11 : Array Bool := #[true, true, true, true, true, false, false, false, false, false, false, false, false, false, false, false, false, false]
abbrev chaseref1_DifferOf.D12 : Array Bool := #[true, true, true, true, true, false, false, false, true, false, false, false, false, false, false, false, false, false]
abbrev chaseref1_DifferOf.D13 : Array Bool := #[true, true, true, true, true, false, false, false, true, true, false, false, false, false, false, false, false, false]
abbrev chaseref1_DifferOf.D14 : Array Bool := #[true, true, true, true, true, false, false, false, true, true, true, false, false, false, false, false, false, false]
abbrev chaseref1_DifferOf.D15 : Array Bool := #[true, true, true, true, true, false, true, false]
abbrev chaseref1_DifferOf.D16 : Array Bool := #[true, true, true, true, true, true, false, false, true, true, true, false, false, false, false, false, false, false]
abbrev chaseref1_DifferOf.D17 : Array Bool := #[true, true, true, true, true, true, true, false, true, true, true, false, false, false, false, false, false, false]
abbrev chaseref1_DifferOf.D18 : Array Bool := #[true, true, true, true, true, true, true, false, true, true, true, true, false, false, false, false, false, false]
abbrev chaseref1_DifferOf.D19 : Array Bool := #[true, true, true, true, true, true, true, false, true, true, true, true, true, false, false, false, false, false]
abbrev chaseref1_DifferOf.D20 : Array Bool := #[true, true, true, true, true, true, true, false]
abbrev chaseref1_DifferOf.D21 : Array Bool := #[true, true, true, true, true, true, true, true, true, true, true, true, true, false, false, false, false, false]
abbrev chaseref1_DifferOf.D22 : Array Bool := #[true, true, true, true, true, true, true, true, true, true, true, true, true, true, false, false, false, false]
abbrev chaseref1_DifferOf.D23 : Array Bool := #[true, true, true, true, true, true, true, true, true, true, true, true, true, true, true, false, false, false]
abbrev chaseref1_DifferOf.D24 : Array Bool := #[true, true, true, true, true, true, true, true, true, true, true, true, true, true, true, true, false, false]
abbrev chaseref1_DifferOf.D25 : Array Bool := #[true, true, true, true, true, true, true, true, true, true, true, true, true, true, true, true, true, false]
abbrev chaseref1_DifferOf.D26 : Array Bool := #[true, true, true, true, true, true, true, true, true, true, true, true, true, true, true, true, true, true]
abbrev chaseref1_DifferOf.D27 : Array Bool := #[true, true, true, true, true, true, true, true]
end Go.Proofs.YtbamfhcifpfocaaDoor.Pw
