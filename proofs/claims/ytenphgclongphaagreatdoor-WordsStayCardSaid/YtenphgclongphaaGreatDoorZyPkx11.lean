/- A part of the proof of wordsStay. No conditions. Laid by program over the kit's print and words. -/
import Derived.Test.YtenphgclongphaaGreatDoorZyPkx0
import Derived.Test.YtenphgclongphaaGreatDoorZyPkx1
import Derived.Test.YtenphgclongphaaGreatDoorZyPkx5
import Derived.Test.YtenphgclongphaaGreatDoorZyPkx6
import Derived.Test.YtenphgclongphaaGreatDoorZyPkx7
import Derived.Test.YtenphgclongphaaGreatDoorZyPkx8
import Derived.Test.YtenphgclongphaaGreatDoorZyPkx10
namespace Go.Proofs.YtenphgclongphaaGreatDoor.Pk
open Go.RowKit Go.Proofs.YtenphgclongphaaGreatDoor.GBase Go.Proofs.YtenphgclongphaaGreatDoorW.PrintWords Go.Proofs.YtenphgclongphaaGreatDoorW.PrintLast Go.Proofs.YtenphgclongphaaGreatDoorW.PrintMore
attribute [local go_sem] str_leq max2_int min2_int max_two min_two max_three min_three max_four min_four
set_option linter.unusedVariables false
set_option linter.unusedSimpArgs false
set_option maxHeartbeats 8000000 in
set_option maxRecDepth 100000 in
theorem near_Shingles.calls (k : Nat) (a0 : ByteArray) (a1 : Int) (r1 : List ByteArray) (r2 : Int) (w : World) (h : near_Shingles.f k a0 a1 = some (r1, r2)) :
  Calls Tryz.prog 29 #[.string a0, .int .i64 a1] w fun e w' => ∃ v0_ : Value, e = .returned (.tuple #[v0_, .int .i64 r2]) ∧ Kd.R Kd.string 9 w' w.heap.size (fun _ => True) v0_ r1 ∧ Below w.heap.size w w' := by
 have HB := am_ (Below.refl w.heap.size w)
 have H : ((near_large.f a0).bind fun t380 => ((near_kError.f a1).bind fun t381 => ((base_First.f k (([t380, t381] : List Int))).bind fun t385 => (if t385 = 0 then ((near_shingles.f k a0 a1).bind fun t386 => (some (t386, 0))) else (some (([] : List ByteArray), t385)))))) = some (r1, r2) := h
 clear h; replace H := Option.bind_eq_some_iff.mp H; obtain ⟨t380, A30, H⟩ := H; have A3 := am_ A30; clear A30; replace H := Option.bind_eq_some_iff.mp H; obtain ⟨t381, A40, H⟩ := H; have A4 := am_ A40; clear A40
 obtain ⟨y382, hy382⟩ : ∃ y_ : List Int, y_ = (([t380, t381] : List Int)) := ⟨_, rfl⟩
 replace H : ((base_First.f k y382).bind fun t385 => (if t385 = 0 then ((near_shingles.f k a0 a1).bind fun t386 => (some (t386, 0))) else (some (([] : List ByteArray), t385)))) = some (r1, r2) := by first | (rw [hy382]; with_reducible exact H) | (have H2_ := (Option.bind_some _ _).symm.trans H; rw [hy382]; with_reducible exact H2_) | (have H2_ := (Option.bind_some _ _).symm.trans H; with_reducible exact H2_) | with_reducible exact H | (rw [hy382]; exact H) | exact H
 have Ny382 := am_ hy382; clear hy382; replace H := Option.bind_eq_some_iff.mp H; obtain ⟨t385, A50, H⟩ := H; have A5 := am_ A50; clear A50
 by_cases c6 : t385 = 0
 ·rw [if_pos c6] at H
  have c6b0 : (t385 == 0) = true := beq_iff_eq.mpr c6
  have c6b1 : (t385 != 0) = false := bne_eq_false_iff_eq.mpr c6
  clear c6; replace H := Option.bind_eq_some_iff.mp H; obtain ⟨t386, A70, H⟩ := H
  replace H : (some (t386, 0)) = some (r1, r2) := H
  have A7 := am_ A70; clear A70
  simp only [Option.some.injEq, Prod.mk.injEq] at H
  obtain ⟨rfl, rfl⟩ := H
  go_enter Tryz.func29, Tryz.ntmps29
  go_wp2_with (first | ((with_reducible refine gate_callee (f := 26) rfl ?_); refine goesL_ (some 8) rfl rfl Tryz.func26 (by kernel_rfl) rfl #[.string a0] rfl (by (try simp only [m1_, m2_, m3_]); first | done | rfl | (simp only [List.length_drop, List.length_take]; rfl)) ?_; (with_reducible refine (near_large.calls a0 t380 _ A3.out).mono ?_); rintro e w' ⟨rfl, ⟨nd, rfl⟩⟩; refine ⟨_, rfl, ?_⟩) | ((with_reducible refine gate_callee (f := 22) rfl ?_); refine goesL_ (some 10) rfl rfl Tryz.func22 (by kernel_rfl) rfl #[.int .i64 a1] rfl (by (try simp only [m1_, m2_, m3_]); first | done | rfl | (simp only [List.length_drop, List.length_take]; rfl)) ?_; (with_reducible refine (near_kError.calls a1 t381 _ A4.out).mono ?_); rintro e w' ⟨rfl, ⟨nd, rfl⟩⟩; refine ⟨_, rfl, ?_⟩) | ((with_reducible refine gate_dst (N := 11) rfl ?_); refine Kd.R_lit (Kd.int .i64) _ 29 ?hg (N := 11) ?hd (xs := ([t380, t381] : List Int)) (inner := [.int .i64 t380, .int .i64 t381]) (ok := fun _ => True) (okp := fun _ => True) ?hr ?hp (fun _ hk => hk) trivial (Below.refl _ _) (Nat.le_refl _) (by simp) ?_; (case hd => rfl); (case hg => rfl); (case hr => first | (go_simp; done) | (go_simp; rfl)); (case hp => exact (Reps.one (show Kd.M (Kd.int .i64) _ _ _ t380 [.int .i64 t380] from rfl) (Reps.one (show Kd.M (Kd.int .i64) _ _ _ t381 [.int .i64 t381] from rfl) (Reps.none _ _)))); intro v383 w8 ho9 hb hg_ hnew_; clear hg_ hnew_; (first | rw [← Ny382.out] at ho9 | (simp only [Int.reduceToNat] at ho9; rw [← Ny382.out] at ho9)); have n0_ := am_ (Kd.R_lower ho9 (below_size (by repeat (first | (with_reducible first | exact HB.out | apply b3_ | apply b1_ | apply b2_) | exact HB.out)))); have n1_ := am_ (below_step (by repeat (first | (with_reducible first | exact HB.out | apply b3_ | apply b1_ | apply b2_) | exact HB.out)) hb); clear HB; have HO384 := n0_; have HB := n1_; clear n0_ n1_; clear hb ho9; obtain ⟨Ao10, co10, eo10⟩ := Kd.R_slice HO384.out; subst eo10) | ((with_reducible refine gate_callee (f := 23) rfl ?_); refine goesL_ (some 12) rfl rfl Tryz.func23 (by kernel_rfl) rfl #[.slice Ao10 y382.length co10] rfl (by (try simp only [m1_, m2_, m3_]); first | done | rfl | (simp only [List.length_drop, List.length_take]; rfl)) ?_; (with_reducible refine (base_First.calls k _ _ y382 t385 _ ?side1 ?side2 A5.out).mono ?_); (case side1 => repeat (first | exact (Kd.R_reads' HO384.out).2.2 | (with_reducible refine Kd.C_alloc ?_ _) | (with_reducible refine Kd.C_drewN ?_ _) | (with_reducible refine Kd.C_drew ?_))); (case side2 => exact (Kd.R_reads' HO384.out).2.1); rintro e w' ⟨rfl, ⟨nd, rfl⟩⟩; refine ⟨_, rfl, ?_⟩) | ((with_reducible refine gate_callee (f := 52) rfl ?_); refine goesL_ (some 18) rfl rfl Tryz.func52 (by kernel_rfl) rfl #[.string a0, .int .i64 a1] rfl (by (try simp only [m1_, m2_, m3_]); first | done | rfl | (simp only [List.length_drop, List.length_take]; rfl)) ?_; (with_reducible refine (near_shingles.calls k a0 a1 t386 _ A7.out).mono ?_); rintro e w11 ⟨v387, rfl, ho0, hb⟩; refine ⟨_, rfl, ?_⟩; have n0_ := am_ (Kd.R_below (by (with_reducible repeat (first | apply r1_ | apply r2_ | apply r3_)); exact HO384.out) hb); have n1_ := am_ (Kd.R_lower ho0 (below_size (by repeat (first | (with_reducible first | exact HB.out | apply b3_ | apply b1_ | apply b2_) | exact HB.out)))); have n2_ := am_ (below_step (by repeat (first | (with_reducible first | exact HB.out | apply b3_ | apply b1_ | apply b2_) | exact HB.out)) hb); clear HO384; clear HB; have HO384 := n0_; have HO388 := n1_; have HB := n2_; clear n0_ n1_ n2_; (try clear hb); (try clear hb2); (try clear hk); (try clear hi); (try clear ho0)))
  go_ret2
  exact ⟨_, by first | rfl | (simp [errW_none, errW_some] <;> rfl) | (simp [*, errW_none, errW_some] <;> rfl), by (with_reducible repeat (first | apply r1_ | apply r2_ | apply r3_)); exact HO388.out, by repeat (first | (with_reducible first | exact HB.out | apply b3_ | apply b1_ | apply b2_) | exact HB.out)⟩
 ·rw [if_neg c6] at H
  have c6b0 : (t385 == 0) = false := beq_eq_false_iff_ne.mpr c6
  have c6b1 : (t385 != 0) = true := bne_iff_ne.mpr c6
  simp only [Option.some.injEq, Prod.mk.injEq] at H
  obtain ⟨rfl, rfl⟩ := H
  go_enter Tryz.func29, Tryz.ntmps29
  go_wp2_with (first | ((with_reducible refine gate_callee (f := 26) rfl ?_); refine goesL_ (some 8) rfl rfl Tryz.func26 (by kernel_rfl) rfl #[.string a0] rfl (by (try simp only [m1_, m2_, m3_]); first | done | rfl | (simp only [List.length_drop, List.length_take]; rfl)) ?_; (with_reducible refine (near_large.calls a0 t380 _ A3.out).mono ?_); rintro e w' ⟨rfl, ⟨nd, rfl⟩⟩; refine ⟨_, rfl, ?_⟩) | ((with_reducible refine gate_callee (f := 22) rfl ?_); refine goesL_ (some 10) rfl rfl Tryz.func22 (by kernel_rfl) rfl #[.int .i64 a1] rfl (by (try simp only [m1_, m2_, m3_]); first | done | rfl | (simp only [List.length_drop, List.length_take]; rfl)) ?_; (with_reducible refine (near_kError.calls a1 t381 _ A4.out).mono ?_); rintro e w' ⟨rfl, ⟨nd, rfl⟩⟩; refine ⟨_, rfl, ?_⟩) | ((with_reducible refine gate_dst (N := 11) rfl ?_); refine Kd.R_lit (Kd.int .i64) _ 29 ?hg (N := 11) ?hd (xs := ([t380, t381] : List Int)) (inner := [.int .i64 t380, .int .i64 t381]) (ok := fun _ => True) (okp := fun _ => True) ?hr ?hp (fun _ hk => hk) trivial (Below.refl _ _) (Nat.le_refl _) (by simp) ?_; (case hd => rfl); (case hg => rfl); (case hr => first | (go_simp; done) | (go_simp; rfl)); (case hp => exact (Reps.one (show Kd.M (Kd.int .i64) _ _ _ t380 [.int .i64 t380] from rfl) (Reps.one (show Kd.M (Kd.int .i64) _ _ _ t381 [.int .i64 t381] from rfl) (Reps.none _ _)))); intro v383 w12 ho13 hb hg_ hnew_; clear hg_ hnew_; (first | rw [← Ny382.out] at ho13 | (simp only [Int.reduceToNat] at ho13; rw [← Ny382.out] at ho13)); have n0_ := am_ (Kd.R_lower ho13 (below_size (by repeat (first | (with_reducible first | exact HB.out | apply b3_ | apply b1_ | apply b2_) | exact HB.out)))); have n1_ := am_ (below_step (by repeat (first | (with_reducible first | exact HB.out | apply b3_ | apply b1_ | apply b2_) | exact HB.out)) hb); clear HB; have HO384 := n0_; have HB := n1_; clear n0_ n1_; clear hb ho13; obtain ⟨Ao14, co14, eo14⟩ := Kd.R_slice HO384.out; subst eo14) | ((with_reducible refine gate_callee (f := 23) rfl ?_); refine goesL_ (some 12) rfl rfl Tryz.func23 (by kernel_rfl) rfl #[.slice Ao14 y382.length co14] rfl (by (try simp only [m1_, m2_, m3_]); first | done | rfl | (simp only [List.length_drop, List.length_take]; rfl)) ?_; (with_reducible refine (base_First.calls k _ _ y382 t385 _ ?side1 ?side2 A5.out).mono ?_); (case side1 => repeat (first | exact (Kd.R_reads' HO384.out).2.2 | (with_reducible refine Kd.C_alloc ?_ _) | (with_reducible refine Kd.C_drewN ?_ _) | (with_reducible refine Kd.C_drew ?_))); (case side2 => exact (Kd.R_reads' HO384.out).2.1); rintro e w' ⟨rfl, ⟨nd, rfl⟩⟩; refine ⟨_, rfl, ?_⟩))
  go_ret2
  exact ⟨_, by first | rfl | (simp [errW_none, errW_some] <;> rfl) | (simp [*, errW_none, errW_some] <;> rfl), by first | exact Kd.R_nil _ _ _ _ _ | exact Kd.N_nil _ _ _ _ _ | exact Kd.V_nil _ _ _ _ _ | exact Kd.Q_nil _ _ _ _ _ | exact Kd.S_nil _ _ _ _ _, by repeat (first | (with_reducible first | exact HB.out | apply b3_ | apply b1_ | apply b2_) | exact HB.out)⟩
def chasekeep1_nears.f (k : Nat)  : Option (Bool) := (near_Shingles.f k (⟨#[97, 32, 98, 32, 99]⟩ : ByteArray) 2).bind fun bt389 => (if bt389.2 = 0 then ((slices_Equal_string_string.f k bt389.1 (([(⟨#[97, 32, 98]⟩ : ByteArray), (⟨#[98, 32, 99]⟩ : ByteArray)] : List ByteArray))).bind fun t396 => (some t396)) else (some false))
theorem chasekeep1_nears.mono : ∀ k, LeO (chasekeep1_nears.f k ) (chasekeep1_nears.f (k + 1) ) := by
  intro  k
  unfold chasekeep1_nears.f
  repeat' first
      | (with_reducible exact near_Shingles.mono _ _ _)
      | (with_reducible exact slices_Equal_string_string.mono _ _ _)
      | (with_reducible exact LeO.refl _)
      | (with_reducible exact LeO.none _)
      | (with_reducible refine LeO.ite ?_ ?_)
      | (with_reducible refine LeO.bind ?_ (fun _ => ?_))
      | exact LeO.none _
      | refine LeO.ite ?_ ?_
      | refine LeO.bind ?_ (fun _ => ?_)
set_option maxHeartbeats 8000000 in
set_option maxRecDepth 100000 in
theorem chasekeep1_nears.calls (k : Nat)  (r : Bool) (w : World) (h : chasekeep1_nears.f k  = some r) :
  Calls Tryz.prog 10 #[] w fun e w' => e = .returned (.bool r) ∧ Below w.heap.size w w' := by
 have HB := am_ (Below.refl w.heap.size w)
 have H : ((near_Shingles.f k (⟨#[97, 32, 98, 32, 99]⟩ : ByteArray) 2).bind fun bt389 => (if bt389.2 = 0 then ((slices_Equal_string_string.f k bt389.1 (([(⟨#[97, 32, 98]⟩ : ByteArray), (⟨#[98, 32, 99]⟩ : ByteArray)] : List ByteArray))).bind fun t396 => (some t396)) else (some false))) = some r := h
 clear h; replace H := Option.bind_eq_some_iff.mp H
 obtain ⟨⟨t389, t390⟩, A10, H⟩ := H
 replace H : (if t390 = 0 then ((slices_Equal_string_string.f k t389 (([(⟨#[97, 32, 98]⟩ : ByteArray), (⟨#[98, 32, 99]⟩ : ByteArray)] : List ByteArray))).bind fun t396 => (some t396)) else (some false)) = some r := H
 have A1 := am_ A10; clear A10
 by_cases c2 : t390 = 0
 ·rw [if_pos c2] at H
  have c2b0 : (t390 == 0) = true := beq_iff_eq.mpr c2
  have c2b1 : (t390 != 0) = false := bne_eq_false_iff_eq.mpr c2
  clear c2
  obtain ⟨y393, hy393⟩ : ∃ y_ : List ByteArray, y_ = (([(⟨#[97, 32, 98]⟩ : ByteArray), (⟨#[98, 32, 99]⟩ : ByteArray)] : List ByteArray)) := ⟨_, rfl⟩
  replace H : ((slices_Equal_string_string.f k t389 y393).bind fun t396 => (some t396)) = some r := by first | (rw [hy393]; with_reducible exact H) | (have H2_ := (Option.bind_some _ _).symm.trans H; rw [hy393]; with_reducible exact H2_) | (have H2_ := (Option.bind_some _ _).symm.trans H; with_reducible exact H2_) | with_reducible exact H | (rw [hy393]; exact H) | exact H
  have Ny393 := am_ hy393; clear hy393; replace H := Option.bind_eq_some_iff.mp H; obtain ⟨t396, A30, H⟩ := H
  replace H : (some t396) = some r := H
  have A3 := am_ A30; clear A30
  obtain rfl := Option.some.inj H
  go_enter Tryz.func10, Tryz.ntmps10
  go_wp2_with (first | ((with_reducible refine gate_callee (f := 29) rfl ?_); refine goesL_ (some 4) rfl rfl Tryz.func29 (by kernel_rfl) rfl #[.string (⟨#[97, 32, 98, 32, 99]⟩ : ByteArray), .int .i64 2] rfl (by (try simp only [m1_, m2_, m3_]); first | done | rfl | (simp only [List.length_drop, List.length_take]; rfl)) ?_; (with_reducible refine (near_Shingles.calls k (⟨#[97, 32, 98, 32, 99]⟩ : ByteArray) 2 t389 t390 _ A1.out).mono ?_); rintro e w4 ⟨v391, rfl, ho0, hb⟩; refine ⟨_, rfl, ?_⟩; have n0_ := am_ (Kd.R_lower ho0 (below_size (by repeat (first | (with_reducible first | exact HB.out | apply b3_ | apply b1_ | apply b2_) | exact HB.out)))); have n1_ := am_ (below_step (by repeat (first | (with_reducible first | exact HB.out | apply b3_ | apply b1_ | apply b2_) | exact HB.out)) hb); clear HB; have HO392 := n0_; have HB := n1_; clear n0_ n1_; (try clear hb); (try clear hb2); (try clear hk); (try clear hi); (try clear ho0)) | ((with_reducible refine gate_dst (N := 11) rfl ?_); (try (refine gate_guard (by rfl) ?_; dsimp only)); refine Kd.R_lit Kd.string _ 9 ?hg (N := 11) ?hd (xs := ([(⟨#[97, 32, 98]⟩ : ByteArray), (⟨#[98, 32, 99]⟩ : ByteArray)] : List ByteArray)) (inner := [.string (⟨#[97, 32, 98]⟩ : ByteArray), .string (⟨#[98, 32, 99]⟩ : ByteArray)]) (ok := fun _ => True) (okp := fun _ => True) ?hr ?hp (fun _ hk => hk) trivial (Below.refl _ _) (Nat.le_refl _) (by simp) ?_; (case hd => rfl); (case hg => rfl); (case hr => first | (go_simp; done) | (go_simp; rfl)); (case hp => exact (Reps.one (show Kd.M Kd.string _ _ _ (⟨#[97, 32, 98]⟩ : ByteArray) [.string (⟨#[97, 32, 98]⟩ : ByteArray)] from rfl) (Reps.one (show Kd.M Kd.string _ _ _ (⟨#[98, 32, 99]⟩ : ByteArray) [.string (⟨#[98, 32, 99]⟩ : ByteArray)] from rfl) (Reps.none _ _)))); intro v394 w5 ho6 hb hg_ hnew_; clear hg_ hnew_; (first | rw [← Ny393.out] at ho6 | (simp only [Int.reduceToNat] at ho6; rw [← Ny393.out] at ho6)); have n0_ := am_ (Kd.R_elder' (by (with_reducible repeat (first | apply r1_ | apply r2_ | apply r3_)); exact HO392.out) (Kd.R_base ho6) hb); have n1_ := am_ (Kd.R_lower (Kd.R_new' ho6 (Kd.R_lt (by (with_reducible repeat (first | apply r1_ | apply r2_ | apply r3_)); exact HO392.out))) (below_size (by repeat (first | (with_reducible first | exact HB.out | apply b3_ | apply b1_ | apply b2_) | exact HB.out)))); have n2_ := am_ (below_step (by repeat (first | (with_reducible first | exact HB.out | apply b3_ | apply b1_ | apply b2_) | exact HB.out)) hb); clear HO392; clear HB; have HO392 := n0_; have HO395 := n1_; have HB := n2_; clear n0_ n1_ n2_; clear hb ho6; obtain ⟨Ao7, co7, eo7⟩ := Kd.R_slice HO392.out; subst eo7; obtain ⟨Ao8, co8, eo8⟩ := Kd.R_slice HO395.out; subst eo8) | (go_at_call 12; (with_reducible refine (slices_Equal_string_string.calls k _ _ t389 _ _ y393 t396 _ ?side1 ?side2 ?side3 ?side4 A3.out).mono ?_); (case side1 => repeat (first | exact (Kd.R_reads' HO392.out).2.2 | (with_reducible refine Kd.C_alloc ?_ _) | (with_reducible refine Kd.C_drewN ?_ _) | (with_reducible refine Kd.C_drew ?_))); (case side2 => exact (Kd.R_reads' HO392.out).2.1); (case side3 => repeat (first | exact (Kd.R_reads' HO395.out).2.2 | (with_reducible refine Kd.C_alloc ?_ _) | (with_reducible refine Kd.C_drewN ?_ _) | (with_reducible refine Kd.C_drew ?_))); (case side4 => exact (Kd.R_reads' HO395.out).2.1); rintro e w' ⟨rfl, ⟨nd, rfl⟩⟩))
  go_ret
  exact ⟨by first | rfl | (simp [errW_none, errW_some] <;> rfl) | (simp [*, errW_none, errW_some] <;> rfl), by repeat (first | (with_reducible first | exact HB.out | apply b3_ | apply b1_ | apply b2_) | exact HB.out)⟩
 ·rw [if_neg c2] at H
  have c2b0 : (t390 == 0) = false := beq_eq_false_iff_ne.mpr c2
  have c2b1 : (t390 != 0) = true := bne_iff_ne.mpr c2
  obtain rfl := Option.some.inj H
  go_enter Tryz.func10, Tryz.ntmps10
  go_wp2_with (first | ((with_reducible refine gate_callee (f := 29) rfl ?_); refine goesL_ (some 4) rfl rfl Tryz.func29 (by kernel_rfl) rfl #[.string (⟨#[97, 32, 98, 32, 99]⟩ : ByteArray), .int .i64 2] rfl (by (try simp only [m1_, m2_, m3_]); first | done | rfl | (simp only [List.length_drop, List.length_take]; rfl)) ?_; (with_reducible refine (near_Shingles.calls k (⟨#[97, 32, 98, 32, 99]⟩ : ByteArray) 2 t389 t390 _ A1.out).mono ?_); rintro e w9 ⟨v391, rfl, ho0, hb⟩; refine ⟨_, rfl, ?_⟩; have n0_ := am_ (Kd.R_lower ho0 (below_size (by repeat (first | (with_reducible first | exact HB.out | apply b3_ | apply b1_ | apply b2_) | exact HB.out)))); have n1_ := am_ (below_step (by repeat (first | (with_reducible first | exact HB.out | apply b3_ | apply b1_ | apply b2_) | exact HB.out)) hb); clear HB; have HO392 := n0_; have HB := n1_; clear n0_ n1_; (try clear hb); (try clear hb2); (try clear hk); (try clear hi); (try clear ho0)))
  go_ret
  exact ⟨by first | rfl | (simp [errW_none, errW_some] <;> rfl) | (simp [*, errW_none, errW_some] <;> rfl), by repeat (first | (with_reducible first | exact HB.out | apply b3_ | apply b1_ | apply b2_) | exact HB.out)⟩
def chaseref1_SameChanges_1.f (k : Nat) (a0_0 : Int) (l0_1 : List ByteArray) (l0_2 : List ByteArray) (a1_0 : Int) (l1_1 : List ByteArray) (l1_2 : List ByteArray) : Option (Bool) := if a0_0 = a1_0 then ((slices_Equal_string_string.f k l0_1 l1_1).bind fun t399 => (if t399 = true then ((slices_Equal_string_string.f k l0_2 l1_2).bind fun t400 => (some t400)) else (some false))) else (some false)
theorem chaseref1_SameChanges_1.mono : ∀ a0 a1 a2 a3 a4 a5 k, LeO (chaseref1_SameChanges_1.f k a0 a1 a2 a3 a4 a5) (chaseref1_SameChanges_1.f (k + 1) a0 a1 a2 a3 a4 a5) := by
  intro a0 a1 a2 a3 a4 a5 k
  unfold chaseref1_SameChanges_1.f
  repeat' first
      | (with_reducible exact slices_Equal_string_string.mono _ _ _)
      | (with_reducible exact LeO.refl _)
      | (with_reducible exact LeO.none _)
      | (with_reducible refine LeO.ite ?_ ?_)
      | (with_reducible refine LeO.bind ?_ (fun _ => ?_))
      | exact LeO.none _
      | refine LeO.ite ?_ ?_
      | refine LeO.bind ?_ (fun _ => ?_)
set_option maxHeartbeats 8000000 in
set_option maxRecDepth 100000 in
theorem chaseref1_SameChanges_1.calls (k : Nat) (a0_0 : Int) (A0_1 : Option Addr) (c0_1 : Nat) (l0_1 : List ByteArray) (A0_2 : Option Addr) (c0_2 : Nat) (l0_2 : List ByteArray) (a1_0 : Int) (A1_1 : Option Addr) (c1_1 : Nat) (l1_1 : List ByteArray) (A1_2 : Option Addr) (c1_2 : Nat) (l1_2 : List ByteArray) (r : Bool) (w : World) (hr0_1 : Kd.C Kd.string w A0_1 l0_1.length l0_1) (hc0_1 : l0_1.length ≤ c0_1) (hr0_2 : Kd.C Kd.string w A0_2 l0_2.length l0_2) (hc0_2 : l0_2.length ≤ c0_2) (hr1_1 : Kd.C Kd.string w A1_1 l1_1.length l1_1) (hc1_1 : l1_1.length ≤ c1_1) (hr1_2 : Kd.C Kd.string w A1_2 l1_2.length l1_2) (hc1_2 : l1_2.length ≤ c1_2) (h : chaseref1_SameChanges_1.f k a0_0 l0_1 l0_2 a1_0 l1_1 l1_2 = some r) :
  Calls Tryz.prog 31 #[.agg #[.int .i64 a0_0, .slice A0_1 l0_1.length c0_1, .slice A0_2 l0_2.length c0_2], .agg #[.int .i64 a1_0, .slice A1_1 l1_1.length c1_1, .slice A1_2 l1_2.length c1_2]] w fun e w' => e = .returned (.bool r) ∧ Below w.heap.size w w' := by
 have hu34 := Tryz.underlying34
 have HR0_1 := am_ hr0_1; have HC0_1 := am_ hc0_1; clear hr0_1 hc0_1; have HR0_2 := am_ hr0_2; have HC0_2 := am_ hc0_2; clear hr0_2 hc0_2; have HR1_1 := am_ hr1_1; have HC1_1 := am_ hc1_1; clear hr1_1 hc1_1; have HR1_2 := am_ hr1_2; have HC1_2 := am_ hc1_2; clear hr1_2 hc1_2
 have HB := am_ (Below.refl w.heap.size w)
 have H : (if a0_0 = a1_0 then ((slices_Equal_string_string.f k l0_1 l1_1).bind fun t399 => (if t399 = true then ((slices_Equal_string_string.f k l0_2 l1_2).bind fun t400 => (some t400)) else (some false))) else (some false)) = some r := h
 clear h
 by_cases c3 : a0_0 = a1_0
 ·rw [if_pos c3] at H
  have c3b0 : (a0_0 == a1_0) = true := beq_iff_eq.mpr c3
  have c3b1 : (a0_0 != a1_0) = false := bne_eq_false_iff_eq.mpr c3
  clear c3; replace H := Option.bind_eq_some_iff.mp H; obtain ⟨t399, A40, H⟩ := H; have A4 := am_ A40; clear A40
  by_cases c5 : t399 = true
  ·subst c5
   have H1 : ((slices_Equal_string_string.f k l0_2 l1_2).bind fun t400 => (some t400)) = some r := by rw [if_pos rfl] at H; exact H
   clear H
   have H := H1
   clear H1; replace H := Option.bind_eq_some_iff.mp H; obtain ⟨t400, A60, H⟩ := H
   replace H : (some t400) = some r := H
   have A6 := am_ A60; clear A60
   obtain rfl := Option.some.inj H
   go_enter Tryz.func31, Tryz.ntmps31
   go_wp2_with (first | ((with_reducible refine gate_dst (N := 2) rfl ?_); refine box_event ?hg (N := 2) ?hd (cs := #[.int .i64 a0_0, .slice A0_1 l0_1.length c0_1, .slice A0_2 l0_2.length c0_2]) (t := 34) ?hr ?_; (case hd => rfl); (case hg => rfl); (case hr => first | (go_simp; done) | (go_simp; rfl)); intro gb397 hg w7 hbox hb; have n0_ := am_ (below_step (by repeat (first | (with_reducible first | exact HB.out | apply b3_ | apply b1_ | apply b2_) | exact HB.out)) hb); have n1_ := am_ (hbox); have n2_ := am_ ((by rw [hg]; exact (below_size (by repeat (first | (with_reducible first | exact HB.out | apply b3_ | apply b1_ | apply b2_) | exact HB.out))) : w.heap.size ≤ gb397)); have n3_ := am_ ((by rw [hg]; exact (below_size (by repeat (first | (with_reducible first | exact HB.out | apply b3_ | apply b1_ | apply b2_) | exact HB.out))) : w.heap.size ≤ gb397)); clear HB; have HB := n0_; have BK397 := n1_; have GW397 := n2_; have GE397 := n3_; clear n0_ n1_ n2_ n3_; clear hb hbox hg) | ((with_reducible refine gate_dst (N := 3) rfl ?_); refine box_event ?hg (N := 3) ?hd (cs := #[.int .i64 a1_0, .slice A1_1 l1_1.length c1_1, .slice A1_2 l1_2.length c1_2]) (t := 34) ?hr ?_; (case hd => rfl); (case hg => rfl); (case hr => first | (go_simp; done) | (go_simp; rfl)); intro gb398 hg w8 hbox hb; have n0_ := am_ (blk_below (g := gb397) (o := .cells #[.int .i64 a0_0, .slice A0_1 l0_1.length c0_1, .slice A0_2 l0_2.length c0_2] 34 (0, 0)) (by (with_reducible repeat (first | refine blk_drewN ?_ _ | refine blk_drew ?_ | refine blk_alloc ?_ _)); exact BK397.out) hb); have n1_ := am_ (below_step (by repeat (first | (with_reducible first | exact HB.out | apply b3_ | apply b1_ | apply b2_ | refine below_set ?_ GE397.out) | exact HB.out)) hb); have n2_ := am_ (hbox); have n3_ := am_ ((by rw [hg]; exact (below_size (by repeat (first | (with_reducible first | exact HB.out | apply b3_ | apply b1_ | apply b2_ | refine below_set ?_ GE397.out) | exact HB.out))) : w.heap.size ≤ gb398)); have n4_ := am_ ((by rw [hg]; exact (below_size (by repeat (first | (with_reducible first | exact HB.out | apply b3_ | apply b1_ | apply b2_ | refine below_set ?_ GE397.out) | exact HB.out))) : w.heap.size ≤ gb398)); have n5_ := am_ ((by rw [hg]; exact Nat.ne_of_lt (blk_lt (g := gb397) (o := .cells #[.int .i64 a0_0, .slice A0_1 l0_1.length c0_1, .slice A0_2 l0_2.length c0_2] 34 (0, 0)) (by (with_reducible repeat (first | refine blk_drewN ?_ _ | refine blk_drew ?_ | refine blk_alloc ?_ _)); exact BK397.out)) : gb397 ≠ gb398)); have n6_ := am_ ((by rw [hg]; exact Nat.ne_of_gt (blk_lt (g := gb397) (o := .cells #[.int .i64 a0_0, .slice A0_1 l0_1.length c0_1, .slice A0_2 l0_2.length c0_2] 34 (0, 0)) (by (with_reducible repeat (first | refine blk_drewN ?_ _ | refine blk_drew ?_ | refine blk_alloc ?_ _)); exact BK397.out)) : gb398 ≠ gb397)); clear BK397; clear HB; have BK397 := n0_; have HB := n1_; have BK398 := n2_; have GW398 := n3_; have GE398 := n4_; have NB397_398 := n5_; have NB398_397 := n6_; clear n0_ n1_ n2_ n3_ n4_ n5_ n6_; clear hb hbox hg; have hnb9 := NB397_398.out; have hnc9 := NB398_397.out; have hcz10_0 : w8.cell? ⟨gb397, 0, none⟩ = some (.int .i64 a0_0) := (blk_cell BK397.out 0).trans rfl; have hcz10_1 : w8.cell? ⟨gb397, 1, none⟩ = some (.slice A0_1 l0_1.length c0_1) := (blk_cell BK397.out 1).trans rfl; have hcz10_2 : w8.cell? ⟨gb397, 2, none⟩ = some (.slice A0_2 l0_2.length c0_2) := (blk_cell BK397.out 2).trans rfl; have hfz10_0 := blk_frozen BK397.out 0; have hfz10_1 := blk_frozen BK397.out 1; have hfz10_2 := blk_frozen BK397.out 2; have hcz11_0 : w8.cell? ⟨gb398, 0, none⟩ = some (.int .i64 a1_0) := (blk_cell BK398.out 0).trans rfl; have hcz11_1 : w8.cell? ⟨gb398, 1, none⟩ = some (.slice A1_1 l1_1.length c1_1) := (blk_cell BK398.out 1).trans rfl; have hcz11_2 : w8.cell? ⟨gb398, 2, none⟩ = some (.slice A1_2 l1_2.length c1_2) := (blk_cell BK398.out 2).trans rfl; have hfz11_0 := blk_frozen BK398.out 0; have hfz11_1 := blk_frozen BK398.out 1; have hfz11_2 := blk_frozen BK398.out 2) | (go_at_call 12; (with_reducible refine (slices_Equal_string_string.calls k _ _ l0_1 _ _ l1_1 true _ ?side1 ?side2 ?side3 ?side4 A4.out).mono ?_); (case side1 => repeat (first | exact (Kd.C_below HR0_1.out HB.out) | (with_reducible refine Kd.C_alloc ?_ _) | (with_reducible refine Kd.C_drewN ?_ _) | (with_reducible refine Kd.C_drew ?_))); (case side2 => exact HC0_1.out); (case side3 => repeat (first | exact (Kd.C_below HR1_1.out HB.out) | (with_reducible refine Kd.C_alloc ?_ _) | (with_reducible refine Kd.C_drewN ?_ _) | (with_reducible refine Kd.C_drew ?_))); (case side4 => exact HC1_1.out); rintro e w' ⟨rfl, ⟨nd, rfl⟩⟩) | (go_at_call 12; (with_reducible refine (slices_Equal_string_string.calls k _ _ l0_2 _ _ l1_2 t400 _ ?side1 ?side2 ?side3 ?side4 A6.out).mono ?_); (case side1 => repeat (first | exact (Kd.C_below HR0_2.out (by repeat (first | (with_reducible first | exact HB.out | apply b3_ | apply b1_ | apply b2_ | refine below_set ?_ GE397.out | refine below_set ?_ GE398.out) | exact HB.out))) | (with_reducible refine Kd.C_alloc ?_ _) | (with_reducible refine Kd.C_drewN ?_ _) | (with_reducible refine Kd.C_drew ?_))); (case side2 => exact HC0_2.out); (case side3 => repeat (first | exact (Kd.C_below HR1_2.out (by repeat (first | (with_reducible first | exact HB.out | apply b3_ | apply b1_ | apply b2_ | refine below_set ?_ GE397.out | refine below_set ?_ GE398.out) | exact HB.out))) | (with_reducible refine Kd.C_alloc ?_ _) | (with_reducible refine Kd.C_drewN ?_ _) | (with_reducible refine Kd.C_drew ?_))); (case side4 => exact HC1_2.out); rintro e w' ⟨rfl, ⟨nd, rfl⟩⟩))
   go_ret
   exact ⟨by first | rfl | (simp [errW_none, errW_some] <;> rfl) | (simp [*, errW_none, errW_some] <;> rfl), by repeat (first | (with_reducible first | exact HB.out | apply b3_ | apply b1_ | apply b2_ | refine below_set ?_ GE397.out | refine below_set ?_ GE398.out) | exact HB.out)⟩
  ·replace c5 := Bool.eq_false_iff.mpr c5
   subst c5
   have H1 : (some false) = some r := by rw [if_neg (show ¬ (false = true) by decide)] at H; exact H
   clear H
   have H := H1
   clear H1
   obtain rfl := Option.some.inj H
   go_enter Tryz.func31, Tryz.ntmps31
   go_wp2_with (first | ((with_reducible refine gate_dst (N := 2) rfl ?_); refine box_event ?hg (N := 2) ?hd (cs := #[.int .i64 a0_0, .slice A0_1 l0_1.length c0_1, .slice A0_2 l0_2.length c0_2]) (t := 34) ?hr ?_; (case hd => rfl); (case hg => rfl); (case hr => first | (go_simp; done) | (go_simp; rfl)); intro gb397 hg w12 hbox hb; have n0_ := am_ (below_step (by repeat (first | (with_reducible first | exact HB.out | apply b3_ | apply b1_ | apply b2_) | exact HB.out)) hb); have n1_ := am_ (hbox); have n2_ := am_ ((by rw [hg]; exact (below_size (by repeat (first | (with_reducible first | exact HB.out | apply b3_ | apply b1_ | apply b2_) | exact HB.out))) : w.heap.size ≤ gb397)); have n3_ := am_ ((by rw [hg]; exact (below_size (by repeat (first | (with_reducible first | exact HB.out | apply b3_ | apply b1_ | apply b2_) | exact HB.out))) : w.heap.size ≤ gb397)); clear HB; have HB := n0_; have BK397 := n1_; have GW397 := n2_; have GE397 := n3_; clear n0_ n1_ n2_ n3_; clear hb hbox hg) | ((with_reducible refine gate_dst (N := 3) rfl ?_); refine box_event ?hg (N := 3) ?hd (cs := #[.int .i64 a1_0, .slice A1_1 l1_1.length c1_1, .slice A1_2 l1_2.length c1_2]) (t := 34) ?hr ?_; (case hd => rfl); (case hg => rfl); (case hr => first | (go_simp; done) | (go_simp; rfl)); intro gb398 hg w13 hbox hb; have n0_ := am_ (blk_below (g := gb397) (o := .cells #[.int .i64 a0_0, .slice A0_1 l0_1.length c0_1, .slice A0_2 l0_2.length c0_2] 34 (0, 0)) (by (with_reducible repeat (first | refine blk_drewN ?_ _ | refine blk_drew ?_ | refine blk_alloc ?_ _)); exact BK397.out) hb); have n1_ := am_ (below_step (by repeat (first | (with_reducible first | exact HB.out | apply b3_ | apply b1_ | apply b2_ | refine below_set ?_ GE397.out) | exact HB.out)) hb); have n2_ := am_ (hbox); have n3_ := am_ ((by rw [hg]; exact (below_size (by repeat (first | (with_reducible first | exact HB.out | apply b3_ | apply b1_ | apply b2_ | refine below_set ?_ GE397.out) | exact HB.out))) : w.heap.size ≤ gb398)); have n4_ := am_ ((by rw [hg]; exact (below_size (by repeat (first | (with_reducible first | exact HB.out | apply b3_ | apply b1_ | apply b2_ | refine below_set ?_ GE397.out) | exact HB.out))) : w.heap.size ≤ gb398)); have n5_ := am_ ((by rw [hg]; exact Nat.ne_of_lt (blk_lt (g := gb397) (o := .cells #[.int .i64 a0_0, .slice A0_1 l0_1.length c0_1, .slice A0_2 l0_2.length c0_2] 34 (0, 0)) (by (with_reducible repeat (first | refine blk_drewN ?_ _ | refine blk_drew ?_ | refine blk_alloc ?_ _)); exact BK397.out)) : gb397 ≠ gb398)); have n6_ := am_ ((by rw [hg]; exact Nat.ne_of_gt (blk_lt (g := gb397) (o := .cells #[.int .i64 a0_0, .slice A0_1 l0_1.length c0_1, .slice A0_2 l0_2.length c0_2] 34 (0, 0)) (by (with_reducible repeat (first | refine blk_drewN ?_ _ | refine blk_drew ?_ | refine blk_alloc ?_ _)); exact BK397.out)) : gb398 ≠ gb397)); clear BK397; clear HB; have BK397 := n0_; have HB := n1_; have BK398 := n2_; have GW398 := n3_; have GE398 := n4_; have NB397_398 := n5_; have NB398_397 := n6_; clear n0_ n1_ n2_ n3_ n4_ n5_ n6_; clear hb hbox hg; have hnb14 := NB397_398.out; have hnc14 := NB398_397.out; have hcz15_0 : w13.cell? ⟨gb397, 0, none⟩ = some (.int .i64 a0_0) := (blk_cell BK397.out 0).trans rfl; have hcz15_1 : w13.cell? ⟨gb397, 1, none⟩ = some (.slice A0_1 l0_1.length c0_1) := (blk_cell BK397.out 1).trans rfl; have hcz15_2 : w13.cell? ⟨gb397, 2, none⟩ = some (.slice A0_2 l0_2.length c0_2) := (blk_cell BK397.out 2).trans rfl; have hfz15_0 := blk_frozen BK397.out 0; have hfz15_1 := blk_frozen BK397.out 1; have hfz15_2 := blk_frozen BK397.out 2; have hcz16_0 : w13.cell? ⟨gb398, 0, none⟩ = some (.int .i64 a1_0) := (blk_cell BK398.out 0).trans rfl; have hcz16_1 : w13.cell? ⟨gb398, 1, none⟩ = some (.slice A1_1 l1_1.length c1_1) := (blk_cell BK398.out 1).trans rfl; have hcz16_2 : w13.cell? ⟨gb398, 2, none⟩ = some (.slice A1_2 l1_2.length c1_2) := (blk_cell BK398.out 2).trans rfl; have hfz16_0 := blk_frozen BK398.out 0; have hfz16_1 := blk_frozen BK398.out 1; have hfz16_2 := blk_frozen BK398.out 2) | (go_at_call 12; (with_reducible refine (slices_Equal_string_string.calls k _ _ l0_1 _ _ l1_1 false _ ?side1 ?side2 ?side3 ?side4 A4.out).mono ?_); (case side1 => repeat (first | exact (Kd.C_below HR0_1.out HB.out) | (with_reducible refine Kd.C_alloc ?_ _) | (with_reducible refine Kd.C_drewN ?_ _) | (with_reducible refine Kd.C_drew ?_))); (case side2 => exact HC0_1.out); (case side3 => repeat (first | exact (Kd.C_below HR1_1.out HB.out) | (with_reducible refine Kd.C_alloc ?_ _) | (with_reducible refine Kd.C_drewN ?_ _) | (with_reducible refine Kd.C_drew ?_))); (case side4 => exact HC1_1.out); rintro e w' ⟨rfl, ⟨nd, rfl⟩⟩))
   go_ret
   exact ⟨by first | rfl | (simp [errW_none, errW_some] <;> rfl) | (simp [*, errW_none, errW_some] <;> rfl), by repeat (first | (with_reducible first | exact HB.out | apply b3_ | apply b1_ | apply b2_ | refine below_set ?_ GE397.out | refine below_set ?_ GE398.out) | exact HB.out)⟩
 ·rw [if_neg c3] at H
  have c3b0 : (a0_0 == a1_0) = false := beq_eq_false_iff_ne.mpr c3
  have c3b1 : (a0_0 != a1_0) = true := bne_iff_ne.mpr c3
  obtain rfl := Option.some.inj H
  go_enter Tryz.func31, Tryz.ntmps31
  go_wp2_with (first | ((with_reducible refine gate_dst (N := 2) rfl ?_); refine box_event ?hg (N := 2) ?hd (cs := #[.int .i64 a0_0, .slice A0_1 l0_1.length c0_1, .slice A0_2 l0_2.length c0_2]) (t := 34) ?hr ?_; (case hd => rfl); (case hg => rfl); (case hr => first | (go_simp; done) | (go_simp; rfl)); intro gb397 hg w17 hbox hb; have n0_ := am_ (below_step (by repeat (first | (with_reducible first | exact HB.out | apply b3_ | apply b1_ | apply b2_) | exact HB.out)) hb); have n1_ := am_ (hbox); have n2_ := am_ ((by rw [hg]; exact (below_size (by repeat (first | (with_reducible first | exact HB.out | apply b3_ | apply b1_ | apply b2_) | exact HB.out))) : w.heap.size ≤ gb397)); have n3_ := am_ ((by rw [hg]; exact (below_size (by repeat (first | (with_reducible first | exact HB.out | apply b3_ | apply b1_ | apply b2_) | exact HB.out))) : w.heap.size ≤ gb397)); clear HB; have HB := n0_; have BK397 := n1_; have GW397 := n2_; have GE397 := n3_; clear n0_ n1_ n2_ n3_; clear hb hbox hg) | ((with_reducible refine gate_dst (N := 3) rfl ?_); refine box_event ?hg (N := 3) ?hd (cs := #[.int .i64 a1_0, .slice A1_1 l1_1.length c1_1, .slice A1_2 l1_2.length c1_2]) (t := 34) ?hr ?_; (case hd => rfl); (case hg => rfl); (case hr => first | (go_simp; done) | (go_simp; rfl)); intro gb398 hg w18 hbox hb; have n0_ := am_ (blk_below (g := gb397) (o := .cells #[.int .i64 a0_0, .slice A0_1 l0_1.length c0_1, .slice A0_2 l0_2.length c0_2] 34 (0, 0)) (by (with_reducible repeat (first | refine blk_drewN ?_ _ | refine blk_drew ?_ | refine blk_alloc ?_ _)); exact BK397.out) hb); have n1_ := am_ (below_step (by repeat (first | (with_reducible first | exact HB.out | apply b3_ | apply b1_ | apply b2_ | refine below_set ?_ GE397.out) | exact HB.out)) hb); have n2_ := am_ (hbox); have n3_ := am_ ((by rw [hg]; exact (below_size (by repeat (first | (with_reducible first | exact HB.out | apply b3_ | apply b1_ | apply b2_ | refine below_set ?_ GE397.out) | exact HB.out))) : w.heap.size ≤ gb398)); have n4_ := am_ ((by rw [hg]; exact (below_size (by repeat (first | (with_reducible first | exact HB.out | apply b3_ | apply b1_ | apply b2_ | refine below_set ?_ GE397.out) | exact HB.out))) : w.heap.size ≤ gb398)); have n5_ := am_ ((by rw [hg]; exact Nat.ne_of_lt (blk_lt (g := gb397) (o := .cells #[.int .i64 a0_0, .slice A0_1 l0_1.length c0_1, .slice A0_2 l0_2.length c0_2] 34 (0, 0)) (by (with_reducible repeat (first | refine blk_drewN ?_ _ | refine blk_drew ?_ | refine blk_alloc ?_ _)); exact BK397.out)) : gb397 ≠ gb398)); have n6_ := am_ ((by rw [hg]; exact Nat.ne_of_gt (blk_lt (g := gb397) (o := .cells #[.int .i64 a0_0, .slice A0_1 l0_1.length c0_1, .slice A0_2 l0_2.length c0_2] 34 (0, 0)) (by (with_reducible repeat (first | refine blk_drewN ?_ _ | refine blk_drew ?_ | refine blk_alloc ?_ _)); exact BK397.out)) : gb398 ≠ gb397)); clear BK397; clear HB; have BK397 := n0_; have HB := n1_; have BK398 := n2_; have GW398 := n3_; have GE398 := n4_; have NB397_398 := n5_; have NB398_397 := n6_; clear n0_ n1_ n2_ n3_ n4_ n5_ n6_; clear hb hbox hg; have hnb19 := NB397_398.out; have hnc19 := NB398_397.out; have hcz20_0 : w18.cell? ⟨gb397, 0, none⟩ = some (.int .i64 a0_0) := (blk_cell BK397.out 0).trans rfl; have hcz20_1 : w18.cell? ⟨gb397, 1, none⟩ = some (.slice A0_1 l0_1.length c0_1) := (blk_cell BK397.out 1).trans rfl; have hcz20_2 : w18.cell? ⟨gb397, 2, none⟩ = some (.slice A0_2 l0_2.length c0_2) := (blk_cell BK397.out 2).trans rfl; have hfz20_0 := blk_frozen BK397.out 0; have hfz20_1 := blk_frozen BK397.out 1; have hfz20_2 := blk_frozen BK397.out 2; have hcz21_0 : w18.cell? ⟨gb398, 0, none⟩ = some (.int .i64 a1_0) := (blk_cell BK398.out 0).trans rfl; have hcz21_1 : w18.cell? ⟨gb398, 1, none⟩ = some (.slice A1_1 l1_1.length c1_1) := (blk_cell BK398.out 1).trans rfl; have hcz21_2 : w18.cell? ⟨gb398, 2, none⟩ = some (.slice A1_2 l1_2.length c1_2) := (blk_cell BK398.out 2).trans rfl; have hfz21_0 := blk_frozen BK398.out 0; have hfz21_1 := blk_frozen BK398.out 1; have hfz21_2 := blk_frozen BK398.out 2))
  go_ret
  exact ⟨by first | rfl | (simp [errW_none, errW_some] <;> rfl) | (simp [*, errW_none, errW_some] <;> rfl), by repeat (first | (with_reducible first | exact HB.out | apply b3_ | apply b1_ | apply b2_ | refine below_set ?_ GE397.out | refine below_set ?_ GE398.out) | exact HB.out)⟩
def api_WordChange.eqL : List ByteArray → List ByteArray → Bool
  | [], [] => true
  | x :: a, y :: b => decide (x.toList = y.toList) && api_WordChange.eqL a b
  | _, _ => false
theorem api_WordChange.eqL_ne : ∀ a b : List ByteArray, ¬ a.length = b.length → api_WordChange.eqL a b = false
  | [], [], h => absurd rfl h
  | [], _ :: _, _ => rfl
  | _ :: _, [], _ => rfl
  | x :: a, y :: b, h => by
    simp only [api_WordChange.eqL, api_WordChange.eqL_ne a b (fun e => h (by rw [List.length_cons, List.length_cons, e])), Bool.and_false]
theorem api_WordChange.eqL_loop (a b : List ByteArray) (hl : a.length = b.length) (hm : a.length ≤ 9223372036854775807) (d : Nat) : ∀ j : Nat, a.length - j ≤ d → j ≤ a.length → Ev (fun k => slices_Equal_string_string.l0 k a b (a.length : Int) (j : Int)) (api_WordChange.eqL (a.drop j) (b.drop j)) := by
  have stop : ∀ j : Nat, ¬ j < a.length → Ev (fun k => slices_Equal_string_string.l0 k a b (a.length : Int) (j : Int)) (api_WordChange.eqL (a.drop j) (b.drop j)) := fun j hj => by
    rw [List.drop_eq_nil_of_le (by omega), List.drop_eq_nil_of_le (by omega)]
    exact Ev.step (fun _ => slices_Equal_string_string.l0.eq_2 ..) (ev_neg (by omega) (Ev.now _))
  induction d with
  | zero => exact fun j h1 h2 => stop j (by omega)
  | succ d ih =>
    intro j h1 h2
    by_cases hj : j < a.length
    · have hw : wrap64 ((j : Int) + 1) = ((j + 1 : Nat) : Int) := by rw [wr64 (by omega) (by omega)]; omega
      have e1 : rdOf ByteArray.empty a (j : Int) = a[j] := by simp [rdOf, List.getD, hj]
      have e2 : rdOf ByteArray.empty b (j : Int) = b[j] := by simp [rdOf, List.getD, show j < b.length from hl ▸ hj]
      refine Ev.step (fun _ => slices_Equal_string_string.l0.eq_2 ..) (ev_pos (by omega) (ev_pos (by omega) (ev_pos (by omega) (ev_pos (by omega) ?_))))
      rw [e1, e2, hw, List.drop_eq_getElem_cons hj, List.drop_eq_getElem_cons (show j < b.length from hl ▸ hj)]
      simp only [api_WordChange.eqL]
      by_cases e : a[j].toList = b[j].toList
      · rw [decide_eq_true e, Bool.true_and]
        exact ev_pos e (ih (j + 1) (by omega) (by omega))
      · rw [decide_eq_false e, Bool.false_and]
        exact ev_neg e (Ev.now _)
    · exact stop j hj
theorem api_WordChange.eqL_ev (a b : List ByteArray) (hm : a.length ≤ 9223372036854775807) : Ev (fun k => slices_Equal_string_string.f k a b) (api_WordChange.eqL a b) := by
  refine Ev.congr (fun _ => slices_Equal_string_string.f.eq_1 ..) ?_
  by_cases hl : a.length = b.length
  · refine ev_pos (by omega) ?_
    have := api_WordChange.eqL_loop a b hl hm _ 0 (Nat.le_refl _) (Nat.zero_le _)
    rw [List.drop_zero, List.drop_zero] at this
    exact this
  · rw [api_WordChange.eqL_ne a b hl]
    exact ev_neg (by omega) (Ev.now _)
def api_WordChange.eqW (x y : S34) : Bool := decide (x.f0 = y.f0) && (api_WordChange.eqL x.f1 y.f1 && api_WordChange.eqL x.f2 y.f2)
theorem api_WordChange.same_ev (x y : S34) (h1 : x.f1.length ≤ 9223372036854775807) (h2 : x.f2.length ≤ 9223372036854775807) : Ev (fun k => chaseref1_SameChanges_1.f k x.f0 x.f1 x.f2 y.f0 y.f1 y.f2) (api_WordChange.eqW x y) := by
  refine Ev.congr (fun _ => chaseref1_SameChanges_1.f.eq_1 ..) ?_
  unfold api_WordChange.eqW
  by_cases e : x.f0 = y.f0
  · rw [decide_eq_true e, Bool.true_and]
    refine ev_pos e (Ev.bind (api_WordChange.eqL_ev _ _ h1) ?_)
    cases api_WordChange.eqL x.f1 y.f1 with
    | false => exact ev_neg (by decide) (Ev.now _)
    | true => exact ev_pos rfl (Ev.bind (api_WordChange.eqL_ev _ _ h2) (Ev.now _))
  · rw [decide_eq_false e, Bool.false_and]
    exact ev_neg e (Ev.now _)
def api_WordChange.eqC : List S34 → List S34 → Bool
  | [], [] => true
  | x :: a, y :: b => api_WordChange.eqW x y && api_WordChange.eqC a b
  | _, _ => false
theorem api_WordChange.eqC_ne : ∀ a b : List S34, ¬ a.length = b.length → api_WordChange.eqC a b = false
  | [], [], h => absurd rfl h
  | [], _ :: _, _ => rfl
  | _ :: _, [], _ => rfl
  | x :: a, y :: b, h => by
    simp only [api_WordChange.eqC, api_WordChange.eqC_ne a b (fun e => h (by rw [List.length_cons, List.length_cons, e])), Bool.and_false]
def api_WordChange.f (l0 : List (S34)) (l1 : List (S34)) (a2 : Nat) : Option (Bool) := if a2 = 31 then (some (api_WordChange.eqC l0 l1)) else (none)
set_option maxHeartbeats 8000000 in
set_option maxRecDepth 100000 in
theorem api_WordChange.calls (A0 : Option Addr) (c0 : Nat) (l0 : List (S34)) (A1 : Option Addr) (c1 : Nat) (l1 : List (S34)) (a2 : Nat) (r : Bool) (w : World) (hr0 : Kd.C k34 w A0 l0.length l0) (hc0 : l0.length ≤ c0) (hr1 : Kd.C k34 w A1 l1.length l1) (hc1 : l1.length ≤ c1) (h : api_WordChange.f l0 l1 a2 = some r) :
    Calls Tryz.prog 30 #[.slice A0 l0.length c0, .slice A1 l1.length c1, .func (.func a2) #[] #[]] w fun e w' => e = .returned (.bool r) ∧ Below w.heap.size w w' := by
  unfold api_WordChange.f at h
  by_cases h1 : a2 = 31
  · rw [if_pos h1] at h
    subst h1
    have hm0 := Kd.C_max hr0
    have hm1 := Kd.C_max hr1
    have HR0 := am_ hr0; have HR1 := am_ hr1
    obtain rfl := Option.some.inj h
    clear hr0 hr1 hc0 hc1 h
    by_cases hl : l0.length = l1.length
    · have H : Aside0 (api_WordChange.eqC (l0.drop 0) (l1.drop 0) = api_WordChange.eqC l0 l1) := ⟨by rw [List.drop_zero, List.drop_zero]⟩
      have HB := am_ (Below.refl w.heap.size w)
      have hne : ((l0.length : Int) != (l1.length : Int)) = false := by rw [hl]; exact bne_self_eq_false _
      have HL := am_ hl; clear hl
      generalize api_WordChange.eqC l0 l1 = r at *
      go_enter Tryz.func30, Tryz.ntmps30
      go_wp2
      go_loopw [17] (fun i wr => ∃ j : Nat, i = .int .i64 j ∧ Aside0 (j ≤ l0.length) ∧ Aside0 (Kd.C k34 wr A0 l0.length l0) ∧ Aside0 (Kd.C k34 wr A1 l1.length l1) ∧ Aside0 (Below w.heap.size w wr) ∧ Aside0 (api_WordChange.eqC (l0.drop j) (l1.drop j) = r)) (fun i _ => l0.length - (intOf i).toNat)
      case atStart => exact ⟨0, rfl, ⟨Nat.zero_le _⟩, HR0, HR1, HB, H⟩
      case round =>
        obtain ⟨j, rfl, HJ, HC0, HC1, HBw, HE⟩ := hrel; clear HR0 HR1 HB H
        by_cases hlt : j < l0.length
        · obtain ⟨ad, A01, c01, A02, c02, eA, hx0, hx1, hx2, hk1, hg1, hk2, hg2⟩ := at_T34 HC0.out (j : Int) (by omega) (by omega)
          cases eA
          simp only [Int.toNat_natCast] at hx0 hx1 hx2
          have HCa := Kd.C_alloc HC1.out (.cells #[.int .i64 (rd_T34 l0 j).f0, .slice A01 (rd_T34 l0 j).f1.length c01, .slice A02 (rd_T34 l0 j).f2.length c02] 34)
          obtain ⟨ad1, A11, c11, A12, c12, eA, hy0, hy1, hy2, hk3, hg3, hk4, hg4⟩ := at_T34 HCa (j : Int) (by omega) (by have := HL.out; omega)
          cases eA
          simp only [Int.toNat_natCast] at hy0 hy1 hy2
          have hd0 : l0.drop j = rd_T34 l0 j :: l0.drop (j + 1) := by
            rw [List.drop_eq_getElem_cons hlt]
            simp [rd_T34, List.getD_eq_getElem?_getD, List.getElem?_eq_getElem hlt]
          have hlt1 : j < l1.length := by have := HL.out; omega
          have hd1 : l1.drop j = rd_T34 l1 j :: l1.drop (j + 1) := by
            rw [List.drop_eq_getElem_cons hlt1]
            simp [rd_T34, List.getD_eq_getElem?_getD, List.getElem?_eq_getElem hlt1]
          have h4 := HE.out
          rw [hd0, hd1] at h4
          simp only [api_WordChange.eqC] at h4
          clear hd0 hd1 HE
          generalize rd_T34 l0 j = x at *
          generalize rd_T34 l1 j = y at *
          obtain ⟨K, hK⟩ := (api_WordChange.same_ev x y (Kd.C_max hg1) (Kd.C_max hg2)).rounds
          have H4 := am_ h4
          have HD1 := fun (o : Obj) => Kd.C_alloc (Kd.C_alloc hg1 (.cells #[.int .i64 x.f0, .slice A01 x.f1.length c01, .slice A02 x.f2.length c02] 34)) o
          have HD2 := fun (o : Obj) => Kd.C_alloc (Kd.C_alloc hg2 (.cells #[.int .i64 x.f0, .slice A01 x.f1.length c01, .slice A02 x.f2.length c02] 34)) o
          have HD3 := fun (o : Obj) => Kd.C_alloc hg3 o
          have HD4 := fun (o : Obj) => Kd.C_alloc hg4 o
          have HK : Aside0 (∀ o, Calls Tryz.prog 31 _ _ _) := ⟨fun o => chaseref1_SameChanges_1.calls K x.f0 A01 c01 x.f1 A02 c02 x.f2 y.f0 A11 c11 y.f1 A12 c12 y.f2 (api_WordChange.eqW x y) ((wr.alloc (.cells #[.int .i64 x.f0, .slice A01 x.f1.length c01, .slice A02 x.f2.length c02] 34)).alloc o) (HD1 o) hk1 (HD2 o) hk2 (HD3 o) hk3 (HD4 o) hk4 hK⟩
          have HB2 : Aside0 (∀ o, Below w.heap.size w ((wr.alloc (.cells #[.int .i64 x.f0, .slice A01 x.f1.length c01, .slice A02 x.f2.length c02] 34)).alloc o)) := ⟨fun o => (HBw.out.alloc HBw.out.size _).alloc (HBw.out.alloc HBw.out.size _).size _⟩
          have HCC0 : Aside0 (∀ o w', Below ((wr.alloc (.cells #[.int .i64 x.f0, .slice A01 x.f1.length c01, .slice A02 x.f2.length c02] 34)).alloc o).heap.size ((wr.alloc (.cells #[.int .i64 x.f0, .slice A01 x.f1.length c01, .slice A02 x.f2.length c02] 34)).alloc o) w' → Kd.C k34 w' (some ad) l0.length l0) := ⟨fun o w' hb => Kd.C_below (Kd.C_alloc (Kd.C_alloc HC0.out _) _) hb⟩
          have HCC1 : Aside0 (∀ o w', Below ((wr.alloc (.cells #[.int .i64 x.f0, .slice A01 x.f1.length c01, .slice A02 x.f2.length c02] 34)).alloc o).heap.size ((wr.alloc (.cells #[.int .i64 x.f0, .slice A01 x.f1.length c01, .slice A02 x.f2.length c02] 34)).alloc o) w' → Kd.C k34 w' (some ad1) l1.length l1) := ⟨fun o w' hb => Kd.C_below (Kd.C_alloc (Kd.C_alloc HC1.out _) _) hb⟩
          clear h4 hK hg1 hg2 hg3 hg4 hk1 hk2 hk3 hk4 HCa HD1 HD2 HD3 HD4 HC0 HC1
          have hw : wrap64 ((j : Int) + 1) = ((j + 1 : Nat) : Int) := by unfold wrap64; omega
          cases hq : api_WordChange.eqW x y with
          | true =>
            have H6 := H4.out
            rw [hq, Bool.true_and] at H6
            have H7 := am_ H6
            rw [hq] at HK
            clear H6 hq H4
            go_wp2_with (go_at_call 31; refine (HK.out _).mono ?_; rintro e w1 ⟨rfl, hb1⟩)
            go_roundw
            case rel => exact ⟨j + 1, by go_num, ⟨by omega⟩, ⟨HCC0.out _ _ hb1⟩, ⟨HCC1.out _ _ hb1⟩, ⟨below_step (HB2.out _) hb1⟩, H7⟩
            case measure => simp [intOf]; omega
          | false =>
            have H6 := H4.out
            rw [hq, Bool.false_and] at H6
            subst H6
            rw [hq] at HK
            clear hq H4
            go_wp2_with (go_at_call 31; refine (HK.out _).mono ?_; rintro e w1 ⟨rfl, hb1⟩)
            go_ret
            exact ⟨rfl, below_step (HB2.out _) hb1⟩
        · obtain rfl : j = l0.length := by have := HJ.out; omega
          have h4 := HE.out
          rw [List.drop_eq_nil_of_le (Nat.le_refl _), List.drop_eq_nil_of_le (by have := HL.out; omega)] at h4
          simp only [api_WordChange.eqC] at h4
          subst h4; clear HC0 HC1 HE
          go_wp2
          go_ret
          exact ⟨rfl, HBw.out⟩
    · rw [api_WordChange.eqC_ne _ _ hl]
      have hne : ((l0.length : Int) != (l1.length : Int)) = true := bne_iff_ne.mpr (by omega)
      have HB := Below.refl w.heap.size w
      clear hl HR0 HR1
      go_enter Tryz.func30, Tryz.ntmps30
      go_wp2
      go_ret
      exact ⟨rfl, HB⟩
  · rw [if_neg h1] at h
    exact absurd h (by simp)
def chaseref1_SameChanges.f (l0 : List (S34)) (l1 : List (S34)) : Option (Bool) := (api_WordChange.f l0 l1 31).bind fun t401 => (some t401)
set_option maxHeartbeats 8000000 in
set_option maxRecDepth 100000 in
theorem chaseref1_SameChanges.calls (A0 : Option Addr) (c0 : Nat) (l0 : List (S34)) (A1 : Option Addr) (c1 : Nat) (l1 : List (S34)) (r : Bool) (w : World) (hr0 : Kd.C k34 w A0 l0.length l0) (hc0 : l0.length ≤ c0) (hr1 : Kd.C k34 w A1 l1.length l1) (hc1 : l1.length ≤ c1) (h : chaseref1_SameChanges.f l0 l1 = some r) :
  Calls Tryz.prog 11 #[.slice A0 l0.length c0, .slice A1 l1.length c1] w fun e w' => e = .returned (.bool r) ∧ Below w.heap.size w w' := by
 have HR0 := am_ hr0; have HC0 := am_ hc0; clear hr0 hc0; have HR1 := am_ hr1; have HC1 := am_ hc1; clear hr1 hc1
 have HB := am_ (Below.refl w.heap.size w)
 have H : ((api_WordChange.f l0 l1 31).bind fun t401 => (some t401)) = some r := h
 clear h; replace H := Option.bind_eq_some_iff.mp H; obtain ⟨t401, A30, H⟩ := H
 replace H : (some t401) = some r := H
 have A3 := am_ A30; clear A30
 obtain rfl := Option.some.inj H
 go_enter Tryz.func11, Tryz.ntmps11
 go_wp2_with (first | ((with_reducible refine gate_callee (f := 30) rfl ?_); refine goesL_ (some 7) rfl rfl Tryz.func30 (by kernel_rfl) rfl #[.slice A0 l0.length c0, .slice A1 l1.length c1, .func (.func 31) #[] #[]] rfl (by (try simp only [m1_, m2_, m3_]); first | done | rfl | (simp only [List.length_drop, List.length_take]; rfl)) ?_; (with_reducible refine (api_WordChange.calls _ _ l0 _ _ l1 31 t401 _ ?side1 ?side2 ?side3 ?side4 A3.out).mono ?_); (case side1 => repeat (first | exact HR0.out | (with_reducible refine Kd.C_alloc ?_ _) | (with_reducible refine Kd.C_drewN ?_ _) | (with_reducible refine Kd.C_drew ?_))); (case side2 => exact HC0.out); (case side3 => repeat (first | exact HR1.out | (with_reducible refine Kd.C_alloc ?_ _) | (with_reducible refine Kd.C_drewN ?_ _) | (with_reducible refine Kd.C_drew ?_))); (case side4 => exact HC1.out); rintro e w4 ⟨rfl, hb⟩; refine ⟨_, rfl, ?_⟩; have n0_ := am_ (below_step (by repeat (first | (with_reducible first | exact HB.out | apply b3_ | apply b1_ | apply b2_) | exact HB.out)) hb); clear HB; have HB := n0_; clear n0_; (try clear hb); (try clear hb2); (try clear hk); (try clear hi)))
 go_ret
 exact ⟨by first | rfl | (simp [errW_none, errW_some] <;> rfl) | (simp [*, errW_none, errW_some] <;> rfl), by repeat (first | (with_reducible first | exact HB.out | apply b3_ | apply b1_ | apply b2_) | exact HB.out)⟩
end Go.Proofs.YtenphgclongphaaGreatDoor.Pk
