/- A part of the proof of wordsDiffer. No conditions. Laid by program over the kit's print and words. -/
import Derived.Test.YtbamfhcifpfocaaDoorZdPwx0
import Derived.Test.YtbamfhcifpfocaaDoorZdPwx1
import Derived.Test.YtbamfhcifpfocaaDoorZdPwx2
namespace Go.Proofs.YtbamfhcifpfocaaDoor.Pw
open Go.RowKit Go.Proofs.YtbamfhcifpfocaaDoor.GBase Go.Proofs.YtbamfhcifpfocaaDoorW.PrintWords Go.Proofs.YtbamfhcifpfocaaDoorW.PrintLast Go.Proofs.YtbamfhcifpfocaaDoorW.PrintMore
attribute [local go_sem] str_leq max2_int min2_int max_two min_two max_three min_three max_four min_four
set_option linter.unusedVariables false
set_option linter.unusedSimpArgs false
set_option maxHeartbeats 8000000 in
set_option maxRecDepth 100000 in
theorem near_Shingles.calls (k : Nat) (a0 : ByteArray) (a1 : Int) (r1 : List ByteArray) (r2 : Int) (w : World) (h : near_Shingles.f k a0 a1 = some (r1, r2)) :
  Calls Tryd.prog 104 #[.string a0, .int .i64 a1] w fun e w' => ∃ v0_ : Value, e = .returned (.tuple #[v0_, .int .i64 r2]) ∧ Kd.R Kd.string 9 w' w.heap.size (fun _ => True) v0_ r1 ∧ Below w.heap.size w w' := by
 have HB := am_ (Below.refl w.heap.size w)
 have H : ((near_large.f a0).bind fun t154 => ((near_kError.f a1).bind fun t155 => ((base_First.f k (([t154, t155] : List Int))).bind fun t159 => (if t159 = 0 then ((near_shingles.f k a0 a1).bind fun t160 => (some (t160, 0))) else (some (([] : List ByteArray), t159)))))) = some (r1, r2) := h
 clear h; replace H := Option.bind_eq_some_iff.mp H; obtain ⟨t154, A30, H⟩ := H; have A3 := am_ A30; clear A30; replace H := Option.bind_eq_some_iff.mp H; obtain ⟨t155, A40, H⟩ := H; have A4 := am_ A40; clear A40
 obtain ⟨y156, hy156⟩ : ∃ y_ : List Int, y_ = (([t154, t155] : List Int)) := ⟨_, rfl⟩
 replace H : ((base_First.f k y156).bind fun t159 => (if t159 = 0 then ((near_shingles.f k a0 a1).bind fun t160 => (some (t160, 0))) else (some (([] : List ByteArray), t159)))) = some (r1, r2) := by first | (rw [hy156]; with_reducible exact H) | (have H2_ := (Option.bind_some _ _).symm.trans H; rw [hy156]; with_reducible exact H2_) | (have H2_ := (Option.bind_some _ _).symm.trans H; with_reducible exact H2_) | with_reducible exact H | (rw [hy156]; exact H) | exact H
 have Ny156 := am_ hy156; clear hy156; replace H := Option.bind_eq_some_iff.mp H; obtain ⟨t159, A50, H⟩ := H; have A5 := am_ A50; clear A50
 by_cases c6 : t159 = 0
 ·rw [if_pos c6] at H
  have c6b0 : (t159 == 0) = true := beq_iff_eq.mpr c6
  have c6b1 : (t159 != 0) = false := bne_eq_false_iff_eq.mpr c6
  clear c6; replace H := Option.bind_eq_some_iff.mp H; obtain ⟨t160, A70, H⟩ := H
  replace H : (some (t160, 0)) = some (r1, r2) := H
  have A7 := am_ A70; clear A70
  simp only [Option.some.injEq, Prod.mk.injEq] at H
  obtain ⟨rfl, rfl⟩ := H
  go_enter Tryd.func104, Tryd.ntmps104
  go_wp2_with (first | ((with_reducible refine gate_callee (f := 150) rfl ?_); refine goesL_ (some 8) rfl rfl Tryd.func150 (by kernel_rfl) rfl #[.string a0] rfl (by (try simp only [m1_, m2_, m3_]); first | done | rfl | (simp only [List.length_drop, List.length_take]; rfl)) ?_; (with_reducible refine (near_large.calls a0 t154 _ A3.out).mono ?_); rintro e w' ⟨rfl, ⟨nd, rfl⟩⟩; refine ⟨_, rfl, ?_⟩) | ((with_reducible refine gate_callee (f := 151) rfl ?_); refine goesL_ (some 10) rfl rfl Tryd.func151 (by kernel_rfl) rfl #[.int .i64 a1] rfl (by (try simp only [m1_, m2_, m3_]); first | done | rfl | (simp only [List.length_drop, List.length_take]; rfl)) ?_; (with_reducible refine (near_kError.calls a1 t155 _ A4.out).mono ?_); rintro e w' ⟨rfl, ⟨nd, rfl⟩⟩; refine ⟨_, rfl, ?_⟩) | ((with_reducible refine gate_dst (N := 11) rfl ?_); refine Kd.R_lit (Kd.int .i64) _ 29 ?hg (N := 11) ?hd (xs := ([t154, t155] : List Int)) (inner := [.int .i64 t154, .int .i64 t155]) (ok := fun _ => True) (okp := fun _ => True) ?hr ?hp (fun _ hk => hk) trivial (Below.refl _ _) (Nat.le_refl _) (by simp) ?_; (case hd => rfl); (case hg => rfl); (case hr => first | (go_simp; done) | (go_simp; rfl)); (case hp => exact (Reps.one (show Kd.M (Kd.int .i64) _ _ _ t154 [.int .i64 t154] from rfl) (Reps.one (show Kd.M (Kd.int .i64) _ _ _ t155 [.int .i64 t155] from rfl) (Reps.none _ _)))); intro v157 w8 ho9 hb hg_ hnew_; clear hg_ hnew_; (first | rw [← Ny156.out] at ho9 | (simp only [Int.reduceToNat] at ho9; rw [← Ny156.out] at ho9)); have n0_ := am_ (Kd.R_lower ho9 (below_size (by repeat (first | (with_reducible first | exact HB.out | apply b3_ | apply b1_ | apply b2_) | exact HB.out)))); have n1_ := am_ (below_step (by repeat (first | (with_reducible first | exact HB.out | apply b3_ | apply b1_ | apply b2_) | exact HB.out)) hb); clear HB; have HO158 := n0_; have HB := n1_; clear n0_ n1_; clear hb ho9; obtain ⟨Ao10, co10, eo10⟩ := Kd.R_slice HO158.out; subst eo10) | ((with_reducible refine gate_callee (f := 80) rfl ?_); refine goesL_ (some 12) rfl rfl Tryd.func80 (by kernel_rfl) rfl #[.slice Ao10 y156.length co10] rfl (by (try simp only [m1_, m2_, m3_]); first | done | rfl | (simp only [List.length_drop, List.length_take]; rfl)) ?_; (with_reducible refine (base_First.calls k _ _ y156 t159 _ ?side1 ?side2 A5.out).mono ?_); (case side1 => repeat (first | exact (Kd.R_reads' HO158.out).2.2 | (with_reducible refine Kd.C_alloc ?_ _) | (with_reducible refine Kd.C_drewN ?_ _) | (with_reducible refine Kd.C_drew ?_))); (case side2 => exact (Kd.R_reads' HO158.out).2.1); rintro e w' ⟨rfl, ⟨nd, rfl⟩⟩; refine ⟨_, rfl, ?_⟩) | ((with_reducible refine gate_callee (f := 152) rfl ?_); refine goesL_ (some 18) rfl rfl Tryd.func152 (by kernel_rfl) rfl #[.string a0, .int .i64 a1] rfl (by (try simp only [m1_, m2_, m3_]); first | done | rfl | (simp only [List.length_drop, List.length_take]; rfl)) ?_; (with_reducible refine (near_shingles.calls k a0 a1 t160 _ A7.out).mono ?_); rintro e w11 ⟨v161, rfl, ho0, hb⟩; refine ⟨_, rfl, ?_⟩; have n0_ := am_ (Kd.R_below (by (with_reducible repeat (first | apply r1_ | apply r2_ | apply r3_)); exact HO158.out) hb); have n1_ := am_ (Kd.R_lower ho0 (below_size (by repeat (first | (with_reducible first | exact HB.out | apply b3_ | apply b1_ | apply b2_) | exact HB.out)))); have n2_ := am_ (below_step (by repeat (first | (with_reducible first | exact HB.out | apply b3_ | apply b1_ | apply b2_) | exact HB.out)) hb); clear HO158; clear HB; have HO158 := n0_; have HO162 := n1_; have HB := n2_; clear n0_ n1_ n2_; (try clear hb); (try clear hb2); (try clear hk); (try clear hi); (try clear ho0)))
  go_ret2
  exact ⟨_, by first | rfl | (simp [errW_none, errW_some] <;> rfl) | (simp [*, errW_none, errW_some] <;> rfl), by (with_reducible repeat (first | apply r1_ | apply r2_ | apply r3_)); exact HO162.out, by repeat (first | (with_reducible first | exact HB.out | apply b3_ | apply b1_ | apply b2_) | exact HB.out)⟩
 ·rw [if_neg c6] at H
  have c6b0 : (t159 == 0) = false := beq_eq_false_iff_ne.mpr c6
  have c6b1 : (t159 != 0) = true := bne_iff_ne.mpr c6
  simp only [Option.some.injEq, Prod.mk.injEq] at H
  obtain ⟨rfl, rfl⟩ := H
  go_enter Tryd.func104, Tryd.ntmps104
  go_wp2_with (first | ((with_reducible refine gate_callee (f := 150) rfl ?_); refine goesL_ (some 8) rfl rfl Tryd.func150 (by kernel_rfl) rfl #[.string a0] rfl (by (try simp only [m1_, m2_, m3_]); first | done | rfl | (simp only [List.length_drop, List.length_take]; rfl)) ?_; (with_reducible refine (near_large.calls a0 t154 _ A3.out).mono ?_); rintro e w' ⟨rfl, ⟨nd, rfl⟩⟩; refine ⟨_, rfl, ?_⟩) | ((with_reducible refine gate_callee (f := 151) rfl ?_); refine goesL_ (some 10) rfl rfl Tryd.func151 (by kernel_rfl) rfl #[.int .i64 a1] rfl (by (try simp only [m1_, m2_, m3_]); first | done | rfl | (simp only [List.length_drop, List.length_take]; rfl)) ?_; (with_reducible refine (near_kError.calls a1 t155 _ A4.out).mono ?_); rintro e w' ⟨rfl, ⟨nd, rfl⟩⟩; refine ⟨_, rfl, ?_⟩) | ((with_reducible refine gate_dst (N := 11) rfl ?_); refine Kd.R_lit (Kd.int .i64) _ 29 ?hg (N := 11) ?hd (xs := ([t154, t155] : List Int)) (inner := [.int .i64 t154, .int .i64 t155]) (ok := fun _ => True) (okp := fun _ => True) ?hr ?hp (fun _ hk => hk) trivial (Below.refl _ _) (Nat.le_refl _) (by simp) ?_; (case hd => rfl); (case hg => rfl); (case hr => first | (go_simp; done) | (go_simp; rfl)); (case hp => exact (Reps.one (show Kd.M (Kd.int .i64) _ _ _ t154 [.int .i64 t154] from rfl) (Reps.one (show Kd.M (Kd.int .i64) _ _ _ t155 [.int .i64 t155] from rfl) (Reps.none _ _)))); intro v157 w12 ho13 hb hg_ hnew_; clear hg_ hnew_; (first | rw [← Ny156.out] at ho13 | (simp only [Int.reduceToNat] at ho13; rw [← Ny156.out] at ho13)); have n0_ := am_ (Kd.R_lower ho13 (below_size (by repeat (first | (with_reducible first | exact HB.out | apply b3_ | apply b1_ | apply b2_) | exact HB.out)))); have n1_ := am_ (below_step (by repeat (first | (with_reducible first | exact HB.out | apply b3_ | apply b1_ | apply b2_) | exact HB.out)) hb); clear HB; have HO158 := n0_; have HB := n1_; clear n0_ n1_; clear hb ho13; obtain ⟨Ao14, co14, eo14⟩ := Kd.R_slice HO158.out; subst eo14) | ((with_reducible refine gate_callee (f := 80) rfl ?_); refine goesL_ (some 12) rfl rfl Tryd.func80 (by kernel_rfl) rfl #[.slice Ao14 y156.length co14] rfl (by (try simp only [m1_, m2_, m3_]); first | done | rfl | (simp only [List.length_drop, List.length_take]; rfl)) ?_; (with_reducible refine (base_First.calls k _ _ y156 t159 _ ?side1 ?side2 A5.out).mono ?_); (case side1 => repeat (first | exact (Kd.R_reads' HO158.out).2.2 | (with_reducible refine Kd.C_alloc ?_ _) | (with_reducible refine Kd.C_drewN ?_ _) | (with_reducible refine Kd.C_drew ?_))); (case side2 => exact (Kd.R_reads' HO158.out).2.1); rintro e w' ⟨rfl, ⟨nd, rfl⟩⟩; refine ⟨_, rfl, ?_⟩))
  go_ret2
  exact ⟨_, by first | rfl | (simp [errW_none, errW_some] <;> rfl) | (simp [*, errW_none, errW_some] <;> rfl), by first | exact Kd.R_nil _ _ _ _ _ | exact Kd.N_nil _ _ _ _ _ | exact Kd.V_nil _ _ _ _ _ | exact Kd.Q_nil _ _ _ _ _ | exact Kd.S_nil _ _ _ _ _, by repeat (first | (with_reducible first | exact HB.out | apply b3_ | apply b1_ | apply b2_) | exact HB.out)⟩
def chaselaw1_nears.f (k : Nat)  : Option (Bool) := (near_Shingles.f k (⟨#[97, 32, 98, 32, 99]⟩ : ByteArray) 2).bind fun bt163 => (if bt163.2 = 0 then ((slices_Equal_string_string.f k bt163.1 (([(⟨#[97, 32, 98]⟩ : ByteArray), (⟨#[98, 32, 99]⟩ : ByteArray)] : List ByteArray))).bind fun t170 => (some t170)) else (some false))
theorem chaselaw1_nears.mono : ∀ k, LeO (chaselaw1_nears.f k ) (chaselaw1_nears.f (k + 1) ) := by
  intro  k
  unfold chaselaw1_nears.f
  repeat' first
      | (with_reducible exact near_Shingles.mono _ _ _)
      | (with_reducible exact slices_Equal_string_string.mono _ _ _)
      | (with_reducible exact LeO.refl _)
      | (with_reducible exact LeO.none _)
      | (with_reducible refine LeO.ite ?_ ?_)
      | (with_reducible refine LeO.bind ?_ (fun _ => ?_))
      | exact LeO.none _
      | refine LeO.ite ?_ ?_
      | refine LeO.bind ?_ (fun _ => ?_)
set_option maxHeartbeats 8000000 in
set_option maxRecDepth 100000 in
theorem chaselaw1_nears.calls (k : Nat)  (r : Bool) (w : World) (h : chaselaw1_nears.f k  = some r) :
  Calls Tryd.prog 42 #[] w fun e w' => e = .returned (.bool r) ∧ Below w.heap.size w w' := by
 have HB := am_ (Below.refl w.heap.size w)
 have H : ((near_Shingles.f k (⟨#[97, 32, 98, 32, 99]⟩ : ByteArray) 2).bind fun bt163 => (if bt163.2 = 0 then ((slices_Equal_string_string.f k bt163.1 (([(⟨#[97, 32, 98]⟩ : ByteArray), (⟨#[98, 32, 99]⟩ : ByteArray)] : List ByteArray))).bind fun t170 => (some t170)) else (some false))) = some r := h
 clear h; replace H := Option.bind_eq_some_iff.mp H
 obtain ⟨⟨t163, t164⟩, A10, H⟩ := H
 replace H : (if t164 = 0 then ((slices_Equal_string_string.f k t163 (([(⟨#[97, 32, 98]⟩ : ByteArray), (⟨#[98, 32, 99]⟩ : ByteArray)] : List ByteArray))).bind fun t170 => (some t170)) else (some false)) = some r := H
 have A1 := am_ A10; clear A10
 by_cases c2 : t164 = 0
 ·rw [if_pos c2] at H
  have c2b0 : (t164 == 0) = true := beq_iff_eq.mpr c2
  have c2b1 : (t164 != 0) = false := bne_eq_false_iff_eq.mpr c2
  clear c2
  obtain ⟨y167, hy167⟩ : ∃ y_ : List ByteArray, y_ = (([(⟨#[97, 32, 98]⟩ : ByteArray), (⟨#[98, 32, 99]⟩ : ByteArray)] : List ByteArray)) := ⟨_, rfl⟩
  replace H : ((slices_Equal_string_string.f k t163 y167).bind fun t170 => (some t170)) = some r := by first | (rw [hy167]; with_reducible exact H) | (have H2_ := (Option.bind_some _ _).symm.trans H; rw [hy167]; with_reducible exact H2_) | (have H2_ := (Option.bind_some _ _).symm.trans H; with_reducible exact H2_) | with_reducible exact H | (rw [hy167]; exact H) | exact H
  have Ny167 := am_ hy167; clear hy167; replace H := Option.bind_eq_some_iff.mp H; obtain ⟨t170, A30, H⟩ := H
  replace H : (some t170) = some r := H
  have A3 := am_ A30; clear A30
  obtain rfl := Option.some.inj H
  go_enter Tryd.func42, Tryd.ntmps42
  go_wp2_with (first | ((with_reducible refine gate_callee (f := 104) rfl ?_); refine goesL_ (some 4) rfl rfl Tryd.func104 (by kernel_rfl) rfl #[.string (⟨#[97, 32, 98, 32, 99]⟩ : ByteArray), .int .i64 2] rfl (by (try simp only [m1_, m2_, m3_]); first | done | rfl | (simp only [List.length_drop, List.length_take]; rfl)) ?_; (with_reducible refine (near_Shingles.calls k (⟨#[97, 32, 98, 32, 99]⟩ : ByteArray) 2 t163 t164 _ A1.out).mono ?_); rintro e w4 ⟨v165, rfl, ho0, hb⟩; refine ⟨_, rfl, ?_⟩; have n0_ := am_ (Kd.R_lower ho0 (below_size (by repeat (first | (with_reducible first | exact HB.out | apply b3_ | apply b1_ | apply b2_) | exact HB.out)))); have n1_ := am_ (below_step (by repeat (first | (with_reducible first | exact HB.out | apply b3_ | apply b1_ | apply b2_) | exact HB.out)) hb); clear HB; have HO166 := n0_; have HB := n1_; clear n0_ n1_; (try clear hb); (try clear hb2); (try clear hk); (try clear hi); (try clear ho0)) | ((with_reducible refine gate_dst (N := 11) rfl ?_); (try (refine gate_guard (by rfl) ?_; dsimp only)); refine Kd.R_lit Kd.string _ 9 ?hg (N := 11) ?hd (xs := ([(⟨#[97, 32, 98]⟩ : ByteArray), (⟨#[98, 32, 99]⟩ : ByteArray)] : List ByteArray)) (inner := [.string (⟨#[97, 32, 98]⟩ : ByteArray), .string (⟨#[98, 32, 99]⟩ : ByteArray)]) (ok := fun _ => True) (okp := fun _ => True) ?hr ?hp (fun _ hk => hk) trivial (Below.refl _ _) (Nat.le_refl _) (by simp) ?_; (case hd => rfl); (case hg => rfl); (case hr => first | (go_simp; done) | (go_simp; rfl)); (case hp => exact (Reps.one (show Kd.M Kd.string _ _ _ (⟨#[97, 32, 98]⟩ : ByteArray) [.string (⟨#[97, 32, 98]⟩ : ByteArray)] from rfl) (Reps.one (show Kd.M Kd.string _ _ _ (⟨#[98, 32, 99]⟩ : ByteArray) [.string (⟨#[98, 32, 99]⟩ : ByteArray)] from rfl) (Reps.none _ _)))); intro v168 w5 ho6 hb hg_ hnew_; clear hg_ hnew_; (first | rw [← Ny167.out] at ho6 | (simp only [Int.reduceToNat] at ho6; rw [← Ny167.out] at ho6)); have n0_ := am_ (Kd.R_elder' (by (with_reducible repeat (first | apply r1_ | apply r2_ | apply r3_)); exact HO166.out) (Kd.R_base ho6) hb); have n1_ := am_ (Kd.R_lower (Kd.R_new' ho6 (Kd.R_lt (by (with_reducible repeat (first | apply r1_ | apply r2_ | apply r3_)); exact HO166.out))) (below_size (by repeat (first | (with_reducible first | exact HB.out | apply b3_ | apply b1_ | apply b2_) | exact HB.out)))); have n2_ := am_ (below_step (by repeat (first | (with_reducible first | exact HB.out | apply b3_ | apply b1_ | apply b2_) | exact HB.out)) hb); clear HO166; clear HB; have HO166 := n0_; have HO169 := n1_; have HB := n2_; clear n0_ n1_ n2_; clear hb ho6; obtain ⟨Ao7, co7, eo7⟩ := Kd.R_slice HO166.out; subst eo7; obtain ⟨Ao8, co8, eo8⟩ := Kd.R_slice HO169.out; subst eo8) | (go_at_call 18; (with_reducible refine (slices_Equal_string_string.calls k _ _ t163 _ _ y167 t170 _ ?side1 ?side2 ?side3 ?side4 A3.out).mono ?_); (case side1 => repeat (first | exact (Kd.R_reads' HO166.out).2.2 | (with_reducible refine Kd.C_alloc ?_ _) | (with_reducible refine Kd.C_drewN ?_ _) | (with_reducible refine Kd.C_drew ?_))); (case side2 => exact (Kd.R_reads' HO166.out).2.1); (case side3 => repeat (first | exact (Kd.R_reads' HO169.out).2.2 | (with_reducible refine Kd.C_alloc ?_ _) | (with_reducible refine Kd.C_drewN ?_ _) | (with_reducible refine Kd.C_drew ?_))); (case side4 => exact (Kd.R_reads' HO169.out).2.1); rintro e w' ⟨rfl, ⟨nd, rfl⟩⟩))
  go_ret
  exact ⟨by first | rfl | (simp [errW_none, errW_some] <;> rfl) | (simp [*, errW_none, errW_some] <;> rfl), by repeat (first | (with_reducible first | exact HB.out | apply b3_ | apply b1_ | apply b2_) | exact HB.out)⟩
 ·rw [if_neg c2] at H
  have c2b0 : (t164 == 0) = false := beq_eq_false_iff_ne.mpr c2
  have c2b1 : (t164 != 0) = true := bne_iff_ne.mpr c2
  obtain rfl := Option.some.inj H
  go_enter Tryd.func42, Tryd.ntmps42
  go_wp2_with (first | ((with_reducible refine gate_callee (f := 104) rfl ?_); refine goesL_ (some 4) rfl rfl Tryd.func104 (by kernel_rfl) rfl #[.string (⟨#[97, 32, 98, 32, 99]⟩ : ByteArray), .int .i64 2] rfl (by (try simp only [m1_, m2_, m3_]); first | done | rfl | (simp only [List.length_drop, List.length_take]; rfl)) ?_; (with_reducible refine (near_Shingles.calls k (⟨#[97, 32, 98, 32, 99]⟩ : ByteArray) 2 t163 t164 _ A1.out).mono ?_); rintro e w9 ⟨v165, rfl, ho0, hb⟩; refine ⟨_, rfl, ?_⟩; have n0_ := am_ (Kd.R_lower ho0 (below_size (by repeat (first | (with_reducible first | exact HB.out | apply b3_ | apply b1_ | apply b2_) | exact HB.out)))); have n1_ := am_ (below_step (by repeat (first | (with_reducible first | exact HB.out | apply b3_ | apply b1_ | apply b2_) | exact HB.out)) hb); clear HB; have HO166 := n0_; have HB := n1_; clear n0_ n1_; (try clear hb); (try clear hb2); (try clear hk); (try clear hi); (try clear ho0)))
  go_ret
  exact ⟨by first | rfl | (simp [errW_none, errW_some] <;> rfl) | (simp [*, errW_none, errW_some] <;> rfl), by repeat (first | (with_reducible first | exact HB.out | apply b3_ | apply b1_ | apply b2_) | exact HB.out)⟩
def chasemake_Stream_Flip.f (s0_0 : List Int) (s0_1 : Int) (a1 : Int) : Option (Bool × Int) := (chasemake_Stream_Next.f s0_0 s0_1 a1).bind fun bt171 => (some ((bt171.1 == 0), bt171.2))
set_option maxHeartbeats 8000000 in
set_option maxRecDepth 100000 in
theorem chasemake_Stream_Flip.calls (g : Nat) (s0_0 : List Int) (s0_1 : Int) (a1 : Int) (r1 : Bool) (r2 : Int) (w0 w : World) (hI : IsS25 w0 w g s0_0 s0_1) (hB : Below w0.heap.size w0 w) (h : chasemake_Stream_Flip.f s0_0 s0_1 a1 = some (r1, r2)) :
  Calls Tryd.prog 47 #[.pointer (some ⟨g, 0, none⟩), .int .i64 a1] w fun e w' => e = .returned (.bool r1) ∧ IsS25 w0 w' g s0_0 r2 ∧ Below w0.heap.size w0 w' ∧ KeepBut w w' g none := by
 have HI0 := am_ hI
 have HK := am_ (KeepBut.refl w g none)
 have HL := am_ hB.size; clear hI; have HW0 := am_ hB.size; have HB := am_ hB; clear hB
 have H : ((chasemake_Stream_Next.f s0_0 s0_1 a1).bind fun bt171 => (some ((bt171.1 == 0), bt171.2))) = some (r1, r2) := h
 clear h; replace H := Option.bind_eq_some_iff.mp H
 obtain ⟨⟨t171, t172⟩, A30, H⟩ := H
 replace H : (some ((t171 == 0), t172)) = some (r1, r2) := H
 have A3 := am_ A30; clear A30
 simp only [Option.some.injEq, Prod.mk.injEq] at H
 obtain ⟨rfl, rfl⟩ := H
 go_enter Tryd.func47, Tryd.ntmps47
 go_wp2_with (first | ((with_reducible refine gate_callee (f := 45) rfl ?_); refine goesL_ (some 7) rfl rfl Tryd.func45 (by kernel_rfl) rfl #[.pointer (some ⟨g, 0, none⟩), .int .i64 a1] rfl (by (try simp only [m1_, m2_, m3_]); first | done | rfl | (simp only [List.length_drop, List.length_take]; rfl)) ?_; (with_reducible refine (chasemake_Stream_Next.calls g s0_0 s0_1 a1 t171 t172 w0 _ ?side1 ?side2 A3.out).mono ?_); (case side1 => repeat (first | (with_reducible first | exact HI0.out | apply IsS25.alloc | apply IsS25.drewN | apply IsS25.drew | apply IsS25.set_1) | exact HI0.out)); (case side2 => repeat (first | (with_reducible first | exact HB.out | apply b3_ | apply b1_ | apply b2_ | refine below_set ?_ (IsS25.ge HI0.out)) | exact HB.out)); rintro e w4 ⟨rfl, hi, hb, hk⟩; refine ⟨_, rfl, ?_⟩; have n0_ := am_ (KeepBut.trans (by repeat (first | (with_reducible first | exact HK.out | apply KeepBut.set_ | apply keep_drewN | apply keep_drew | apply keep_alloc) | exact HK.out)) hk (.inl rfl)); have n1_ := am_ (hb); have n2_ := am_ (hi); clear HK; clear HB; clear HI0; have HK := n0_; have HB := n1_; have HI0 := n2_; clear n0_ n1_ n2_; (try clear hb); (try clear hb2); (try clear hk); (try clear hi)))
 go_ret
 exact ⟨by first | rfl | (simp [errW_none, errW_some] <;> rfl) | (simp [*, errW_none, errW_some] <;> rfl), by repeat (first | (with_reducible first | exact HI0.out | apply IsS25.alloc | apply IsS25.drewN | apply IsS25.drew | apply IsS25.set_1) | exact HI0.out), by repeat (first | (with_reducible first | exact HB.out | apply b3_ | apply b1_ | apply b2_ | refine below_set ?_ (IsS25.ge HI0.out)) | exact HB.out), by repeat (first | (with_reducible first | exact HK.out | apply KeepBut.set_ | apply keep_drewN | apply keep_drew | apply keep_alloc) | exact HK.out)⟩
def chasemake_Stream_Changed.j0 : Nat → ByteArray → ByteArray → Bool → List Int → Int → Option (ByteArray × Int)
  | 0, _, _, _, _, _ => none
  | k + 1, x1, x2, x14, x1000, x1001 => if x14 = true then (some (x2, x1001)) else ((chasemake_Stream_Next.f x1000 x1001 (x1.size : Int)).bind fun bt173 => ((chasemake_Stream_Next.f x1000 bt173.2 (x2.size : Int)).bind fun bt175 => (if 0 ≤ bt175.1 then (if bt175.1 < (x2.size : Int) then ((chasemake_Stream_Next.f x1000 bt175.2 3).bind fun bt177 => (if bt177.1 = 0 then (if 0 ≤ bt173.1 then (if bt173.1 ≤ (x1.size : Int) then (if (x1.extract 0 (bt173.1 : Int).toNat).size + (Utf8.encode (wrap32 (bt x2 bt175.1))).size ≤ 9223372036854775807 then (if 0 ≤ (wrap64 (bt173.1 + 1)) then (if (wrap64 (bt173.1 + 1)) ≤ (x1.size : Int) then (if ((x1.extract 0 (bt173.1 : Int).toNat) ++ (Utf8.encode (wrap32 (bt x2 bt175.1)))).size + (x1.extract ((wrap64 (bt173.1 + 1)) : Int).toNat x1.size).size ≤ 9223372036854775807 then (some (((x1.extract 0 (bt173.1 : Int).toNat) ++ (Utf8.encode (wrap32 (bt x2 bt175.1)))) ++ (x1.extract ((wrap64 (bt173.1 + 1)) : Int).toNat x1.size), bt177.2)) else (none)) else (none)) else (none)) else (none)) else (none)) else (none)) else (if bt177.1 = 1 then (if 0 ≤ bt173.1 then (if bt173.1 ≤ (x1.size : Int) then (if (x1.extract 0 (bt173.1 : Int).toNat).size + (Utf8.encode (wrap32 (bt x2 bt175.1))).size ≤ 9223372036854775807 then (if ((x1.extract 0 (bt173.1 : Int).toNat) ++ (Utf8.encode (wrap32 (bt x2 bt175.1)))).size + (x1.extract (bt173.1 : Int).toNat x1.size).size ≤ 9223372036854775807 then (some (((x1.extract 0 (bt173.1 : Int).toNat) ++ (Utf8.encode (wrap32 (bt x2 bt175.1)))) ++ (x1.extract (bt173.1 : Int).toNat x1.size), bt177.2)) else (none)) else (none)) else (none)) else (none)) else (if 0 ≤ bt173.1 then (if bt173.1 ≤ (x1.size : Int) then (if 0 ≤ (wrap64 (bt173.1 + 1)) then (if (wrap64 (bt173.1 + 1)) ≤ (x1.size : Int) then (if (x1.extract 0 (bt173.1 : Int).toNat).size + (x1.extract ((wrap64 (bt173.1 + 1)) : Int).toNat x1.size).size ≤ 9223372036854775807 then (some ((x1.extract 0 (bt173.1 : Int).toNat) ++ (x1.extract ((wrap64 (bt173.1 + 1)) : Int).toNat x1.size), bt177.2)) else (none)) else (none)) else (none)) else (none)) else (none))))) else (none)) else (none))))
def chasemake_Stream_Changed.f (k : Nat) (s0_0 : List Int) (s0_1 : Int) (a1 : ByteArray) (a2 : ByteArray) : Option (ByteArray × Int) := if a1.toList = ([] : List UInt8) then (chasemake_Stream_Changed.j0 k a1 a2 true s0_0 s0_1) else (chasemake_Stream_Changed.j0 k a1 a2 (a2.toList == ([] : List UInt8)) s0_0 s0_1)
theorem chasemake_Stream_Changed.mono_l : ∀ k, (∀ y0 y1 y2 y3 y4, LeO (chasemake_Stream_Changed.j0 k y0 y1 y2 y3 y4) (chasemake_Stream_Changed.j0 (k + 1) y0 y1 y2 y3 y4))
  | 0 => fun _ _ _ _ _ r h => by simp [chasemake_Stream_Changed.j0] at h
  | k + 1 => by
    have ih0 := chasemake_Stream_Changed.mono_l k
    · intro y0 y1 y2 y3 y4
      unfold chasemake_Stream_Changed.j0
      repeat' first
      | (with_reducible exact ih0 _ _ _ _ _)
      | (with_reducible exact LeO.refl _)
      | (with_reducible exact LeO.none _)
      | (with_reducible refine LeO.ite ?_ ?_)
      | (with_reducible refine LeO.bind ?_ (fun _ => ?_))
      | exact ih0 _ _ _ _ _
      | exact LeO.none _
      | refine LeO.ite ?_ ?_
      | refine LeO.bind ?_ (fun _ => ?_)
theorem chasemake_Stream_Changed.mono : ∀ a0 a1 a2 a3 k, LeO (chasemake_Stream_Changed.f k a0 a1 a2 a3) (chasemake_Stream_Changed.f (k + 1) a0 a1 a2 a3) := by
  intro a0 a1 a2 a3 k
  have ih0 := chasemake_Stream_Changed.mono_l k
  unfold chasemake_Stream_Changed.f
  repeat' first
      | (with_reducible exact ih0 _ _ _ _ _)
      | (with_reducible exact LeO.refl _)
      | (with_reducible exact LeO.none _)
      | (with_reducible refine LeO.ite ?_ ?_)
      | (with_reducible refine LeO.bind ?_ (fun _ => ?_))
      | exact ih0 _ _ _ _ _
      | exact LeO.none _
      | refine LeO.ite ?_ ?_
      | refine LeO.bind ?_ (fun _ => ?_)
set_option maxHeartbeats 8000000 in
set_option maxRecDepth 100000 in
theorem chasemake_Stream_Changed.calls (k : Nat) (g : Nat) (s0_0 : List Int) (s0_1 : Int) (a1 : ByteArray) (a2 : ByteArray) (r1 : ByteArray) (r2 : Int) (w0 w : World) (hI : IsS25 w0 w g s0_0 s0_1) (hB : Below w0.heap.size w0 w) (h : chasemake_Stream_Changed.f k s0_0 s0_1 a1 a2 = some (r1, r2)) :
  Calls Tryd.prog 57 #[.pointer (some ⟨g, 0, none⟩), .string a1, .string a2] w fun e w' => e = .returned (.string r1) ∧ IsS25 w0 w' g s0_0 r2 ∧ Below w0.heap.size w0 w' ∧ KeepBut w w' g none := by
 have HI0 := am_ hI
 have HK := am_ (KeepBut.refl w g none)
 have HL := am_ hB.size; clear hI; have HW0 := am_ hB.size; have HB := am_ hB; clear hB
 have H : (if a1.toList = ([] : List UInt8) then (chasemake_Stream_Changed.j0 k a1 a2 true s0_0 s0_1) else (chasemake_Stream_Changed.j0 k a1 a2 (a2.toList == ([] : List UInt8)) s0_0 s0_1)) = some (r1, r2) := h
 clear h; have HC4 := am_ H; clear H
 go_enter Tryd.func57, Tryd.ntmps57
 go_upto_region 1 with (fail)
 repeat (go_quiet (fail); go_upto_region 1 with (fail))
 go_cut [14] (fun v14 wc => ∃ (kq : Nat) (x14_3 : Bool), v14 = .bool x14_3 ∧ Aside0 (chasemake_Stream_Changed.j0 kq a1 a2 x14_3 s0_0 s0_1 = some (r1, r2)) ∧ Aside0 (kq ≤ k) ∧ Aside0 (IsS25 w0 wc g s0_0 s0_1) ∧ Aside0 (KeepBut w wc g none) ∧ Aside0 (Below w0.heap.size w0 wc))
 case first =>
  have H := HC4.out
  clear HC4
  by_cases c5 : a1.toList = ([] : List UInt8)
  ·rw [if_pos c5] at H
   have c5b0 : (a1.toList == ([] : List UInt8)) = true := beq_iff_eq.mpr c5
   have c5b1 : (a1.toList != ([] : List UInt8)) = false := bne_eq_false_iff_eq.mpr c5
   clear c5
   (first | rw [c5b0] | (simp only [i64_w, i32_w]; rw [c5b0]) | skip)
   have H' := am_ H
   clear H
   go_wp2
   repeat (go_quiet (fail); try go_wp2)
   go_meet
   case rel => exact ⟨_, (true), (by first | rfl | (simp; done) | (simp [*]; done)), H', ⟨by first | omega | exact Nat.le_refl _⟩, ⟨by repeat (first | (with_reducible first | exact HI0.out | apply IsS25.alloc | apply IsS25.drewN | apply IsS25.drew | apply IsS25.set_1) | exact HI0.out)⟩, ⟨by repeat (first | (with_reducible first | exact HK.out | apply KeepBut.set_ | apply keep_drewN | apply keep_drew | apply keep_alloc) | exact HK.out)⟩, ⟨by repeat (first | (with_reducible first | exact HB.out | apply b3_ | apply b1_ | apply b2_ | refine below_set ?_ (IsS25.ge HI0.out)) | exact HB.out)⟩⟩
  ·rw [if_neg c5] at H
   have c5b0 : (a1.toList == ([] : List UInt8)) = false := beq_eq_false_iff_ne.mpr c5
   have c5b1 : (a1.toList != ([] : List UInt8)) = true := bne_iff_ne.mpr c5
   (first | rw [c5b0] | (simp only [i64_w, i32_w]; rw [c5b0]) | skip)
   have H' := am_ H
   clear H
   go_wp2
   repeat (go_quiet (fail); try go_wp2)
   go_meet
   case rel => exact ⟨_, ((a2.toList == ([] : List UInt8))), (by first | rfl | (simp; done) | (simp [*]; done)), H', ⟨by first | omega | exact Nat.le_refl _⟩, ⟨by repeat (first | (with_reducible first | exact HI0.out | apply IsS25.alloc | apply IsS25.drewN | apply IsS25.drew | apply IsS25.set_1) | exact HI0.out)⟩, ⟨by repeat (first | (with_reducible first | exact HK.out | apply KeepBut.set_ | apply keep_drewN | apply keep_drew | apply keep_alloc) | exact HK.out)⟩, ⟨by repeat (first | (with_reducible first | exact HB.out | apply b3_ | apply b1_ | apply b2_ | refine below_set ?_ (IsS25.ge HI0.out)) | exact HB.out)⟩⟩
 case rest =>
  clear HC4; (try clear p2); (try clear c5); (try clear c5b0); (try clear c5b1); obtain ⟨kq, x14_3, rfl, HA, HJ3, HI0, HK, HB⟩ := hcut
  cases kq with
  | zero => exact absurd HA.out (by simp [chasemake_Stream_Changed.j0])
  | succ kj3 =>
   have H := HA.out
   clear HA
   simp only [chasemake_Stream_Changed.j0] at H
   by_cases c6 : x14_3 = true
   ·subst c6
    have H1 : (some (a2, s0_1)) = some (r1, r2) := by rw [if_pos rfl] at H; exact H
    clear H
    have H := H1
    clear H1
    simp only [Option.some.injEq, Prod.mk.injEq] at H
    obtain ⟨rfl, rfl⟩ := H
    go_wp2
    repeat (go_quiet (fail); try go_wp2)
    go_ret
    exact ⟨by first | rfl | (simp [errW_none, errW_some] <;> rfl) | (simp [*, errW_none, errW_some] <;> rfl), by repeat (first | (with_reducible first | exact HI0.out | apply IsS25.alloc | apply IsS25.drewN | apply IsS25.drew | apply IsS25.set_1) | exact HI0.out), by repeat (first | (with_reducible first | exact HB.out | apply b3_ | apply b1_ | apply b2_ | refine below_set ?_ (IsS25.ge HI0.out)) | exact HB.out), by repeat (first | (with_reducible first | exact HK.out | apply KeepBut.set_ | apply keep_drewN | apply keep_drew | apply keep_alloc) | exact HK.out)⟩
   ·replace c6 := Bool.eq_false_iff.mpr c6
    subst c6
    have H1 : ((chasemake_Stream_Next.f s0_0 s0_1 (a1.size : Int)).bind fun bt173 => ((chasemake_Stream_Next.f s0_0 bt173.2 (a2.size : Int)).bind fun bt175 => (if 0 ≤ bt175.1 then (if bt175.1 < (a2.size : Int) then ((chasemake_Stream_Next.f s0_0 bt175.2 3).bind fun bt177 => (if bt177.1 = 0 then (if 0 ≤ bt173.1 then (if bt173.1 ≤ (a1.size : Int) then (if (a1.extract 0 (bt173.1 : Int).toNat).size + (Utf8.encode (wrap32 (bt a2 bt175.1))).size ≤ 9223372036854775807 then (if 0 ≤ (wrap64 (bt173.1 + 1)) then (if (wrap64 (bt173.1 + 1)) ≤ (a1.size : Int) then (if ((a1.extract 0 (bt173.1 : Int).toNat) ++ (Utf8.encode (wrap32 (bt a2 bt175.1)))).size + (a1.extract ((wrap64 (bt173.1 + 1)) : Int).toNat a1.size).size ≤ 9223372036854775807 then (some (((a1.extract 0 (bt173.1 : Int).toNat) ++ (Utf8.encode (wrap32 (bt a2 bt175.1)))) ++ (a1.extract ((wrap64 (bt173.1 + 1)) : Int).toNat a1.size), bt177.2)) else (none)) else (none)) else (none)) else (none)) else (none)) else (none)) else (if bt177.1 = 1 then (if 0 ≤ bt173.1 then (if bt173.1 ≤ (a1.size : Int) then (if (a1.extract 0 (bt173.1 : Int).toNat).size + (Utf8.encode (wrap32 (bt a2 bt175.1))).size ≤ 9223372036854775807 then (if ((a1.extract 0 (bt173.1 : Int).toNat) ++ (Utf8.encode (wrap32 (bt a2 bt175.1)))).size + (a1.extract (bt173.1 : Int).toNat a1.size).size ≤ 9223372036854775807 then (some (((a1.extract 0 (bt173.1 : Int).toNat) ++ (Utf8.encode (wrap32 (bt a2 bt175.1)))) ++ (a1.extract (bt173.1 : Int).toNat a1.size), bt177.2)) else (none)) else (none)) else (none)) else (none)) else (if 0 ≤ bt173.1 then (if bt173.1 ≤ (a1.size : Int) then (if 0 ≤ (wrap64 (bt173.1 + 1)) then (if (wrap64 (bt173.1 + 1)) ≤ (a1.size : Int) then (if (a1.extract 0 (bt173.1 : Int).toNat).size + (a1.extract ((wrap64 (bt173.1 + 1)) : Int).toNat a1.size).size ≤ 9223372036854775807 then (some ((a1.extract 0 (bt173.1 : Int).toNat) ++ (a1.extract ((wrap64 (bt173.1 + 1)) : Int).toNat a1.size), bt177.2)) else (none)) else (none)) else (none)) else (none)) else (none))))) else (none)) else (none)))) = some (r1, r2) := by rw [if_neg (show ¬ (false = true) by decide)] at H; exact H
    clear H
    have H := H1
    clear H1; replace H := Option.bind_eq_some_iff.mp H
    obtain ⟨⟨t173, t174⟩, A70, H⟩ := H
    replace H : ((chasemake_Stream_Next.f s0_0 t174 (a2.size : Int)).bind fun bt175 => (if 0 ≤ bt175.1 then (if bt175.1 < (a2.size : Int) then ((chasemake_Stream_Next.f s0_0 bt175.2 3).bind fun bt177 => (if bt177.1 = 0 then (if 0 ≤ t173 then (if t173 ≤ (a1.size : Int) then (if (a1.extract 0 (t173 : Int).toNat).size + (Utf8.encode (wrap32 (bt a2 bt175.1))).size ≤ 9223372036854775807 then (if 0 ≤ (wrap64 (t173 + 1)) then (if (wrap64 (t173 + 1)) ≤ (a1.size : Int) then (if ((a1.extract 0 (t173 : Int).toNat) ++ (Utf8.encode (wrap32 (bt a2 bt175.1)))).size + (a1.extract ((wrap64 (t173 + 1)) : Int).toNat a1.size).size ≤ 9223372036854775807 then (some (((a1.extract 0 (t173 : Int).toNat) ++ (Utf8.encode (wrap32 (bt a2 bt175.1)))) ++ (a1.extract ((wrap64 (t173 + 1)) : Int).toNat a1.size), bt177.2)) else (none)) else (none)) else (none)) else (none)) else (none)) else (none)) else (if bt177.1 = 1 then (if 0 ≤ t173 then (if t173 ≤ (a1.size : Int) then (if (a1.extract 0 (t173 : Int).toNat).size + (Utf8.encode (wrap32 (bt a2 bt175.1))).size ≤ 9223372036854775807 then (if ((a1.extract 0 (t173 : Int).toNat) ++ (Utf8.encode (wrap32 (bt a2 bt175.1)))).size + (a1.extract (t173 : Int).toNat a1.size).size ≤ 9223372036854775807 then (some (((a1.extract 0 (t173 : Int).toNat) ++ (Utf8.encode (wrap32 (bt a2 bt175.1)))) ++ (a1.extract (t173 : Int).toNat a1.size), bt177.2)) else (none)) else (none)) else (none)) else (none)) else (if 0 ≤ t173 then (if t173 ≤ (a1.size : Int) then (if 0 ≤ (wrap64 (t173 + 1)) then (if (wrap64 (t173 + 1)) ≤ (a1.size : Int) then (if (a1.extract 0 (t173 : Int).toNat).size + (a1.extract ((wrap64 (t173 + 1)) : Int).toNat a1.size).size ≤ 9223372036854775807 then (some ((a1.extract 0 (t173 : Int).toNat) ++ (a1.extract ((wrap64 (t173 + 1)) : Int).toNat a1.size), bt177.2)) else (none)) else (none)) else (none)) else (none)) else (none))))) else (none)) else (none))) = some (r1, r2) := H
    have A7 := am_ A70; clear A70; replace H := Option.bind_eq_some_iff.mp H
    obtain ⟨⟨t175, t176⟩, A80, H⟩ := H
    replace H : (if 0 ≤ t175 then (if t175 < (a2.size : Int) then ((chasemake_Stream_Next.f s0_0 t176 3).bind fun bt177 => (if bt177.1 = 0 then (if 0 ≤ t173 then (if t173 ≤ (a1.size : Int) then (if (a1.extract 0 (t173 : Int).toNat).size + (Utf8.encode (wrap32 (bt a2 t175))).size ≤ 9223372036854775807 then (if 0 ≤ (wrap64 (t173 + 1)) then (if (wrap64 (t173 + 1)) ≤ (a1.size : Int) then (if ((a1.extract 0 (t173 : Int).toNat) ++ (Utf8.encode (wrap32 (bt a2 t175)))).size + (a1.extract ((wrap64 (t173 + 1)) : Int).toNat a1.size).size ≤ 9223372036854775807 then (some (((a1.extract 0 (t173 : Int).toNat) ++ (Utf8.encode (wrap32 (bt a2 t175)))) ++ (a1.extract ((wrap64 (t173 + 1)) : Int).toNat a1.size), bt177.2)) else (none)) else (none)) else (none)) else (none)) else (none)) else (none)) else (if bt177.1 = 1 then (if 0 ≤ t173 then (if t173 ≤ (a1.size : Int) then (if (a1.extract 0 (t173 : Int).toNat).size + (Utf8.encode (wrap32 (bt a2 t175))).size ≤ 9223372036854775807 then (if ((a1.extract 0 (t173 : Int).toNat) ++ (Utf8.encode (wrap32 (bt a2 t175)))).size + (a1.extract (t173 : Int).toNat a1.size).size ≤ 9223372036854775807 then (some (((a1.extract 0 (t173 : Int).toNat) ++ (Utf8.encode (wrap32 (bt a2 t175)))) ++ (a1.extract (t173 : Int).toNat a1.size), bt177.2)) else (none)) else (none)) else (none)) else (none)) else (if 0 ≤ t173 then (if t173 ≤ (a1.size : Int) then (if 0 ≤ (wrap64 (t173 + 1)) then (if (wrap64 (t173 + 1)) ≤ (a1.size : Int) then (if (a1.extract 0 (t173 : Int).toNat).size + (a1.extract ((wrap64 (t173 + 1)) : Int).toNat a1.size).size ≤ 9223372036854775807 then (some ((a1.extract 0 (t173 : Int).toNat) ++ (a1.extract ((wrap64 (t173 + 1)) : Int).toNat a1.size), bt177.2)) else (none)) else (none)) else (none)) else (none)) else (none))))) else (none)) else (none)) = some (r1, r2) := H
    have A8 := am_ A80; clear A80
    by_cases c9 : 0 ≤ t175
    case neg => exact (nn_ c9 H).elim
    rw [if_pos c9] at H; have c9b0 := decide_eq_true c9; clear c9
    by_cases c10 : t175 < (a2.size : Int)
    case neg => exact (nn_ c10 H).elim
    rw [if_pos c10] at H; have c10b0 := decide_eq_true c10; clear c10; replace H := Option.bind_eq_some_iff.mp H
    obtain ⟨⟨t177, t178⟩, A120, H⟩ := H
    replace H : (if t177 = 0 then (if 0 ≤ t173 then (if t173 ≤ (a1.size : Int) then (if (a1.extract 0 (t173 : Int).toNat).size + (Utf8.encode (wrap32 (bt a2 t175))).size ≤ 9223372036854775807 then (if 0 ≤ (wrap64 (t173 + 1)) then (if (wrap64 (t173 + 1)) ≤ (a1.size : Int) then (if ((a1.extract 0 (t173 : Int).toNat) ++ (Utf8.encode (wrap32 (bt a2 t175)))).size + (a1.extract ((wrap64 (t173 + 1)) : Int).toNat a1.size).size ≤ 9223372036854775807 then (some (((a1.extract 0 (t173 : Int).toNat) ++ (Utf8.encode (wrap32 (bt a2 t175)))) ++ (a1.extract ((wrap64 (t173 + 1)) : Int).toNat a1.size), t178)) else (none)) else (none)) else (none)) else (none)) else (none)) else (none)) else (if t177 = 1 then (if 0 ≤ t173 then (if t173 ≤ (a1.size : Int) then (if (a1.extract 0 (t173 : Int).toNat).size + (Utf8.encode (wrap32 (bt a2 t175))).size ≤ 9223372036854775807 then (if ((a1.extract 0 (t173 : Int).toNat) ++ (Utf8.encode (wrap32 (bt a2 t175)))).size + (a1.extract (t173 : Int).toNat a1.size).size ≤ 9223372036854775807 then (some (((a1.extract 0 (t173 : Int).toNat) ++ (Utf8.encode (wrap32 (bt a2 t175)))) ++ (a1.extract (t173 : Int).toNat a1.size), t178)) else (none)) else (none)) else (none)) else (none)) else (if 0 ≤ t173 then (if t173 ≤ (a1.size : Int) then (if 0 ≤ (wrap64 (t173 + 1)) then (if (wrap64 (t173 + 1)) ≤ (a1.size : Int) then (if (a1.extract 0 (t173 : Int).toNat).size + (a1.extract ((wrap64 (t173 + 1)) : Int).toNat a1.size).size ≤ 9223372036854775807 then (some ((a1.extract 0 (t173 : Int).toNat) ++ (a1.extract ((wrap64 (t173 + 1)) : Int).toNat a1.size), t178)) else (none)) else (none)) else (none)) else (none)) else (none)))) = some (r1, r2) := H
    have A12 := am_ A120; clear A120
    by_cases c13 : t177 = 0
    ·rw [if_pos c13] at H
     have c13b0 : (t177 == 0) = true := beq_iff_eq.mpr c13
     have c13b1 : (t177 != 0) = false := bne_eq_false_iff_eq.mpr c13
     clear c13
     by_cases c14 : 0 ≤ t173
     case neg => exact (nn_ c14 H).elim
     rw [if_pos c14] at H; have c14b0 := eq_true c14; have c14b1 := decide_eq_true c14; clear c14
     by_cases c15 : t173 ≤ (a1.size : Int)
     case neg => exact (nn_ c15 H).elim
     rw [if_pos c15] at H; have c15b0 := eq_true c15; have c15b1 := decide_eq_true c15; clear c15
     by_cases c16 : (a1.extract 0 (t173 : Int).toNat).size + (Utf8.encode (wrap32 (bt a2 t175))).size ≤ 9223372036854775807
     case neg => exact (nn_ c16 H).elim
     rw [if_pos c16] at H; have c16b0 := eq_true c16; have c16b1 := decide_eq_true c16
     try have c16b2 : (9223372036854775807 < (a1.extract 0 (t173 : Int).toNat).size + (Utf8.encode (wrap32 (bt a2 t175))).size) = False := eq_false (Nat.not_lt.2 c16)
     obtain ⟨ji17, hji17⟩ : ∃ j_ : Int, (wrap64 (t173 + 1)) = j_ := ⟨_, rfl⟩
     replace H : (if 0 ≤ (ji17) then (if (ji17) ≤ (a1.size : Int) then (if ((a1.extract 0 (t173 : Int).toNat) ++ (Utf8.encode (wrap32 (bt a2 t175)))).size + (a1.extract ((ji17) : Int).toNat a1.size).size ≤ 9223372036854775807 then (some (((a1.extract 0 (t173 : Int).toNat) ++ (Utf8.encode (wrap32 (bt a2 t175)))) ++ (a1.extract ((ji17) : Int).toNat a1.size), t178)) else (none)) else (none)) else (none)) = some (r1, r2) := by first | (rw [hji17] at H; exact H) | (simp only [hji17] at H ⊢; exact H)
     (try rw [hji17] at A7)
     (try rw [hji17] at A8)
     (try rw [hji17] at A12)
     have hji17w : (IntKind.i64.wrap (t173 + 1)) = ji17 := (i64_w _).trans hji17
     by_cases c18 : 0 ≤ (ji17)
     case neg => exact (nn_ c18 H).elim
     rw [if_pos c18] at H; have c18b0 := eq_true c18; have c18b1 := decide_eq_true c18; clear c18
     by_cases c19 : (ji17) ≤ (a1.size : Int)
     case neg => exact (nn_ c19 H).elim
     rw [if_pos c19] at H; have c19b0 := eq_true c19; have c19b1 := decide_eq_true c19; clear c19
     by_cases c20 : ((a1.extract 0 (t173 : Int).toNat) ++ (Utf8.encode (wrap32 (bt a2 t175)))).size + (a1.extract ((ji17) : Int).toNat a1.size).size ≤ 9223372036854775807
     case neg => exact (nn_ c20 H).elim
     rw [if_pos c20] at H; have c20b0 := eq_true c20; have c20b1 := decide_eq_true c20
     try have c20b2 : (9223372036854775807 < ((a1.extract 0 (t173 : Int).toNat) ++ (Utf8.encode (wrap32 (bt a2 t175)))).size + (a1.extract ((ji17) : Int).toNat a1.size).size) = False := eq_false (Nat.not_lt.2 c20)
     try (have c20b3 := c20b2; simp only [ByteArray.size_append', ByteArray.size_mk', List.size_toArray, List.length_cons, List.length_nil, Nat.zero_add, Nat.reduceAdd] at c20b3)
     simp only [Option.some.injEq, Prod.mk.injEq] at H
     obtain ⟨rfl, rfl⟩ := H
     go_wp2_with (first | (go_at_call 45; (with_reducible refine (chasemake_Stream_Next.calls g s0_0 s0_1 (a1.size : Int) t173 t174 w0 _ ?side1 ?side2 A7.out).mono ?_); (case side1 => repeat (first | (with_reducible first | exact HI0.out | apply IsS25.alloc | apply IsS25.drewN | apply IsS25.drew | apply IsS25.set_1) | exact HI0.out)); (case side2 => repeat (first | (with_reducible first | exact HB.out | apply b3_ | apply b1_ | apply b2_ | refine below_set ?_ (IsS25.ge HI0.out)) | exact HB.out)); rintro e w21 ⟨rfl, hi, hb, hk⟩; have n0_ := am_ (KeepBut.trans (by repeat (first | (with_reducible first | exact HK.out | apply KeepBut.set_ | apply keep_drewN | apply keep_drew | apply keep_alloc) | exact HK.out)) hk (.inl rfl)); have n1_ := am_ (hb); have n2_ := am_ (hi); clear HK; clear HB; clear HI0; have HK := n0_; have HB := n1_; have HI0 := n2_; clear n0_ n1_ n2_; (try clear hb); (try clear hb2); (try clear hk); (try clear hi)) | (go_at_call 45; (with_reducible refine (chasemake_Stream_Next.calls g s0_0 t174 (a2.size : Int) t175 t176 w0 _ ?side1 ?side2 A8.out).mono ?_); (case side1 => repeat (first | (with_reducible first | exact HI0.out | apply IsS25.alloc | apply IsS25.drewN | apply IsS25.drew | apply IsS25.set_1) | exact HI0.out)); (case side2 => repeat (first | (with_reducible first | exact HB.out | apply b3_ | apply b1_ | apply b2_ | refine below_set ?_ (IsS25.ge HI0.out)) | exact HB.out)); rintro e w22 ⟨rfl, hi, hb, hk⟩; have n0_ := am_ (KeepBut.trans (by repeat (first | (with_reducible first | exact HK.out | apply KeepBut.set_ | apply keep_drewN | apply keep_drew | apply keep_alloc) | exact HK.out)) hk (.inl rfl)); have n1_ := am_ (hb); have n2_ := am_ (hi); clear HK; clear HB; clear HI0; have HK := n0_; have HB := n1_; have HI0 := n2_; clear n0_ n1_ n2_; (try clear hb); (try clear hb2); (try clear hk); (try clear hi); have p11 : 0 ≤ (t175 : Int) := ode_; have q11 : t175 < (a2.size : Int) := ode_; have hx11 := bt_at a2 t175; replace p11 := eq_true p11; replace q11 := eq_true q11) | (go_at_call 45; (with_reducible refine (chasemake_Stream_Next.calls g s0_0 t176 3 t177 t178 w0 _ ?side1 ?side2 A12.out).mono ?_); (case side1 => repeat (first | (with_reducible first | exact HI0.out | apply IsS25.alloc | apply IsS25.drewN | apply IsS25.drew | apply IsS25.set_1) | exact HI0.out)); (case side2 => repeat (first | (with_reducible first | exact HB.out | apply b3_ | apply b1_ | apply b2_ | refine below_set ?_ (IsS25.ge HI0.out)) | exact HB.out)); rintro e w23 ⟨rfl, hi, hb, hk⟩; have n0_ := am_ (KeepBut.trans (by repeat (first | (with_reducible first | exact HK.out | apply KeepBut.set_ | apply keep_drewN | apply keep_drew | apply keep_alloc) | exact HK.out)) hk (.inl rfl)); have n1_ := am_ (hb); have n2_ := am_ (hi); clear HK; clear HB; clear HI0; have HK := n0_; have HB := n1_; have HI0 := n2_; clear n0_ n1_ n2_; (try clear hb); (try clear hb2); (try clear hk); (try clear hi)))
     repeat (go_quiet (first | (go_at_call 45; (with_reducible refine (chasemake_Stream_Next.calls g s0_0 s0_1 (a1.size : Int) t173 t174 w0 _ ?side1 ?side2 A7.out).mono ?_); (case side1 => repeat (first | (with_reducible first | exact HI0.out | apply IsS25.alloc | apply IsS25.drewN | apply IsS25.drew | apply IsS25.set_1) | exact HI0.out)); (case side2 => repeat (first | (with_reducible first | exact HB.out | apply b3_ | apply b1_ | apply b2_ | refine below_set ?_ (IsS25.ge HI0.out)) | exact HB.out)); rintro e w21 ⟨rfl, hi, hb, hk⟩; have n0_ := am_ (KeepBut.trans (by repeat (first | (with_reducible first | exact HK.out | apply KeepBut.set_ | apply keep_drewN | apply keep_drew | apply keep_alloc) | exact HK.out)) hk (.inl rfl)); have n1_ := am_ (hb); have n2_ := am_ (hi); clear HK; clear HB; clear HI0; have HK := n0_; have HB := n1_; have HI0 := n2_; clear n0_ n1_ n2_; (try clear hb); (try clear hb2); (try clear hk); (try clear hi)) | (go_at_call 45; (with_reducible refine (chasemake_Stream_Next.calls g s0_0 t174 (a2.size : Int) t175 t176 w0 _ ?side1 ?side2 A8.out).mono ?_); (case side1 => repeat (first | (with_reducible first | exact HI0.out | apply IsS25.alloc | apply IsS25.drewN | apply IsS25.drew | apply IsS25.set_1) | exact HI0.out)); (case side2 => repeat (first | (with_reducible first | exact HB.out | apply b3_ | apply b1_ | apply b2_ | refine below_set ?_ (IsS25.ge HI0.out)) | exact HB.out)); rintro e w22 ⟨rfl, hi, hb, hk⟩; have n0_ := am_ (KeepBut.trans (by repeat (first | (with_reducible first | exact HK.out | apply KeepBut.set_ | apply keep_drewN | apply keep_drew | apply keep_alloc) | exact HK.out)) hk (.inl rfl)); have n1_ := am_ (hb); have n2_ := am_ (hi); clear HK; clear HB; clear HI0; have HK := n0_; have HB := n1_; have HI0 := n2_; clear n0_ n1_ n2_; (try clear hb); (try clear hb2); (try clear hk); (try clear hi); have p11 : 0 ≤ (t175 : Int) := ode_; have q11 : t175 < (a2.size : Int) := ode_; have hx11 := bt_at a2 t175; replace p11 := eq_true p11; replace q11 := eq_true q11) | (go_at_call 45; (with_reducible refine (chasemake_Stream_Next.calls g s0_0 t176 3 t177 t178 w0 _ ?side1 ?side2 A12.out).mono ?_); (case side1 => repeat (first | (with_reducible first | exact HI0.out | apply IsS25.alloc | apply IsS25.drewN | apply IsS25.drew | apply IsS25.set_1) | exact HI0.out)); (case side2 => repeat (first | (with_reducible first | exact HB.out | apply b3_ | apply b1_ | apply b2_ | refine below_set ?_ (IsS25.ge HI0.out)) | exact HB.out)); rintro e w23 ⟨rfl, hi, hb, hk⟩; have n0_ := am_ (KeepBut.trans (by repeat (first | (with_reducible first | exact HK.out | apply KeepBut.set_ | apply keep_drewN | apply keep_drew | apply keep_alloc) | exact HK.out)) hk (.inl rfl)); have n1_ := am_ (hb); have n2_ := am_ (hi); clear HK; clear HB; clear HI0; have HK := n0_; have HB := n1_; have HI0 := n2_; clear n0_ n1_ n2_; (try clear hb); (try clear hb2); (try clear hk); (try clear hi))); try go_wp2_with (first | (go_at_call 45; (with_reducible refine (chasemake_Stream_Next.calls g s0_0 s0_1 (a1.size : Int) t173 t174 w0 _ ?side1 ?side2 A7.out).mono ?_); (case side1 => repeat (first | (with_reducible first | exact HI0.out | apply IsS25.alloc | apply IsS25.drewN | apply IsS25.drew | apply IsS25.set_1) | exact HI0.out)); (case side2 => repeat (first | (with_reducible first | exact HB.out | apply b3_ | apply b1_ | apply b2_ | refine below_set ?_ (IsS25.ge HI0.out)) | exact HB.out)); rintro e w21 ⟨rfl, hi, hb, hk⟩; have n0_ := am_ (KeepBut.trans (by repeat (first | (with_reducible first | exact HK.out | apply KeepBut.set_ | apply keep_drewN | apply keep_drew | apply keep_alloc) | exact HK.out)) hk (.inl rfl)); have n1_ := am_ (hb); have n2_ := am_ (hi); clear HK; clear HB; clear HI0; have HK := n0_; have HB := n1_; have HI0 := n2_; clear n0_ n1_ n2_; (try clear hb); (try clear hb2); (try clear hk); (try clear hi)) | (go_at_call 45; (with_reducible refine (chasemake_Stream_Next.calls g s0_0 t174 (a2.size : Int) t175 t176 w0 _ ?side1 ?side2 A8.out).mono ?_); (case side1 => repeat (first | (with_reducible first | exact HI0.out | apply IsS25.alloc | apply IsS25.drewN | apply IsS25.drew | apply IsS25.set_1) | exact HI0.out)); (case side2 => repeat (first | (with_reducible first | exact HB.out | apply b3_ | apply b1_ | apply b2_ | refine below_set ?_ (IsS25.ge HI0.out)) | exact HB.out)); rintro e w22 ⟨rfl, hi, hb, hk⟩; have n0_ := am_ (KeepBut.trans (by repeat (first | (with_reducible first | exact HK.out | apply KeepBut.set_ | apply keep_drewN | apply keep_drew | apply keep_alloc) | exact HK.out)) hk (.inl rfl)); have n1_ := am_ (hb); have n2_ := am_ (hi); clear HK; clear HB; clear HI0; have HK := n0_; have HB := n1_; have HI0 := n2_; clear n0_ n1_ n2_; (try clear hb); (try clear hb2); (try clear hk); (try clear hi); have p11 : 0 ≤ (t175 : Int) := ode_; have q11 : t175 < (a2.size : Int) := ode_; have hx11 := bt_at a2 t175; replace p11 := eq_true p11; replace q11 := eq_true q11) | (go_at_call 45; (with_reducible refine (chasemake_Stream_Next.calls g s0_0 t176 3 t177 t178 w0 _ ?side1 ?side2 A12.out).mono ?_); (case side1 => repeat (first | (with_reducible first | exact HI0.out | apply IsS25.alloc | apply IsS25.drewN | apply IsS25.drew | apply IsS25.set_1) | exact HI0.out)); (case side2 => repeat (first | (with_reducible first | exact HB.out | apply b3_ | apply b1_ | apply b2_ | refine below_set ?_ (IsS25.ge HI0.out)) | exact HB.out)); rintro e w23 ⟨rfl, hi, hb, hk⟩; have n0_ := am_ (KeepBut.trans (by repeat (first | (with_reducible first | exact HK.out | apply KeepBut.set_ | apply keep_drewN | apply keep_drew | apply keep_alloc) | exact HK.out)) hk (.inl rfl)); have n1_ := am_ (hb); have n2_ := am_ (hi); clear HK; clear HB; clear HI0; have HK := n0_; have HB := n1_; have HI0 := n2_; clear n0_ n1_ n2_; (try clear hb); (try clear hb2); (try clear hk); (try clear hi))))
     go_ret
     exact ⟨by first | rfl | (simp [errW_none, errW_some] <;> rfl) | (simp only [← hji17]; first | rfl | (simp [errW_none, errW_some] <;> rfl)) | (simp [*, errW_none, errW_some] <;> rfl), by repeat (first | (with_reducible first | exact HI0.out | apply IsS25.alloc | apply IsS25.drewN | apply IsS25.drew | apply IsS25.set_1) | exact HI0.out), by repeat (first | (with_reducible first | exact HB.out | apply b3_ | apply b1_ | apply b2_ | refine below_set ?_ (IsS25.ge HI0.out)) | exact HB.out), by repeat (first | (with_reducible first | exact HK.out | apply KeepBut.set_ | apply keep_drewN | apply keep_drew | apply keep_alloc) | exact HK.out)⟩
    ·rw [if_neg c13] at H
     have c13b0 : (t177 == 0) = false := beq_eq_false_iff_ne.mpr c13
     have c13b1 : (t177 != 0) = true := bne_iff_ne.mpr c13
     by_cases c24 : t177 = 1
     ·rw [if_pos c24] at H
      have c24b0 : (t177 == 1) = true := beq_iff_eq.mpr c24
      have c24b1 : (t177 != 1) = false := bne_eq_false_iff_eq.mpr c24
      clear c24
      by_cases c25 : 0 ≤ t173
      case neg => exact (nn_ c25 H).elim
      rw [if_pos c25] at H; have c25b0 := eq_true c25; have c25b1 := decide_eq_true c25; clear c25
      by_cases c26 : t173 ≤ (a1.size : Int)
      case neg => exact (nn_ c26 H).elim
      rw [if_pos c26] at H; have c26b0 := eq_true c26; have c26b1 := decide_eq_true c26; clear c26
      by_cases c27 : (a1.extract 0 (t173 : Int).toNat).size + (Utf8.encode (wrap32 (bt a2 t175))).size ≤ 9223372036854775807
      case neg => exact (nn_ c27 H).elim
      rw [if_pos c27] at H; have c27b0 := eq_true c27; have c27b1 := decide_eq_true c27
      try have c27b2 : (9223372036854775807 < (a1.extract 0 (t173 : Int).toNat).size + (Utf8.encode (wrap32 (bt a2 t175))).size) = False := eq_false (Nat.not_lt.2 c27)
      have c28b0 := eq_true (ode_ : 0 ≤ t173)
      have c29b0 := eq_true (ode_ : t173 ≤ (a1.size : Int))
      by_cases c30 : ((a1.extract 0 (t173 : Int).toNat) ++ (Utf8.encode (wrap32 (bt a2 t175)))).size + (a1.extract (t173 : Int).toNat a1.size).size ≤ 9223372036854775807
      case neg => exact (nn_ c30 H).elim
      rw [if_pos c30] at H; have c30b0 := eq_true c30; have c30b1 := decide_eq_true c30
      try have c30b2 : (9223372036854775807 < ((a1.extract 0 (t173 : Int).toNat) ++ (Utf8.encode (wrap32 (bt a2 t175)))).size + (a1.extract (t173 : Int).toNat a1.size).size) = False := eq_false (Nat.not_lt.2 c30)
      try (have c30b3 := c30b2; simp only [ByteArray.size_append', ByteArray.size_mk', List.size_toArray, List.length_cons, List.length_nil, Nat.zero_add, Nat.reduceAdd] at c30b3)
      simp only [Option.some.injEq, Prod.mk.injEq] at H
      obtain ⟨rfl, rfl⟩ := H
      go_wp2_with (first | (go_at_call 45; (with_reducible refine (chasemake_Stream_Next.calls g s0_0 s0_1 (a1.size : Int) t173 t174 w0 _ ?side1 ?side2 A7.out).mono ?_); (case side1 => repeat (first | (with_reducible first | exact HI0.out | apply IsS25.alloc | apply IsS25.drewN | apply IsS25.drew | apply IsS25.set_1) | exact HI0.out)); (case side2 => repeat (first | (with_reducible first | exact HB.out | apply b3_ | apply b1_ | apply b2_ | refine below_set ?_ (IsS25.ge HI0.out)) | exact HB.out)); rintro e w31 ⟨rfl, hi, hb, hk⟩; have n0_ := am_ (KeepBut.trans (by repeat (first | (with_reducible first | exact HK.out | apply KeepBut.set_ | apply keep_drewN | apply keep_drew | apply keep_alloc) | exact HK.out)) hk (.inl rfl)); have n1_ := am_ (hb); have n2_ := am_ (hi); clear HK; clear HB; clear HI0; have HK := n0_; have HB := n1_; have HI0 := n2_; clear n0_ n1_ n2_; (try clear hb); (try clear hb2); (try clear hk); (try clear hi)) | (go_at_call 45; (with_reducible refine (chasemake_Stream_Next.calls g s0_0 t174 (a2.size : Int) t175 t176 w0 _ ?side1 ?side2 A8.out).mono ?_); (case side1 => repeat (first | (with_reducible first | exact HI0.out | apply IsS25.alloc | apply IsS25.drewN | apply IsS25.drew | apply IsS25.set_1) | exact HI0.out)); (case side2 => repeat (first | (with_reducible first | exact HB.out | apply b3_ | apply b1_ | apply b2_ | refine below_set ?_ (IsS25.ge HI0.out)) | exact HB.out)); rintro e w32 ⟨rfl, hi, hb, hk⟩; have n0_ := am_ (KeepBut.trans (by repeat (first | (with_reducible first | exact HK.out | apply KeepBut.set_ | apply keep_drewN | apply keep_drew | apply keep_alloc) | exact HK.out)) hk (.inl rfl)); have n1_ := am_ (hb); have n2_ := am_ (hi); clear HK; clear HB; clear HI0; have HK := n0_; have HB := n1_; have HI0 := n2_; clear n0_ n1_ n2_; (try clear hb); (try clear hb2); (try clear hk); (try clear hi); have p11 : 0 ≤ (t175 : Int) := ode_; have q11 : t175 < (a2.size : Int) := ode_; have hx11 := bt_at a2 t175; replace p11 := eq_true p11; replace q11 := eq_true q11) | (go_at_call 45; (with_reducible refine (chasemake_Stream_Next.calls g s0_0 t176 3 t177 t178 w0 _ ?side1 ?side2 A12.out).mono ?_); (case side1 => repeat (first | (with_reducible first | exact HI0.out | apply IsS25.alloc | apply IsS25.drewN | apply IsS25.drew | apply IsS25.set_1) | exact HI0.out)); (case side2 => repeat (first | (with_reducible first | exact HB.out | apply b3_ | apply b1_ | apply b2_ | refine below_set ?_ (IsS25.ge HI0.out)) | exact HB.out)); rintro e w33 ⟨rfl, hi, hb, hk⟩; have n0_ := am_ (KeepBut.trans (by repeat (first | (with_reducible first | exact HK.out | apply KeepBut.set_ | apply keep_drewN | apply keep_drew | apply keep_alloc) | exact HK.out)) hk (.inl rfl)); have n1_ := am_ (hb); have n2_ := am_ (hi); clear HK; clear HB; clear HI0; have HK := n0_; have HB := n1_; have HI0 := n2_; clear n0_ n1_ n2_; (try clear hb); (try clear hb2); (try clear hk); (try clear hi)))
      repeat (go_quiet (first | (go_at_call 45; (with_reducible refine (chasemake_Stream_Next.calls g s0_0 s0_1 (a1.size : Int) t173 t174 w0 _ ?side1 ?side2 A7.out).mono ?_); (case side1 => repeat (first | (with_reducible first | exact HI0.out | apply IsS25.alloc | apply IsS25.drewN | apply IsS25.drew | apply IsS25.set_1) | exact HI0.out)); (case side2 => repeat (first | (with_reducible first | exact HB.out | apply b3_ | apply b1_ | apply b2_ | refine below_set ?_ (IsS25.ge HI0.out)) | exact HB.out)); rintro e w31 ⟨rfl, hi, hb, hk⟩; have n0_ := am_ (KeepBut.trans (by repeat (first | (with_reducible first | exact HK.out | apply KeepBut.set_ | apply keep_drewN | apply keep_drew | apply keep_alloc) | exact HK.out)) hk (.inl rfl)); have n1_ := am_ (hb); have n2_ := am_ (hi); clear HK; clear HB; clear HI0; have HK := n0_; have HB := n1_; have HI0 := n2_; clear n0_ n1_ n2_; (try clear hb); (try clear hb2); (try clear hk); (try clear hi)) | (go_at_call 45; (with_reducible refine (chasemake_Stream_Next.calls g s0_0 t174 (a2.size : Int) t175 t176 w0 _ ?side1 ?side2 A8.out).mono ?_); (case side1 => repeat (first | (with_reducible first | exact HI0.out | apply IsS25.alloc | apply IsS25.drewN | apply IsS25.drew | apply IsS25.set_1) | exact HI0.out)); (case side2 => repeat (first | (with_reducible first | exact HB.out | apply b3_ | apply b1_ | apply b2_ | refine below_set ?_ (IsS25.ge HI0.out)) | exact HB.out)); rintro e w32 ⟨rfl, hi, hb, hk⟩; have n0_ := am_ (KeepBut.trans (by repeat (first | (with_reducible first | exact HK.out | apply KeepBut.set_ | apply keep_drewN | apply keep_drew | apply keep_alloc) | exact HK.out)) hk (.inl rfl)); have n1_ := am_ (hb); have n2_ := am_ (hi); clear HK; clear HB; clear HI0; have HK := n0_; have HB := n1_; have HI0 := n2_; clear n0_ n1_ n2_; (try clear hb); (try clear hb2); (try clear hk); (try clear hi); have p11 : 0 ≤ (t175 : Int) := ode_; have q11 : t175 < (a2.size : Int) := ode_; have hx11 := bt_at a2 t175; replace p11 := eq_true p11; replace q11 := eq_true q11) | (go_at_call 45; (with_reducible refine (chasemake_Stream_Next.calls g s0_0 t176 3 t177 t178 w0 _ ?side1 ?side2 A12.out).mono ?_); (case side1 => repeat (first | (with_reducible first | exact HI0.out | apply IsS25.alloc | apply IsS25.drewN | apply IsS25.drew | apply IsS25.set_1) | exact HI0.out)); (case side2 => repeat (first | (with_reducible first | exact HB.out | apply b3_ | apply b1_ | apply b2_ | refine below_set ?_ (IsS25.ge HI0.out)) | exact HB.out)); rintro e w33 ⟨rfl, hi, hb, hk⟩; have n0_ := am_ (KeepBut.trans (by repeat (first | (with_reducible first | exact HK.out | apply KeepBut.set_ | apply keep_drewN | apply keep_drew | apply keep_alloc) | exact HK.out)) hk (.inl rfl)); have n1_ := am_ (hb); have n2_ := am_ (hi); clear HK; clear HB; clear HI0; have HK := n0_; have HB := n1_; have HI0 := n2_; clear n0_ n1_ n2_; (try clear hb); (try clear hb2); (try clear hk); (try clear hi))); try go_wp2_with (first | (go_at_call 45; (with_reducible refine (chasemake_Stream_Next.calls g s0_0 s0_1 (a1.size : Int) t173 t174 w0 _ ?side1 ?side2 A7.out).mono ?_); (case side1 => repeat (first | (with_reducible first | exact HI0.out | apply IsS25.alloc | apply IsS25.drewN | apply IsS25.drew | apply IsS25.set_1) | exact HI0.out)); (case side2 => repeat (first | (with_reducible first | exact HB.out | apply b3_ | apply b1_ | apply b2_ | refine below_set ?_ (IsS25.ge HI0.out)) | exact HB.out)); rintro e w31 ⟨rfl, hi, hb, hk⟩; have n0_ := am_ (KeepBut.trans (by repeat (first | (with_reducible first | exact HK.out | apply KeepBut.set_ | apply keep_drewN | apply keep_drew | apply keep_alloc) | exact HK.out)) hk (.inl rfl)); have n1_ := am_ (hb); have n2_ := am_ (hi); clear HK; clear HB; clear HI0; have HK := n0_; have HB := n1_; have HI0 := n2_; clear n0_ n1_ n2_; (try clear hb); (try clear hb2); (try clear hk); (try clear hi)) | (go_at_call 45; (with_reducible refine (chasemake_Stream_Next.calls g s0_0 t174 (a2.size : Int) t175 t176 w0 _ ?side1 ?side2 A8.out).mono ?_); (case side1 => repeat (first | (with_reducible first | exact HI0.out | apply IsS25.alloc | apply IsS25.drewN | apply IsS25.drew | apply IsS25.set_1) | exact HI0.out)); (case side2 => repeat (first | (with_reducible first | exact HB.out | apply b3_ | apply b1_ | apply b2_ | refine below_set ?_ (IsS25.ge HI0.out)) | exact HB.out)); rintro e w32 ⟨rfl, hi, hb, hk⟩; have n0_ := am_ (KeepBut.trans (by repeat (first | (with_reducible first | exact HK.out | apply KeepBut.set_ | apply keep_drewN | apply keep_drew | apply keep_alloc) | exact HK.out)) hk (.inl rfl)); have n1_ := am_ (hb); have n2_ := am_ (hi); clear HK; clear HB; clear HI0; have HK := n0_; have HB := n1_; have HI0 := n2_; clear n0_ n1_ n2_; (try clear hb); (try clear hb2); (try clear hk); (try clear hi); have p11 : 0 ≤ (t175 : Int) := ode_; have q11 : t175 < (a2.size : Int) := ode_; have hx11 := bt_at a2 t175; replace p11 := eq_true p11; replace q11 := eq_true q11) | (go_at_call 45; (with_reducible refine (chasemake_Stream_Next.calls g s0_0 t176 3 t177 t178 w0 _ ?side1 ?side2 A12.out).mono ?_); (case side1 => repeat (first | (with_reducible first | exact HI0.out | apply IsS25.alloc | apply IsS25.drewN | apply IsS25.drew | apply IsS25.set_1) | exact HI0.out)); (case side2 => repeat (first | (with_reducible first | exact HB.out | apply b3_ | apply b1_ | apply b2_ | refine below_set ?_ (IsS25.ge HI0.out)) | exact HB.out)); rintro e w33 ⟨rfl, hi, hb, hk⟩; have n0_ := am_ (KeepBut.trans (by repeat (first | (with_reducible first | exact HK.out | apply KeepBut.set_ | apply keep_drewN | apply keep_drew | apply keep_alloc) | exact HK.out)) hk (.inl rfl)); have n1_ := am_ (hb); have n2_ := am_ (hi); clear HK; clear HB; clear HI0; have HK := n0_; have HB := n1_; have HI0 := n2_; clear n0_ n1_ n2_; (try clear hb); (try clear hb2); (try clear hk); (try clear hi))))
      go_ret
      exact ⟨by first | rfl | (simp [errW_none, errW_some] <;> rfl) | (simp [*, errW_none, errW_some] <;> rfl), by repeat (first | (with_reducible first | exact HI0.out | apply IsS25.alloc | apply IsS25.drewN | apply IsS25.drew | apply IsS25.set_1) | exact HI0.out), by repeat (first | (with_reducible first | exact HB.out | apply b3_ | apply b1_ | apply b2_ | refine below_set ?_ (IsS25.ge HI0.out)) | exact HB.out), by repeat (first | (with_reducible first | exact HK.out | apply KeepBut.set_ | apply keep_drewN | apply keep_drew | apply keep_alloc) | exact HK.out)⟩
     ·rw [if_neg c24] at H
      have c24b0 : (t177 == 1) = false := beq_eq_false_iff_ne.mpr c24
      have c24b1 : (t177 != 1) = true := bne_iff_ne.mpr c24
      by_cases c34 : 0 ≤ t173
      case neg => exact (nn_ c34 H).elim
      rw [if_pos c34] at H; have c34b0 := eq_true c34; have c34b1 := decide_eq_true c34; clear c34
      by_cases c35 : t173 ≤ (a1.size : Int)
      case neg => exact (nn_ c35 H).elim
      rw [if_pos c35] at H; have c35b0 := eq_true c35; have c35b1 := decide_eq_true c35; clear c35
      obtain ⟨ji36, hji36⟩ : ∃ j_ : Int, (wrap64 (t173 + 1)) = j_ := ⟨_, rfl⟩
      replace H : (if 0 ≤ (ji36) then (if (ji36) ≤ (a1.size : Int) then (if (a1.extract 0 (t173 : Int).toNat).size + (a1.extract ((ji36) : Int).toNat a1.size).size ≤ 9223372036854775807 then (some ((a1.extract 0 (t173 : Int).toNat) ++ (a1.extract ((ji36) : Int).toNat a1.size), t178)) else (none)) else (none)) else (none)) = some (r1, r2) := by first | (rw [hji36] at H; exact H) | (simp only [hji36] at H ⊢; exact H)
      (try rw [hji36] at A7)
      (try rw [hji36] at A8)
      (try rw [hji36] at A12)
      have hji36w : (IntKind.i64.wrap (t173 + 1)) = ji36 := (i64_w _).trans hji36
      (try simp only [hji36] at hji17); (try simp only [hji36] at hji17w)
      by_cases c37 : 0 ≤ (ji36)
      case neg => exact (nn_ c37 H).elim
      rw [if_pos c37] at H; have c37b0 := eq_true c37; have c37b1 := decide_eq_true c37; clear c37
      by_cases c38 : (ji36) ≤ (a1.size : Int)
      case neg => exact (nn_ c38 H).elim
      rw [if_pos c38] at H; have c38b0 := eq_true c38; have c38b1 := decide_eq_true c38; clear c38
      by_cases c39 : (a1.extract 0 (t173 : Int).toNat).size + (a1.extract ((ji36) : Int).toNat a1.size).size ≤ 9223372036854775807
      case neg => exact (nn_ c39 H).elim
      rw [if_pos c39] at H; have c39b0 := eq_true c39; have c39b1 := decide_eq_true c39
      try have c39b2 : (9223372036854775807 < (a1.extract 0 (t173 : Int).toNat).size + (a1.extract ((ji36) : Int).toNat a1.size).size) = False := eq_false (Nat.not_lt.2 c39)
      simp only [Option.some.injEq, Prod.mk.injEq] at H
      obtain ⟨rfl, rfl⟩ := H
      go_wp2_with (first | (go_at_call 45; (with_reducible refine (chasemake_Stream_Next.calls g s0_0 s0_1 (a1.size : Int) t173 t174 w0 _ ?side1 ?side2 A7.out).mono ?_); (case side1 => repeat (first | (with_reducible first | exact HI0.out | apply IsS25.alloc | apply IsS25.drewN | apply IsS25.drew | apply IsS25.set_1) | exact HI0.out)); (case side2 => repeat (first | (with_reducible first | exact HB.out | apply b3_ | apply b1_ | apply b2_ | refine below_set ?_ (IsS25.ge HI0.out)) | exact HB.out)); rintro e w40 ⟨rfl, hi, hb, hk⟩; have n0_ := am_ (KeepBut.trans (by repeat (first | (with_reducible first | exact HK.out | apply KeepBut.set_ | apply keep_drewN | apply keep_drew | apply keep_alloc) | exact HK.out)) hk (.inl rfl)); have n1_ := am_ (hb); have n2_ := am_ (hi); clear HK; clear HB; clear HI0; have HK := n0_; have HB := n1_; have HI0 := n2_; clear n0_ n1_ n2_; (try clear hb); (try clear hb2); (try clear hk); (try clear hi)) | (go_at_call 45; (with_reducible refine (chasemake_Stream_Next.calls g s0_0 t174 (a2.size : Int) t175 t176 w0 _ ?side1 ?side2 A8.out).mono ?_); (case side1 => repeat (first | (with_reducible first | exact HI0.out | apply IsS25.alloc | apply IsS25.drewN | apply IsS25.drew | apply IsS25.set_1) | exact HI0.out)); (case side2 => repeat (first | (with_reducible first | exact HB.out | apply b3_ | apply b1_ | apply b2_ | refine below_set ?_ (IsS25.ge HI0.out)) | exact HB.out)); rintro e w41 ⟨rfl, hi, hb, hk⟩; have n0_ := am_ (KeepBut.trans (by repeat (first | (with_reducible first | exact HK.out | apply KeepBut.set_ | apply keep_drewN | apply keep_drew | apply keep_alloc) | exact HK.out)) hk (.inl rfl)); have n1_ := am_ (hb); have n2_ := am_ (hi); clear HK; clear HB; clear HI0; have HK := n0_; have HB := n1_; have HI0 := n2_; clear n0_ n1_ n2_; (try clear hb); (try clear hb2); (try clear hk); (try clear hi); have p11 : 0 ≤ (t175 : Int) := ode_; have q11 : t175 < (a2.size : Int) := ode_; have hx11 := bt_at a2 t175; replace p11 := eq_true p11; replace q11 := eq_true q11) | (go_at_call 45; (with_reducible refine (chasemake_Stream_Next.calls g s0_0 t176 3 t177 t178 w0 _ ?side1 ?side2 A12.out).mono ?_); (case side1 => repeat (first | (with_reducible first | exact HI0.out | apply IsS25.alloc | apply IsS25.drewN | apply IsS25.drew | apply IsS25.set_1) | exact HI0.out)); (case side2 => repeat (first | (with_reducible first | exact HB.out | apply b3_ | apply b1_ | apply b2_ | refine below_set ?_ (IsS25.ge HI0.out)) | exact HB.out)); rintro e w42 ⟨rfl, hi, hb, hk⟩; have n0_ := am_ (KeepBut.trans (by repeat (first | (with_reducible first | exact HK.out | apply KeepBut.set_ | apply keep_drewN | apply keep_drew | apply keep_alloc) | exact HK.out)) hk (.inl rfl)); have n1_ := am_ (hb); have n2_ := am_ (hi); clear HK; clear HB; clear HI0; have HK := n0_; have HB := n1_; have HI0 := n2_; clear n0_ n1_ n2_; (try clear hb); (try clear hb2); (try clear hk); (try clear hi)))
      repeat (go_quiet (first | (go_at_call 45; (with_reducible refine (chasemake_Stream_Next.calls g s0_0 s0_1 (a1.size : Int) t173 t174 w0 _ ?side1 ?side2 A7.out).mono ?_); (case side1 => repeat (first | (with_reducible first | exact HI0.out | apply IsS25.alloc | apply IsS25.drewN | apply IsS25.drew | apply IsS25.set_1) | exact HI0.out)); (case side2 => repeat (first | (with_reducible first | exact HB.out | apply b3_ | apply b1_ | apply b2_ | refine below_set ?_ (IsS25.ge HI0.out)) | exact HB.out)); rintro e w40 ⟨rfl, hi, hb, hk⟩; have n0_ := am_ (KeepBut.trans (by repeat (first | (with_reducible first | exact HK.out | apply KeepBut.set_ | apply keep_drewN | apply keep_drew | apply keep_alloc) | exact HK.out)) hk (.inl rfl)); have n1_ := am_ (hb); have n2_ := am_ (hi); clear HK; clear HB; clear HI0; have HK := n0_; have HB := n1_; have HI0 := n2_; clear n0_ n1_ n2_; (try clear hb); (try clear hb2); (try clear hk); (try clear hi)) | (go_at_call 45; (with_reducible refine (chasemake_Stream_Next.calls g s0_0 t174 (a2.size : Int) t175 t176 w0 _ ?side1 ?side2 A8.out).mono ?_); (case side1 => repeat (first | (with_reducible first | exact HI0.out | apply IsS25.alloc | apply IsS25.drewN | apply IsS25.drew | apply IsS25.set_1) | exact HI0.out)); (case side2 => repeat (first | (with_reducible first | exact HB.out | apply b3_ | apply b1_ | apply b2_ | refine below_set ?_ (IsS25.ge HI0.out)) | exact HB.out)); rintro e w41 ⟨rfl, hi, hb, hk⟩; have n0_ := am_ (KeepBut.trans (by repeat (first | (with_reducible first | exact HK.out | apply KeepBut.set_ | apply keep_drewN | apply keep_drew | apply keep_alloc) | exact HK.out)) hk (.inl rfl)); have n1_ := am_ (hb); have n2_ := am_ (hi); clear HK; clear HB; clear HI0; have HK := n0_; have HB := n1_; have HI0 := n2_; clear n0_ n1_ n2_; (try clear hb); (try clear hb2); (try clear hk); (try clear hi); have p11 : 0 ≤ (t175 : Int) := ode_; have q11 : t175 < (a2.size : Int) := ode_; have hx11 := bt_at a2 t175; replace p11 := eq_true p11; replace q11 := eq_true q11) | (go_at_call 45; (with_reducible refine (chasemake_Stream_Next.calls g s0_0 t176 3 t177 t178 w0 _ ?side1 ?side2 A12.out).mono ?_); (case side1 => repeat (first | (with_reducible first | exact HI0.out | apply IsS25.alloc | apply IsS25.drewN | apply IsS25.drew | apply IsS25.set_1) | exact HI0.out)); (case side2 => repeat (first | (with_reducible first | exact HB.out | apply b3_ | apply b1_ | apply b2_ | refine below_set ?_ (IsS25.ge HI0.out)) | exact HB.out)); rintro e w42 ⟨rfl, hi, hb, hk⟩; have n0_ := am_ (KeepBut.trans (by repeat (first | (with_reducible first | exact HK.out | apply KeepBut.set_ | apply keep_drewN | apply keep_drew | apply keep_alloc) | exact HK.out)) hk (.inl rfl)); have n1_ := am_ (hb); have n2_ := am_ (hi); clear HK; clear HB; clear HI0; have HK := n0_; have HB := n1_; have HI0 := n2_; clear n0_ n1_ n2_; (try clear hb); (try clear hb2); (try clear hk); (try clear hi))); try go_wp2_with (first | (go_at_call 45; (with_reducible refine (chasemake_Stream_Next.calls g s0_0 s0_1 (a1.size : Int) t173 t174 w0 _ ?side1 ?side2 A7.out).mono ?_); (case side1 => repeat (first | (with_reducible first | exact HI0.out | apply IsS25.alloc | apply IsS25.drewN | apply IsS25.drew | apply IsS25.set_1) | exact HI0.out)); (case side2 => repeat (first | (with_reducible first | exact HB.out | apply b3_ | apply b1_ | apply b2_ | refine below_set ?_ (IsS25.ge HI0.out)) | exact HB.out)); rintro e w40 ⟨rfl, hi, hb, hk⟩; have n0_ := am_ (KeepBut.trans (by repeat (first | (with_reducible first | exact HK.out | apply KeepBut.set_ | apply keep_drewN | apply keep_drew | apply keep_alloc) | exact HK.out)) hk (.inl rfl)); have n1_ := am_ (hb); have n2_ := am_ (hi); clear HK; clear HB; clear HI0; have HK := n0_; have HB := n1_; have HI0 := n2_; clear n0_ n1_ n2_; (try clear hb); (try clear hb2); (try clear hk); (try clear hi)) | (go_at_call 45; (with_reducible refine (chasemake_Stream_Next.calls g s0_0 t174 (a2.size : Int) t175 t176 w0 _ ?side1 ?side2 A8.out).mono ?_); (case side1 => repeat (first | (with_reducible first | exact HI0.out | apply IsS25.alloc | apply IsS25.drewN | apply IsS25.drew | apply IsS25.set_1) | exact HI0.out)); (case side2 => repeat (first | (with_reducible first | exact HB.out | apply b3_ | apply b1_ | apply b2_ | refine below_set ?_ (IsS25.ge HI0.out)) | exact HB.out)); rintro e w41 ⟨rfl, hi, hb, hk⟩; have n0_ := am_ (KeepBut.trans (by repeat (first | (with_reducible first | exact HK.out | apply KeepBut.set_ | apply keep_drewN | apply keep_drew | apply keep_alloc) | exact HK.out)) hk (.inl rfl)); have n1_ := am_ (hb); have n2_ := am_ (hi); clear HK; clear HB; clear HI0; have HK := n0_; have HB := n1_; have HI0 := n2_; clear n0_ n1_ n2_; (try clear hb); (try clear hb2); (try clear hk); (try clear hi); have p11 : 0 ≤ (t175 : Int) := ode_; have q11 : t175 < (a2.size : Int) := ode_; have hx11 := bt_at a2 t175; replace p11 := eq_true p11; replace q11 := eq_true q11) | (go_at_call 45; (with_reducible refine (chasemake_Stream_Next.calls g s0_0 t176 3 t177 t178 w0 _ ?side1 ?side2 A12.out).mono ?_); (case side1 => repeat (first | (with_reducible first | exact HI0.out | apply IsS25.alloc | apply IsS25.drewN | apply IsS25.drew | apply IsS25.set_1) | exact HI0.out)); (case side2 => repeat (first | (with_reducible first | exact HB.out | apply b3_ | apply b1_ | apply b2_ | refine below_set ?_ (IsS25.ge HI0.out)) | exact HB.out)); rintro e w42 ⟨rfl, hi, hb, hk⟩; have n0_ := am_ (KeepBut.trans (by repeat (first | (with_reducible first | exact HK.out | apply KeepBut.set_ | apply keep_drewN | apply keep_drew | apply keep_alloc) | exact HK.out)) hk (.inl rfl)); have n1_ := am_ (hb); have n2_ := am_ (hi); clear HK; clear HB; clear HI0; have HK := n0_; have HB := n1_; have HI0 := n2_; clear n0_ n1_ n2_; (try clear hb); (try clear hb2); (try clear hk); (try clear hi))))
      go_ret
      exact ⟨by first | rfl | (simp [errW_none, errW_some] <;> rfl) | (simp only [← hji36]; first | rfl | (simp [errW_none, errW_some] <;> rfl)) | (simp [*, errW_none, errW_some] <;> rfl), by repeat (first | (with_reducible first | exact HI0.out | apply IsS25.alloc | apply IsS25.drewN | apply IsS25.drew | apply IsS25.set_1) | exact HI0.out), by repeat (first | (with_reducible first | exact HB.out | apply b3_ | apply b1_ | apply b2_ | refine below_set ?_ (IsS25.ge HI0.out)) | exact HB.out), by repeat (first | (with_reducible first | exact HK.out | apply KeepBut.set_ | apply keep_drewN | apply keep_drew | apply keep_alloc) | exact HK.out)⟩
def strings_Split.f (a0 : ByteArray) (a1 : ByteArray) : Option (List ByteArray) := if a0.size < 4294967281 ∧ 1 ≤ a1.size then (some (Lib.splitB a1 0 (Lib.countB a0 a1) a0)) else (none)
set_option maxHeartbeats 8000000 in
set_option maxRecDepth 100000 in
theorem strings_Split.calls (a0 : ByteArray) (a1 : ByteArray) (r : List ByteArray) (w : World) (hGl : Wd w) (h : strings_Split.f a0 a1 = some r) :
    Calls Tryd.prog 96 #[.string a0, .string a1] w fun e w' => ∃ v0_ : Value, e = .returned (v0_) ∧ Kd.R Kd.string 9 w' w.heap.size (fun _ => True) v0_ r ∧ Below w.heap.size w w' := by
  unfold strings_Split.f at h
  by_cases hs : a0.size < 4294967281 ∧ 1 ≤ a1.size
  · rw [if_pos hs] at h
    obtain rfl := Option.some.inj h
    obtain ⟨m, hm⟩ := hGl.1
    refine (Tryd.strings_Split a0 a1 m w hs.1 hm hs.2).mono ?_
    rintro e w' ⟨rfl, rfl⟩
    have hl : (Lib.splitB a1 0 (Lib.countB a0 a1) a0).length = Lib.countB a0 a1 + 1 := Lib.splitB_all a1 hs.2 0 _ a0 rfl
    have hle := Lib.countB_le a1 hs.2 a0.size a0 (Nat.le_refl _)
    refine ⟨_, rfl, ?_, (Below.refl _ _).alloc (Nat.le_refl _) _⟩
    rw [← hl]
    refine R_of (fun _ _ => trivial) ⟨by simp, .inr ⟨w.heap.size, (Lib.splitB a1 0 (Lib.countB a0 a1) a0).length, _, rfl, Nat.le_refl _, heap_alloc_new _ _, Nat.le_refl _, by rw [hl]; unfold maxLen; omega, by simp, List.take_of_length_le (by simp)⟩⟩
  · rw [if_neg hs] at h
    exact absurd h (by simp)
mutual
def near_Tokens.l0 : Nat → List ByteArray → List ByteArray → Int → Int → Option (List ByteArray)
  | 0, _, _, _, _ => none
  | k + 1, x3, x9, x10, x11 => if x11 < x10 then (if 0 ≤ x11 then (if x11 < (x9.length : Int) then (if x11 > 0 then (if x3.length < 8796093022208 then (near_Tokens.j1 k (x3 ++ [(⟨#[10]⟩ : ByteArray)]) (rdOf ByteArray.empty x9 x11) x9 x10 x11) else (none)) else (near_Tokens.j1 k x3 (rdOf ByteArray.empty x9 x11) x9 x10 x11)) else (none)) else (none)) else (some x3)
def near_Tokens.j1 : Nat → List ByteArray → ByteArray → List ByteArray → Int → Int → Option (List ByteArray)
  | 0, _, _, _, _, _ => none
  | k + 1, x3, x5, x9, x10, x11 => (strings_Split.f x5 (⟨#[32]⟩ : ByteArray)).bind fun t186 => (near_Tokens.l1 k x3 x9 x10 x11 t186 (t186.length : Int) 0)
def near_Tokens.l1 : Nat → List ByteArray → List ByteArray → Int → Int → List ByteArray → Int → Int → Option (List ByteArray)
  | 0, _, _, _, _, _, _, _ => none
  | k + 1, x3, x9, x10, x11, x22, x23, x24 => if x24 < x23 then (if 0 ≤ x24 then (if x24 < (x22.length : Int) then (if (rdOf ByteArray.empty x22 x24).toList = ([] : List UInt8) then (near_Tokens.l1 k x3 x9 x10 x11 x22 x23 (wrap64 (x24 + 1))) else (if x3.length < 8796093022208 then (near_Tokens.l1 k (x3 ++ [rdOf ByteArray.empty x22 x24]) x9 x10 x11 x22 x23 (wrap64 (x24 + 1))) else (none))) else (none)) else (none)) else (near_Tokens.l0 k x3 x9 x10 (wrap64 (x11 + 1)))
end
def near_Tokens.f (k : Nat) (a0 : ByteArray) : Option (List ByteArray) := (strings_Split.f a0 (⟨#[10]⟩ : ByteArray)).bind fun t179 => (near_Tokens.l0 k ([] : List ByteArray) t179 (t179.length : Int) 0)
theorem near_Tokens.mono_l : ∀ k, (∀ y0 y1 y2 y3, LeO (near_Tokens.l0 k y0 y1 y2 y3) (near_Tokens.l0 (k + 1) y0 y1 y2 y3)) ∧ (∀ y0 y1 y2 y3 y4, LeO (near_Tokens.j1 k y0 y1 y2 y3 y4) (near_Tokens.j1 (k + 1) y0 y1 y2 y3 y4)) ∧ (∀ y0 y1 y2 y3 y4 y5 y6, LeO (near_Tokens.l1 k y0 y1 y2 y3 y4 y5 y6) (near_Tokens.l1 (k + 1) y0 y1 y2 y3 y4 y5 y6))
  | 0 => ⟨fun _ _ _ _ r h => by simp [near_Tokens.l0] at h, fun _ _ _ _ _ r h => by simp [near_Tokens.j1] at h, fun _ _ _ _ _ _ _ r h => by simp [near_Tokens.l1] at h⟩
  | k + 1 => by
    obtain ⟨ih0, ih1, ih2⟩ := near_Tokens.mono_l k
    refine ⟨?_, ?_, ?_⟩
    · intro y0 y1 y2 y3
      unfold near_Tokens.l0
      repeat' first
      | (with_reducible exact ih0 _ _ _ _)
      | (with_reducible exact ih1 _ _ _ _ _)
      | (with_reducible exact ih2 _ _ _ _ _ _ _)
      | (with_reducible exact LeO.refl _)
      | (with_reducible exact LeO.none _)
      | (with_reducible refine LeO.ite ?_ ?_)
      | (with_reducible refine LeO.bind ?_ (fun _ => ?_))
      | exact ih0 _ _ _ _
      | exact ih1 _ _ _ _ _
      | exact ih2 _ _ _ _ _ _ _
      | exact LeO.none _
      | refine LeO.ite ?_ ?_
      | refine LeO.bind ?_ (fun _ => ?_)
    · intro y0 y1 y2 y3 y4
      unfold near_Tokens.j1
      repeat' first
      | (with_reducible exact ih0 _ _ _ _)
      | (with_reducible exact ih1 _ _ _ _ _)
      | (with_reducible exact ih2 _ _ _ _ _ _ _)
      | (with_reducible exact LeO.refl _)
      | (with_reducible exact LeO.none _)
      | (with_reducible refine LeO.ite ?_ ?_)
      | (with_reducible refine LeO.bind ?_ (fun _ => ?_))
      | exact ih0 _ _ _ _
      | exact ih1 _ _ _ _ _
      | exact ih2 _ _ _ _ _ _ _
      | exact LeO.none _
      | refine LeO.ite ?_ ?_
      | refine LeO.bind ?_ (fun _ => ?_)
    · intro y0 y1 y2 y3 y4 y5 y6
      unfold near_Tokens.l1
      repeat' first
      | (with_reducible exact ih0 _ _ _ _)
      | (with_reducible exact ih1 _ _ _ _ _)
      | (with_reducible exact ih2 _ _ _ _ _ _ _)
      | (with_reducible exact LeO.refl _)
      | (with_reducible exact LeO.none _)
      | (with_reducible refine LeO.ite ?_ ?_)
      | (with_reducible refine LeO.bind ?_ (fun _ => ?_))
      | exact ih0 _ _ _ _
      | exact ih1 _ _ _ _ _
      | exact ih2 _ _ _ _ _ _ _
      | exact LeO.none _
      | refine LeO.ite ?_ ?_
      | refine LeO.bind ?_ (fun _ => ?_)
theorem near_Tokens.mono : ∀ a0 k, LeO (near_Tokens.f k a0) (near_Tokens.f (k + 1) a0) := by
  intro a0 k
  obtain ⟨ih0, ih1, ih2⟩ := near_Tokens.mono_l k
  unfold near_Tokens.f
  repeat' first
      | (with_reducible exact ih0 _ _ _ _)
      | (with_reducible exact ih1 _ _ _ _ _)
      | (with_reducible exact ih2 _ _ _ _ _ _ _)
      | (with_reducible exact LeO.refl _)
      | (with_reducible exact LeO.none _)
      | (with_reducible refine LeO.ite ?_ ?_)
      | (with_reducible refine LeO.bind ?_ (fun _ => ?_))
      | exact ih0 _ _ _ _
      | exact ih1 _ _ _ _ _
      | exact ih2 _ _ _ _ _ _ _
      | exact LeO.none _
      | refine LeO.ite ?_ ?_
      | refine LeO.bind ?_ (fun _ => ?_)
set_option maxHeartbeats 8000000 in
set_option maxRecDepth 100000 in
theorem near_Tokens.calls (k : Nat) (a0 : ByteArray) (r : List ByteArray) (w : World) (hGl : Wd w) (h : near_Tokens.f k a0 = some r) :
  Calls Tryd.prog 36 #[.string a0] w fun e w' => ∃ v0_ : Value, e = .returned (v0_) ∧ Kd.R Kd.string 9 w' w.heap.size (fun _ => True) v0_ r ∧ Below w.heap.size w w' := by
 have HGl := am_ hGl; clear hGl
 have HB := am_ (Below.refl w.heap.size w)
 have H : ((strings_Split.f a0 (⟨#[10]⟩ : ByteArray)).bind fun t179 => (near_Tokens.l0 k ([] : List ByteArray) t179 (t179.length : Int) 0)) = some r := h
 clear h; replace H := Option.bind_eq_some_iff.mp H; obtain ⟨t179, A20, H⟩ := H; have A2 := am_ A20; clear A20
 have H' := am_ H
 clear H
 go_enter Tryd.func36, Tryd.ntmps36
 go_wp2_with (first | ((with_reducible refine gate_callee (f := 96) rfl ?_); refine goesL_ (some 9) rfl rfl Tryd.func96 (by kernel_rfl) rfl #[.string a0, .string (⟨#[10]⟩ : ByteArray)] rfl (by (try simp only [m1_, m2_, m3_]); first | done | rfl | (simp only [List.length_drop, List.length_take]; rfl)) ?_; (with_reducible refine (strings_Split.calls a0 (⟨#[10]⟩ : ByteArray) t179 _ ?side1 A2.out).mono ?_); (case side1 => exact Wd.below HGl.out (by repeat (first | (with_reducible first | exact HB.out | apply b3_ | apply b1_ | apply b2_) | exact HB.out))); rintro e w3 ⟨v180, rfl, ho0, hb⟩; refine ⟨_, rfl, ?_⟩; have n0_ := am_ (Kd.R_lower ho0 (below_size (by repeat (first | (with_reducible first | exact HB.out | apply b3_ | apply b1_ | apply b2_) | exact HB.out)))); have n1_ := am_ (below_step (by repeat (first | (with_reducible first | exact HB.out | apply b3_ | apply b1_ | apply b2_) | exact HB.out)) hb); clear HB; have HO181 := n0_; have HB := n1_; clear n0_ n1_; (try clear hb); (try clear hb2); (try clear hk); (try clear hi); (try clear ho0); obtain ⟨Ao4, co4, eo4⟩ := Kd.R_slice HO181.out; subst eo4))
 go_loopg [3, 11] k (fun kq v3 v11 w' => ∃ (x3_1 : List ByteArray) (x11_1 : Int), v11 = .int .i64 x11_1 ∧ Aside0 (near_Tokens.l0 kq x3_1 t179 (t179.length : Int) x11_1 = some r) ∧ Aside0 (kq ≤ k) ∧ Aside0 (Kd.R Kd.string 9 w' w.heap.size (fun k_ => some k_ ≠ ((.slice Ao4 t179.length co4) : Value).ownBlock) v3 x3_1) ∧ Aside0 (Kd.R Kd.string 9 w' w.heap.size (fun k_ => some k_ ≠ (v3 : Value).ownBlock) (.slice Ao4 t179.length co4) t179) ∧ Aside0 (Below w.heap.size w w'))
 case atStart => exact ⟨(([] : List ByteArray)), (0), (by first | rfl | (simp; done) | (simp [*]; done)), H', ⟨Nat.le_refl _⟩, ⟨by first | exact Kd.R_nil _ _ _ _ _ | exact Kd.N_nil _ _ _ _ _ | exact Kd.V_nil _ _ _ _ _ | exact Kd.Q_nil _ _ _ _ _ | exact Kd.S_nil _ _ _ _ _⟩, ⟨by (with_reducible repeat (first | apply r1_ | apply r2_ | apply r3_)); exact Kd.R_mono HO181.out (fun _ hk => (by simp [Value.ownBlock]))⟩, ⟨by repeat (first | (with_reducible first | exact HB.out | apply b3_ | apply b1_ | apply b2_) | exact HB.out)⟩⟩
 case round =>
  clear H'; (try clear p2); (try clear c3); obtain ⟨x3_1, x11_1, rfl, HA, HK1, HO_3, HO_9, HB⟩ := hrel
  cases gk with
  | zero => exact absurd HA.out (by simp [near_Tokens.l0])
  | succ k1 =>
   have H := HA.out
   clear HA
   simp only [near_Tokens.l0] at H
   by_cases c5 : x11_1 < (t179.length : Int)
   ·rw [if_pos c5] at H
    have c5b0 := decide_eq_true c5; clear c5
    by_cases c6 : 0 ≤ x11_1
    case neg => exact (nn_ c6 H).elim
    rw [if_pos c6] at H; have c6b0 := decide_eq_true c6; clear c6
    by_cases c7 : x11_1 < (t179.length : Int)
    case neg => exact (nn_ c7 H).elim
    rw [if_pos c7] at H; have c7b0 := decide_eq_true c7; clear c7; have HC8 := am_ H; clear H; have p182 : 0 ≤ (x11_1 : Int) := ode_; have q182 : x11_1 < (t179.length : Int) := ode_
    obtain ⟨ad182, e182, hx182_0⟩ := Kd.at_string (Kd.R_reads' HO_9.out).2.2 x11_1 p182 q182
    cases e182; replace p182 := eq_true p182; replace q182 := eq_true q182
    go_upto_if 17 with (fail)
    go_cut [3] (fun v3 wc => ∃ (kq : Nat) (x3_7 : List ByteArray), Aside0 (near_Tokens.j1 kq x3_7 (rdOf ByteArray.empty t179 x11_1) t179 (t179.length : Int) x11_1 = some r) ∧ Aside0 (kq ≤ k1) ∧ Aside0 (Kd.R Kd.string 9 wc w.heap.size (fun k_ => some k_ ≠ ((.slice (some ad182) t179.length co4) : Value).ownBlock) v3 x3_7) ∧ Aside0 (Kd.R Kd.string 9 wc w.heap.size (fun k_ => some k_ ≠ (v3 : Value).ownBlock) (.slice (some ad182) t179.length co4) t179) ∧ Aside0 (Below w.heap.size w wc))
    case first =>
     have H := HC8.out
     clear HC8
     by_cases c9 : x11_1 > 0
     ·rw [if_pos c9] at H
      have c9b0 : decide (0 < x11_1) = true := decide_eq_true c9
      clear c9
      (first | rw [c9b0] | (simp only [i64_w, i32_w]; rw [c9b0]) | skip)
      by_cases c10 : x3_1.length < 8796093022208
      case neg => exact (nn_ c10 H).elim
      rw [if_pos c10] at H; have LMc10 := am_ c10; clear c10
      obtain ⟨y183, hy183⟩ : ∃ y_ : List ByteArray, y_ = (x3_1 ++ [(⟨#[10]⟩ : ByteArray)]) := ⟨_, rfl⟩
      replace H : (near_Tokens.j1 k1 y183 (rdOf ByteArray.empty t179 x11_1) t179 (t179.length : Int) x11_1) = some r := by first | (rw [hy183]; with_reducible exact H) | (have H2_ := (Option.bind_some _ _).symm.trans H; rw [hy183]; with_reducible exact H2_) | (have H2_ := (Option.bind_some _ _).symm.trans H; with_reducible exact H2_) | with_reducible exact H | (rw [hy183]; exact H) | exact H
      have Ny183 := am_ hy183; clear hy183
      have H' := am_ H
      clear H
      go_wp2_with (first | ((with_reducible refine gate_builtin (b := .append) (xs := #[.tmp 18, .tmp 19]) rfl ?_); at_builtin; refine Kd.R_append Kd.string (w0 := w) w.heap.size rfl (.tmp 18) (.tmp 19) 26 9 (.string ⟨#[]⟩) 16 rfl Tryd.underlying26 info9 rfl (by decide) (by omega) u3 x3_1 (⟨#[10]⟩ : ByteArray) [.string (⟨#[10]⟩ : ByteArray)] (fun k_ => some k_ ≠ (.slice (some ad182) t179.length co4 : Value).ownBlock) (fun _ => False) rfl rfl ?aP (fun _ hk => hk.elim) ?aF ?aO ?aB ?aS ?aL ?_; (case aP => exact rfl); (case aB => exact (by repeat (first | (with_reducible first | exact HB.out | apply b3_ | apply b1_ | apply b2_) | exact HB.out))); (case aF => exact (fun k_ hk => Kd.fresh' (Kd.R_lt (by (with_reducible repeat (first | apply r1_ | apply r2_ | apply r3_)); exact HO_9.out)) k_ hk)); (case aO => exact (by (with_reducible repeat (first | apply r1_ | apply r2_ | apply r3_)); exact HO_3.out)); (case aS => exact (below_size (by repeat (first | (with_reducible first | exact HB.out | apply b3_ | apply b1_ | apply b2_) | exact HB.out)))); (case aL => have := LMc10.out; omega); intro v184 w11 ho hb hg hat; rw [← Ny183.out] at ho; have n0_ := am_ (Kd.R_after (ok := (fun _ => True)) (by (with_reducible repeat (first | apply r1_ | apply r2_ | apply r3_)); exact Kd.R_mono HO_9.out (fun _ hk => ⟨trivial, hk⟩)) hg hat); have n1_ := am_ (hb); have n2_ := am_ (ho); clear HO_9; clear HB; clear HO_3; have HO_9 := n0_; have HB := n1_; have HO185 := n2_; clear n0_ n1_ n2_; clear ho hb hg hat))
      go_meet
      case rel => exact ⟨_, (y183), H', ⟨by have := HK1.out; first | omega | exact Nat.le_refl _⟩, ⟨by (with_reducible repeat (first | apply r1_ | apply r2_ | apply r3_)); exact HO185.out⟩, ⟨by (with_reducible repeat (first | apply r1_ | apply r2_ | apply r3_)); exact Kd.R_mono HO_9.out (fun _ hk => hk.2)⟩, ⟨by repeat (first | (with_reducible first | exact HB.out | apply b3_ | apply b1_ | apply b2_) | exact HB.out)⟩⟩
     ·rw [if_neg c9] at H
      have c9b0 : decide (0 < x11_1) = false := decide_eq_false c9
      clear c9
      (first | rw [c9b0] | (simp only [i64_w, i32_w]; rw [c9b0]) | skip)
      have H' := am_ H
      clear H
      go_wp2
      go_meet
      case rel => exact ⟨_, (x3_1), H', ⟨by have := HK1.out; first | omega | exact Nat.le_refl _⟩, ⟨by (with_reducible repeat (first | apply r1_ | apply r2_ | apply r3_)); exact HO_3.out⟩, ⟨by (with_reducible repeat (first | apply r1_ | apply r2_ | apply r3_)); exact HO_9.out⟩, ⟨by repeat (first | (with_reducible first | exact HB.out | apply b3_ | apply b1_ | apply b2_) | exact HB.out)⟩⟩
    case rest =>
     clear HC8; (try clear c1); (try clear p1); (try clear q1); (try clear hx1); (try clear p2); (try clear c3); (try clear c5); (try clear c5b0); (try clear c6); (try clear c6b0); (try clear c7); (try clear c7b0); (try clear c9); (try clear c9b0); (try clear c10); (try clear hx182_0); (try clear p182); (try clear p2); (try clear q182); obtain ⟨kq, x3_7, HA, HJ7, HO_3, HO_9, HB⟩ := hcut
     cases kq with
     | zero => exact absurd HA.out (by simp [near_Tokens.j1])
     | succ kj7 =>
      have H := HA.out
      clear HA
      simp only [near_Tokens.j1] at H
      replace H := Option.bind_eq_some_iff.mp H; obtain ⟨t186, A120, H⟩ := H; have A12 := am_ A120; clear A120
      have H' := am_ H
      clear H
      go_wp2_with (first | ((with_reducible refine gate_callee (f := 96) rfl ?_); refine goesL_ (some 22) rfl rfl Tryd.func96 (by kernel_rfl) rfl #[.string (rdOf ByteArray.empty t179 x11_1), .string (⟨#[32]⟩ : ByteArray)] rfl (by (try simp only [m1_, m2_, m3_]); first | done | rfl | (simp only [List.length_drop, List.length_take]; rfl)) ?_; (with_reducible refine (strings_Split.calls (rdOf ByteArray.empty t179 x11_1) (⟨#[32]⟩ : ByteArray) t186 _ ?side1 A12.out).mono ?_); (case side1 => exact Wd.below HGl.out (by repeat (first | (with_reducible first | exact HB.out | apply b3_ | apply b1_ | apply b2_) | exact HB.out))); rintro e w13 ⟨v187, rfl, ho0, hb⟩; refine ⟨_, rfl, ?_⟩; have n0_ := am_ (Kd.R_elder' (by (with_reducible repeat (first | apply r1_ | apply r2_ | apply r3_)); exact HO_3.out) (Kd.R_base ho0) hb); have n1_ := am_ (Kd.R_elder' (by (with_reducible repeat (first | apply r1_ | apply r2_ | apply r3_)); exact HO_9.out) (Kd.R_base ho0) hb); have n2_ := am_ (Kd.R_lower (Kd.R_new' (Kd.R_new' ho0 (Kd.R_lt (by (with_reducible repeat (first | apply r1_ | apply r2_ | apply r3_)); exact HO_3.out))) (Kd.R_lt (by (with_reducible repeat (first | apply r1_ | apply r2_ | apply r3_)); exact HO_9.out))) (below_size (by repeat (first | (with_reducible first | exact HB.out | apply b3_ | apply b1_ | apply b2_) | exact HB.out)))); have n3_ := am_ (below_step (by repeat (first | (with_reducible first | exact HB.out | apply b3_ | apply b1_ | apply b2_) | exact HB.out)) hb); clear HO_3; clear HO_9; clear HB; have HO_3 := n0_; have HO_9 := n1_; have HO188 := n2_; have HB := n3_; clear n0_ n1_ n2_ n3_; (try clear hb); (try clear hb2); (try clear hk); (try clear hi); (try clear ho0); obtain ⟨Ao14, co14, eo14⟩ := Kd.R_slice HO188.out; subst eo14))
      go_loopg [3, 24] kj7 (fun kq v3 v24 w' => ∃ (x3_3 : List ByteArray) (x24_3 : Int), v24 = .int .i64 x24_3 ∧ Aside0 (near_Tokens.l1 kq x3_3 t179 (t179.length : Int) x11_1 t186 (t186.length : Int) x24_3 = some r) ∧ Aside0 (kq ≤ kj7) ∧ Aside0 (Kd.R Kd.string 9 w' w.heap.size (fun k_ => some k_ ≠ ((.slice (some ad182) t179.length co4) : Value).ownBlock ∧ some k_ ≠ ((.slice Ao14 t186.length co14) : Value).ownBlock) v3 x3_3) ∧ Aside0 (Kd.R Kd.string 9 w' w.heap.size (fun k_ => some k_ ≠ (v3 : Value).ownBlock ∧ some k_ ≠ ((.slice Ao14 t186.length co14) : Value).ownBlock) (.slice (some ad182) t179.length co4) t179) ∧ Aside0 (Kd.R Kd.string 9 w' w.heap.size (fun k_ => some k_ ≠ (v3 : Value).ownBlock ∧ some k_ ≠ ((.slice (some ad182) t179.length co4) : Value).ownBlock) (.slice Ao14 t186.length co14) t186) ∧ Aside0 (Below w.heap.size w w'))
      case atStart => exact ⟨(x3_7), (0), (by first | rfl | (simp; done) | (simp [*]; done)), H', ⟨Nat.le_refl _⟩, ⟨by (with_reducible repeat (first | apply r1_ | apply r2_ | apply r3_)); exact HO_3.out⟩, ⟨by (with_reducible repeat (first | apply r1_ | apply r2_ | apply r3_)); exact HO_9.out⟩, ⟨by (with_reducible repeat (first | apply r1_ | apply r2_ | apply r3_)); exact Kd.R_mono HO188.out (fun _ hk => ⟨hk.1.2, hk.2⟩)⟩, ⟨by repeat (first | (with_reducible first | exact HB.out | apply b3_ | apply b1_ | apply b2_) | exact HB.out)⟩⟩
      case round =>
       clear H'; (try clear c1); (try clear p1); (try clear q1); (try clear hx1); (try clear p2); (try clear c3); (try clear c5); (try clear c5b0); (try clear c6); (try clear c6b0); (try clear c7); (try clear c7b0); (try clear c9); (try clear c9b0); (try clear c10); (try clear hx182_0); (try clear p1); (try clear p182); (try clear p2); (try clear q1); (try clear q182); obtain ⟨x3_3, x24_3, rfl, HA, HK3, HO_3, HO_9, HO_22, HB⟩ := hrel
       cases gk with
       | zero => exact absurd HA.out (by simp [near_Tokens.l1])
       | succ k3 =>
        have H := HA.out
        clear HA
        simp only [near_Tokens.l1] at H
        by_cases c15 : x24_3 < (t186.length : Int)
        ·rw [if_pos c15] at H
         have c15b0 := decide_eq_true c15; clear c15
         by_cases c16 : 0 ≤ x24_3
         case neg => exact (nn_ c16 H).elim
         rw [if_pos c16] at H; have c16b0 := decide_eq_true c16; clear c16
         by_cases c17 : x24_3 < (t186.length : Int)
         case neg => exact (nn_ c17 H).elim
         rw [if_pos c17] at H; have c17b0 := decide_eq_true c17; clear c17
         by_cases c18 : (rdOf ByteArray.empty t186 x24_3).toList = ([] : List UInt8)
         ·rw [if_pos c18] at H
          have c18b0 : ((rdOf ByteArray.empty t186 x24_3).toList == ([] : List UInt8)) = true := beq_iff_eq.mpr c18
          have c18b1 : ((rdOf ByteArray.empty t186 x24_3).toList != ([] : List UInt8)) = false := bne_eq_false_iff_eq.mpr c18
          clear c18
          have H' := am_ H
          clear H; have p189 : 0 ≤ (x24_3 : Int) := ode_; have q189 : x24_3 < (t186.length : Int) := ode_
          obtain ⟨ad189, e189, hx189_0⟩ := Kd.at_string (Kd.R_reads' HO_22.out).2.2 x24_3 p189 q189
          cases e189; replace p189 := eq_true p189; replace q189 := eq_true q189
          go_wp2
          go_roundg k3
          case measure => have := HK1.out; have := HJ7.out; have := HK3.out; omega
          case rel => exact ⟨(x3_3), (wrap64 (x24_3 + 1)), (by first | rfl | (simp; done) | (simp [*]; done)), H', ⟨by have := HK1.out; have := HJ7.out; have := HK3.out; omega⟩, ⟨by (with_reducible repeat (first | apply r1_ | apply r2_ | apply r3_)); exact HO_3.out⟩, ⟨by (with_reducible repeat (first | apply r1_ | apply r2_ | apply r3_)); exact HO_9.out⟩, ⟨by (with_reducible repeat (first | apply r1_ | apply r2_ | apply r3_)); exact HO_22.out⟩, ⟨by repeat (first | (with_reducible first | exact HB.out | apply b3_ | apply b1_ | apply b2_) | exact HB.out)⟩⟩
         ·rw [if_neg c18] at H
          have c18b0 : ((rdOf ByteArray.empty t186 x24_3).toList == ([] : List UInt8)) = false := beq_eq_false_iff_ne.mpr c18
          have c18b1 : ((rdOf ByteArray.empty t186 x24_3).toList != ([] : List UInt8)) = true := bne_iff_ne.mpr c18
          by_cases c19 : x3_3.length < 8796093022208
          case neg => exact (nn_ c19 H).elim
          rw [if_pos c19] at H; have LMc19 := am_ c19; clear c19
          obtain ⟨y190, hy190⟩ : ∃ y_ : List ByteArray, y_ = (x3_3 ++ [rdOf ByteArray.empty t186 x24_3]) := ⟨_, rfl⟩
          replace H : (near_Tokens.l1 k3 y190 t179 (t179.length : Int) x11_1 t186 (t186.length : Int) (wrap64 (x24_3 + 1))) = some r := by first | (rw [hy190]; with_reducible exact H) | (have H2_ := (Option.bind_some _ _).symm.trans H; rw [hy190]; with_reducible exact H2_) | (have H2_ := (Option.bind_some _ _).symm.trans H; with_reducible exact H2_) | with_reducible exact H | (rw [hy190]; exact H) | exact H
          have Ny190 := am_ hy190; clear hy190
          have H' := am_ H
          clear H; have p189 : 0 ≤ (x24_3 : Int) := ode_; have q189 : x24_3 < (t186.length : Int) := ode_
          obtain ⟨ad189, e189, hx189_0⟩ := Kd.at_string (Kd.R_reads' HO_22.out).2.2 x24_3 p189 q189
          cases e189; replace p189 := eq_true p189; replace q189 := eq_true q189
          go_wp2_with (first | ((with_reducible refine gate_builtin (b := .append) (xs := #[.tmp 30, .tmp 32]) rfl ?_); at_builtin; refine Kd.R_append Kd.string (w0 := w) w.heap.size rfl (.tmp 30) (.tmp 32) 26 9 (.string ⟨#[]⟩) 16 rfl Tryd.underlying26 info9 rfl (by decide) (by omega) u3 x3_3 (rdOf ByteArray.empty t186 x24_3) [.string (rdOf ByteArray.empty t186 x24_3)] (fun k_ => some k_ ≠ (.slice (some ad182) t179.length co4 : Value).ownBlock ∧ some k_ ≠ (.slice (some ad189) t186.length co14 : Value).ownBlock) (fun _ => False) rfl rfl ?aP (fun _ hk => hk.elim) ?aF ?aO ?aB ?aS ?aL ?_; (case aP => exact rfl); (case aB => exact (by repeat (first | (with_reducible first | exact HB.out | apply b3_ | apply b1_ | apply b2_) | exact HB.out))); (case aF => exact (fun k_ hk => ⟨Kd.fresh' (Kd.R_lt (by (with_reducible repeat (first | apply r1_ | apply r2_ | apply r3_)); exact HO_9.out)) k_ hk, Kd.fresh' (Kd.R_lt (by (with_reducible repeat (first | apply r1_ | apply r2_ | apply r3_)); exact HO_22.out)) k_ hk⟩)); (case aO => exact (by (with_reducible repeat (first | apply r1_ | apply r2_ | apply r3_)); exact HO_3.out)); (case aS => exact (below_size (by repeat (first | (with_reducible first | exact HB.out | apply b3_ | apply b1_ | apply b2_) | exact HB.out)))); (case aL => have := LMc19.out; omega); intro v191 w20 ho hb hg hat; rw [← Ny190.out] at ho; have n0_ := am_ (Kd.R_after (ok := (fun k_ => some k_ ≠ (.slice (some ad189) t186.length co14 : Value).ownBlock)) (by (with_reducible repeat (first | apply r1_ | apply r2_ | apply r3_)); exact Kd.R_mono HO_9.out (fun _ hk => ⟨hk.2, hk.1⟩)) hg hat); have n1_ := am_ (Kd.R_after (ok := (fun k_ => some k_ ≠ (.slice (some ad182) t179.length co4 : Value).ownBlock)) (by (with_reducible repeat (first | apply r1_ | apply r2_ | apply r3_)); exact Kd.R_mono HO_22.out (fun _ hk => ⟨hk.2, hk.1⟩)) hg hat); have n2_ := am_ (hb); have n3_ := am_ (ho); clear HO_9; clear HO_22; clear HB; clear HO_3; have HO_9 := n0_; have HO_22 := n1_; have HB := n2_; have HO192 := n3_; clear n0_ n1_ n2_ n3_; clear ho hb hg hat))
          go_roundg k3
          case measure => have := HK1.out; have := HJ7.out; have := HK3.out; omega
          case rel => exact ⟨(y190), (wrap64 (x24_3 + 1)), (by first | rfl | (simp; done) | (simp [*]; done)), H', ⟨by have := HK1.out; have := HJ7.out; have := HK3.out; omega⟩, ⟨by (with_reducible repeat (first | apply r1_ | apply r2_ | apply r3_)); exact HO192.out⟩, ⟨by (with_reducible repeat (first | apply r1_ | apply r2_ | apply r3_)); exact Kd.R_mono HO_9.out (fun _ hk => ⟨hk.2, hk.1⟩)⟩, ⟨by (with_reducible repeat (first | apply r1_ | apply r2_ | apply r3_)); exact Kd.R_mono HO_22.out (fun _ hk => ⟨hk.2, hk.1⟩)⟩, ⟨by repeat (first | (with_reducible first | exact HB.out | apply b3_ | apply b1_ | apply b2_) | exact HB.out)⟩⟩
        ·rw [if_neg c15] at H
         have c15b0 : decide (x24_3 < (t186.length : Int)) = false := decide_eq_false c15
         clear c15
         have H' := am_ H
         clear H
         go_wp2
         go_roundg k3
         case measure => have := HK1.out; have := HJ7.out; have := HK3.out; omega
         case rel => exact ⟨(x3_3), (wrap64 (x11_1 + 1)), (by first | rfl | (simp; done) | (simp [*]; done)), H', ⟨by have := HK1.out; have := HJ7.out; have := HK3.out; omega⟩, ⟨by (with_reducible repeat (first | apply r1_ | apply r2_ | apply r3_)); exact Kd.R_mono HO_3.out (fun _ hk => hk.1)⟩, ⟨by (with_reducible repeat (first | apply r1_ | apply r2_ | apply r3_)); exact Kd.R_mono HO_9.out (fun _ hk => hk.1)⟩, ⟨by repeat (first | (with_reducible first | exact HB.out | apply b3_ | apply b1_ | apply b2_) | exact HB.out)⟩⟩
   ·rw [if_neg c5] at H
    have c5b0 : decide (x11_1 < (t179.length : Int)) = false := decide_eq_false c5
    clear c5
    obtain rfl := Option.some.inj H
    go_wp2
    go_ret
    exact ⟨_, by first | rfl | (simp [errW_none, errW_some] <;> rfl) | (simp [*, errW_none, errW_some] <;> rfl), by (with_reducible repeat (first | apply r1_ | apply r2_ | apply r3_)); exact Kd.R_mono HO_3.out (fun _ hk => trivial), by repeat (first | (with_reducible first | exact HB.out | apply b3_ | apply b1_ | apply b2_) | exact HB.out)⟩
def near_tokens.f (k : Nat) (a0 : ByteArray) : Option (List ByteArray × Int) := (near_large.f a0).bind fun t193 => (if t193 = 0 then ((near_Tokens.f k a0).bind fun t194 => ((base_When.f (decide ((t194.length : Int) > 2000)) 2).bind fun t197 => (some (t194, t197)))) else (some (([] : List ByteArray), t193)))
theorem near_tokens.mono : ∀ a0 k, LeO (near_tokens.f k a0) (near_tokens.f (k + 1) a0) := by
  intro a0 k
  unfold near_tokens.f
  repeat' first
      | (with_reducible exact near_Tokens.mono _ _)
      | (with_reducible exact LeO.refl _)
      | (with_reducible exact LeO.none _)
      | (with_reducible refine LeO.ite ?_ ?_)
      | (with_reducible refine LeO.bind ?_ (fun _ => ?_))
      | exact LeO.none _
      | refine LeO.ite ?_ ?_
      | refine LeO.bind ?_ (fun _ => ?_)
set_option maxHeartbeats 8000000 in
set_option maxRecDepth 100000 in
theorem near_tokens.calls (k : Nat) (a0 : ByteArray) (r1 : List ByteArray) (r2 : Int) (w : World) (hGl : Wd w) (h : near_tokens.f k a0 = some (r1, r2)) :
  Calls Tryd.prog 159 #[.string a0] w fun e w' => ∃ v0_ : Value, e = .returned (.tuple #[v0_, .int .i64 r2]) ∧ Kd.R Kd.string 9 w' w.heap.size (fun _ => True) v0_ r1 ∧ Below w.heap.size w w' := by
 have HGl := am_ hGl; clear hGl
 have HB := am_ (Below.refl w.heap.size w)
 have H : ((near_large.f a0).bind fun t193 => (if t193 = 0 then ((near_Tokens.f k a0).bind fun t194 => ((base_When.f (decide ((t194.length : Int) > 2000)) 2).bind fun t197 => (some (t194, t197)))) else (some (([] : List ByteArray), t193)))) = some (r1, r2) := h
 clear h; replace H := Option.bind_eq_some_iff.mp H; obtain ⟨t193, A20, H⟩ := H; have A2 := am_ A20; clear A20
 by_cases c3 : t193 = 0
 ·rw [if_pos c3] at H
  have c3b0 : (t193 == 0) = true := beq_iff_eq.mpr c3
  have c3b1 : (t193 != 0) = false := bne_eq_false_iff_eq.mpr c3
  clear c3; replace H := Option.bind_eq_some_iff.mp H; obtain ⟨t194, A40, H⟩ := H; have A4 := am_ A40; clear A40; replace H := Option.bind_eq_some_iff.mp H; obtain ⟨t197, A50, H⟩ := H
  replace H : (some (t194, t197)) = some (r1, r2) := H
  have A5 := am_ A50; clear A50
  simp only [Option.some.injEq, Prod.mk.injEq] at H
  obtain ⟨rfl, rfl⟩ := H
  go_enter Tryd.func159, Tryd.ntmps159
  go_wp2_with (first | ((with_reducible refine gate_callee (f := 150) rfl ?_); refine goesL_ (some 7) rfl rfl Tryd.func150 (by kernel_rfl) rfl #[.string a0] rfl (by (try simp only [m1_, m2_, m3_]); first | done | rfl | (simp only [List.length_drop, List.length_take]; rfl)) ?_; (with_reducible refine (near_large.calls a0 t193 _ A2.out).mono ?_); rintro e w' ⟨rfl, ⟨nd, rfl⟩⟩; refine ⟨_, rfl, ?_⟩) | ((with_reducible refine gate_callee (f := 36) rfl ?_); refine goesL_ (some 12) rfl rfl Tryd.func36 (by kernel_rfl) rfl #[.string a0] rfl (by (try simp only [m1_, m2_, m3_]); first | done | rfl | (simp only [List.length_drop, List.length_take]; rfl)) ?_; (with_reducible refine (near_Tokens.calls k a0 t194 _ ?side1 A4.out).mono ?_); (case side1 => exact Wd.below HGl.out (by repeat (first | (with_reducible first | exact HB.out | apply b3_ | apply b1_ | apply b2_) | exact HB.out))); rintro e w6 ⟨v195, rfl, ho0, hb⟩; refine ⟨_, rfl, ?_⟩; have n0_ := am_ (Kd.R_lower ho0 (below_size (by repeat (first | (with_reducible first | exact HB.out | apply b3_ | apply b1_ | apply b2_) | exact HB.out)))); have n1_ := am_ (below_step (by repeat (first | (with_reducible first | exact HB.out | apply b3_ | apply b1_ | apply b2_) | exact HB.out)) hb); clear HB; have HO196 := n0_; have HB := n1_; clear n0_ n1_; (try clear hb); (try clear hb2); (try clear hk); (try clear hi); (try clear ho0); obtain ⟨Ao7, co7, eo7⟩ := Kd.R_slice HO196.out; subst eo7) | ((with_reducible refine gate_callee (f := 81) rfl ?_); refine goesL_ (some 17) rfl rfl Tryd.func81 (by kernel_rfl) rfl #[.bool (decide ((t194.length : Int) > 2000)), .int .i64 2] rfl (by (try simp only [m1_, m2_, m3_]); first | done | rfl | (simp only [List.length_drop, List.length_take]; rfl)) ?_; (with_reducible refine (base_When.calls (decide ((t194.length : Int) > 2000)) 2 t197 _ A5.out).mono ?_); rintro e w' ⟨rfl, ⟨nd, rfl⟩⟩; refine ⟨_, rfl, ?_⟩))
  go_ret2
  exact ⟨_, by first | rfl | (simp [errW_none, errW_some] <;> rfl) | (simp [*, errW_none, errW_some] <;> rfl), by (with_reducible repeat (first | apply r1_ | apply r2_ | apply r3_)); exact HO196.out, by repeat (first | (with_reducible first | exact HB.out | apply b3_ | apply b1_ | apply b2_) | exact HB.out)⟩
 ·rw [if_neg c3] at H
  have c3b0 : (t193 == 0) = false := beq_eq_false_iff_ne.mpr c3
  have c3b1 : (t193 != 0) = true := bne_iff_ne.mpr c3
  simp only [Option.some.injEq, Prod.mk.injEq] at H
  obtain ⟨rfl, rfl⟩ := H
  go_enter Tryd.func159, Tryd.ntmps159
  go_wp2_with (first | ((with_reducible refine gate_callee (f := 150) rfl ?_); refine goesL_ (some 7) rfl rfl Tryd.func150 (by kernel_rfl) rfl #[.string a0] rfl (by (try simp only [m1_, m2_, m3_]); first | done | rfl | (simp only [List.length_drop, List.length_take]; rfl)) ?_; (with_reducible refine (near_large.calls a0 t193 _ A2.out).mono ?_); rintro e w' ⟨rfl, ⟨nd, rfl⟩⟩; refine ⟨_, rfl, ?_⟩))
  go_ret2
  exact ⟨_, by first | rfl | (simp [errW_none, errW_some] <;> rfl) | (simp [*, errW_none, errW_some] <;> rfl), by first | exact Kd.R_nil _ _ _ _ _ | exact Kd.N_nil _ _ _ _ _ | exact Kd.V_nil _ _ _ _ _ | exact Kd.Q_nil _ _ _ _ _ | exact Kd.S_nil _ _ _ _ _, by repeat (first | (with_reducible first | exact HB.out | apply b3_ | apply b1_ | apply b2_) | exact HB.out)⟩
def near_both.f (k : Nat) (a0 : ByteArray) (a1 : ByteArray) : Option (List ByteArray × List ByteArray × Int) := (near_tokens.f k a0).bind fun bt198 => (if bt198.2 = 0 then ((near_tokens.f k a1).bind fun bt202 => (some (bt198.1, bt202.1, bt202.2))) else (some (([] : List ByteArray), ([] : List ByteArray), bt198.2)))
theorem near_both.mono : ∀ a0 a1 k, LeO (near_both.f k a0 a1) (near_both.f (k + 1) a0 a1) := by
  intro a0 a1 k
  unfold near_both.f
  repeat' first
      | (with_reducible exact near_tokens.mono _ _)
      | (with_reducible exact LeO.refl _)
      | (with_reducible exact LeO.none _)
      | (with_reducible refine LeO.ite ?_ ?_)
      | (with_reducible refine LeO.bind ?_ (fun _ => ?_))
      | exact LeO.none _
      | refine LeO.ite ?_ ?_
      | refine LeO.bind ?_ (fun _ => ?_)
set_option maxHeartbeats 8000000 in
set_option maxRecDepth 100000 in
theorem near_both.calls (k : Nat) (a0 : ByteArray) (a1 : ByteArray) (r1 : List ByteArray) (r2 : List ByteArray) (r3 : Int) (w : World) (hGl : Wd w) (h : near_both.f k a0 a1 = some (r1, r2, r3)) :
  Calls Tryd.prog 118 #[.string a0, .string a1] w fun e w' => ∃ v0_ v1_ : Value, e = .returned (.tuple #[v0_, v1_, .int .i64 r3]) ∧ Kd.R Kd.string 9 w' w.heap.size (fun k_ => some k_ ≠ (v1_ : Value).ownBlock) v0_ r1 ∧ Kd.R Kd.string 9 w' w.heap.size (fun k_ => some k_ ≠ (v0_ : Value).ownBlock) v1_ r2 ∧ Below w.heap.size w w' := by
 have HGl := am_ hGl; clear hGl
 have HB := am_ (Below.refl w.heap.size w)
 have H : ((near_tokens.f k a0).bind fun bt198 => (if bt198.2 = 0 then ((near_tokens.f k a1).bind fun bt202 => (some (bt198.1, bt202.1, bt202.2))) else (some (([] : List ByteArray), ([] : List ByteArray), bt198.2)))) = some (r1, r2, r3) := h
 clear h; replace H := Option.bind_eq_some_iff.mp H
 obtain ⟨⟨t198, t199⟩, A30, H⟩ := H
 replace H : (if t199 = 0 then ((near_tokens.f k a1).bind fun bt202 => (some (t198, bt202.1, bt202.2))) else (some (([] : List ByteArray), ([] : List ByteArray), t199))) = some (r1, r2, r3) := H
 have A3 := am_ A30; clear A30
 by_cases c4 : t199 = 0
 ·rw [if_pos c4] at H
  have c4b0 : (t199 == 0) = true := beq_iff_eq.mpr c4
  have c4b1 : (t199 != 0) = false := bne_eq_false_iff_eq.mpr c4
  clear c4; replace H := Option.bind_eq_some_iff.mp H
  obtain ⟨⟨t202, t203⟩, A50, H⟩ := H
  replace H : (some (t198, t202, t203)) = some (r1, r2, r3) := H
  have A5 := am_ A50; clear A50
  simp only [Option.some.injEq, Prod.mk.injEq] at H
  obtain ⟨rfl, rfl, rfl⟩ := H
  go_enter Tryd.func118, Tryd.ntmps118
  go_wp2_with (first | ((with_reducible refine gate_callee (f := 159) rfl ?_); refine goesL_ (some 9) rfl rfl Tryd.func159 (by kernel_rfl) rfl #[.string a0] rfl (by (try simp only [m1_, m2_, m3_]); first | done | rfl | (simp only [List.length_drop, List.length_take]; rfl)) ?_; (with_reducible refine (near_tokens.calls k a0 t198 t199 _ ?side1 A3.out).mono ?_); (case side1 => exact Wd.below HGl.out (by repeat (first | (with_reducible first | exact HB.out | apply b3_ | apply b1_ | apply b2_) | exact HB.out))); rintro e w6 ⟨v200, rfl, ho0, hb⟩; refine ⟨_, rfl, ?_⟩; have n0_ := am_ (Kd.R_lower ho0 (below_size (by repeat (first | (with_reducible first | exact HB.out | apply b3_ | apply b1_ | apply b2_) | exact HB.out)))); have n1_ := am_ (below_step (by repeat (first | (with_reducible first | exact HB.out | apply b3_ | apply b1_ | apply b2_) | exact HB.out)) hb); clear HB; have HO201 := n0_; have HB := n1_; clear n0_ n1_; (try clear hb); (try clear hb2); (try clear hk); (try clear hi); (try clear ho0)) | ((with_reducible refine gate_callee (f := 159) rfl ?_); refine goesL_ (some 17) rfl rfl Tryd.func159 (by kernel_rfl) rfl #[.string a1] rfl (by (try simp only [m1_, m2_, m3_]); first | done | rfl | (simp only [List.length_drop, List.length_take]; rfl)) ?_; (with_reducible refine (near_tokens.calls k a1 t202 t203 _ ?side1 A5.out).mono ?_); (case side1 => exact Wd.below HGl.out (by repeat (first | (with_reducible first | exact HB.out | apply b3_ | apply b1_ | apply b2_) | exact HB.out))); rintro e w7 ⟨v204, rfl, ho0, hb⟩; refine ⟨_, rfl, ?_⟩; have n0_ := am_ (Kd.R_elder' (by (with_reducible repeat (first | apply r1_ | apply r2_ | apply r3_)); exact HO201.out) (Kd.R_base ho0) hb); have n1_ := am_ (Kd.R_lower (Kd.R_new' ho0 (Kd.R_lt (by (with_reducible repeat (first | apply r1_ | apply r2_ | apply r3_)); exact HO201.out))) (below_size (by repeat (first | (with_reducible first | exact HB.out | apply b3_ | apply b1_ | apply b2_) | exact HB.out)))); have n2_ := am_ (below_step (by repeat (first | (with_reducible first | exact HB.out | apply b3_ | apply b1_ | apply b2_) | exact HB.out)) hb); clear HO201; clear HB; have HO201 := n0_; have HO205 := n1_; have HB := n2_; clear n0_ n1_ n2_; (try clear hb); (try clear hb2); (try clear hk); (try clear hi); (try clear ho0)))
  go_ret3
  exact ⟨_, _, by first | rfl | (simp [errW_none, errW_some] <;> rfl) | (simp [*, errW_none, errW_some] <;> rfl), by (with_reducible repeat (first | apply r1_ | apply r2_ | apply r3_)); exact Kd.R_mono HO201.out (fun _ hk => hk.2), by (with_reducible repeat (first | apply r1_ | apply r2_ | apply r3_)); exact Kd.R_mono HO205.out (fun _ hk => hk.2), by repeat (first | (with_reducible first | exact HB.out | apply b3_ | apply b1_ | apply b2_) | exact HB.out)⟩
 ·rw [if_neg c4] at H
  have c4b0 : (t199 == 0) = false := beq_eq_false_iff_ne.mpr c4
  have c4b1 : (t199 != 0) = true := bne_iff_ne.mpr c4
  simp only [Option.some.injEq, Prod.mk.injEq] at H
  obtain ⟨rfl, rfl, rfl⟩ := H
  go_enter Tryd.func118, Tryd.ntmps118
  go_wp2_with (first | ((with_reducible refine gate_callee (f := 159) rfl ?_); refine goesL_ (some 9) rfl rfl Tryd.func159 (by kernel_rfl) rfl #[.string a0] rfl (by (try simp only [m1_, m2_, m3_]); first | done | rfl | (simp only [List.length_drop, List.length_take]; rfl)) ?_; (with_reducible refine (near_tokens.calls k a0 t198 t199 _ ?side1 A3.out).mono ?_); (case side1 => exact Wd.below HGl.out (by repeat (first | (with_reducible first | exact HB.out | apply b3_ | apply b1_ | apply b2_) | exact HB.out))); rintro e w8 ⟨v200, rfl, ho0, hb⟩; refine ⟨_, rfl, ?_⟩; have n0_ := am_ (Kd.R_lower ho0 (below_size (by repeat (first | (with_reducible first | exact HB.out | apply b3_ | apply b1_ | apply b2_) | exact HB.out)))); have n1_ := am_ (below_step (by repeat (first | (with_reducible first | exact HB.out | apply b3_ | apply b1_ | apply b2_) | exact HB.out)) hb); clear HB; have HO201 := n0_; have HB := n1_; clear n0_ n1_; (try clear hb); (try clear hb2); (try clear hk); (try clear hi); (try clear ho0)))
  go_ret3
  exact ⟨_, _, by first | rfl | (simp [errW_none, errW_some] <;> rfl) | (simp [*, errW_none, errW_some] <;> rfl), by first | exact Kd.R_nil _ _ _ _ _ | exact Kd.N_nil _ _ _ _ _ | exact Kd.V_nil _ _ _ _ _ | exact Kd.Q_nil _ _ _ _ _ | exact Kd.S_nil _ _ _ _ _, by first | exact Kd.R_nil _ _ _ _ _ | exact Kd.N_nil _ _ _ _ _ | exact Kd.V_nil _ _ _ _ _ | exact Kd.Q_nil _ _ _ _ _ | exact Kd.S_nil _ _ _ _ _, by repeat (first | (with_reducible first | exact HB.out | apply b3_ | apply b1_ | apply b2_) | exact HB.out)⟩
end Go.Proofs.YtbamfhcifpfocaaDoor.Pw
