/- A part of the proof of wordsDiffer. No conditions. Laid by program over the kit's print and words. -/
import Derived.Test.YtbamfhcifpfocaaDoorZdPwx0
import Derived.Test.YtbamfhcifpfocaaDoorZdPwx3
import Derived.Test.YtbamfhcifpfocaaDoorZdPwx4
import Derived.Test.YtbamfhcifpfocaaDoorZdPwx5
namespace Go.Proofs.YtbamfhcifpfocaaDoor.Pw
open Go.RowKit Go.Proofs.YtbamfhcifpfocaaDoor.GBase Go.Proofs.YtbamfhcifpfocaaDoorW.PrintWords Go.Proofs.YtbamfhcifpfocaaDoorW.PrintLast Go.Proofs.YtbamfhcifpfocaaDoorW.PrintMore
attribute [local go_sem] str_leq max2_int min2_int max_two min_two max_three min_three max_four min_four
set_option linter.unusedVariables false
set_option linter.unusedSimpArgs false
def near_Distance.f (k : Nat) (a0 : ByteArray) (a1 : ByteArray) : Option (Int × Int) := (near_both.f k a0 a1).bind fun bt226 => (if bt226.2.2 = 0 then ((near_kept.f k bt226.1 bt226.2.1).bind fun t233 => (some (wrap64 ((wrap64 ((bt226.1.length : Int) + (bt226.2.1.length : Int))) - (wrap64 (2 * (t233.length : Int)))), 0))) else (some (0, bt226.2.2)))
theorem near_Distance.mono : ∀ a0 a1 k, LeO (near_Distance.f k a0 a1) (near_Distance.f (k + 1) a0 a1) := by
  intro a0 a1 k
  unfold near_Distance.f
  repeat' first
      | (with_reducible exact near_both.mono _ _ _)
      | (with_reducible exact near_kept.mono _ _ _)
      | (with_reducible exact LeO.refl _)
      | (with_reducible exact LeO.none _)
      | (with_reducible refine LeO.ite ?_ ?_)
      | (with_reducible refine LeO.bind ?_ (fun _ => ?_))
      | exact LeO.none _
      | refine LeO.ite ?_ ?_
      | refine LeO.bind ?_ (fun _ => ?_)
set_option maxHeartbeats 8000000 in
set_option maxRecDepth 100000 in
theorem near_Distance.calls (k : Nat) (a0 : ByteArray) (a1 : ByteArray) (r1 : Int) (r2 : Int) (w : World) (hGl : Wd w) (h : near_Distance.f k a0 a1 = some (r1, r2)) :
  Calls Tryd.prog 58 #[.string a0, .string a1] w fun e w' => e = .returned (.tuple #[.int .i64 r1, .int .i64 r2]) ∧ Below w.heap.size w w' := by
 have HGl := am_ hGl; clear hGl
 have HB := am_ (Below.refl w.heap.size w)
 have H : ((near_both.f k a0 a1).bind fun bt226 => (if bt226.2.2 = 0 then ((near_kept.f k bt226.1 bt226.2.1).bind fun t233 => (some (wrap64 ((wrap64 ((bt226.1.length : Int) + (bt226.2.1.length : Int))) - (wrap64 (2 * (t233.length : Int)))), 0))) else (some (0, bt226.2.2)))) = some (r1, r2) := h
 clear h; replace H := Option.bind_eq_some_iff.mp H
 obtain ⟨⟨t226, t227, t228⟩, A30, H⟩ := H
 replace H : (if t228 = 0 then ((near_kept.f k t226 t227).bind fun t233 => (some (wrap64 ((wrap64 ((t226.length : Int) + (t227.length : Int))) - (wrap64 (2 * (t233.length : Int)))), 0))) else (some (0, t228))) = some (r1, r2) := H
 have A3 := am_ A30; clear A30
 by_cases c4 : t228 = 0
 ·rw [if_pos c4] at H
  have c4b0 : (t228 == 0) = true := beq_iff_eq.mpr c4
  have c4b1 : (t228 != 0) = false := bne_eq_false_iff_eq.mpr c4
  clear c4; replace H := Option.bind_eq_some_iff.mp H; obtain ⟨t233, A50, H⟩ := H; have A5 := am_ A50; clear A50
  simp only [Option.some.injEq, Prod.mk.injEq] at H
  obtain ⟨rfl, rfl⟩ := H
  go_enter Tryd.func58, Tryd.ntmps58
  go_wp2_with (first | ((with_reducible refine gate_callee (f := 118) rfl ?_); refine goesL_ (some 12) rfl rfl Tryd.func118 (by kernel_rfl) rfl #[.string a0, .string a1] rfl (by (try simp only [m1_, m2_, m3_]); first | done | rfl | (simp only [List.length_drop, List.length_take]; rfl)) ?_; (with_reducible refine (near_both.calls k a0 a1 t226 t227 t228 _ ?side1 A3.out).mono ?_); (case side1 => exact Wd.below HGl.out (by repeat (first | (with_reducible first | exact HB.out | apply b3_ | apply b1_ | apply b2_) | exact HB.out))); rintro e w6 ⟨v229, v231, rfl, ho0, ho1, hb⟩; refine ⟨_, rfl, ?_⟩; have n0_ := am_ (Kd.R_lower ho0 (below_size (by repeat (first | (with_reducible first | exact HB.out | apply b3_ | apply b1_ | apply b2_) | exact HB.out)))); have n1_ := am_ (Kd.R_lower ho1 (below_size (by repeat (first | (with_reducible first | exact HB.out | apply b3_ | apply b1_ | apply b2_) | exact HB.out)))); have n2_ := am_ (below_step (by repeat (first | (with_reducible first | exact HB.out | apply b3_ | apply b1_ | apply b2_) | exact HB.out)) hb); clear HB; have HO230 := n0_; have HO232 := n1_; have HB := n2_; clear n0_ n1_ n2_; (try clear hb); (try clear hb2); (try clear hk); (try clear hi); (try clear ho0); (try clear ho1); obtain ⟨Ao7, co7, eo7⟩ := Kd.R_slice HO230.out; subst eo7; obtain ⟨Ao8, co8, eo8⟩ := Kd.R_slice HO232.out; subst eo8) | ((with_reducible refine gate_callee (f := 119) rfl ?_); refine goesL_ (some 26) rfl rfl Tryd.func119 (by kernel_rfl) rfl #[.slice Ao7 t226.length co7, .slice Ao8 t227.length co8] rfl (by (try simp only [m1_, m2_, m3_]); first | done | rfl | (simp only [List.length_drop, List.length_take]; rfl)) ?_; (with_reducible refine (near_kept.calls k _ _ t226 _ _ t227 t233 _ ?side1 ?side2 ?side3 ?side4 A5.out).mono ?_); (case side1 => repeat (first | exact (Kd.R_reads' HO230.out).2.2 | (with_reducible refine Kd.C_alloc ?_ _) | (with_reducible refine Kd.C_drewN ?_ _) | (with_reducible refine Kd.C_drew ?_))); (case side2 => exact (Kd.R_reads' HO230.out).2.1); (case side3 => repeat (first | exact (Kd.R_reads' HO232.out).2.2 | (with_reducible refine Kd.C_alloc ?_ _) | (with_reducible refine Kd.C_drewN ?_ _) | (with_reducible refine Kd.C_drew ?_))); (case side4 => exact (Kd.R_reads' HO232.out).2.1); rintro e w9 ⟨v234, rfl, ho0, hb⟩; refine ⟨_, rfl, ?_⟩; have n0_ := am_ (Kd.R_below (by (with_reducible repeat (first | apply r1_ | apply r2_ | apply r3_)); exact HO230.out) hb); have n1_ := am_ (Kd.R_below (by (with_reducible repeat (first | apply r1_ | apply r2_ | apply r3_)); exact HO232.out) hb); have n2_ := am_ (Kd.R_lower ho0 (below_size (by repeat (first | (with_reducible first | exact HB.out | apply b3_ | apply b1_ | apply b2_) | exact HB.out)))); have n3_ := am_ (below_step (by repeat (first | (with_reducible first | exact HB.out | apply b3_ | apply b1_ | apply b2_) | exact HB.out)) hb); clear HO230; clear HO232; clear HB; have HO230 := n0_; have HO232 := n1_; have HO235 := n2_; have HB := n3_; clear n0_ n1_ n2_ n3_; (try clear hb); (try clear hb2); (try clear hk); (try clear hi); (try clear ho0); obtain ⟨Ao10, co10, eo10⟩ := Kd.R_slice HO235.out; subst eo10))
  go_ret2
  exact ⟨by first | rfl | (simp [errW_none, errW_some] <;> rfl) | (simp [*, errW_none, errW_some] <;> rfl), by repeat (first | (with_reducible first | exact HB.out | apply b3_ | apply b1_ | apply b2_) | exact HB.out)⟩
 ·rw [if_neg c4] at H
  have c4b0 : (t228 == 0) = false := beq_eq_false_iff_ne.mpr c4
  have c4b1 : (t228 != 0) = true := bne_iff_ne.mpr c4
  simp only [Option.some.injEq, Prod.mk.injEq] at H
  obtain ⟨rfl, rfl⟩ := H
  go_enter Tryd.func58, Tryd.ntmps58
  go_wp2_with (first | ((with_reducible refine gate_callee (f := 118) rfl ?_); refine goesL_ (some 12) rfl rfl Tryd.func118 (by kernel_rfl) rfl #[.string a0, .string a1] rfl (by (try simp only [m1_, m2_, m3_]); first | done | rfl | (simp only [List.length_drop, List.length_take]; rfl)) ?_; (with_reducible refine (near_both.calls k a0 a1 t226 t227 t228 _ ?side1 A3.out).mono ?_); (case side1 => exact Wd.below HGl.out (by repeat (first | (with_reducible first | exact HB.out | apply b3_ | apply b1_ | apply b2_) | exact HB.out))); rintro e w11 ⟨v229, v231, rfl, ho0, ho1, hb⟩; refine ⟨_, rfl, ?_⟩; have n0_ := am_ (Kd.R_lower ho0 (below_size (by repeat (first | (with_reducible first | exact HB.out | apply b3_ | apply b1_ | apply b2_) | exact HB.out)))); have n1_ := am_ (Kd.R_lower ho1 (below_size (by repeat (first | (with_reducible first | exact HB.out | apply b3_ | apply b1_ | apply b2_) | exact HB.out)))); have n2_ := am_ (below_step (by repeat (first | (with_reducible first | exact HB.out | apply b3_ | apply b1_ | apply b2_) | exact HB.out)) hb); clear HB; have HO230 := n0_; have HO232 := n1_; have HB := n2_; clear n0_ n1_ n2_; (try clear hb); (try clear hb2); (try clear hk); (try clear hi); (try clear ho0); (try clear ho1)))
  go_ret2
  exact ⟨by first | rfl | (simp [errW_none, errW_some] <;> rfl) | (simp [*, errW_none, errW_some] <;> rfl), by repeat (first | (with_reducible first | exact HB.out | apply b3_ | apply b1_ | apply b2_) | exact HB.out)⟩
def slices_Clone_string_string.f (l0 : List ByteArray) : Option (List ByteArray) := if l0.length * 16 ≤ 140737488355328 then (some l0) else (none)
set_option maxHeartbeats 8000000 in
set_option maxRecDepth 100000 in
theorem slices_Clone_string_string.calls (A0 : Option Addr) (c0 : Nat) (l0 : List ByteArray) (r : List ByteArray) (w : World) (hr0 : Kd.C Kd.string w A0 l0.length l0) (hc0 : l0.length ≤ c0) (h : slices_Clone_string_string.f l0 = some r) :
    Calls Tryd.prog 124 #[.slice A0 l0.length c0] w fun e w' => ∃ v0_ : Value, e = .returned (v0_) ∧ Kd.R Kd.string 9 w' w.heap.size (fun _ => True) v0_ r ∧ Below w.heap.size w w' := by
  unfold slices_Clone_string_string.f at h
  by_cases hc : l0.length * 16 ≤ 140737488355328
  · rw [if_pos hc] at h
    obtain rfl := Option.some.inj h
    rcases Nat.eq_zero_or_pos l0.length with h0 | h0
    · obtain rfl := List.eq_nil_of_length_eq_zero h0
      cases A0 with
      | none =>
        refine (Tryd.slices_Clone_string_nil 0 c0 w).mono ?_
        rintro e w' ⟨rfl, rfl⟩
        exact ⟨_, rfl, Kd.R_nil _ _ _ _ _, Below.refl _ _⟩
      | some a =>
        refine (Tryd.slices_Clone_string_zero a c0 w).mono ?_
        rintro e w' ⟨v', rfl, ho, _, hB⟩
        exact ⟨_, rfl, R_of (fun _ _ => trivial) ho, hB⟩
    · obtain ⟨b, o, rfl, hb, hcell⟩ := C_cells hr0 h0
      refine (Tryd.slices_Clone_string b o l0.length c0 l0 w (Nat.le_refl _) hc (fun j hj => by rw [hcell j l0[j] (List.getElem?_eq_getElem hj), List.getD_eq_getElem?_getD, List.getElem?_eq_getElem hj]; rfl)).mono ?_
      rintro e w' ⟨v', rfl, ho, _, hB⟩
      rw [List.take_length] at ho
      exact ⟨_, rfl, R_of (fun _ _ => trivial) ho, hB⟩
  · rw [if_neg hc] at h
    exact absurd h (by simp)
mutual
def near_changes.l0 : Nat → List ByteArray → List ByteArray → List (S129) → Int → Int → List (S132) → Int → Int → Option ((List (S129)))
  | 0, _, _, _, _, _, _, _, _ => none
  | k + 1, x0, x1, x5, x6, x7, x19, x20, x21 => if x21 < x20 then (if 0 ≤ x21 then (if x21 < (x19.length : Int) then (if x6 < ((rd_T132 x19 x21).f0) then (near_changes.j1 k x0 x1 x5 x6 x7 x19 x20 x21 true ((rd_T132 x19 x21).f0) ((rd_T132 x19 x21).f1)) else (near_changes.j1 k x0 x1 x5 x6 x7 x19 x20 x21 (decide (x7 < ((rd_T132 x19 x21).f1))) ((rd_T132 x19 x21).f0) ((rd_T132 x19 x21).f1))) else (none)) else (none)) else (some x5)
def near_changes.j1 : Nat → List ByteArray → List ByteArray → List (S129) → Int → Int → List (S132) → Int → Int → Bool → Int → Int → Option ((List (S129)))
  | 0, _, _, _, _, _, _, _, _, _, _, _ => none
  | k + 1, x0, x1, x5, x6, x7, x19, x20, x21, x34, x244000, x244001 => if x34 = true then (if 0 ≤ x6 then (if x6 ≤ x244000 then (if x244000 ≤ (x0.length : Int) then ((slices_Clone_string_string.f ((x0.take (x244000 : Int).toNat).drop (x6 : Int).toNat)).bind fun t245 => (if 0 ≤ x7 then (if x7 ≤ x244001 then (if x244001 ≤ (x1.length : Int) then ((slices_Clone_string_string.f ((x1.take (x244001 : Int).toNat).drop (x7 : Int).toNat)).bind fun t249 => (if x5.length < 2513169434916 then (near_changes.l0 k x0 x1 (x5 ++ [(⟨x6, t245, t249⟩ : S129)]) (wrap64 (x244000 + 1)) (wrap64 (x244001 + 1)) x19 x20 (wrap64 (x21 + 1))) else (none))) else (none)) else (none)) else (none))) else (none)) else (none)) else (none)) else (near_changes.l0 k x0 x1 x5 (wrap64 (x244000 + 1)) (wrap64 (x244001 + 1)) x19 x20 (wrap64 (x21 + 1)))
end
def near_changes.f (k : Nat) (l0 : List ByteArray) (l1 : List ByteArray) : Option ((List (S129))) := (near_kept.f k l0 l1).bind fun t236 => (if t236.length < 8796093022208 then ((some (t236 ++ [(⟨(l0.length : Int), (l1.length : Int)⟩ : S132)] : List (S132))).bind fun y239 => (near_changes.l0 k l0 l1 ([] : List (S129)) 0 0 y239 (y239.length : Int) 0)) else (none))
theorem near_changes.mono_l : ∀ k, (∀ y0 y1 y2 y3 y4 y5 y6 y7, LeO (near_changes.l0 k y0 y1 y2 y3 y4 y5 y6 y7) (near_changes.l0 (k + 1) y0 y1 y2 y3 y4 y5 y6 y7)) ∧ (∀ y0 y1 y2 y3 y4 y5 y6 y7 y8 y9 y10, LeO (near_changes.j1 k y0 y1 y2 y3 y4 y5 y6 y7 y8 y9 y10) (near_changes.j1 (k + 1) y0 y1 y2 y3 y4 y5 y6 y7 y8 y9 y10))
  | 0 => ⟨fun _ _ _ _ _ _ _ _ r h => by simp [near_changes.l0] at h, fun _ _ _ _ _ _ _ _ _ _ _ r h => by simp [near_changes.j1] at h⟩
  | k + 1 => by
    obtain ⟨ih0, ih1⟩ := near_changes.mono_l k
    refine ⟨?_, ?_⟩
    · intro y0 y1 y2 y3 y4 y5 y6 y7
      unfold near_changes.l0
      repeat' first
      | (with_reducible exact ih0 _ _ _ _ _ _ _ _)
      | (with_reducible exact ih1 _ _ _ _ _ _ _ _ _ _ _)
      | (with_reducible exact near_kept.mono _ _ _)
      | (with_reducible exact LeO.refl _)
      | (with_reducible exact LeO.none _)
      | (with_reducible refine LeO.ite ?_ ?_)
      | (with_reducible refine LeO.bind ?_ (fun _ => ?_))
      | exact ih0 _ _ _ _ _ _ _ _
      | exact ih1 _ _ _ _ _ _ _ _ _ _ _
      | exact LeO.none _
      | refine LeO.ite ?_ ?_
      | refine LeO.bind ?_ (fun _ => ?_)
    · intro y0 y1 y2 y3 y4 y5 y6 y7 y8 y9 y10
      unfold near_changes.j1
      repeat' first
      | (with_reducible exact ih0 _ _ _ _ _ _ _ _)
      | (with_reducible exact ih1 _ _ _ _ _ _ _ _ _ _ _)
      | (with_reducible exact near_kept.mono _ _ _)
      | (with_reducible exact LeO.refl _)
      | (with_reducible exact LeO.none _)
      | (with_reducible refine LeO.ite ?_ ?_)
      | (with_reducible refine LeO.bind ?_ (fun _ => ?_))
      | exact ih0 _ _ _ _ _ _ _ _
      | exact ih1 _ _ _ _ _ _ _ _ _ _ _
      | exact LeO.none _
      | refine LeO.ite ?_ ?_
      | refine LeO.bind ?_ (fun _ => ?_)
theorem near_changes.mono : ∀ a0 a1 k, LeO (near_changes.f k a0 a1) (near_changes.f (k + 1) a0 a1) := by
  intro a0 a1 k
  obtain ⟨ih0, ih1⟩ := near_changes.mono_l k
  unfold near_changes.f
  repeat' first
      | (with_reducible exact ih0 _ _ _ _ _ _ _ _)
      | (with_reducible exact ih1 _ _ _ _ _ _ _ _ _ _ _)
      | (with_reducible exact near_kept.mono _ _ _)
      | (with_reducible exact LeO.refl _)
      | (with_reducible exact LeO.none _)
      | (with_reducible refine LeO.ite ?_ ?_)
      | (with_reducible refine LeO.bind ?_ (fun _ => ?_))
      | exact ih0 _ _ _ _ _ _ _ _
      | exact ih1 _ _ _ _ _ _ _ _ _ _ _
      | exact LeO.none _
      | refine LeO.ite ?_ ?_
      | refine LeO.bind ?_ (fun _ => ?_)
def near_changes.T7 : Bool × List (List Nat × List Nat) := (true, [([], []), ([], []), ([], []), ([], []), ([], []), ([4], [4]), ([2, 3, 5], [2, 3, 5]), ([6], [6]), ([], []), ([], []), ([], []), ([10], [10]), ([8, 9, 11], [8, 9, 11]), ([12, 7], [12]), ([1, 7, 13], [1, 7, 13]), ([14], [14]), ([0, 15, 13], [0, 15]), ([16, 16, 0, 1, 2, 3, 4, 5, 6, 7, 8, 9, 10, 11, 12, 13, 14, 15, 16], [0, 16])])
def near_changes.B7 : List Nat := [0, 0, 0, 0, 0, 16, 60, 124, 0, 0, 0, 1024, 3840, 8188, 16382, 32766, 65535, 131071]
theorem near_changes.tab7 : rtab .any (opsOf Tryd.f120 7) = near_changes.T7 := by kernel_rfl
theorem near_changes.bits7 : waitsOk near_changes.T7.2 near_changes.B7 = true := by kernel_rfl
def near_changes.T8 : Bool × List (List Nat × List Nat) := (true, [([], []), ([0], [0]), ([1], [1]), ([], []), ([3], [3]), ([4], [4]), ([2, 0, 1, 2], [2]), ([5, 6, 0, 1, 2, 3, 4, 5, 6], [5])])
def near_changes.B8 : List Nat := [0, 1, 3, 0, 8, 24, 7, 127]
theorem near_changes.tab8 : rtab .any (opsOf Tryd.f120 8) = near_changes.T8 := by kernel_rfl
theorem near_changes.bits8 : waitsOk near_changes.T8.2 near_changes.B8 = true := by kernel_rfl
abbrev near_changes.D0 : Array Bool := #[false, false, false, false, false, false, false, false, false, false, false, false, false, false, false, false, false, false]
abbrev near_changes.D1 : Array Bool := #[false, false, false, false, false, false, false, false]
abbrev near_changes.D2 : Array Bool := #[true, false, false, false, false, false, false, false, false, false, false, false, false, false, false, false, false, false]
abbrev near_changes.D3 : Array Bool := #[true, false, false, false, false, false, false, false]
abbrev near_changes.D4 : Array Bool := #[true, false, false, true, false, false, false, false]
abbrev near_changes.D5 : Array Bool := #[true, true, false, false, false, false, false, false, false, false, false, false, false, false, false, false, false, false]
abbrev near_changes.D6 : Array Bool := #[true, true, false, true, false, false, false, false]
abbrev near_changes.D7 : Array Bool := #[true, true, true, false, false, false, false, false, false, false, false, false, false, false, false, false, false, false]
abbrev near_changes.D8 : Array Bool := #[true, true, true, true, false, false, false, false, false, false, false, false, false, false, false, false, false, false]
abbrev near_changes.D9 : Array Bool := #[true, true, true, true, false, false, false, false]
abbrev near_changes.D10 : Array Bool := #[true, true, true, true, false, false, true, false]
abbrev near_changes.D11 : Array Bool := #[true, true, true, true, true, false, false, false, false, false, false, false, false, false, false, false, false, false]
abbrev near_changes.D12 : Array Bool := #[true, true, true, true, true, false, false, false, true, false, false, false, false, false, false, false, false, false]
abbrev near_changes.D13 : Array Bool := #[true, true, true, true, true, false, false, false, true, true, false, false, false, false, false, false, false, false]
abbrev near_changes.D14 : Array Bool := #[true, true, true, true, true, false, false, false, true, true, true, false, false, false, false, false, false, false]
abbrev near_changes.D15 : Array Bool := #[true, true, true, true, true, false, true, false]
abbrev near_changes.D16 : Array Bool := #[true, true, true, true, true, true, false, false, true, true, true, false, false, false, false, false, false, false]
abbrev near_changes.D17 : Array Bool := #[true, true, true, true, true, true, true, false, true, true, true, false, false, false, false, false, false, false]
abbrev near_changes.D18 : Array Bool := #[true, true, true, true, true, true, true, false, true, true, true, true, false, false, false, false, false, false]
abbrev near_changes.D19 : Array Bool := #[true, true, true, true, true, true, true, false, true, true, true, true, true, false, false, false, false, false]
abbrev near_changes.D20 : Array Bool := #[true, true, true, true, true, true, true, false]
abbrev near_changes.D21 : Array Bool := #[true, true, true, true, true, true, true, true, true, true, true, true, true, false, false, false, false, false]
abbrev near_changes.D22 : Array Bool := #[true, true, true, true, true, true, true, true, true, true, true, true, true, true, false, false, false, false]
abbrev near_changes.D23 : Array Bool := #[true, true, true, true, true, true, true, true, true, true, true, true, true, true, true, false, false, false]
abbrev near_changes.D24 : Array Bool := #[true, true, true, true, true, true, true, true, true, true, true, true, true, true, true, true, false, false]
abbrev near_changes.D25 : Array Bool := #[true, true, true, true, true, true, true, true, true, true, true, true, true, true, true, true, true, false]
abbrev near_changes.D26 : Array Bool := #[true, true, true, true, true, true, true, true, true, true, true, true, true, true, true, true, true, true]
abbrev near_changes.D27 : Array Bool := #[true, true, true, true, true, true, true, true]
set_option maxHeartbeats 8000000 in
set_option maxRecDepth 100000 in
theorem near_changes.calls (k : Nat) (A0 : Option Addr) (c0 : Nat) (l0 : List ByteArray) (A1 : Option Addr) (c1 : Nat) (l1 : List ByteArray) (r : List (S129)) (w : World) (hr0 : Kd.C Kd.string w A0 l0.length l0) (hc0 : l0.length ≤ c0) (hr1 : Kd.C Kd.string w A1 l1.length l1) (hc1 : l1.length ≤ c1) (h : near_changes.f k l0 l1 = some r) :
  Calls Tryd.prog 120 #[.slice A0 l0.length c0, .slice A1 l1.length c1] w fun e w' => ∃ v0_ : Value, e = .returned (v0_) ∧ Kd.S k129 129 w' w.heap.size (fun _ => True) v0_ r ∧ Below w.heap.size w w' := by
 have hu132 := Tryd.underlying132
 have hu129 := Tryd.underlying129
 have HR0 := am_ hr0; have HC0 := am_ hc0; clear hr0 hc0; have HR1 := am_ hr1; have HC1 := am_ hc1; clear hr1 hc1
 have HB := am_ (Below.refl w.heap.size w)
 have H : ((near_kept.f k l0 l1).bind fun t236 => (if t236.length < 8796093022208 then ((some (t236 ++ [(⟨(l0.length : Int), (l1.length : Int)⟩ : S132)] : List (S132))).bind fun y239 => (near_changes.l0 k l0 l1 ([] : List (S129)) 0 0 y239 (y239.length : Int) 0)) else (none))) = some r := h
 clear h; replace H := Option.bind_eq_some_iff.mp H; obtain ⟨t236, A30, H⟩ := H; have A3 := am_ A30; clear A30
 by_cases c4 : t236.length < 8796093022208
 case neg => exact (nn_ c4 H).elim
 rw [if_pos c4] at H; have LMc4 := am_ c4; clear c4
 obtain ⟨y239, hy239⟩ : ∃ y_ : List (S132), y_ = (t236 ++ [(⟨(l0.length : Int), (l1.length : Int)⟩ : S132)]) := ⟨_, rfl⟩
 replace H : (near_changes.l0 k l0 l1 ([] : List (S129)) 0 0 y239 (y239.length : Int) 0) = some r := by first | (rw [hy239]; with_reducible exact H) | (have H2_ := (Option.bind_some _ _).symm.trans H; rw [hy239]; with_reducible exact H2_) | (have H2_ := (Option.bind_some _ _).symm.trans H; with_reducible exact H2_) | with_reducible exact H | (rw [hy239]; exact H) | exact H
 have Ny239 := am_ hy239; clear hy239
 have H' := am_ H
 clear H
 go_enter Tryd.func120, Tryd.ntmps120
 go_wp2_with (first | ((with_reducible refine gate_callee (f := 119) rfl ?_); refine goesL_ (some 12) rfl rfl Tryd.func119 (by kernel_rfl) rfl #[.slice A0 l0.length c0, .slice A1 l1.length c1] rfl (by (try simp only [m1_, m2_, m3_]); first | done | rfl | (simp only [List.length_drop, List.length_take]; rfl)) ?_; (with_reducible refine (near_kept.calls k _ _ l0 _ _ l1 t236 _ ?side1 ?side2 ?side3 ?side4 A3.out).mono ?_); (case side1 => repeat (first | exact HR0.out | (with_reducible refine Kd.C_alloc ?_ _) | (with_reducible refine Kd.C_drewN ?_ _) | (with_reducible refine Kd.C_drew ?_))); (case side2 => exact HC0.out); (case side3 => repeat (first | exact HR1.out | (with_reducible refine Kd.C_alloc ?_ _) | (with_reducible refine Kd.C_drewN ?_ _) | (with_reducible refine Kd.C_drew ?_))); (case side4 => exact HC1.out); rintro e w5 ⟨v237, rfl, ho0, hb⟩; refine ⟨_, rfl, ?_⟩; have n0_ := am_ (Kd.R_lower ho0 (below_size (by repeat (first | (with_reducible first | exact HB.out | apply b3_ | apply b1_ | apply b2_) | exact HB.out)))); have n1_ := am_ (below_step (by repeat (first | (with_reducible first | exact HB.out | apply b3_ | apply b1_ | apply b2_) | exact HB.out)) hb); clear HB; have HO238 := n0_; have HB := n1_; clear n0_ n1_; (try clear hb); (try clear hb2); (try clear hk); (try clear hi); (try clear ho0)) | ((with_reducible refine gate_builtin (b := .append) (xs := #[.tmp 12, .tmp 18]) rfl ?_); at_builtin; refine Kd.R_append k132 (w0 := w) w.heap.size rfl (.tmp 12) (.tmp 18) 125 132 (.agg #[(.int .i64 0), (.int .i64 0)]) 16 rfl Tryd.underlying125 info132 rfl (by decide) (by omega) v237 t236 (⟨(l0.length : Int), (l1.length : Int)⟩ : S132) [.int .i64 (l0.length : Int), .int .i64 (l1.length : Int)] (fun _ => True) (fun _ => False) rfl rfl ?aP (fun _ hk => hk.elim) ?aF ?aO ?aB ?aS ?aL ?_; (case aP => exact k132_mkM _ _ _ (⟨(l0.length : Int), (l1.length : Int)⟩ : S132)); (case aB => exact (by repeat (first | (with_reducible first | exact HB.out | apply b3_ | apply b1_ | apply b2_) | exact HB.out))); (case aF => exact (fun _ _ => trivial)); (case aO => exact (by (with_reducible repeat (first | apply r1_ | apply r2_ | apply r3_)); exact HO238.out)); (case aS => exact (below_size (by repeat (first | (with_reducible first | exact HB.out | apply b3_ | apply b1_ | apply b2_) | exact HB.out)))); (case aL => have := LMc4.out; omega); intro v240 w6 ho hb hg hat; rw [← Ny239.out] at ho; have n0_ := am_ (hb); have n1_ := am_ (ho); clear HB; clear HO238; have HB := n0_; have HO241 := n1_; clear n0_ n1_; clear ho hb hg hat; obtain ⟨Ao7, co7, eo7⟩ := Kd.R_slice HO241.out; subst eo7))
 go_loopg [5, 6, 7, 21] k (fun kq v5 v6 v7 v21 w' => ∃ (x5_1 : List (S129)) (x6_1 : Int) (x7_1 : Int) (x21_1 : Int), v6 = .int .i64 x6_1 ∧ v7 = .int .i64 x7_1 ∧ v21 = .int .i64 x21_1 ∧ Aside0 (near_changes.l0 kq l0 l1 x5_1 x6_1 x7_1 y239 (y239.length : Int) x21_1 = some r) ∧ Aside0 (kq ≤ k) ∧ Aside0 (Kd.S k129 129 w' w.heap.size (fun _ => True) v5 x5_1) ∧ Aside0 (Kd.R k132 132 w' w.heap.size (fun _ => True) (.slice Ao7 y239.length co7) y239) ∧ Aside0 (Below w.heap.size w w'))
 case atStart => exact ⟨(([] : List (S129))), (0), (0), (0), (by first | rfl | (simp; done) | (simp [*]; done)), (by first | rfl | (simp; done) | (simp [*]; done)), (by first | rfl | (simp; done) | (simp [*]; done)), H', ⟨Nat.le_refl _⟩, ⟨by first | exact Kd.S_nil _ _ _ _ _ | exact Kd.N_nil _ _ _ _ _ | exact Kd.V_nil _ _ _ _ _ | exact Kd.Q_nil _ _ _ _ _ | exact Kd.R_nil _ _ _ _ _⟩, ⟨by (with_reducible repeat (first | apply r1_ | apply r2_ | apply r3_)); exact HO241.out⟩, ⟨by repeat (first | (with_reducible first | exact HB.out | apply b3_ | apply b1_ | apply b2_) | exact HB.out)⟩⟩
 case round =>
  clear H'; (try clear c1); (try clear p2); (try clear c4); obtain ⟨x5_1, x6_1, x7_1, x21_1, rfl, rfl, rfl, HA, HK1, HO_5, HO_19, HB⟩ := hrel
  cases gk with
  | zero => exact absurd HA.out (by simp [near_changes.l0])
  | succ k1 =>
   have H := HA.out
   clear HA
   simp only [near_changes.l0] at H
   by_cases c8 : x21_1 < (y239.length : Int)
   ·rw [if_pos c8] at H
    have c8b0 := decide_eq_true c8; clear c8
    by_cases c9 : 0 ≤ x21_1
    case neg => exact (nn_ c9 H).elim
    rw [if_pos c9] at H; have c9b0 := decide_eq_true c9; clear c9
    by_cases c10 : x21_1 < (y239.length : Int)
    case neg => exact (nn_ c10 H).elim
    rw [if_pos c10] at H; have c10b0 := decide_eq_true c10; clear c10; have HC11 := am_ H; clear H; have p242 : 0 ≤ (x21_1 : Int) := ode_; have q242 : x21_1 < (y239.length : Int) := ode_
    obtain ⟨ad242, e242, hx242_0, hx242_1⟩ := at_T132 (Kd.R_reads' HO_19.out).2.2 x21_1 p242 q242
    cases e242; replace p242 := eq_true p242; replace q242 := eq_true q242
    go_upto_region 6 with (first | ((with_reducible refine gate_dst (N := 9) rfl ?_); refine box_event ?hg (N := 9) ?hd (cs := #[.int .i64 0, .int .i64 0]) (t := 132) ?hr ?_; (case hd => rfl); (case hg => rfl); (case hr => first | (go_simp; done) | (go_simp; rfl)); intro gb243 hg w12 hbox hb; have n0_ := am_ (Kd.S_below (by (with_reducible repeat (first | apply q1_ | apply q2_ | apply q3_)); exact HO_5.out) hb); have n1_ := am_ (Kd.R_below (Kd.R_elderB (by (with_reducible repeat (first | apply r1_ | apply r2_ | apply r3_)); exact HO_19.out) gb243 (Nat.le_of_eq hg.symm)) hb); have n2_ := am_ (below_step (by repeat (first | (with_reducible first | exact HB.out | apply b3_ | apply b1_ | apply b2_) | exact HB.out)) hb); have n3_ := am_ (hbox); have n4_ := am_ ((by rw [hg]; exact (below_size (by repeat (first | (with_reducible first | exact HB.out | apply b3_ | apply b1_ | apply b2_) | exact HB.out))) : w.heap.size ≤ gb243)); have n5_ := am_ ((by rw [hg]; exact (below_size (by repeat (first | (with_reducible first | exact HB.out | apply b3_ | apply b1_ | apply b2_) | exact HB.out))) : w.heap.size ≤ gb243)); clear HO_5; clear HO_19; clear HB; have HO_5 := n0_; have HO_19 := n1_; have HB := n2_; have BK243 := n3_; have GW243 := n4_; have GE243 := n5_; clear n0_ n1_ n2_ n3_ n4_ n5_; clear hb hbox hg; have hcz13_0 : w12.cell? ⟨gb243, 0, none⟩ = some (.int .i64 0) := (blk_cell BK243.out 0).trans rfl; have hcz13_1 : w12.cell? ⟨gb243, 1, none⟩ = some (.int .i64 0) := (blk_cell BK243.out 1).trans rfl; have hfz13_0 := blk_frozen BK243.out 0; have hfz13_1 := blk_frozen BK243.out 1))
    (try simp only [Act.put, s_t, s_z, s_s])
    go_cut [34] (fun v34 wc => ∃ (kq : Nat) (x34_10 : Bool), v34 = .bool x34_10 ∧ Aside0 (near_changes.j1 kq l0 l1 x5_1 x6_1 x7_1 y239 (y239.length : Int) x21_1 x34_10 ((rd_T132 y239 x21_1).f0) ((rd_T132 y239 x21_1).f1) = some r) ∧ Aside0 (kq ≤ k1) ∧ Aside0 (Kd.S k129 129 wc w.heap.size (fun _ => True) u5 x5_1) ∧ Aside0 (Kd.R k132 132 wc w.heap.size (fun k_ => k_ ≠ gb243) (.slice (some ad242) y239.length co7) y239) ∧ Aside0 (wc.heap[gb243]? = some (.cells #[.int .i64 ((rd_T132 y239 x21_1).f0), .int .i64 ((rd_T132 y239 x21_1).f1)] 132 (0, 0))) ∧ Aside0 (Below w.heap.size w wc))
    case first =>
     have H := HC11.out
     clear HC11
     by_cases c14 : x6_1 < ((rd_T132 y239 x21_1).f0)
     ·rw [if_pos c14] at H
      have c14b0 := decide_eq_true c14; clear c14
      (first | rw [c14b0] | (simp only [i64_w, i32_w]; rw [c14b0]) | skip)
      have H' := am_ H
      clear H
      have hcz15_0 : w12.cell? ⟨gb243, 0, none⟩ = some (.int .i64 0) := (blk_cell BK243.out 0).trans rfl
      have hcz15_1 : w12.cell? ⟨gb243, 1, none⟩ = some (.int .i64 0) := (blk_cell BK243.out 1).trans rfl
      have hfz15_0 := blk_frozen BK243.out 0
      have hfz15_1 := blk_frozen BK243.out 1
      go_wp2
      go_meet
      case rel => exact ⟨_, (true), (by first | rfl | (simp; done) | (simp [*]; done)), H', ⟨by have := HK1.out; first | omega | exact Nat.le_refl _⟩, ⟨by (with_reducible repeat (first | apply q1_ | apply q2_ | apply q3_)); exact Kd.S_mono (Kd.S_far (p := ⟨gb243, 1, none⟩) (Kd.S_far (p := ⟨gb243, 0, none⟩) (Kd.S_types HO_5.out BK243.out (by decide)) (fun _ hk => hk.2) (.int .i64 ((rd_T132 y239 x21_1).f0))) (fun _ hk => hk.2) (.int .i64 ((rd_T132 y239 x21_1).f1))) (fun _ hk => trivial)⟩, ⟨by (with_reducible repeat (first | apply r1_ | apply r2_ | apply r3_)); exact Kd.R_mono (Kd.R_far (p := ⟨gb243, 1, none⟩) (Kd.R_far (p := ⟨gb243, 0, none⟩) (Kd.R_mono HO_19.out (fun k_ hk => (⟨hk, hk.2⟩ : _ ∧ k_ ≠ gb243))) (fun _ hk => hk.2) (.int .i64 ((rd_T132 y239 x21_1).f0))) (fun _ hk => hk.2) (.int .i64 ((rd_T132 y239 x21_1).f1))) (fun _ hk => hk.1.2)⟩, ⟨by (with_reducible repeat (first | refine blk_drewN ?_ _ | refine blk_drew ?_ | refine blk_alloc ?_ _)); refine blk_put (cs := #[.int .i64 ((rd_T132 y239 x21_1).f0), .int .i64 0]) ?_ 1 _ rfl; (with_reducible repeat (first | refine blk_drewN ?_ _ | refine blk_drew ?_ | refine blk_alloc ?_ _)); refine blk_put (cs := #[.int .i64 0, .int .i64 0]) ?_ 0 _ rfl; (with_reducible repeat (first | refine blk_drewN ?_ _ | refine blk_drew ?_ | refine blk_alloc ?_ _)); exact BK243.out⟩, ⟨by repeat (first | (with_reducible first | exact HB.out | apply b3_ | apply b1_ | apply b2_ | refine below_set ?_ GE243.out) | exact HB.out)⟩⟩
     ·rw [if_neg c14] at H
      have c14b0 : decide (x6_1 < ((rd_T132 y239 x21_1).f0)) = false := decide_eq_false c14
      clear c14
      (first | rw [c14b0] | (simp only [i64_w, i32_w]; rw [c14b0]) | skip)
      have H' := am_ H
      clear H
      have hcz16_0 : w12.cell? ⟨gb243, 0, none⟩ = some (.int .i64 0) := (blk_cell BK243.out 0).trans rfl
      have hcz16_1 : w12.cell? ⟨gb243, 1, none⟩ = some (.int .i64 0) := (blk_cell BK243.out 1).trans rfl
      have hfz16_0 := blk_frozen BK243.out 0
      have hfz16_1 := blk_frozen BK243.out 1
      go_wp2
      go_meet
      case rel => exact ⟨_, (decide (x7_1 < ((rd_T132 y239 x21_1).f1))), (by first | rfl | (simp; done) | (simp [*]; done)), H', ⟨by have := HK1.out; first | omega | exact Nat.le_refl _⟩, ⟨by (with_reducible repeat (first | apply q1_ | apply q2_ | apply q3_)); exact Kd.S_mono (Kd.S_far (p := ⟨gb243, 1, none⟩) (Kd.S_far (p := ⟨gb243, 0, none⟩) (Kd.S_types HO_5.out BK243.out (by decide)) (fun _ hk => hk.2) (.int .i64 ((rd_T132 y239 x21_1).f0))) (fun _ hk => hk.2) (.int .i64 ((rd_T132 y239 x21_1).f1))) (fun _ hk => trivial)⟩, ⟨by (with_reducible repeat (first | apply r1_ | apply r2_ | apply r3_)); exact Kd.R_mono (Kd.R_far (p := ⟨gb243, 1, none⟩) (Kd.R_far (p := ⟨gb243, 0, none⟩) (Kd.R_mono HO_19.out (fun k_ hk => (⟨hk, hk.2⟩ : _ ∧ k_ ≠ gb243))) (fun _ hk => hk.2) (.int .i64 ((rd_T132 y239 x21_1).f0))) (fun _ hk => hk.2) (.int .i64 ((rd_T132 y239 x21_1).f1))) (fun _ hk => hk.1.2)⟩, ⟨by (with_reducible repeat (first | refine blk_drewN ?_ _ | refine blk_drew ?_ | refine blk_alloc ?_ _)); refine blk_put (cs := #[.int .i64 ((rd_T132 y239 x21_1).f0), .int .i64 0]) ?_ 1 _ rfl; (with_reducible repeat (first | refine blk_drewN ?_ _ | refine blk_drew ?_ | refine blk_alloc ?_ _)); refine blk_put (cs := #[.int .i64 0, .int .i64 0]) ?_ 0 _ rfl; (with_reducible repeat (first | refine blk_drewN ?_ _ | refine blk_drew ?_ | refine blk_alloc ?_ _)); exact BK243.out⟩, ⟨by repeat (first | (with_reducible first | exact HB.out | apply b3_ | apply b1_ | apply b2_ | refine below_set ?_ GE243.out) | exact HB.out)⟩⟩
    case rest =>
     clear HC11; (try clear c1); (try clear p2); (try clear q2); (try clear hx2); (try clear c4); (try clear c8); (try clear c8b0); (try clear c9); (try clear c9b0); (try clear c10); (try clear c10b0); (try clear c11); (try clear c12); (try clear c14); (try clear c14b0); (try clear hcz13_0); (try clear hcz13_1); (try clear hcz15_0); (try clear hcz15_1); (try clear hcz16_0); (try clear hcz16_1); (try clear hfz13_0); (try clear hfz13_1); (try clear hfz15_0); (try clear hfz15_1); (try clear hfz16_0); (try clear hfz16_1); (try clear hx242_0); (try clear hx242_1); (try clear p2); (try clear p242); (try clear q242); obtain ⟨kq, x34_10, rfl, HA, HJ10, HO_5, HO_19, BK243, HB⟩ := hcut
     cases kq with
     | zero => exact absurd HA.out (by simp [near_changes.j1])
     | succ kj10 =>
      have H := HA.out
      clear HA
      simp only [near_changes.j1] at H
      by_cases c17 : x34_10 = true
      ·subst c17
       have H1 : (if 0 ≤ x6_1 then (if x6_1 ≤ ((rd_T132 y239 x21_1).f0) then (if ((rd_T132 y239 x21_1).f0) ≤ (l0.length : Int) then ((slices_Clone_string_string.f ((l0.take (((rd_T132 y239 x21_1).f0) : Int).toNat).drop (x6_1 : Int).toNat)).bind fun t245 => (if 0 ≤ x7_1 then (if x7_1 ≤ ((rd_T132 y239 x21_1).f1) then (if ((rd_T132 y239 x21_1).f1) ≤ (l1.length : Int) then ((slices_Clone_string_string.f ((l1.take (((rd_T132 y239 x21_1).f1) : Int).toNat).drop (x7_1 : Int).toNat)).bind fun t249 => (if x5_1.length < 2513169434916 then (near_changes.l0 kj10 l0 l1 (x5_1 ++ [(⟨x6_1, t245, t249⟩ : S129)]) (wrap64 (((rd_T132 y239 x21_1).f0) + 1)) (wrap64 (((rd_T132 y239 x21_1).f1) + 1)) y239 (y239.length : Int) (wrap64 (x21_1 + 1))) else (none))) else (none)) else (none)) else (none))) else (none)) else (none)) else (none)) = some r := by rw [if_pos rfl] at H; exact H
       clear H
       have H := H1
       clear H1
       by_cases c18 : 0 ≤ x6_1
       case neg => exact (nn_ c18 H).elim
       rw [if_pos c18] at H; have c18b0 := eq_true c18; have c18b1 := decide_eq_true c18; clear c18
       by_cases c19 : x6_1 ≤ ((rd_T132 y239 x21_1).f0)
       case neg => exact (nn_ c19 H).elim
       rw [if_pos c19] at H; have c19b0 := eq_true c19; have c19b1 := decide_eq_true c19; clear c19
       by_cases c20 : ((rd_T132 y239 x21_1).f0) ≤ (l0.length : Int)
       case neg => exact (nn_ c20 H).elim
       rw [if_pos c20] at H; have c20b0 := eq_true c20; have c20b1 := decide_eq_true c20; clear c20; replace H := Option.bind_eq_some_iff.mp H; obtain ⟨t245, A210, H⟩ := H; have A21 := am_ A210; clear A210
       by_cases c22 : 0 ≤ x7_1
       case neg => exact (nn_ c22 H).elim
       rw [if_pos c22] at H; have c22b0 := eq_true c22; have c22b1 := decide_eq_true c22; clear c22
       by_cases c23 : x7_1 ≤ ((rd_T132 y239 x21_1).f1)
       case neg => exact (nn_ c23 H).elim
       rw [if_pos c23] at H; have c23b0 := eq_true c23; have c23b1 := decide_eq_true c23; clear c23
       by_cases c24 : ((rd_T132 y239 x21_1).f1) ≤ (l1.length : Int)
       case neg => exact (nn_ c24 H).elim
       rw [if_pos c24] at H; have c24b0 := eq_true c24; have c24b1 := decide_eq_true c24; clear c24; replace H := Option.bind_eq_some_iff.mp H; obtain ⟨t249, A250, H⟩ := H; have A25 := am_ A250; clear A250
       by_cases c26 : x5_1.length < 2513169434916
       case neg => exact (nn_ c26 H).elim
       rw [if_pos c26] at H; have LMc26 := am_ c26; clear c26
       obtain ⟨y252, hy252⟩ : ∃ y_ : List (S129), y_ = (x5_1 ++ [(⟨x6_1, t245, t249⟩ : S129)]) := ⟨_, rfl⟩
       replace H : (near_changes.l0 kj10 l0 l1 y252 (wrap64 (((rd_T132 y239 x21_1).f0) + 1)) (wrap64 (((rd_T132 y239 x21_1).f1) + 1)) y239 (y239.length : Int) (wrap64 (x21_1 + 1))) = some r := by first | (rw [hy252]; with_reducible exact H) | (have H2_ := (Option.bind_some _ _).symm.trans H; rw [hy252]; with_reducible exact H2_) | (have H2_ := (Option.bind_some _ _).symm.trans H; with_reducible exact H2_) | with_reducible exact H | (rw [hy252]; exact H) | exact H
       have Ny252 := am_ hy252; clear hy252
       have H' := am_ H
       clear H
       try go_wp2
       have n0_ := am_ (q3_ HO_5.out)
       have n1_ := am_ (r3_ HO_19.out)
       have n2_ := am_ (blk_drew BK243.out)
       have n3_ := am_ (b2_ HB.out)
       clear HO_5; clear HO_19; clear BK243; clear HB; have HO_5 := n0_; have HO_19 := n1_; have BK243 := n2_; have HB := n3_; clear n0_ n1_ n2_ n3_
       obtain ⟨i028, hi028, _, hsz28, _⟩ := info_parts info9
       obtain ⟨A28, hcut28, hA28, hC28⟩ := print_mid_of (P := Tryd.prog) Value.string (⟨#[]⟩ : ByteArray) 26 9 .i64 .i64 Tryd.underlying26 hi028 hsz28 A0 c0 l0 x6_1 ((rd_T132 y239 x21_1).f0) (ode_) (by first | omega | exact ode_) (ode_) HC0.out
       have HR244 := am_ (Kd.C_of_reads (h1 := fun _ => rfl) (hA28 _ (Kd.reads_of_C HR0.out)))
       have HC244 := am_ hC28; clear hA28 hC28 hi028 hsz28
       obtain ⟨i029, hi029, _, hsz29, _⟩ := info_parts info9
       obtain ⟨A29, hcut29, hA29, hC29⟩ := print_mid_of (P := Tryd.prog) Value.string (⟨#[]⟩ : ByteArray) 26 9 .i64 .i64 Tryd.underlying26 hi029 hsz29 A1 c1 l1 x7_1 ((rd_T132 y239 x21_1).f1) (ode_) (by first | omega | exact ode_) (ode_) HC1.out
       have HR248 := am_ (Kd.C_of_reads (h1 := fun _ => rfl) (hA29 _ (Kd.reads_of_C HR1.out)))
       have HC248 := am_ hC29; clear hA29 hC29 hi029 hsz29
       refine start_ (n := 18) (S := fun w' => w'.cell? ⟨gb243, 0, none⟩ = some (.int .i64 ((rd_T132 y239 x21_1).f0)) ∧ w'.cell? ⟨gb243, 1, none⟩ = some (.int .i64 ((rd_T132 y239 x21_1).f1))) (ds := []) near_changes.D0 (by kernel_rfl) rfl rfl ⟨(blk_cell BK243.out 0).trans rfl, (blk_cell BK243.out 1).trans rfl⟩ (fun hHeld => ?_); refine with_tabW near_changes.tab7 near_changes.bits7 (fun HT_ HW_ => ?_)
       generalize wc.drew = w27 at HO_5 HO_19 BK243 HB HR244 HR248 hHeld ⊢
       refine px_ 0 35 ?_ ?_ near_changes.D2 HT_.out ?_ ?_ ?_; rotate_left 2; intro w'; go_simp; with_reducible rfl; simp only [Act.put, s_t, s_z, s_s, i64_w, i32_w]; rfl
       refine px_ 1 36 ?_ ?_ near_changes.D5 HT_.out ?_ ?_ ?_; rotate_left 2; intro w'; go_simp; with_reducible rfl; simp only [Act.put, s_t, s_z, s_s, i64_w, i32_w]; rfl
       refine px_ 2 37 ?_ ?_ near_changes.D7 HT_.out ?_ ?_ ?_; rotate_left 2; intro w'; go_simp; with_reducible rfl; simp only [Act.put, s_t, s_z, s_s, i64_w, i32_w]; rfl
       refine px_ 3 38 ?_ ?_ near_changes.D8 HT_.out ?_ ?_ ?_; rotate_left 2; intro w'; go_simp; with_reducible rfl; simp only [Act.put, s_t, s_z, s_s, i64_w, i32_w]; rfl
       refine px_ 4 39 ?_ ?_ near_changes.D11 HT_.out ?_ ?_ ?_; rotate_left 2; intro w'; go_simp; with_reducible rfl; simp only [Act.put, s_t, s_z, s_s, i64_w, i32_w]; rfl
       refine px_ 8 43 ?_ ?_ near_changes.D12 HT_.out ?_ ?_ ?_; rotate_left 2; intro w'; go_simp; with_reducible rfl; simp only [Act.put, s_t, s_z, s_s, i64_w, i32_w]; rfl
       refine px_ 9 44 ?_ ?_ near_changes.D13 HT_.out ?_ ?_ ?_; rotate_left 2; intro w'; go_simp; with_reducible rfl; simp only [Act.put, s_t, s_z, s_s, i64_w, i32_w]; rfl
       refine px_ 10 45 ?_ ?_ near_changes.D14 HT_.out ?_ ?_ ?_; rotate_left 2; intro w'; go_simp; with_reducible rfl; simp only [Act.put, s_t, s_z, s_s, i64_w, i32_w]; rfl
       refine take_ (i := 5) (N := some 40) (v := ?_) (a' := ?_) near_changes.D16 rfl rfl (take_ofW HT_.out HW_.out (by kernel_rfl)) (fun _ _ _ h => h) (Or.inl ⟨by rfl, ?_⟩) hHeld ?_ ?_
       rotate_left
       ·rintro w' ⟨s0, s1⟩
        go_simp
        with_reducible rfl
       rotate_left
       ·simp only [Act.put, s_t, s_z, s_s, i64_w, i32_w]
        rfl
       refine px_ 6 41 ?_ ?_ near_changes.D17 HT_.out ?_ ?_ ?_; rotate_left 2; intro w'; go_simp; with_reducible rfl; simp only [Act.put, s_t, s_z, s_s, i64_w, i32_w]; rfl
       refine take_ (i := 11) (N := some 46) (v := ?_) (a' := ?_) near_changes.D18 rfl rfl (take_ofW HT_.out HW_.out (by kernel_rfl)) (fun _ _ _ h => h) (Or.inl ⟨by rfl, ?_⟩) hHeld ?_ ?_
       rotate_left
       ·rintro w' ⟨s0, s1⟩
        go_simp
        with_reducible rfl
       rotate_left
       ·simp only [Act.put, s_t, s_z, s_s, i64_w, i32_w]
        rfl
       refine px_ 12 47 ?_ ?_ near_changes.D19 HT_.out ?_ ?_ ?_; rotate_left 2; intro w'; go_simp; with_reducible rfl; simp only [Act.put, s_t, s_z, s_s, i64_w, i32_w]; rfl
       refine one_ (i := 7) (N := some 42) near_changes.D21 rfl rfl (one_of HT_.out (by kernel_rfl)) (by decide) (fun K hK => ?_)
       refine goes_ Tryd.func124 (by kernel_rfl) rfl #[.slice A28 ((l0.take (((rd_T132 y239 x21_1).f0) : Int).toNat).drop (x6_1 : Int).toNat).length (c0 - x6_1.toNat)] (by rfl) rfl rfl (by (try simp only [m1_, m2_, m3_]); first | done | (rw [show ((l0.take (((rd_T132 y239 x21_1).f0) : Int).toNat).drop (x6_1 : Int).toNat).length = (((rd_T132 y239 x21_1).f0).toNat - x6_1.toNat) from (by rw [List.length_drop, List.length_take]; have h_ : (((rd_T132 y239 x21_1).f0) : Int) ≤ (l0.length : Int) := ode_; omega)] <;> rfl) | rfl | (simp only [List.length_drop, List.length_take]; rfl)) ?_
       with_reducible refine (slices_Clone_string_string.calls _ _ ((l0.take (((rd_T132 y239 x21_1).f0) : Int).toNat).drop (x6_1 : Int).toNat) t245 _ ?side1 ?side2 A21.out).mono ?_
       (case side1 => repeat (first | exact (Kd.C_below HR244.out HB.out) | (with_reducible refine Kd.C_alloc ?_ _) | (with_reducible refine Kd.C_drewN ?_ _) | (with_reducible refine Kd.C_drew ?_)))
       (case side2 => exact HC244.out)
       rintro e w30 ⟨v246, rfl, ho0, hb⟩
       refine ⟨_, rfl, ?_⟩
       have n0_ := am_ (Kd.S_elder' (by (with_reducible repeat (first | apply q1_ | apply q2_ | apply q3_)); exact HO_5.out) (Kd.R_base ho0) hb)
       have n1_ := am_ (Kd.R_below (by (with_reducible repeat (first | apply r1_ | apply r2_ | apply r3_)); exact HO_19.out) hb)
       have n2_ := am_ (Kd.R_lower ho0 (below_size (by repeat (first | (with_reducible first | exact HB.out | apply b3_ | apply b1_ | apply b2_ | refine below_set ?_ GE243.out) | exact HB.out))))
       have n3_ := am_ (blk_below (g := gb243) (o := .cells #[.int .i64 ((rd_T132 y239 x21_1).f0), .int .i64 ((rd_T132 y239 x21_1).f1)] 132 (0, 0)) (by (with_reducible repeat (first | refine blk_drewN ?_ _ | refine blk_drew ?_ | refine blk_alloc ?_ _)); exact BK243.out) hb)
       have n4_ := am_ (below_step (by repeat (first | (with_reducible first | exact HB.out | apply b3_ | apply b1_ | apply b2_ | refine below_set ?_ GE243.out) | exact HB.out)) hb)
       clear HO_5; clear HO_19; clear BK243; clear HB; have HO_5 := n0_; have HO_19 := n1_; have HO247 := n2_; have BK243 := n3_; have HB := n4_; clear n0_ n1_ n2_ n3_ n4_
       (try clear hb)
       (try clear hb2)
       (try clear hk)
       (try clear hi)
       (try clear ho0)
       refine hK.out _ _ ⟨(blk_cell BK243.out 0).trans rfl, (blk_cell BK243.out 1).trans rfl⟩ (fun hHeld => ?_)
       clear hK K
       refine norm_ (a' := ?_) ?_ ?_
       rotate_left
       ·show Act.put _ (some 42) _ = _
        simp only [Act.put, s_t, s_z, s_s, i64_w, i32_w]
        rfl
       refine one_ (i := 13) (N := some 48) near_changes.D22 rfl rfl (one_of HT_.out (by kernel_rfl)) (by decide) (fun K hK => ?_)
       refine goes_ Tryd.func124 (by kernel_rfl) rfl #[.slice A29 ((l1.take (((rd_T132 y239 x21_1).f1) : Int).toNat).drop (x7_1 : Int).toNat).length (c1 - x7_1.toNat)] (by rfl) rfl rfl (by (try simp only [m1_, m2_, m3_]); first | done | (rw [show ((l1.take (((rd_T132 y239 x21_1).f1) : Int).toNat).drop (x7_1 : Int).toNat).length = (((rd_T132 y239 x21_1).f1).toNat - x7_1.toNat) from (by rw [List.length_drop, List.length_take]; have h_ : (((rd_T132 y239 x21_1).f1) : Int) ≤ (l1.length : Int) := ode_; omega)] <;> rfl) | rfl | (simp only [List.length_drop, List.length_take]; rfl)) ?_
       with_reducible refine (slices_Clone_string_string.calls _ _ ((l1.take (((rd_T132 y239 x21_1).f1) : Int).toNat).drop (x7_1 : Int).toNat) t249 _ ?side1 ?side2 A25.out).mono ?_
       (case side1 => repeat (first | exact (Kd.C_below HR248.out HB.out) | (with_reducible refine Kd.C_alloc ?_ _) | (with_reducible refine Kd.C_drewN ?_ _) | (with_reducible refine Kd.C_drew ?_)))
       (case side2 => exact HC248.out)
       rintro e w31 ⟨v250, rfl, ho0, hb⟩
       refine ⟨_, rfl, ?_⟩
       have n0_ := am_ (Kd.S_elder' (by (with_reducible repeat (first | apply q1_ | apply q2_ | apply q3_)); exact HO_5.out) (Kd.R_base ho0) hb)
       have n1_ := am_ (Kd.R_below (by (with_reducible repeat (first | apply r1_ | apply r2_ | apply r3_)); exact HO_19.out) hb)
       have n2_ := am_ (Kd.R_elder' (by (with_reducible repeat (first | apply r1_ | apply r2_ | apply r3_)); exact HO247.out) (Kd.R_base ho0) hb)
       have n3_ := am_ (Kd.R_lower (Kd.R_new' ho0 (Kd.R_lt (by (with_reducible repeat (first | apply r1_ | apply r2_ | apply r3_)); exact HO247.out))) (below_size (by repeat (first | (with_reducible first | exact HB.out | apply b3_ | apply b1_ | apply b2_ | refine below_set ?_ GE243.out) | exact HB.out))))
       have n4_ := am_ (blk_below (g := gb243) (o := .cells #[.int .i64 ((rd_T132 y239 x21_1).f0), .int .i64 ((rd_T132 y239 x21_1).f1)] 132 (0, 0)) (by (with_reducible repeat (first | refine blk_drewN ?_ _ | refine blk_drew ?_ | refine blk_alloc ?_ _)); exact BK243.out) hb)
       have n5_ := am_ (below_step (by repeat (first | (with_reducible first | exact HB.out | apply b3_ | apply b1_ | apply b2_ | refine below_set ?_ GE243.out) | exact HB.out)) hb)
       clear HO_5; clear HO_19; clear HO247; clear BK243; clear HB; have HO_5 := n0_; have HO_19 := n1_; have HO247 := n2_; have HO251 := n3_; have BK243 := n4_; have HB := n5_; clear n0_ n1_ n2_ n3_ n4_ n5_
       (try clear hb)
       (try clear hb2)
       (try clear hk)
       (try clear hi)
       (try clear ho0)
       obtain ⟨Ao32, co32, eo32⟩ := Kd.R_slice HO251.out
       (first | subst eo32 | (injection eo32 with f1_ f2_ f3_; have f4_ := f1_.symm; have f5_ := f3_.symm; clear f1_ f2_ f3_; subst f4_; subst f5_))
       obtain ⟨Ao33, co33, eo33⟩ := Kd.R_slice HO247.out
       (first | subst eo33 | (injection eo33 with f1_ f2_ f3_; have f4_ := f1_.symm; have f5_ := f3_.symm; clear f1_ f2_ f3_; subst f4_; subst f5_))
       refine hK.out _ _ ⟨(blk_cell BK243.out 0).trans rfl, (blk_cell BK243.out 1).trans rfl⟩ (fun hHeld => ?_)
       clear hK K
       refine norm_ (a' := ?_) ?_ ?_
       rotate_left
       ·show Act.put _ (some 48) _ = _
        simp only [Act.put, s_t, s_z, s_s, i64_w, i32_w]
        rfl
       refine px_ 14 49 ?_ ?_ near_changes.D23 HT_.out ?_ ?_ ?_; rotate_left 2; intro w'; go_simp; with_reducible rfl; simp only [Act.put, s_t, s_z, s_s, i64_w, i32_w]; rfl
       refine one_ (i := 15) (N := some 50) near_changes.D24 rfl rfl (one_of HT_.out (by kernel_rfl)) (by decide) (fun K hK => ?_)
       refine value_ (w1 := ?_) (v := ?_) (by rfl) rfl ?_ ?_
       rotate_left 2
       ·go_simp
        constructor
        ·rfl
        ·rfl
       refine hK.out _ _ ⟨(blk_cell (blk_alloc BK243.out _) 0).trans rfl, (blk_cell (blk_alloc BK243.out _) 1).trans rfl⟩ (fun hHeld => ?_)
       clear hK K
       refine norm_ (a' := ?_) ?_ ?_
       rotate_left
       ·show Act.put _ (some 50) _ = _
        simp only [Act.put, s_t, s_z, s_s, i64_w, i32_w]
        rfl
       refine one_ (i := 16) (N := some 51) near_changes.D25 rfl rfl (one_of HT_.out (by kernel_rfl)) (by decide) (fun K hK => ?_)
       refine Kd.S_append_step k129 (w0 := w) w.heap.size (by rfl) (.tmp 35) (.tmp 50) 70 129 (.agg #[(.int .i64 0), (.slice none 0 0), (.slice none 0 0)]) 56 rfl Tryd.underlying70 info129 rfl (by decide) (by omega) u5 x5_1 (⟨x6_1, t245, t249⟩ : S129) [.int .i64 x6_1, .slice Ao33 t245.length co33, .slice Ao32 t249.length co32] (fun _ => True) (fun k_ => some k_ = (.slice Ao33 t245.length co33 : Value).ownBlock ∨ some k_ = (.slice Ao32 t249.length co32 : Value).ownBlock) rfl rfl ?aP (fun k_ hk_ => hk_.elim (fun h_ => ((Kd.R_mono (ok' := fun k_ => ((fun _ => True)) k_ ∧ some k_ ≠ (u5 : Value).ownBlock) (Kd.R_apart' (HO247.out) (Kd.S_typed HO_5.out) (by decide)) (fun k_ hk => ⟨trivial, hk.2⟩))).1 k_ h_.symm) (fun h_ => ((Kd.R_mono (ok' := fun k_ => ((fun _ => True)) k_ ∧ some k_ ≠ (u5 : Value).ownBlock) (Kd.R_apart' (HO251.out) (Kd.S_typed HO_5.out) (by decide)) (fun k_ hk => ⟨trivial, hk.2⟩))).1 k_ h_.symm)) ?aF ?aO ?aB ?aS ?aL ?_
       (case aP => exact k129_mkM _ _ _ (⟨x6_1, t245, t249⟩ : S129) (Kd.R_mono (Kd.R_tight rfl (Kd.R_mono (ok' := fun k_ => ((fun _ => True)) k_ ∧ some k_ ≠ (u5 : Value).ownBlock) (Kd.R_apart' (HO247.out) (Kd.S_typed HO_5.out) (by decide)) (fun k_ hk => ⟨trivial, hk.2⟩))) (fun _ h_ => Or.inl h_)) (Kd.R_mono (Kd.R_tight rfl (Kd.R_mono (ok' := fun k_ => ((fun _ => True)) k_ ∧ some k_ ≠ (u5 : Value).ownBlock) (Kd.R_apart' (HO251.out) (Kd.S_typed HO_5.out) (by decide)) (fun k_ hk => ⟨trivial, hk.2⟩))) (fun _ h_ => Or.inr (h_))))
       (case aB => exact (by repeat (first | (with_reducible first | exact HB.out | apply b3_ | apply b1_ | apply b2_ | refine below_set ?_ GE243.out) | exact HB.out)))
       (case aF => exact (fun _ _ => trivial))
       (case aO => exact (by (with_reducible repeat (first | apply q1_ | apply q2_ | apply q3_)); exact Kd.S_mono HO_5.out (fun k_ hk => ⟨trivial, fun e_ => e_.elim (fun h_ => hk.1.2 h_) (fun h_ => hk.2 h_)⟩)))
       (case aS => exact (below_size (by repeat (first | (with_reducible first | exact HB.out | apply b3_ | apply b1_ | apply b2_ | refine below_set ?_ GE243.out) | exact HB.out))))
       (case aL => have := LMc26.out; omega)
       intro v253 w34 ho hb hg hat
       rw [← Ny252.out] at ho
       have n0_ := am_ (Kd.R_over' (by (with_reducible repeat (first | apply r1_ | apply r2_ | apply r3_)); exact HO_19.out) (Kd.S_typed (by (with_reducible repeat (first | apply q1_ | apply q2_ | apply q3_)); exact HO_5.out)) (by decide) hg)
       have n1_ := am_ (blk_grown (g := gb243) (o := .cells #[.int .i64 ((rd_T132 y239 x21_1).f0), .int .i64 ((rd_T132 y239 x21_1).f1)] 132 (0, 0)) (by (with_reducible repeat (first | refine blk_drewN ?_ _ | refine blk_drew ?_ | refine blk_alloc ?_ _)); exact BK243.out) hg (Kd.S_ne HO_5.out BK243.out (by decide)))
       have n2_ := am_ (hb)
       have n3_ := am_ (ho)
       clear HO_19; clear BK243; clear HB; clear HO_5; clear HO247; clear HO251; have HO_19 := n0_; have BK243 := n1_; have HB := n2_; have HO254 := n3_; clear n0_ n1_ n2_ n3_; clear ho hb hg hat
       refine hK.out _ _ ⟨(blk_cell BK243.out 0).trans rfl, (blk_cell BK243.out 1).trans rfl⟩ (fun hHeld => ?_)
       clear hK K
       refine norm_ (a' := ?_) ?_ ?_
       rotate_left
       ·show Act.put _ (some 51) _ = _
        simp only [Act.put, s_t, s_z, s_s, i64_w, i32_w]
        rfl
       refine px_ 17 5 ?_ ?_ near_changes.D26 HT_.out ?_ ?_ ?_; rotate_left 2; intro w'; go_simp; with_reducible rfl; simp only [Act.put, s_t, s_z, s_s, i64_w, i32_w]; rfl
       refine done_ (done_of HT_.out (by kernel_rfl)) ?_
       try go_wp2
       have n0_ := am_ (r3_ HO_19.out)
       have n1_ := am_ (q3_ HO254.out)
       have n2_ := am_ (blk_drew BK243.out)
       have n3_ := am_ (b2_ HB.out)
       clear HO_19; clear HO254; clear BK243; clear HB; have HO_19 := n0_; have HO254 := n1_; have BK243 := n2_; have HB := n3_; clear n0_ n1_ n2_ n3_
       refine start_ (n := 8) (S := fun w' => w'.cell? ⟨gb243, 0, none⟩ = some (.int .i64 ((rd_T132 y239 x21_1).f0)) ∧ w'.cell? ⟨gb243, 1, none⟩ = some (.int .i64 ((rd_T132 y239 x21_1).f1))) (ds := []) near_changes.D1 (by kernel_rfl) rfl rfl ⟨(blk_cell BK243.out 0).trans rfl, (blk_cell BK243.out 1).trans rfl⟩ (fun hHeld => ?_); refine with_tabW near_changes.tab8 near_changes.bits8 (fun HT_ HW_ => ?_)
       generalize w34.drew = w35 at HO_19 HO254 BK243 HB hHeld ⊢
       refine px_ 0 52 ?_ ?_ near_changes.D3 HT_.out ?_ ?_ ?_; rotate_left 2; intro w'; go_simp; with_reducible rfl; simp only [Act.put, s_t, s_z, s_s, i64_w, i32_w]; rfl
       refine px_ 3 55 ?_ ?_ near_changes.D4 HT_.out ?_ ?_ ?_; rotate_left 2; intro w'; go_simp; with_reducible rfl; simp only [Act.put, s_t, s_z, s_s, i64_w, i32_w]; rfl
       refine take_ (i := 1) (N := some 53) (v := ?_) (a' := ?_) near_changes.D6 rfl rfl (take_ofW HT_.out HW_.out (by kernel_rfl)) (fun _ _ _ h => h) (Or.inl ⟨by rfl, ?_⟩) hHeld ?_ ?_
       rotate_left
       ·rintro w' ⟨s0, s1⟩
        go_simp
        with_reducible rfl
       rotate_left
       ·simp only [Act.put, s_t, s_z, s_s, i64_w, i32_w]
        rfl
       refine px_ 2 54 ?_ ?_ near_changes.D9 HT_.out ?_ ?_ ?_; rotate_left 2; intro w'; go_simp; with_reducible rfl; simp only [Act.put, s_t, s_z, s_s, i64_w, i32_w]; rfl
       refine px_ 6 6 ?_ ?_ near_changes.D10 HT_.out ?_ ?_ ?_; rotate_left 2; intro w'; go_simp; with_reducible rfl; simp only [Act.put, s_t, s_z, s_s, i64_w, i32_w]; rfl
       refine take_ (i := 4) (N := some 56) (v := ?_) (a' := ?_) near_changes.D15 rfl rfl (take_ofW HT_.out HW_.out (by kernel_rfl)) (fun _ _ _ h => h) (Or.inl ⟨by rfl, ?_⟩) hHeld ?_ ?_
       rotate_left
       ·rintro w' ⟨s0, s1⟩
        go_simp
        with_reducible rfl
       rotate_left
       ·simp only [Act.put, s_t, s_z, s_s, i64_w, i32_w]
        rfl
       refine px_ 5 57 ?_ ?_ near_changes.D20 HT_.out ?_ ?_ ?_; rotate_left 2; intro w'; go_simp; with_reducible rfl; simp only [Act.put, s_t, s_z, s_s, i64_w, i32_w]; rfl
       refine px_ 7 7 ?_ ?_ near_changes.D27 HT_.out ?_ ?_ ?_; rotate_left 2; intro w'; go_simp; with_reducible rfl; simp only [Act.put, s_t, s_z, s_s, i64_w, i32_w]; rfl
       refine done_ (done_of HT_.out (by kernel_rfl)) ?_
       try go_wp2
       go_roundg kj10
       case measure => have := HK1.out; have := HJ10.out; omega
       case rel => exact ⟨(y252), (wrap64 (((rd_T132 y239 x21_1).f0) + 1)), (wrap64 (((rd_T132 y239 x21_1).f1) + 1)), (wrap64 (x21_1 + 1)), (by first | rfl | (simp; done) | (simp [*]; done)), (by first | rfl | (simp; done) | (simp [*]; done)), (by first | rfl | (simp; done) | (simp [*]; done)), H', ⟨by have := HK1.out; have := HJ10.out; omega⟩, ⟨by (with_reducible repeat (first | apply q1_ | apply q2_ | apply q3_)); exact HO254.out⟩, ⟨by (with_reducible repeat (first | apply r1_ | apply r2_ | apply r3_)); exact Kd.R_mono HO_19.out (fun _ hk => trivial)⟩, ⟨by repeat (first | (with_reducible first | exact HB.out | apply b3_ | apply b1_ | apply b2_ | refine below_set ?_ GE243.out) | exact HB.out)⟩⟩
      ·replace c17 := Bool.eq_false_iff.mpr c17
       subst c17
       have H1 : (near_changes.l0 kj10 l0 l1 x5_1 (wrap64 (((rd_T132 y239 x21_1).f0) + 1)) (wrap64 (((rd_T132 y239 x21_1).f1) + 1)) y239 (y239.length : Int) (wrap64 (x21_1 + 1))) = some r := by rw [if_neg (show ¬ (false = true) by decide)] at H; exact H
       clear H
       have H := H1
       clear H1
       have H' := am_ H
       clear H
       try go_wp2
       have n0_ := am_ (q3_ HO_5.out)
       have n1_ := am_ (r3_ HO_19.out)
       have n2_ := am_ (blk_drew BK243.out)
       have n3_ := am_ (b2_ HB.out)
       clear HO_5; clear HO_19; clear BK243; clear HB; have HO_5 := n0_; have HO_19 := n1_; have BK243 := n2_; have HB := n3_; clear n0_ n1_ n2_ n3_
       refine start_ (n := 8) (S := fun w' => w'.cell? ⟨gb243, 0, none⟩ = some (.int .i64 ((rd_T132 y239 x21_1).f0)) ∧ w'.cell? ⟨gb243, 1, none⟩ = some (.int .i64 ((rd_T132 y239 x21_1).f1))) (ds := []) near_changes.D1 (by kernel_rfl) rfl rfl ⟨(blk_cell BK243.out 0).trans rfl, (blk_cell BK243.out 1).trans rfl⟩ (fun hHeld => ?_); refine with_tabW near_changes.tab8 near_changes.bits8 (fun HT_ HW_ => ?_)
       generalize wc.drew = w36 at HO_5 HO_19 BK243 HB hHeld ⊢
       refine px_ 0 52 ?_ ?_ near_changes.D3 HT_.out ?_ ?_ ?_; rotate_left 2; intro w'; go_simp; with_reducible rfl; simp only [Act.put, s_t, s_z, s_s, i64_w, i32_w]; rfl
       refine px_ 3 55 ?_ ?_ near_changes.D4 HT_.out ?_ ?_ ?_; rotate_left 2; intro w'; go_simp; with_reducible rfl; simp only [Act.put, s_t, s_z, s_s, i64_w, i32_w]; rfl
       refine take_ (i := 1) (N := some 53) (v := ?_) (a' := ?_) near_changes.D6 rfl rfl (take_ofW HT_.out HW_.out (by kernel_rfl)) (fun _ _ _ h => h) (Or.inl ⟨by rfl, ?_⟩) hHeld ?_ ?_
       rotate_left
       ·rintro w' ⟨s0, s1⟩
        go_simp
        with_reducible rfl
       rotate_left
       ·simp only [Act.put, s_t, s_z, s_s, i64_w, i32_w]
        rfl
       refine px_ 2 54 ?_ ?_ near_changes.D9 HT_.out ?_ ?_ ?_; rotate_left 2; intro w'; go_simp; with_reducible rfl; simp only [Act.put, s_t, s_z, s_s, i64_w, i32_w]; rfl
       refine px_ 6 6 ?_ ?_ near_changes.D10 HT_.out ?_ ?_ ?_; rotate_left 2; intro w'; go_simp; with_reducible rfl; simp only [Act.put, s_t, s_z, s_s, i64_w, i32_w]; rfl
       refine take_ (i := 4) (N := some 56) (v := ?_) (a' := ?_) near_changes.D15 rfl rfl (take_ofW HT_.out HW_.out (by kernel_rfl)) (fun _ _ _ h => h) (Or.inl ⟨by rfl, ?_⟩) hHeld ?_ ?_
       rotate_left
       ·rintro w' ⟨s0, s1⟩
        go_simp
        with_reducible rfl
       rotate_left
       ·simp only [Act.put, s_t, s_z, s_s, i64_w, i32_w]
        rfl
       refine px_ 5 57 ?_ ?_ near_changes.D20 HT_.out ?_ ?_ ?_; rotate_left 2; intro w'; go_simp; with_reducible rfl; simp only [Act.put, s_t, s_z, s_s, i64_w, i32_w]; rfl
       refine px_ 7 7 ?_ ?_ near_changes.D27 HT_.out ?_ ?_ ?_; rotate_left 2; intro w'; go_simp; with_reducible rfl; simp only [Act.put, s_t, s_z, s_s, i64_w, i32_w]; rfl
       refine done_ (done_of HT_.out (by kernel_rfl)) ?_
       try go_wp2
       go_roundg kj10
       case measure => have := HK1.out; have := HJ10.out; omega
       case rel => exact ⟨(x5_1), (wrap64 (((rd_T132 y239 x21_1).f0) + 1)), (wrap64 (((rd_T132 y239 x21_1).f1) + 1)), (wrap64 (x21_1 + 1)), (by first | rfl | (simp; done) | (simp [*]; done)), (by first | rfl | (simp; done) | (simp [*]; done)), (by first | rfl | (simp; done) | (simp [*]; done)), H', ⟨by have := HK1.out; have := HJ10.out; omega⟩, ⟨by (with_reducible repeat (first | apply q1_ | apply q2_ | apply q3_)); exact HO_5.out⟩, ⟨by (with_reducible repeat (first | apply r1_ | apply r2_ | apply r3_)); exact Kd.R_mono HO_19.out (fun _ hk => trivial)⟩, ⟨by repeat (first | (with_reducible first | exact HB.out | apply b3_ | apply b1_ | apply b2_ | refine below_set ?_ GE243.out) | exact HB.out)⟩⟩
   ·rw [if_neg c8] at H
    have c8b0 : decide (x21_1 < (y239.length : Int)) = false := decide_eq_false c8
    clear c8
    obtain rfl := Option.some.inj H
    go_wp2
    go_ret
    exact ⟨_, by first | rfl | (simp [errW_none, errW_some] <;> rfl) | (simp [*, errW_none, errW_some] <;> rfl), by (with_reducible repeat (first | apply q1_ | apply q2_ | apply q3_)); exact HO_5.out, by repeat (first | (with_reducible first | exact HB.out | apply b3_ | apply b1_ | apply b2_) | exact HB.out)⟩
def near_Differ.f (k : Nat) (a0 : ByteArray) (a1 : ByteArray) : Option ((List (S129)) × Int) := (near_both.f k a0 a1).bind fun bt255 => (if bt255.2.2 = 0 then ((near_changes.f k bt255.1 bt255.2.1).bind fun t262 => (some (t262, 0))) else (some (([] : List (S129)), bt255.2.2)))
theorem near_Differ.mono : ∀ a0 a1 k, LeO (near_Differ.f k a0 a1) (near_Differ.f (k + 1) a0 a1) := by
  intro a0 a1 k
  unfold near_Differ.f
  repeat' first
      | (with_reducible exact near_both.mono _ _ _)
      | (with_reducible exact near_changes.mono _ _ _)
      | (with_reducible exact LeO.refl _)
      | (with_reducible exact LeO.none _)
      | (with_reducible refine LeO.ite ?_ ?_)
      | (with_reducible refine LeO.bind ?_ (fun _ => ?_))
      | exact LeO.none _
      | refine LeO.ite ?_ ?_
      | refine LeO.bind ?_ (fun _ => ?_)
set_option maxHeartbeats 8000000 in
set_option maxRecDepth 100000 in
theorem near_Differ.calls (k : Nat) (a0 : ByteArray) (a1 : ByteArray) (r1 : List (S129)) (r2 : Int) (w : World) (hGl : Wd w) (h : near_Differ.f k a0 a1 = some (r1, r2)) :
  Calls Tryd.prog 59 #[.string a0, .string a1] w fun e w' => ∃ v0_ : Value, e = .returned (.tuple #[v0_, .int .i64 r2]) ∧ Kd.S k129 129 w' w.heap.size (fun _ => True) v0_ r1 ∧ Below w.heap.size w w' := by
 have HGl := am_ hGl; clear hGl
 have HB := am_ (Below.refl w.heap.size w)
 have H : ((near_both.f k a0 a1).bind fun bt255 => (if bt255.2.2 = 0 then ((near_changes.f k bt255.1 bt255.2.1).bind fun t262 => (some (t262, 0))) else (some (([] : List (S129)), bt255.2.2)))) = some (r1, r2) := h
 clear h; replace H := Option.bind_eq_some_iff.mp H
 obtain ⟨⟨t255, t256, t257⟩, A30, H⟩ := H
 replace H : (if t257 = 0 then ((near_changes.f k t255 t256).bind fun t262 => (some (t262, 0))) else (some (([] : List (S129)), t257))) = some (r1, r2) := H
 have A3 := am_ A30; clear A30
 by_cases c4 : t257 = 0
 ·rw [if_pos c4] at H
  have c4b0 : (t257 == 0) = true := beq_iff_eq.mpr c4
  have c4b1 : (t257 != 0) = false := bne_eq_false_iff_eq.mpr c4
  clear c4; replace H := Option.bind_eq_some_iff.mp H; obtain ⟨t262, A50, H⟩ := H
  replace H : (some (t262, 0)) = some (r1, r2) := H
  have A5 := am_ A50; clear A50
  simp only [Option.some.injEq, Prod.mk.injEq] at H
  obtain ⟨rfl, rfl⟩ := H
  go_enter Tryd.func59, Tryd.ntmps59
  go_wp2_with (first | ((with_reducible refine gate_callee (f := 118) rfl ?_); refine goesL_ (some 12) rfl rfl Tryd.func118 (by kernel_rfl) rfl #[.string a0, .string a1] rfl (by (try simp only [m1_, m2_, m3_]); first | done | rfl | (simp only [List.length_drop, List.length_take]; rfl)) ?_; (with_reducible refine (near_both.calls k a0 a1 t255 t256 t257 _ ?side1 A3.out).mono ?_); (case side1 => exact Wd.below HGl.out (by repeat (first | (with_reducible first | exact HB.out | apply b3_ | apply b1_ | apply b2_) | exact HB.out))); rintro e w6 ⟨v258, v260, rfl, ho0, ho1, hb⟩; refine ⟨_, rfl, ?_⟩; have n0_ := am_ (Kd.R_lower ho0 (below_size (by repeat (first | (with_reducible first | exact HB.out | apply b3_ | apply b1_ | apply b2_) | exact HB.out)))); have n1_ := am_ (Kd.R_lower ho1 (below_size (by repeat (first | (with_reducible first | exact HB.out | apply b3_ | apply b1_ | apply b2_) | exact HB.out)))); have n2_ := am_ (below_step (by repeat (first | (with_reducible first | exact HB.out | apply b3_ | apply b1_ | apply b2_) | exact HB.out)) hb); clear HB; have HO259 := n0_; have HO261 := n1_; have HB := n2_; clear n0_ n1_ n2_; (try clear hb); (try clear hb2); (try clear hk); (try clear hi); (try clear ho0); (try clear ho1); obtain ⟨Ao7, co7, eo7⟩ := Kd.R_slice HO259.out; subst eo7; obtain ⟨Ao8, co8, eo8⟩ := Kd.R_slice HO261.out; subst eo8) | ((with_reducible refine gate_callee (f := 120) rfl ?_); refine goesL_ (some 21) rfl rfl Tryd.func120 (by kernel_rfl) rfl #[.slice Ao7 t255.length co7, .slice Ao8 t256.length co8] rfl (by (try simp only [m1_, m2_, m3_]); first | done | rfl | (simp only [List.length_drop, List.length_take]; rfl)) ?_; (with_reducible refine (near_changes.calls k _ _ t255 _ _ t256 t262 _ ?side1 ?side2 ?side3 ?side4 A5.out).mono ?_); (case side1 => repeat (first | exact (Kd.R_reads' HO259.out).2.2 | (with_reducible refine Kd.C_alloc ?_ _) | (with_reducible refine Kd.C_drewN ?_ _) | (with_reducible refine Kd.C_drew ?_))); (case side2 => exact (Kd.R_reads' HO259.out).2.1); (case side3 => repeat (first | exact (Kd.R_reads' HO261.out).2.2 | (with_reducible refine Kd.C_alloc ?_ _) | (with_reducible refine Kd.C_drewN ?_ _) | (with_reducible refine Kd.C_drew ?_))); (case side4 => exact (Kd.R_reads' HO261.out).2.1); rintro e w9 ⟨v263, rfl, ho0, hb⟩; refine ⟨_, rfl, ?_⟩; have n0_ := am_ (Kd.R_below (by (with_reducible repeat (first | apply r1_ | apply r2_ | apply r3_)); exact HO259.out) hb); have n1_ := am_ (Kd.R_below (by (with_reducible repeat (first | apply r1_ | apply r2_ | apply r3_)); exact HO261.out) hb); have n2_ := am_ (Kd.S_lower (Kd.S_new' (Kd.S_new' ho0 (Kd.R_lt (by (with_reducible repeat (first | apply r1_ | apply r2_ | apply r3_)); exact HO259.out))) (Kd.R_lt (by (with_reducible repeat (first | apply r1_ | apply r2_ | apply r3_)); exact HO261.out))) (below_size (by repeat (first | (with_reducible first | exact HB.out | apply b3_ | apply b1_ | apply b2_) | exact HB.out)))); have n3_ := am_ (below_step (by repeat (first | (with_reducible first | exact HB.out | apply b3_ | apply b1_ | apply b2_) | exact HB.out)) hb); clear HO259; clear HO261; clear HB; have HO259 := n0_; have HO261 := n1_; have HO264 := n2_; have HB := n3_; clear n0_ n1_ n2_ n3_; (try clear hb); (try clear hb2); (try clear hk); (try clear hi); (try clear ho0)))
  go_ret2
  exact ⟨_, by first | rfl | (simp [errW_none, errW_some] <;> rfl) | (simp [*, errW_none, errW_some] <;> rfl), by (with_reducible repeat (first | apply q1_ | apply q2_ | apply q3_)); exact Kd.S_mono HO264.out (fun _ hk => trivial), by repeat (first | (with_reducible first | exact HB.out | apply b3_ | apply b1_ | apply b2_) | exact HB.out)⟩
 ·rw [if_neg c4] at H
  have c4b0 : (t257 == 0) = false := beq_eq_false_iff_ne.mpr c4
  have c4b1 : (t257 != 0) = true := bne_iff_ne.mpr c4
  simp only [Option.some.injEq, Prod.mk.injEq] at H
  obtain ⟨rfl, rfl⟩ := H
  go_enter Tryd.func59, Tryd.ntmps59
  go_wp2_with (first | ((with_reducible refine gate_callee (f := 118) rfl ?_); refine goesL_ (some 12) rfl rfl Tryd.func118 (by kernel_rfl) rfl #[.string a0, .string a1] rfl (by (try simp only [m1_, m2_, m3_]); first | done | rfl | (simp only [List.length_drop, List.length_take]; rfl)) ?_; (with_reducible refine (near_both.calls k a0 a1 t255 t256 t257 _ ?side1 A3.out).mono ?_); (case side1 => exact Wd.below HGl.out (by repeat (first | (with_reducible first | exact HB.out | apply b3_ | apply b1_ | apply b2_) | exact HB.out))); rintro e w10 ⟨v258, v260, rfl, ho0, ho1, hb⟩; refine ⟨_, rfl, ?_⟩; have n0_ := am_ (Kd.R_lower ho0 (below_size (by repeat (first | (with_reducible first | exact HB.out | apply b3_ | apply b1_ | apply b2_) | exact HB.out)))); have n1_ := am_ (Kd.R_lower ho1 (below_size (by repeat (first | (with_reducible first | exact HB.out | apply b3_ | apply b1_ | apply b2_) | exact HB.out)))); have n2_ := am_ (below_step (by repeat (first | (with_reducible first | exact HB.out | apply b3_ | apply b1_ | apply b2_) | exact HB.out)) hb); clear HB; have HO259 := n0_; have HO261 := n1_; have HB := n2_; clear n0_ n1_ n2_; (try clear hb); (try clear hb2); (try clear hk); (try clear hi); (try clear ho0); (try clear ho1)))
  go_ret2
  exact ⟨_, by first | rfl | (simp [errW_none, errW_some] <;> rfl) | (simp [*, errW_none, errW_some] <;> rfl), by first | exact Kd.S_nil _ _ _ _ _ | exact Kd.N_nil _ _ _ _ _ | exact Kd.V_nil _ _ _ _ _ | exact Kd.Q_nil _ _ _ _ _ | exact Kd.R_nil _ _ _ _ _, by repeat (first | (with_reducible first | exact HB.out | apply b3_ | apply b1_ | apply b2_) | exact HB.out)⟩
def near_Join.f (l0 : List ByteArray) : Option (ByteArray) := if l0.length ≤ 140737488355328 ∧ (jt l0 l0.length).length ≤ 140737488355328 then (some (⟨(jt l0 l0.length).toArray⟩ : ByteArray)) else (none)
set_option maxHeartbeats 8000000 in
set_option maxRecDepth 100000 in
theorem near_Join.calls (A0 : Option Addr) (c0 : Nat) (l0 : List ByteArray) (r : ByteArray) (w : World) (hr0 : Kd.C Kd.string w A0 l0.length l0) (hc0 : l0.length ≤ c0) (h : near_Join.f l0 = some r) :
    Calls Tryd.prog 40 #[.slice A0 l0.length c0] w fun e w' => e = .returned (.string r) ∧ Below w.heap.size w w' := by
  unfold near_Join.f at h
  by_cases hs : l0.length ≤ 140737488355328 ∧ (jt l0 l0.length).length ≤ 140737488355328
  · rw [if_pos hs] at h
    obtain rfl := Option.some.inj h
    clear h
    have h0 : Lib.IsBuilderF 110 5 w.heap.size w.heap.size (Lib.byteCells (jt l0 0)) (w.alloc (.cells #[.pointer none, .slice none 0 0] 110)) := Lib.IsBuilderF.of (Lib.fresh_isBuilder 110 5 w)
    have b0 : Below w.heap.size w (w.alloc (.cells #[.pointer none, .slice none 0 0] 110)) := (Below.refl _ w).alloc (Nat.le_refl _) _
    have H0 : Hid (Lib.IsBuilderF 110 5 w.heap.size w.heap.size (Lib.byteCells (jt l0 0)) (w.alloc (.cells #[.pointer none, .slice none 0 0] 110)) ∧ Below w.heap.size w (w.alloc (.cells #[.pointer none, .slice none 0 0] 110))) := ⟨h0, b0⟩
    clear h0 b0
    have hs1 := hs.1
    have HS : Hid ((jt l0 l0.length).length ≤ 140737488355328) := hs.2
    clear hs
    have HR : Hid (Kd.C Kd.string w A0 l0.length l0) := hr0
    clear hr0
    go_enter Tryd.func40, Tryd.ntmps40
    go_wp2
    go_loopw [8] (fun i wr => ∃ k : Nat, k ≤ l0.length ∧ i = .int .i64 k ∧ Hid (Lib.IsBuilderF 110 5 w.heap.size w.heap.size (Lib.byteCells (jt l0 k)) wr ∧ Below w.heap.size w wr)) (fun i _ => l0.length - (intOf i).toNat)
    case atStart => exact ⟨0, Nat.zero_le _, rfl, H0⟩
    case round =>
        obtain ⟨k, hk, rfl, HL⟩ := hrel; clear H0
        by_cases hlt : k < l0.length
        · obtain ⟨b, o, rfl, hbk, hcell⟩ := C_cells HR.out (Nat.lt_of_le_of_lt (Nat.zero_le _) hlt)
          obtain ⟨x, ex⟩ : ∃ x, l0.getD k ByteArray.empty = x := ⟨_, rfl⟩
          obtain ⟨y, ey⟩ : ∃ y, l0.getD (k - 1) ByteArray.empty = y := ⟨_, rfl⟩
          have hx : wr.cell? ⟨b, o + k, none⟩ = some (.string x) := (HL.out.2.cell hbk).trans (by rw [hcell k _ (List.getElem?_eq_getElem hlt), ← ex]; simp [List.getD, hlt])
          have hz1 : (k : Int) < (l0.length : Int) := by omega
          have HN : Hid ((jt l0 (k + 1)).length ≤ 140737488355328) := Nat.le_trans (jt_le l0 (by omega)) HS.out
          by_cases c0 : 0 < k
          · have hz2 : (0 : Int) < (k : Int) := by omega
            have hy : wr.cell? ⟨b, o + (k - 1), none⟩ = some (.string y) := (HL.out.2.cell hbk).trans (by rw [hcell (k - 1) _ (List.getElem?_eq_getElem (by omega)), ← ey]; simp [List.getD, show k - 1 < l0.length by omega])
            clear hcell HR
            by_cases c1 : x.toList = [10]
            · clear hy
              have c1b : (x.toList == [10]) = true := by rw [c1]; rfl
              have e_ : jt l0 (k + 1) = jt l0 k ++ x.data.toList := jt_no ex ey (by intro h_; exact h_.2.1 c1)
              go_wp2_with (go_at_call 102; refine (Tryd.WriteString w.heap.size w.heap.size _ x _ HL.out.1 (by have z_ := HN.out; rw [e_, List.length_append, ← Lib.size_eq] at z_; rw [Lib.byteCells_length]; exact z_) HL.out.2.size).mono ?_; rintro e W1 ⟨rfl, h1, hb, _⟩; have HP : Hid (Lib.IsBuilderF 110 5 w.heap.size w.heap.size (Lib.byteCells (jt l0 (k + 1))) W1 ∧ Below w.heap.size w W1) := ⟨Or.inr (by rw [e_, Lib.byteCells_append, ← Lib.strCells_eq]; exact h1), HL.out.2.trans hb⟩; clear HL HN h1 hb)
              go_roundw
              case rel => exact ⟨k + 1, by omega, by go_num, HP⟩
              case measure => simp [intOf]; omega
            · have c1b : (x.toList == [10]) = false := by simpa using c1
              by_cases c2 : y.toList = [10]
              · have c2b : (y.toList == [10]) = true := by rw [c2]; rfl
                have e_ : jt l0 (k + 1) = jt l0 k ++ x.data.toList := jt_no ex ey (by intro h_; exact h_.2.2 c2)
                go_wp2_with (go_at_call 102; refine (Tryd.WriteString w.heap.size w.heap.size _ x _ HL.out.1 (by have z_ := HN.out; rw [e_, List.length_append, ← Lib.size_eq] at z_; rw [Lib.byteCells_length]; exact z_) HL.out.2.size).mono ?_; rintro e W1 ⟨rfl, h1, hb, _⟩; have HP : Hid (Lib.IsBuilderF 110 5 w.heap.size w.heap.size (Lib.byteCells (jt l0 (k + 1))) W1 ∧ Below w.heap.size w W1) := ⟨Or.inr (by rw [e_, Lib.byteCells_append, ← Lib.strCells_eq]; exact h1), HL.out.2.trans hb⟩; clear HL HN h1 hb)
                go_roundw
                case rel => exact ⟨k + 1, by omega, by go_num, HP⟩
                case measure => simp [intOf]; omega
              · have e_ : jt l0 (k + 1) = jt l0 k ++ [32] ++ x.data.toList := jt_sp ex ey c0 c1 c2
                have c2b : (y.toList == [10]) = false := by simpa using c2
                go_wp2_with (first | (go_at_call 101; refine (Tryd.WriteByte w.heap.size w.heap.size _ 32 _ HL.out.1 (by have z_ := HN.out; rw [e_, List.length_append, List.length_append] at z_; rw [Lib.byteCells_length]; have z1 : (⟨#[32]⟩ : ByteArray).size = 1 := rfl; have z2 : ([32] : List UInt8).length = 1 := rfl; omega) HL.out.2.size).mono ?_; rintro e W0 ⟨rfl, h3, hb0, _⟩; have HQ : Hid (Lib.IsBuilderF 110 5 w.heap.size w.heap.size (Lib.byteCells (jt l0 k ++ [32])) W0 ∧ Below w.heap.size w W0) := ⟨Or.inr (by rw [Lib.byteCells_append]; first | exact h3 | (rw [show Lib.byteCells [32] = Lib.strCells ⟨#[32]⟩ from rfl]; exact h3)), HL.out.2.trans hb0⟩; clear h3 hb0 HL) | (go_at_call 102; refine (Tryd.WriteString w.heap.size w.heap.size _ x _ HQ.out.1 (by have z_ := HN.out; rw [e_, List.length_append, ← Lib.size_eq] at z_; rw [Lib.byteCells_length]; exact z_) HQ.out.2.size).mono ?_; rintro e W1 ⟨rfl, h1, hb, _⟩; have HP : Hid (Lib.IsBuilderF 110 5 w.heap.size w.heap.size (Lib.byteCells (jt l0 (k + 1))) W1 ∧ Below w.heap.size w W1) := ⟨Or.inr (by rw [e_, Lib.byteCells_append, ← Lib.strCells_eq]; exact h1), HQ.out.2.trans hb⟩; clear HQ HN h1 hb))
                go_roundw
                case rel => exact ⟨k + 1, by omega, by go_num, HP⟩
                case measure => simp [intOf]; omega
          · have hz2 : ¬ (0 : Int) < (k : Int) := by omega
            have e_ : jt l0 (k + 1) = jt l0 k ++ x.data.toList := jt_no ex ey (by intro h_; exact c0 h_.1)
            go_wp2_with (go_at_call 102; refine (Tryd.WriteString w.heap.size w.heap.size _ x _ HL.out.1 (by have z_ := HN.out; rw [e_, List.length_append, ← Lib.size_eq] at z_; rw [Lib.byteCells_length]; exact z_) HL.out.2.size).mono ?_; rintro e W1 ⟨rfl, h1, hb, _⟩; have HP : Hid (Lib.IsBuilderF 110 5 w.heap.size w.heap.size (Lib.byteCells (jt l0 (k + 1))) W1 ∧ Below w.heap.size w W1) := ⟨Or.inr (by rw [e_, Lib.byteCells_append, ← Lib.strCells_eq]; exact h1), HL.out.2.trans hb⟩; clear HL HN h1 hb)
            go_roundw
            case rel => exact ⟨k + 1, by omega, by go_num, HP⟩
            case measure => simp [intOf]; omega
        · obtain rfl : k = l0.length := by omega
          have hz1 : ¬ (l0.length : Int) < (l0.length : Int) := by omega
          go_wp2_with (go_at_call 103; refine (Tryd.BString w.heap.size w.heap.size _ _ HL.out.1 HL.out.2.size).mono ?_; rintro e w' ⟨rfl, _, hb, _⟩; have hB := HL.out.2.trans hb; clear HL hb)
          go_ret
          exact ⟨rfl, hB⟩
  · rw [if_neg hs] at h
    exact absurd h (by simp)
def near_Marked.l0 : Nat → List ByteArray → List ByteArray → Int → List (S129) → Int → Int → Option (ByteArray × Int)
  | 0, _, _, _, _, _, _ => none
  | k + 1, x6, x9, x10, x26, x27, x28 => if x28 < x27 then (if 0 ≤ x28 then (if x28 < (x26.length : Int) then (if 0 ≤ x10 then (if x10 ≤ ((rd_T129 x26 x28).f0) then (if ((rd_T129 x26 x28).f0) ≤ (x6.length : Int) then ((some ((x6.take (((rd_T129 x26 x28).f0) : Int).toNat).drop (x10 : Int).toNat : List ByteArray)).bind fun y285 => (if x9.length + y285.length < 8796093022208 then ((some (x9 ++ y285 : List ByteArray)).bind fun y289 => (if (((rd_T129 x26 x28).f1).length : Int) > 0 then ((near_Join.f ((rd_T129 x26 x28).f1)).bind fun t292 => (if 2 + t292.size ≤ 9223372036854775807 then (if ((⟨#[91, 45]⟩ : ByteArray) ++ t292).size + 2 ≤ 9223372036854775807 then (if y289.length < 8796093022208 then ((some (y289 ++ [((⟨#[91, 45]⟩ : ByteArray) ++ t292) ++ (⟨#[45, 93]⟩ : ByteArray)] : List ByteArray)).bind fun y293 => (if (((rd_T129 x26 x28).f2).length : Int) > 0 then ((near_Join.f ((rd_T129 x26 x28).f2)).bind fun t296 => (if 2 + t296.size ≤ 9223372036854775807 then (if ((⟨#[123, 43]⟩ : ByteArray) ++ t296).size + 2 ≤ 9223372036854775807 then (if y293.length < 8796093022208 then (near_Marked.l0 k x6 (y293 ++ [((⟨#[123, 43]⟩ : ByteArray) ++ t296) ++ (⟨#[43, 125]⟩ : ByteArray)]) (wrap64 (((rd_T129 x26 x28).f0) + (((rd_T129 x26 x28).f1).length : Int))) x26 x27 (wrap64 (x28 + 1))) else (none)) else (none)) else (none))) else (near_Marked.l0 k x6 y293 (wrap64 (((rd_T129 x26 x28).f0) + (((rd_T129 x26 x28).f1).length : Int))) x26 x27 (wrap64 (x28 + 1))))) else (none)) else (none)) else (none))) else (if (((rd_T129 x26 x28).f2).length : Int) > 0 then ((near_Join.f ((rd_T129 x26 x28).f2)).bind fun t300 => (if 2 + t300.size ≤ 9223372036854775807 then (if ((⟨#[123, 43]⟩ : ByteArray) ++ t300).size + 2 ≤ 9223372036854775807 then (if y289.length < 8796093022208 then (near_Marked.l0 k x6 (y289 ++ [((⟨#[123, 43]⟩ : ByteArray) ++ t300) ++ (⟨#[43, 125]⟩ : ByteArray)]) (wrap64 (((rd_T129 x26 x28).f0) + (((rd_T129 x26 x28).f1).length : Int))) x26 x27 (wrap64 (x28 + 1))) else (none)) else (none)) else (none))) else (near_Marked.l0 k x6 y289 (wrap64 (((rd_T129 x26 x28).f0) + (((rd_T129 x26 x28).f1).length : Int))) x26 x27 (wrap64 (x28 + 1)))))) else (none))) else (none)) else (none)) else (none)) else (none)) else (none)) else (if 0 ≤ x10 then (if x10 ≤ (x6.length : Int) then ((some (x6.drop (x10 : Int).toNat : List ByteArray)).bind fun y275 => (if x9.length + y275.length < 8796093022208 then ((near_Join.f (x9 ++ y275)).bind fun t282 => (if (t282.size : Int) > 200000 then (some ((⟨#[]⟩ : ByteArray), 2)) else (some (t282, 0)))) else (none))) else (none)) else (none))
def near_Marked.f (k : Nat) (a0 : ByteArray) (a1 : ByteArray) : Option (ByteArray × Int) := (near_both.f k a0 a1).bind fun bt265 => (if bt265.2.2 = 0 then ((near_changes.f k bt265.1 bt265.2.1).bind fun t272 => (near_Marked.l0 k bt265.1 ([] : List ByteArray) 0 t272 (t272.length : Int) 0)) else (some ((⟨#[]⟩ : ByteArray), bt265.2.2)))
theorem near_Marked.mono_l : ∀ k, (∀ y0 y1 y2 y3 y4 y5, LeO (near_Marked.l0 k y0 y1 y2 y3 y4 y5) (near_Marked.l0 (k + 1) y0 y1 y2 y3 y4 y5))
  | 0 => fun _ _ _ _ _ _ r h => by simp [near_Marked.l0] at h
  | k + 1 => by
    have ih0 := near_Marked.mono_l k
    · intro y0 y1 y2 y3 y4 y5
      unfold near_Marked.l0
      repeat' first
      | (with_reducible exact ih0 _ _ _ _ _ _)
      | (with_reducible exact near_both.mono _ _ _)
      | (with_reducible exact near_changes.mono _ _ _)
      | (with_reducible exact LeO.refl _)
      | (with_reducible exact LeO.none _)
      | (with_reducible refine LeO.ite ?_ ?_)
      | (with_reducible refine LeO.bind ?_ (fun _ => ?_))
      | exact ih0 _ _ _ _ _ _
      | exact LeO.none _
      | refine LeO.ite ?_ ?_
      | refine LeO.bind ?_ (fun _ => ?_)
theorem near_Marked.mono : ∀ a0 a1 k, LeO (near_Marked.f k a0 a1) (near_Marked.f (k + 1) a0 a1) := by
  intro a0 a1 k
  have ih0 := near_Marked.mono_l k
  unfold near_Marked.f
  repeat' first
      | (with_reducible exact ih0 _ _ _ _ _ _)
      | (with_reducible exact near_both.mono _ _ _)
      | (with_reducible exact near_changes.mono _ _ _)
      | (with_reducible exact LeO.refl _)
      | (with_reducible exact LeO.none _)
      | (with_reducible refine LeO.ite ?_ ?_)
      | (with_reducible refine LeO.bind ?_ (fun _ => ?_))
      | exact ih0 _ _ _ _ _ _
      | exact LeO.none _
      | refine LeO.ite ?_ ?_
      | refine LeO.bind ?_ (fun _ => ?_)
end Go.Proofs.YtbamfhcifpfocaaDoor.Pw
