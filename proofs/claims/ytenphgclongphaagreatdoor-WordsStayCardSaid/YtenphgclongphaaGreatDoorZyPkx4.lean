/- A part of the proof of wordsStay. No conditions. Laid by program over the kit's print and words. -/
import Derived.Test.YtenphgclongphaaGreatDoorZyPkx0
import Derived.Test.YtenphgclongphaaGreatDoorZyPkx1
import Derived.Test.YtenphgclongphaaGreatDoorZyPkx2
import Derived.Test.YtenphgclongphaaGreatDoorZyPkx3
namespace Go.Proofs.YtenphgclongphaaGreatDoor.Pk
open Go.RowKit Go.Proofs.YtenphgclongphaaGreatDoor.GBase Go.Proofs.YtenphgclongphaaGreatDoorW.PrintWords Go.Proofs.YtenphgclongphaaGreatDoorW.PrintLast Go.Proofs.YtenphgclongphaaGreatDoorW.PrintMore
attribute [local go_sem] str_leq max2_int min2_int max_two min_two max_three min_three max_four min_four
set_option linter.unusedVariables false
set_option linter.unusedSimpArgs false
mutual
def chaseref1_DifferOf.l0 : Nat → List ByteArray → List ByteArray → List (S34) → Int → Int → List (S76) → Int → Int → Option ((List (S34)))
  | 0, _, _, _, _, _, _, _, _ => none
  | k + 1, x5, x6, x7, x8, x9, x25, x26, x27 => if x27 < x26 then (if 0 ≤ x27 then (if x27 < (x25.length : Int) then (if ((rd_T76 x25 x27).f0) > x8 then (chaseref1_DifferOf.j1 k x5 x6 x7 x8 x9 x25 x26 x27 true ((rd_T76 x25 x27).f0) ((rd_T76 x25 x27).f1)) else (chaseref1_DifferOf.j1 k x5 x6 x7 x8 x9 x25 x26 x27 (decide (((rd_T76 x25 x27).f1) > x9)) ((rd_T76 x25 x27).f0) ((rd_T76 x25 x27).f1))) else (none)) else (none)) else (some x7)
def chaseref1_DifferOf.j1 : Nat → List ByteArray → List ByteArray → List (S34) → Int → Int → List (S76) → Int → Int → Bool → Int → Int → Option ((List (S34)))
  | 0, _, _, _, _, _, _, _, _, _, _, _ => none
  | k + 1, x5, x6, x7, x8, x9, x25, x26, x27, x40, x182000, x182001 => if x40 = true then (if 0 ≤ x8 then (if x8 ≤ x182000 then (if x182000 ≤ (x5.length : Int) then ((slices_Clone_string_string.f ((x5.take (x182000 : Int).toNat).drop (x8 : Int).toNat)).bind fun t186 => (if 0 ≤ x9 then (if x9 ≤ x182001 then (if x182001 ≤ (x6.length : Int) then ((slices_Clone_string_string.f ((x6.take (x182001 : Int).toNat).drop (x9 : Int).toNat)).bind fun t193 => (if x7.length < 2513169434916 then (chaseref1_DifferOf.l0 k x5 x6 (x7 ++ [(⟨x8, t186, t193⟩ : S34)]) (wrap64 (x182000 + 1)) (wrap64 (x182001 + 1)) x25 x26 (wrap64 (x27 + 1))) else (none))) else (none)) else (none)) else (none))) else (none)) else (none)) else (none)) else (chaseref1_DifferOf.l0 k x5 x6 x7 (wrap64 (x182000 + 1)) (wrap64 (x182001 + 1)) x25 x26 (wrap64 (x27 + 1)))
end
def chaseref1_DifferOf.f (k : Nat) (a0 : ByteArray) (a1 : ByteArray) : Option ((List (S34))) := (chaseref1_TokensOf.f k a0).bind fun t168 => ((chaseref1_TokensOf.f k a1).bind fun t171 => ((chaseref1_keptOf.f k t168 t171).bind fun t174 => (if t174.length < 8796093022208 then ((some (t174 ++ [(⟨(t168.length : Int), (t171.length : Int)⟩ : S76)] : List (S76))).bind fun y177 => (chaseref1_DifferOf.l0 k t168 t171 ([] : List (S34)) 0 0 y177 (y177.length : Int) 0)) else (none))))
theorem chaseref1_DifferOf.mono_l : ∀ k, (∀ y0 y1 y2 y3 y4 y5 y6 y7, LeO (chaseref1_DifferOf.l0 k y0 y1 y2 y3 y4 y5 y6 y7) (chaseref1_DifferOf.l0 (k + 1) y0 y1 y2 y3 y4 y5 y6 y7)) ∧ (∀ y0 y1 y2 y3 y4 y5 y6 y7 y8 y9 y10, LeO (chaseref1_DifferOf.j1 k y0 y1 y2 y3 y4 y5 y6 y7 y8 y9 y10) (chaseref1_DifferOf.j1 (k + 1) y0 y1 y2 y3 y4 y5 y6 y7 y8 y9 y10))
  | 0 => ⟨fun _ _ _ _ _ _ _ _ r h => by simp [chaseref1_DifferOf.l0] at h, fun _ _ _ _ _ _ _ _ _ _ _ r h => by simp [chaseref1_DifferOf.j1] at h⟩
  | k + 1 => by
    obtain ⟨ih0, ih1⟩ := chaseref1_DifferOf.mono_l k
    refine ⟨?_, ?_⟩
    · intro y0 y1 y2 y3 y4 y5 y6 y7
      unfold chaseref1_DifferOf.l0
      repeat' first
      | (with_reducible exact ih0 _ _ _ _ _ _ _ _)
      | (with_reducible exact ih1 _ _ _ _ _ _ _ _ _ _ _)
      | (with_reducible exact chaseref1_TokensOf.mono _ _)
      | (with_reducible exact chaseref1_keptOf.mono _ _ _)
      | (with_reducible exact LeO.refl _)
      | (with_reducible exact LeO.none _)
      | (with_reducible refine LeO.ite ?_ ?_)
      | (with_reducible refine LeO.bind ?_ (fun _ => ?_))
      | exact ih0 _ _ _ _ _ _ _ _
      | exact ih1 _ _ _ _ _ _ _ _ _ _ _
      | exact LeO.none _
      | refine LeO.ite ?_ ?_
      | refine LeO.bind ?_ (fun _ => ?_)
    · intro y0 y1 y2 y3 y4 y5 y6 y7 y8 y9 y10
      unfold chaseref1_DifferOf.j1
      repeat' first
      | (with_reducible exact ih0 _ _ _ _ _ _ _ _)
      | (with_reducible exact ih1 _ _ _ _ _ _ _ _ _ _ _)
      | (with_reducible exact chaseref1_TokensOf.mono _ _)
      | (with_reducible exact chaseref1_keptOf.mono _ _ _)
      | (with_reducible exact LeO.refl _)
      | (with_reducible exact LeO.none _)
      | (with_reducible refine LeO.ite ?_ ?_)
      | (with_reducible refine LeO.bind ?_ (fun _ => ?_))
      | exact ih0 _ _ _ _ _ _ _ _
      | exact ih1 _ _ _ _ _ _ _ _ _ _ _
      | exact LeO.none _
      | refine LeO.ite ?_ ?_
      | refine LeO.bind ?_ (fun _ => ?_)
theorem chaseref1_DifferOf.mono : ∀ a0 a1 k, LeO (chaseref1_DifferOf.f k a0 a1) (chaseref1_DifferOf.f (k + 1) a0 a1) := by
  intro a0 a1 k
  obtain ⟨ih0, ih1⟩ := chaseref1_DifferOf.mono_l k
  unfold chaseref1_DifferOf.f
  repeat' first
      | (with_reducible exact ih0 _ _ _ _ _ _ _ _)
      | (with_reducible exact ih1 _ _ _ _ _ _ _ _ _ _ _)
      | (with_reducible exact chaseref1_TokensOf.mono _ _)
      | (with_reducible exact chaseref1_keptOf.mono _ _ _)
      | (with_reducible exact LeO.refl _)
      | (with_reducible exact LeO.none _)
      | (with_reducible refine LeO.ite ?_ ?_)
      | (with_reducible refine LeO.bind ?_ (fun _ => ?_))
      | exact ih0 _ _ _ _ _ _ _ _
      | exact ih1 _ _ _ _ _ _ _ _ _ _ _
      | exact LeO.none _
      | refine LeO.ite ?_ ?_
      | refine LeO.bind ?_ (fun _ => ?_)
def chaseref1_DifferOf.T8 : Bool × List (List Nat × List Nat) := (true, [([], []), ([], []), ([], []), ([], []), ([], []), ([4], [4]), ([2, 3, 5], [2, 3, 5]), ([6], [6]), ([], []), ([], []), ([], []), ([10], [10]), ([8, 9, 11], [8, 9, 11]), ([12, 7], [12]), ([1, 7, 13], [1, 7, 13]), ([14], [14]), ([0, 15, 13], [0, 15]), ([16, 16, 0, 1, 2, 3, 4, 5, 6, 7, 8, 9, 10, 11, 12, 13, 14, 15, 16], [0, 16])])
def chaseref1_DifferOf.B8 : List Nat := [0, 0, 0, 0, 0, 16, 60, 124, 0, 0, 0, 1024, 3840, 8188, 16382, 32766, 65535, 131071]
theorem chaseref1_DifferOf.tab8 : rtab .any (opsOf Tryz.f15 8) = chaseref1_DifferOf.T8 := by kernel_rfl
theorem chaseref1_DifferOf.bits8 : waitsOk chaseref1_DifferOf.T8.2 chaseref1_DifferOf.B8 = true := by kernel_rfl
def chaseref1_DifferOf.T9 : Bool × List (List Nat × List Nat) := (true, [([], []), ([0], [0]), ([1], [1]), ([], []), ([3], [3]), ([4], [4]), ([2, 0, 1, 2], [2]), ([5, 6, 0, 1, 2, 3, 4, 5, 6], [5])])
def chaseref1_DifferOf.B9 : List Nat := [0, 1, 3, 0, 8, 24, 7, 127]
theorem chaseref1_DifferOf.tab9 : rtab .any (opsOf Tryz.f15 9) = chaseref1_DifferOf.T9 := by kernel_rfl
theorem chaseref1_DifferOf.bits9 : waitsOk chaseref1_DifferOf.T9.2 chaseref1_DifferOf.B9 = true := by kernel_rfl
abbrev chaseref1_DifferOf.D0 : Array Bool := #[false, false, false, false, false, false, false, false, false, false, false, false, false, false, false, false, false, false]
abbrev chaseref1_DifferOf.D1 : Array Bool := #[false, false, false, false, false, false, false, false]
abbrev chaseref1_DifferOf.D2 : Array Bool := #[true, false, false, false, false, false, false, false, false, false, false, false, false, false, false, false, false, false]
abbrev chaseref1_DifferOf.D3 : Array Bool := #[true, false, false, false, false, false, false, false]
abbrev chaseref1_DifferOf.D4 : Array Bool := #[true, false, false, true, false, false, false, false]
abbrev chaseref1_DifferOf.D5 : Array Bool := #[true, true, false, false, false, false, false, false, false, false, false, false, false, false, false, false, false, false]
abbrev chaseref1_DifferOf.D6 : Array Bool := #[true, true, false, true, false, false, false, false]
abbrev chaseref1_DifferOf.D7 : Array Bool := #[true, true, true, false, false, false, false, false, false, false, false, false, false, false, false, false, false, false]
abbrev chaseref1_DifferOf.D8 : Array Bool := #[true, true, true, true, false, false, false, false, false, false, false, false, false, false, false, false, false, false]
abbrev chaseref1_DifferOf.D9 : Array Bool := #[true, true, true, true, false, false, false, false]
abbrev chaseref1_DifferOf.D10 : Array Bool := #[true, true, true, true, false, false, true, false]
abbrev chaseref1_DifferOf.D11 : Array Bool := #[true, true, true, true, true, false, false, false, false, false, false, false, false, false, false, false, false, false]
abbrev chaseref1_DifferOf.D12 : Array Bool := #[true, true, true, true, true, false, false, false, true, false, false, false, false, false, false, false, false, false]
abbrev chaseref1_DifferOf.D13 : Array Bool := #[true, true, true, true, true, false, false, false, true, true, false, false, false, false, false, false, false, false]
abbrev chaseref1_DifferOf.D14 : Array Bool := #[true, true, true, true, true, false, false, false, true, true, true, false, false, false, false, false, false, false]
abbrev chaseref1_DifferOf.D15 : Array Bool := #[true, true, true, true, true, false, true, false]
abbrev chaseref1_DifferOf.D16 : Array Bool := #[true, true, true, true, true, true, false, false, true, true, true, false, false, false, false, false, false, false]
abbrev chaseref1_DifferOf.D17 : Array Bool := #[true, true, true, true, true, true, true, false, true, true, true, false, false, false, false, false, false, false]
abbrev chaseref1_DifferOf.D18 : Array Bool := #[true, true, true, true, true, true, true, false, true, true, true, true, false, false, false, false, false, false]
abbrev chaseref1_DifferOf.D19 : Array Bool := #[true, true, true, true, true, true, true, false, true, true, true, true, true, false, false, false, false, false]
abbrev chaseref1_DifferOf.D20 : Array Bool := #[true, true, true, true, true, true, true, false]
abbrev chaseref1_DifferOf.D21 : Array Bool := #[true, true, true, true, true, true, true, true, true, true, true, true, true, false, false, false, false, false]
abbrev chaseref1_DifferOf.D22 : Array Bool := #[true, true, true, true, true, true, true, true, true, true, true, true, true, true, false, false, false, false]
abbrev chaseref1_DifferOf.D23 : Array Bool := #[true, true, true, true, true, true, true, true, true, true, true, true, true, true, true, false, false, false]
abbrev chaseref1_DifferOf.D24 : Array Bool := #[true, true, true, true, true, true, true, true, true, true, true, true, true, true, true, true, false, false]
abbrev chaseref1_DifferOf.D25 : Array Bool := #[true, true, true, true, true, true, true, true, true, true, true, true, true, true, true, true, true, false]
abbrev chaseref1_DifferOf.D26 : Array Bool := #[true, true, true, true, true, true, true, true, true, true, true, true, true, true, true, true, true, true]
abbrev chaseref1_DifferOf.D27 : Array Bool := #[true, true, true, true, true, true, true, true]
set_option maxHeartbeats 8000000 in
set_option maxRecDepth 100000 in
theorem chaseref1_DifferOf.calls (k : Nat) (a0 : ByteArray) (a1 : ByteArray) (r : List (S34)) (w : World) (hGl : Wd w) (h : chaseref1_DifferOf.f k a0 a1 = some r) :
  Calls Tryz.prog 15 #[.string a0, .string a1] w fun e w' => ∃ v0_ : Value, e = .returned (v0_) ∧ Kd.S k34 34 w' w.heap.size (fun _ => True) v0_ r ∧ Below w.heap.size w w' := by
 have hu76 := Tryz.underlying76
 have hu34 := Tryz.underlying34
 have HGl := am_ hGl; clear hGl
 have HB := am_ (Below.refl w.heap.size w)
 have H : ((chaseref1_TokensOf.f k a0).bind fun t168 => ((chaseref1_TokensOf.f k a1).bind fun t171 => ((chaseref1_keptOf.f k t168 t171).bind fun t174 => (if t174.length < 8796093022208 then ((some (t174 ++ [(⟨(t168.length : Int), (t171.length : Int)⟩ : S76)] : List (S76))).bind fun y177 => (chaseref1_DifferOf.l0 k t168 t171 ([] : List (S34)) 0 0 y177 (y177.length : Int) 0)) else (none))))) = some r := h
 clear h; replace H := Option.bind_eq_some_iff.mp H; obtain ⟨t168, A30, H⟩ := H; have A3 := am_ A30; clear A30; replace H := Option.bind_eq_some_iff.mp H; obtain ⟨t171, A40, H⟩ := H; have A4 := am_ A40; clear A40; replace H := Option.bind_eq_some_iff.mp H; obtain ⟨t174, A50, H⟩ := H; have A5 := am_ A50; clear A50
 by_cases c6 : t174.length < 8796093022208
 case neg => exact (nn_ c6 H).elim
 rw [if_pos c6] at H; have LMc6 := am_ c6; clear c6
 obtain ⟨y177, hy177⟩ : ∃ y_ : List (S76), y_ = (t174 ++ [(⟨(t168.length : Int), (t171.length : Int)⟩ : S76)]) := ⟨_, rfl⟩
 replace H : (chaseref1_DifferOf.l0 k t168 t171 ([] : List (S34)) 0 0 y177 (y177.length : Int) 0) = some r := by first | (rw [hy177]; with_reducible exact H) | (have H2_ := (Option.bind_some _ _).symm.trans H; rw [hy177]; with_reducible exact H2_) | (have H2_ := (Option.bind_some _ _).symm.trans H; with_reducible exact H2_) | with_reducible exact H | (rw [hy177]; exact H) | exact H
 have Ny177 := am_ hy177; clear hy177
 have H' := am_ H
 clear H
 go_enter Tryz.func15, Tryz.ntmps15
 go_wp2_with (first | ((with_reducible refine gate_callee (f := 33) rfl ?_); refine goesL_ (some 13) rfl rfl Tryz.func33 (by kernel_rfl) rfl #[.string a0] rfl (by (try simp only [m1_, m2_, m3_]); first | done | rfl | (simp only [List.length_drop, List.length_take]; rfl)) ?_; (with_reducible refine (chaseref1_TokensOf.calls k a0 t168 _ ?side1 A3.out).mono ?_); (case side1 => exact Wd.below HGl.out (by repeat (first | (with_reducible first | exact HB.out | apply b3_ | apply b1_ | apply b2_) | exact HB.out))); rintro e w7 ⟨v169, rfl, ho0, hb⟩; refine ⟨_, rfl, ?_⟩; have n0_ := am_ (Kd.R_lower ho0 (below_size (by repeat (first | (with_reducible first | exact HB.out | apply b3_ | apply b1_ | apply b2_) | exact HB.out)))); have n1_ := am_ (below_step (by repeat (first | (with_reducible first | exact HB.out | apply b3_ | apply b1_ | apply b2_) | exact HB.out)) hb); clear HB; have HO170 := n0_; have HB := n1_; clear n0_ n1_; (try clear hb); (try clear hb2); (try clear hk); (try clear hi); (try clear ho0)) | ((with_reducible refine gate_callee (f := 33) rfl ?_); refine goesL_ (some 15) rfl rfl Tryz.func33 (by kernel_rfl) rfl #[.string a1] rfl (by (try simp only [m1_, m2_, m3_]); first | done | rfl | (simp only [List.length_drop, List.length_take]; rfl)) ?_; (with_reducible refine (chaseref1_TokensOf.calls k a1 t171 _ ?side1 A4.out).mono ?_); (case side1 => exact Wd.below HGl.out (by repeat (first | (with_reducible first | exact HB.out | apply b3_ | apply b1_ | apply b2_) | exact HB.out))); rintro e w8 ⟨v172, rfl, ho0, hb⟩; refine ⟨_, rfl, ?_⟩; have n0_ := am_ (Kd.R_elder' (by (with_reducible repeat (first | apply r1_ | apply r2_ | apply r3_)); exact HO170.out) (Kd.R_base ho0) hb); have n1_ := am_ (Kd.R_lower (Kd.R_new' ho0 (Kd.R_lt (by (with_reducible repeat (first | apply r1_ | apply r2_ | apply r3_)); exact HO170.out))) (below_size (by repeat (first | (with_reducible first | exact HB.out | apply b3_ | apply b1_ | apply b2_) | exact HB.out)))); have n2_ := am_ (below_step (by repeat (first | (with_reducible first | exact HB.out | apply b3_ | apply b1_ | apply b2_) | exact HB.out)) hb); clear HO170; clear HB; have HO170 := n0_; have HO173 := n1_; have HB := n2_; clear n0_ n1_ n2_; (try clear hb); (try clear hb2); (try clear hk); (try clear hi); (try clear ho0); obtain ⟨Ao9, co9, eo9⟩ := Kd.R_slice HO170.out; subst eo9; obtain ⟨Ao10, co10, eo10⟩ := Kd.R_slice HO173.out; subst eo10) | ((with_reducible refine gate_callee (f := 34) rfl ?_); refine goesL_ (some 18) rfl rfl Tryz.func34 (by kernel_rfl) rfl #[.slice Ao9 t168.length co9, .slice Ao10 t171.length co10] rfl (by (try simp only [m1_, m2_, m3_]); first | done | rfl | (simp only [List.length_drop, List.length_take]; rfl)) ?_; (with_reducible refine (chaseref1_keptOf.calls k _ _ t168 _ _ t171 t174 _ ?side1 ?side2 ?side3 ?side4 A5.out).mono ?_); (case side1 => repeat (first | exact (Kd.R_reads' HO170.out).2.2 | (with_reducible refine Kd.C_alloc ?_ _) | (with_reducible refine Kd.C_drewN ?_ _) | (with_reducible refine Kd.C_drew ?_))); (case side2 => exact (Kd.R_reads' HO170.out).2.1); (case side3 => repeat (first | exact (Kd.R_reads' HO173.out).2.2 | (with_reducible refine Kd.C_alloc ?_ _) | (with_reducible refine Kd.C_drewN ?_ _) | (with_reducible refine Kd.C_drew ?_))); (case side4 => exact (Kd.R_reads' HO173.out).2.1); rintro e w11 ⟨v175, rfl, ho0, hb⟩; refine ⟨_, rfl, ?_⟩; have n0_ := am_ (Kd.R_below (by (with_reducible repeat (first | apply r1_ | apply r2_ | apply r3_)); exact HO170.out) hb); have n1_ := am_ (Kd.R_below (by (with_reducible repeat (first | apply r1_ | apply r2_ | apply r3_)); exact HO173.out) hb); have n2_ := am_ (Kd.R_lower ho0 (below_size (by repeat (first | (with_reducible first | exact HB.out | apply b3_ | apply b1_ | apply b2_) | exact HB.out)))); have n3_ := am_ (below_step (by repeat (first | (with_reducible first | exact HB.out | apply b3_ | apply b1_ | apply b2_) | exact HB.out)) hb); clear HO170; clear HO173; clear HB; have HO170 := n0_; have HO173 := n1_; have HO176 := n2_; have HB := n3_; clear n0_ n1_ n2_ n3_; (try clear hb); (try clear hb2); (try clear hk); (try clear hi); (try clear ho0)) | ((with_reducible refine gate_builtin (b := .append) (xs := #[.tmp 18, .tmp 24]) rfl ?_); at_builtin; refine Kd.R_append k76 (w0 := w) w.heap.size rfl (.tmp 18) (.tmp 24) 74 76 (.agg #[(.int .i64 0), (.int .i64 0)]) 16 rfl Tryz.underlying74 info76 rfl (by decide) (by omega) v175 t174 (⟨(t168.length : Int), (t171.length : Int)⟩ : S76) [.int .i64 (t168.length : Int), .int .i64 (t171.length : Int)] (fun _ => True) (fun _ => False) rfl rfl ?aP (fun _ hk => hk.elim) ?aF ?aO ?aB ?aS ?aL ?_; (case aP => exact k76_mkM _ _ _ (⟨(t168.length : Int), (t171.length : Int)⟩ : S76)); (case aB => exact (by repeat (first | (with_reducible first | exact HB.out | apply b3_ | apply b1_ | apply b2_) | exact HB.out))); (case aF => exact (fun _ _ => trivial)); (case aO => exact (by (with_reducible repeat (first | apply r1_ | apply r2_ | apply r3_)); exact HO176.out)); (case aS => exact (below_size (by repeat (first | (with_reducible first | exact HB.out | apply b3_ | apply b1_ | apply b2_) | exact HB.out)))); (case aL => have := LMc6.out; omega); intro v178 w12 ho hb hg hat; rw [← Ny177.out] at ho; have n0_ := am_ (Kd.R_over' (by (with_reducible repeat (first | apply r1_ | apply r2_ | apply r3_)); exact HO170.out) (Kd.R_typed (by (with_reducible repeat (first | apply r1_ | apply r2_ | apply r3_)); exact HO176.out)) (by decide) hg); have n1_ := am_ (Kd.R_over' (by (with_reducible repeat (first | apply r1_ | apply r2_ | apply r3_)); exact HO173.out) (Kd.R_typed (by (with_reducible repeat (first | apply r1_ | apply r2_ | apply r3_)); exact HO176.out)) (by decide) hg); have n2_ := am_ (hb); have n3_ := am_ (ho); clear HO170; clear HO173; clear HB; clear HO176; have HO170 := n0_; have HO173 := n1_; have HB := n2_; have HO179 := n3_; clear n0_ n1_ n2_ n3_; clear ho hb hg hat; obtain ⟨Ao13, co13, eo13⟩ := Kd.R_slice HO179.out; subst eo13))
 go_loopg [7, 8, 9, 27] k (fun kq v7 v8 v9 v27 w' => ∃ (x7_1 : List (S34)) (x8_1 : Int) (x9_1 : Int) (x27_1 : Int), v8 = .int .i64 x8_1 ∧ v9 = .int .i64 x9_1 ∧ v27 = .int .i64 x27_1 ∧ Aside0 (chaseref1_DifferOf.l0 kq t168 t171 x7_1 x8_1 x9_1 y177 (y177.length : Int) x27_1 = some r) ∧ Aside0 (kq ≤ k) ∧ Aside0 (Kd.R Kd.string 9 w' w.heap.size (fun k_ => some k_ ≠ ((.slice Ao10 t171.length co10) : Value).ownBlock) (.slice Ao9 t168.length co9) t168) ∧ Aside0 (Kd.R Kd.string 9 w' w.heap.size (fun k_ => some k_ ≠ ((.slice Ao9 t168.length co9) : Value).ownBlock) (.slice Ao10 t171.length co10) t171) ∧ Aside0 (Kd.S k34 34 w' w.heap.size (fun k_ => some k_ ≠ ((.slice Ao9 t168.length co9) : Value).ownBlock ∧ some k_ ≠ ((.slice Ao10 t171.length co10) : Value).ownBlock) v7 x7_1) ∧ Aside0 (Kd.R k76 76 w' w.heap.size (fun _ => True) (.slice Ao13 y177.length co13) y177) ∧ Aside0 (Below w.heap.size w w'))
 case atStart => exact ⟨(([] : List (S34))), (0), (0), (0), (by first | rfl | (simp; done) | (simp [*]; done)), (by first | rfl | (simp; done) | (simp [*]; done)), (by first | rfl | (simp; done) | (simp [*]; done)), H', ⟨Nat.le_refl _⟩, ⟨by (with_reducible repeat (first | apply r1_ | apply r2_ | apply r3_)); exact Kd.R_mono HO170.out (fun _ hk => hk.2)⟩, ⟨by (with_reducible repeat (first | apply r1_ | apply r2_ | apply r3_)); exact Kd.R_mono HO173.out (fun _ hk => hk.2)⟩, ⟨by first | exact Kd.S_nil _ _ _ _ _ | exact Kd.N_nil _ _ _ _ _ | exact Kd.V_nil _ _ _ _ _ | exact Kd.Q_nil _ _ _ _ _ | exact Kd.R_nil _ _ _ _ _⟩, ⟨by (with_reducible repeat (first | apply r1_ | apply r2_ | apply r3_)); exact HO179.out⟩, ⟨by repeat (first | (with_reducible first | exact HB.out | apply b3_ | apply b1_ | apply b2_) | exact HB.out)⟩⟩
 case round =>
  clear H'; (try clear c1); (try clear p2); (try clear c3); (try clear c6); obtain ⟨x7_1, x8_1, x9_1, x27_1, rfl, rfl, rfl, HA, HK1, HO_5, HO_6, HO_7, HO_25, HB⟩ := hrel
  cases gk with
  | zero => exact absurd HA.out (by simp [chaseref1_DifferOf.l0])
  | succ k1 =>
   have H := HA.out
   clear HA
   simp only [chaseref1_DifferOf.l0] at H
   by_cases c14 : x27_1 < (y177.length : Int)
   ·rw [if_pos c14] at H
    have c14b0 := decide_eq_true c14; clear c14
    by_cases c15 : 0 ≤ x27_1
    case neg => exact (nn_ c15 H).elim
    rw [if_pos c15] at H; have c15b0 := decide_eq_true c15; clear c15
    by_cases c16 : x27_1 < (y177.length : Int)
    case neg => exact (nn_ c16 H).elim
    rw [if_pos c16] at H; have c16b0 := decide_eq_true c16; clear c16; have HC17 := am_ H; clear H; have p180 : 0 ≤ (x27_1 : Int) := ode_; have q180 : x27_1 < (y177.length : Int) := ode_
    obtain ⟨ad180, e180, hx180_0, hx180_1⟩ := at_T76 (Kd.R_reads' HO_25.out).2.2 x27_1 p180 q180
    cases e180; replace p180 := eq_true p180; replace q180 := eq_true q180
    go_upto_region 7 with (first | ((with_reducible refine gate_dst (N := 11) rfl ?_); refine box_event ?hg (N := 11) ?hd (cs := #[.int .i64 0, .int .i64 0]) (t := 76) ?hr ?_; (case hd => rfl); (case hg => rfl); (case hr => first | (go_simp; done) | (go_simp; rfl)); intro gb181 hg w18 hbox hb; have n0_ := am_ (Kd.R_below (by (with_reducible repeat (first | apply r1_ | apply r2_ | apply r3_)); exact HO_5.out) hb); have n1_ := am_ (Kd.R_below (by (with_reducible repeat (first | apply r1_ | apply r2_ | apply r3_)); exact HO_6.out) hb); have n2_ := am_ (Kd.S_below (by (with_reducible repeat (first | apply q1_ | apply q2_ | apply q3_)); exact HO_7.out) hb); have n3_ := am_ (Kd.R_below (Kd.R_elderB (by (with_reducible repeat (first | apply r1_ | apply r2_ | apply r3_)); exact HO_25.out) gb181 (Nat.le_of_eq hg.symm)) hb); have n4_ := am_ (below_step (by repeat (first | (with_reducible first | exact HB.out | apply b3_ | apply b1_ | apply b2_) | exact HB.out)) hb); have n5_ := am_ (hbox); have n6_ := am_ ((by rw [hg]; exact (below_size (by repeat (first | (with_reducible first | exact HB.out | apply b3_ | apply b1_ | apply b2_) | exact HB.out))) : w.heap.size ≤ gb181)); have n7_ := am_ ((by rw [hg]; exact (below_size (by repeat (first | (with_reducible first | exact HB.out | apply b3_ | apply b1_ | apply b2_) | exact HB.out))) : w.heap.size ≤ gb181)); clear HO_5; clear HO_6; clear HO_7; clear HO_25; clear HB; have HO_5 := n0_; have HO_6 := n1_; have HO_7 := n2_; have HO_25 := n3_; have HB := n4_; have BK181 := n5_; have GW181 := n6_; have GE181 := n7_; clear n0_ n1_ n2_ n3_ n4_ n5_ n6_ n7_; clear hb hbox hg; have hcz19_0 : w18.cell? ⟨gb181, 0, none⟩ = some (.int .i64 0) := (blk_cell BK181.out 0).trans rfl; have hcz19_1 : w18.cell? ⟨gb181, 1, none⟩ = some (.int .i64 0) := (blk_cell BK181.out 1).trans rfl; have hfz19_0 := blk_frozen BK181.out 0; have hfz19_1 := blk_frozen BK181.out 1))
    (try simp only [Act.put, s_t, s_z, s_s])
    go_cut [40] (fun v40 wc => ∃ (kq : Nat) (x40_16 : Bool), v40 = .bool x40_16 ∧ Aside0 (chaseref1_DifferOf.j1 kq t168 t171 x7_1 x8_1 x9_1 y177 (y177.length : Int) x27_1 x40_16 ((rd_T76 y177 x27_1).f0) ((rd_T76 y177 x27_1).f1) = some r) ∧ Aside0 (kq ≤ k1) ∧ Aside0 (Kd.R Kd.string 9 wc w.heap.size (fun k_ => some k_ ≠ ((.slice Ao10 t171.length co10) : Value).ownBlock) (.slice Ao9 t168.length co9) t168) ∧ Aside0 (Kd.R Kd.string 9 wc w.heap.size (fun k_ => some k_ ≠ ((.slice Ao9 t168.length co9) : Value).ownBlock) (.slice Ao10 t171.length co10) t171) ∧ Aside0 (Kd.S k34 34 wc w.heap.size (fun k_ => some k_ ≠ ((.slice Ao9 t168.length co9) : Value).ownBlock ∧ some k_ ≠ ((.slice Ao10 t171.length co10) : Value).ownBlock) u7 x7_1) ∧ Aside0 (Kd.R k76 76 wc w.heap.size (fun k_ => k_ ≠ gb181) (.slice (some ad180) y177.length co13) y177) ∧ Aside0 (wc.heap[gb181]? = some (.cells #[.int .i64 ((rd_T76 y177 x27_1).f0), .int .i64 ((rd_T76 y177 x27_1).f1)] 76 (0, 0))) ∧ Aside0 (Below w.heap.size w wc))
    case first =>
     have H := HC17.out
     clear HC17
     by_cases c20 : ((rd_T76 y177 x27_1).f0) > x8_1
     ·rw [if_pos c20] at H
      have c20b0 : decide (x8_1 < ((rd_T76 y177 x27_1).f0)) = true := decide_eq_true c20
      clear c20
      (first | rw [c20b0] | (simp only [i64_w, i32_w]; rw [c20b0]) | skip)
      have H' := am_ H
      clear H
      have hcz21_0 : w18.cell? ⟨gb181, 0, none⟩ = some (.int .i64 0) := (blk_cell BK181.out 0).trans rfl
      have hcz21_1 : w18.cell? ⟨gb181, 1, none⟩ = some (.int .i64 0) := (blk_cell BK181.out 1).trans rfl
      have hfz21_0 := blk_frozen BK181.out 0
      have hfz21_1 := blk_frozen BK181.out 1
      go_wp2
      go_meet
      case rel => exact ⟨_, (true), (by first | rfl | (simp; done) | (simp [*]; done)), H', ⟨by have := HK1.out; first | omega | exact Nat.le_refl _⟩, ⟨by (with_reducible repeat (first | apply r1_ | apply r2_ | apply r3_)); exact Kd.R_mono (Kd.R_far (p := ⟨gb181, 1, none⟩) (Kd.R_far (p := ⟨gb181, 0, none⟩) (Kd.R_types HO_5.out BK181.out (by decide)) (fun _ hk => hk.2) (.int .i64 ((rd_T76 y177 x27_1).f0))) (fun _ hk => hk.2) (.int .i64 ((rd_T76 y177 x27_1).f1))) (fun _ hk => hk.1)⟩, ⟨by (with_reducible repeat (first | apply r1_ | apply r2_ | apply r3_)); exact Kd.R_mono (Kd.R_far (p := ⟨gb181, 1, none⟩) (Kd.R_far (p := ⟨gb181, 0, none⟩) (Kd.R_types HO_6.out BK181.out (by decide)) (fun _ hk => hk.2) (.int .i64 ((rd_T76 y177 x27_1).f0))) (fun _ hk => hk.2) (.int .i64 ((rd_T76 y177 x27_1).f1))) (fun _ hk => hk.1)⟩, ⟨by (with_reducible repeat (first | apply q1_ | apply q2_ | apply q3_)); exact Kd.S_mono (Kd.S_far (p := ⟨gb181, 1, none⟩) (Kd.S_far (p := ⟨gb181, 0, none⟩) (Kd.S_types HO_7.out BK181.out (by decide)) (fun _ hk => hk.2) (.int .i64 ((rd_T76 y177 x27_1).f0))) (fun _ hk => hk.2) (.int .i64 ((rd_T76 y177 x27_1).f1))) (fun _ hk => ⟨hk.1.1, hk.1.2⟩)⟩, ⟨by (with_reducible repeat (first | apply r1_ | apply r2_ | apply r3_)); exact Kd.R_mono (Kd.R_far (p := ⟨gb181, 1, none⟩) (Kd.R_far (p := ⟨gb181, 0, none⟩) (Kd.R_mono HO_25.out (fun k_ hk => (⟨hk, hk.2⟩ : _ ∧ k_ ≠ gb181))) (fun _ hk => hk.2) (.int .i64 ((rd_T76 y177 x27_1).f0))) (fun _ hk => hk.2) (.int .i64 ((rd_T76 y177 x27_1).f1))) (fun _ hk => hk.1.2)⟩, ⟨by (with_reducible repeat (first | refine blk_drewN ?_ _ | refine blk_drew ?_ | refine blk_alloc ?_ _)); refine blk_put (cs := #[.int .i64 ((rd_T76 y177 x27_1).f0), .int .i64 0]) ?_ 1 _ rfl; (with_reducible repeat (first | refine blk_drewN ?_ _ | refine blk_drew ?_ | refine blk_alloc ?_ _)); refine blk_put (cs := #[.int .i64 0, .int .i64 0]) ?_ 0 _ rfl; (with_reducible repeat (first | refine blk_drewN ?_ _ | refine blk_drew ?_ | refine blk_alloc ?_ _)); exact BK181.out⟩, ⟨by repeat (first | (with_reducible first | exact HB.out | apply b3_ | apply b1_ | apply b2_ | refine below_set ?_ GE181.out) | exact HB.out)⟩⟩
     ·rw [if_neg c20] at H
      have c20b0 : decide (x8_1 < ((rd_T76 y177 x27_1).f0)) = false := decide_eq_false c20
      clear c20
      (first | rw [c20b0] | (simp only [i64_w, i32_w]; rw [c20b0]) | skip)
      have H' := am_ H
      clear H
      have hcz22_0 : w18.cell? ⟨gb181, 0, none⟩ = some (.int .i64 0) := (blk_cell BK181.out 0).trans rfl
      have hcz22_1 : w18.cell? ⟨gb181, 1, none⟩ = some (.int .i64 0) := (blk_cell BK181.out 1).trans rfl
      have hfz22_0 := blk_frozen BK181.out 0
      have hfz22_1 := blk_frozen BK181.out 1
      go_wp2
      go_meet
      case rel => exact ⟨_, (decide (((rd_T76 y177 x27_1).f1) > x9_1)), (by first | rfl | (simp; done) | (simp [*]; done)), H', ⟨by have := HK1.out; first | omega | exact Nat.le_refl _⟩, ⟨by (with_reducible repeat (first | apply r1_ | apply r2_ | apply r3_)); exact Kd.R_mono (Kd.R_far (p := ⟨gb181, 1, none⟩) (Kd.R_far (p := ⟨gb181, 0, none⟩) (Kd.R_types HO_5.out BK181.out (by decide)) (fun _ hk => hk.2) (.int .i64 ((rd_T76 y177 x27_1).f0))) (fun _ hk => hk.2) (.int .i64 ((rd_T76 y177 x27_1).f1))) (fun _ hk => hk.1)⟩, ⟨by (with_reducible repeat (first | apply r1_ | apply r2_ | apply r3_)); exact Kd.R_mono (Kd.R_far (p := ⟨gb181, 1, none⟩) (Kd.R_far (p := ⟨gb181, 0, none⟩) (Kd.R_types HO_6.out BK181.out (by decide)) (fun _ hk => hk.2) (.int .i64 ((rd_T76 y177 x27_1).f0))) (fun _ hk => hk.2) (.int .i64 ((rd_T76 y177 x27_1).f1))) (fun _ hk => hk.1)⟩, ⟨by (with_reducible repeat (first | apply q1_ | apply q2_ | apply q3_)); exact Kd.S_mono (Kd.S_far (p := ⟨gb181, 1, none⟩) (Kd.S_far (p := ⟨gb181, 0, none⟩) (Kd.S_types HO_7.out BK181.out (by decide)) (fun _ hk => hk.2) (.int .i64 ((rd_T76 y177 x27_1).f0))) (fun _ hk => hk.2) (.int .i64 ((rd_T76 y177 x27_1).f1))) (fun _ hk => ⟨hk.1.1, hk.1.2⟩)⟩, ⟨by (with_reducible repeat (first | apply r1_ | apply r2_ | apply r3_)); exact Kd.R_mono (Kd.R_far (p := ⟨gb181, 1, none⟩) (Kd.R_far (p := ⟨gb181, 0, none⟩) (Kd.R_mono HO_25.out (fun k_ hk => (⟨hk, hk.2⟩ : _ ∧ k_ ≠ gb181))) (fun _ hk => hk.2) (.int .i64 ((rd_T76 y177 x27_1).f0))) (fun _ hk => hk.2) (.int .i64 ((rd_T76 y177 x27_1).f1))) (fun _ hk => hk.1.2)⟩, ⟨by (with_reducible repeat (first | refine blk_drewN ?_ _ | refine blk_drew ?_ | refine blk_alloc ?_ _)); refine blk_put (cs := #[.int .i64 ((rd_T76 y177 x27_1).f0), .int .i64 0]) ?_ 1 _ rfl; (with_reducible repeat (first | refine blk_drewN ?_ _ | refine blk_drew ?_ | refine blk_alloc ?_ _)); refine blk_put (cs := #[.int .i64 0, .int .i64 0]) ?_ 0 _ rfl; (with_reducible repeat (first | refine blk_drewN ?_ _ | refine blk_drew ?_ | refine blk_alloc ?_ _)); exact BK181.out⟩, ⟨by repeat (first | (with_reducible first | exact HB.out | apply b3_ | apply b1_ | apply b2_ | refine below_set ?_ GE181.out) | exact HB.out)⟩⟩
    case rest =>
     clear HC17; (try clear c1); (try clear p1); (try clear q1); (try clear hx1); (try clear c2); (try clear p2); (try clear c3); (try clear c6); (try clear c14); (try clear c14b0); (try clear c15); (try clear c15b0); (try clear c16); (try clear c16b0); (try clear p18); (try clear q18); (try clear hx18); (try clear c20); (try clear c20b0); (try clear hcz19_0); (try clear hcz19_1); (try clear hcz21_0); (try clear hcz21_1); (try clear hcz22_0); (try clear hcz22_1); (try clear hfz19_0); (try clear hfz19_1); (try clear hfz21_0); (try clear hfz21_1); (try clear hfz22_0); (try clear hfz22_1); (try clear hx180_0); (try clear hx180_1); (try clear p180); (try clear p2); (try clear q180); obtain ⟨kq, x40_16, rfl, HA, HJ16, HO_5, HO_6, HO_7, HO_25, BK181, HB⟩ := hcut
     cases kq with
     | zero => exact absurd HA.out (by simp [chaseref1_DifferOf.j1])
     | succ kj16 =>
      have H := HA.out
      clear HA
      simp only [chaseref1_DifferOf.j1] at H
      by_cases c23 : x40_16 = true
      ·subst c23
       have H1 : (if 0 ≤ x8_1 then (if x8_1 ≤ ((rd_T76 y177 x27_1).f0) then (if ((rd_T76 y177 x27_1).f0) ≤ (t168.length : Int) then ((slices_Clone_string_string.f ((t168.take (((rd_T76 y177 x27_1).f0) : Int).toNat).drop (x8_1 : Int).toNat)).bind fun t186 => (if 0 ≤ x9_1 then (if x9_1 ≤ ((rd_T76 y177 x27_1).f1) then (if ((rd_T76 y177 x27_1).f1) ≤ (t171.length : Int) then ((slices_Clone_string_string.f ((t171.take (((rd_T76 y177 x27_1).f1) : Int).toNat).drop (x9_1 : Int).toNat)).bind fun t193 => (if x7_1.length < 2513169434916 then (chaseref1_DifferOf.l0 kj16 t168 t171 (x7_1 ++ [(⟨x8_1, t186, t193⟩ : S34)]) (wrap64 (((rd_T76 y177 x27_1).f0) + 1)) (wrap64 (((rd_T76 y177 x27_1).f1) + 1)) y177 (y177.length : Int) (wrap64 (x27_1 + 1))) else (none))) else (none)) else (none)) else (none))) else (none)) else (none)) else (none)) = some r := by rw [if_pos rfl] at H; exact H
       clear H
       have H := H1
       clear H1
       by_cases c24 : 0 ≤ x8_1
       case neg => exact (nn_ c24 H).elim
       rw [if_pos c24] at H; have c24b0 := eq_true c24; have c24b1 := decide_eq_true c24; clear c24
       by_cases c25 : x8_1 ≤ ((rd_T76 y177 x27_1).f0)
       case neg => exact (nn_ c25 H).elim
       rw [if_pos c25] at H; have c25b0 := eq_true c25; have c25b1 := decide_eq_true c25; clear c25
       by_cases c26 : ((rd_T76 y177 x27_1).f0) ≤ (t168.length : Int)
       case neg => exact (nn_ c26 H).elim
       rw [if_pos c26] at H; have c26b0 := eq_true c26; have c26b1 := decide_eq_true c26; clear c26
       obtain ⟨y182, hy182⟩ : ∃ y_ : List ByteArray, y_ = ((t168.take (((rd_T76 y177 x27_1).f0) : Int).toNat).drop (x8_1 : Int).toNat) := ⟨_, rfl⟩
       replace H : ((slices_Clone_string_string.f y182).bind fun t186 => (if 0 ≤ x9_1 then (if x9_1 ≤ ((rd_T76 y177 x27_1).f1) then (if ((rd_T76 y177 x27_1).f1) ≤ (t171.length : Int) then ((slices_Clone_string_string.f ((t171.take (((rd_T76 y177 x27_1).f1) : Int).toNat).drop (x9_1 : Int).toNat)).bind fun t193 => (if x7_1.length < 2513169434916 then (chaseref1_DifferOf.l0 kj16 t168 t171 (x7_1 ++ [(⟨x8_1, t186, t193⟩ : S34)]) (wrap64 (((rd_T76 y177 x27_1).f0) + 1)) (wrap64 (((rd_T76 y177 x27_1).f1) + 1)) y177 (y177.length : Int) (wrap64 (x27_1 + 1))) else (none))) else (none)) else (none)) else (none))) = some r := by first | (rw [hy182]; with_reducible exact H) | (have H2_ := (Option.bind_some _ _).symm.trans H; rw [hy182]; with_reducible exact H2_) | (have H2_ := (Option.bind_some _ _).symm.trans H; with_reducible exact H2_) | with_reducible exact H | (rw [hy182]; exact H) | exact H
       have Ny182 := am_ hy182; clear hy182; replace H := Option.bind_eq_some_iff.mp H; obtain ⟨t186, A270, H⟩ := H; have A27 := am_ A270; clear A270
       by_cases c28 : 0 ≤ x9_1
       case neg => exact (nn_ c28 H).elim
       rw [if_pos c28] at H; have c28b0 := eq_true c28; have c28b1 := decide_eq_true c28; clear c28
       by_cases c29 : x9_1 ≤ ((rd_T76 y177 x27_1).f1)
       case neg => exact (nn_ c29 H).elim
       rw [if_pos c29] at H; have c29b0 := eq_true c29; have c29b1 := decide_eq_true c29; clear c29
       by_cases c30 : ((rd_T76 y177 x27_1).f1) ≤ (t171.length : Int)
       case neg => exact (nn_ c30 H).elim
       rw [if_pos c30] at H; have c30b0 := eq_true c30; have c30b1 := decide_eq_true c30; clear c30
       obtain ⟨y189, hy189⟩ : ∃ y_ : List ByteArray, y_ = ((t171.take (((rd_T76 y177 x27_1).f1) : Int).toNat).drop (x9_1 : Int).toNat) := ⟨_, rfl⟩
       replace H : ((slices_Clone_string_string.f y189).bind fun t193 => (if x7_1.length < 2513169434916 then (chaseref1_DifferOf.l0 kj16 t168 t171 (x7_1 ++ [(⟨x8_1, t186, t193⟩ : S34)]) (wrap64 (((rd_T76 y177 x27_1).f0) + 1)) (wrap64 (((rd_T76 y177 x27_1).f1) + 1)) y177 (y177.length : Int) (wrap64 (x27_1 + 1))) else (none))) = some r := by first | (rw [hy189]; with_reducible exact H) | (have H2_ := (Option.bind_some _ _).symm.trans H; rw [hy189]; with_reducible exact H2_) | (have H2_ := (Option.bind_some _ _).symm.trans H; with_reducible exact H2_) | with_reducible exact H | (rw [hy189]; exact H) | exact H
       have Ny189 := am_ hy189; clear hy189; replace H := Option.bind_eq_some_iff.mp H; obtain ⟨t193, A310, H⟩ := H; have A31 := am_ A310; clear A310
       by_cases c32 : x7_1.length < 2513169434916
       case neg => exact (nn_ c32 H).elim
       rw [if_pos c32] at H; have LMc32 := am_ c32; clear c32
       obtain ⟨y196, hy196⟩ : ∃ y_ : List (S34), y_ = (x7_1 ++ [(⟨x8_1, t186, t193⟩ : S34)]) := ⟨_, rfl⟩
       replace H : (chaseref1_DifferOf.l0 kj16 t168 t171 y196 (wrap64 (((rd_T76 y177 x27_1).f0) + 1)) (wrap64 (((rd_T76 y177 x27_1).f1) + 1)) y177 (y177.length : Int) (wrap64 (x27_1 + 1))) = some r := by first | (rw [hy196]; with_reducible exact H) | (have H2_ := (Option.bind_some _ _).symm.trans H; rw [hy196]; with_reducible exact H2_) | (have H2_ := (Option.bind_some _ _).symm.trans H; with_reducible exact H2_) | with_reducible exact H | (rw [hy196]; exact H) | exact H
       have Ny196 := am_ hy196; clear hy196
       have H' := am_ H
       clear H
       try go_wp2
       have n0_ := am_ (r3_ HO_5.out)
       have n1_ := am_ (r3_ HO_6.out)
       have n2_ := am_ (q3_ HO_7.out)
       have n3_ := am_ (r3_ HO_25.out)
       have n4_ := am_ (blk_drew BK181.out)
       have n5_ := am_ (b2_ HB.out)
       clear HO_5; clear HO_6; clear HO_7; clear HO_25; clear BK181; clear HB; have HO_5 := n0_; have HO_6 := n1_; have HO_7 := n2_; have HO_25 := n3_; have BK181 := n4_; have HB := n5_; clear n0_ n1_ n2_ n3_ n4_ n5_; have q34 : (((rd_T76 y177 x27_1).f0) : Int) ≤ ((t168.length : Int) : Int) := ode_
       obtain ⟨i034, hi034, _, hsz34, _⟩ := info_parts info9
       have hroom34 : t168.length ≤ co9 := (Kd.R_reads' HO_5.out).2.1
       have hC34 : Kd.C Kd.string _ Ao9 t168.length t168 := (Kd.R_reads' HO_5.out).2.2
       have ql34 : (x8_1 : Int) ≤ (((rd_T76 y177 x27_1).f0) : Int) := ode_; have q034 : (0 : Int) ≤ (x8_1 : Int) := ode_
       have hcut34 := cut_mid (P := Tryz.prog) 32 9 .i64 .i64 Tryz.underlying32 hi034 1 hsz34 Ao9 t168.length co9 x8_1 ((rd_T76 y177 x27_1).f0) q034 ql34 q34 hroom34
       have hr34 := Kd.C_mid (lo := (x8_1 : Int).toNat) (hi := (((rd_T76 y177 x27_1).f0) : Int).toNat) (c := co9) hC34 (by omega) (by omega) hroom34
       obtain ⟨A34, hA34⟩ : ∃ A1, A1 = (if co9 = (x8_1 : Int).toNat then Ao9 else (Ao9 : Option Addr).map (·.add ((x8_1 : Int).toNat * 1))) := ⟨_, rfl⟩
       obtain ⟨c34, hc34⟩ : ∃ c1, c1 = co9 - (x8_1 : Int).toNat := ⟨_, rfl⟩
       have hy34 : y182.length = (((rd_T76 y177 x27_1).f0) : Int).toNat - (x8_1 : Int).toNat := (by rw [Ny182.out, List.length_drop, List.length_take] <;> omega)
       rw [show ((t168).take (((rd_T76 y177 x27_1).f0) : Int).toNat).drop (x8_1 : Int).toNat = y182 from Ny182.out.symm] at hr34
       replace hr34 : Kd.C Kd.string _ A34 y182.length y182 := (by rw [hA34]; exact hr34)
       rw [← hy34, ← hA34, ← hc34] at hcut34
       have HR185 := am_ hr34
       have HC185 := am_ (show y182.length ≤ c34 from by rw [hy34, hc34]; exact Nat.sub_le_sub_right (Nat.le_trans (by omega) hroom34) _)
       clear hr34 hC34 hroom34 hi034 hsz34 hc34; have KY34 := am_ hy34; have KA34 := am_ hA34; clear hy34 hA34
       have KL34 := am_ (show (((rd_T76 y177 x27_1).f0) : Int).toNat ≤ t168.length from by omega)
       have KM34 := am_ (show (x8_1 : Int).toNat ≤ (((rd_T76 y177 x27_1).f0) : Int).toNat from by omega)
       replace q34 := eq_true q34; have q35 : (((rd_T76 y177 x27_1).f1) : Int) ≤ ((t171.length : Int) : Int) := ode_
       obtain ⟨i035, hi035, _, hsz35, _⟩ := info_parts info9
       have hroom35 : t171.length ≤ co10 := (Kd.R_reads' HO_6.out).2.1
       have hC35 : Kd.C Kd.string _ Ao10 t171.length t171 := (Kd.R_reads' HO_6.out).2.2
       have ql35 : (x9_1 : Int) ≤ (((rd_T76 y177 x27_1).f1) : Int) := ode_; have q035 : (0 : Int) ≤ (x9_1 : Int) := ode_
       have hcut35 := cut_mid (P := Tryz.prog) 32 9 .i64 .i64 Tryz.underlying32 hi035 1 hsz35 Ao10 t171.length co10 x9_1 ((rd_T76 y177 x27_1).f1) q035 ql35 q35 hroom35
       have hr35 := Kd.C_mid (lo := (x9_1 : Int).toNat) (hi := (((rd_T76 y177 x27_1).f1) : Int).toNat) (c := co10) hC35 (by omega) (by omega) hroom35
       obtain ⟨A35, hA35⟩ : ∃ A1, A1 = (if co10 = (x9_1 : Int).toNat then Ao10 else (Ao10 : Option Addr).map (·.add ((x9_1 : Int).toNat * 1))) := ⟨_, rfl⟩
       obtain ⟨c35, hc35⟩ : ∃ c1, c1 = co10 - (x9_1 : Int).toNat := ⟨_, rfl⟩
       have hy35 : y189.length = (((rd_T76 y177 x27_1).f1) : Int).toNat - (x9_1 : Int).toNat := (by rw [Ny189.out, List.length_drop, List.length_take] <;> omega)
       rw [show ((t171).take (((rd_T76 y177 x27_1).f1) : Int).toNat).drop (x9_1 : Int).toNat = y189 from Ny189.out.symm] at hr35
       replace hr35 : Kd.C Kd.string _ A35 y189.length y189 := (by rw [hA35]; exact hr35)
       rw [← hy35, ← hA35, ← hc35] at hcut35
       have HR192 := am_ hr35
       have HC192 := am_ (show y189.length ≤ c35 from by rw [hy35, hc35]; exact Nat.sub_le_sub_right (Nat.le_trans (by omega) hroom35) _)
       clear hr35 hC35 hroom35 hi035 hsz35 hc35; have KY35 := am_ hy35; have KA35 := am_ hA35; clear hy35 hA35
       have KL35 := am_ (show (((rd_T76 y177 x27_1).f1) : Int).toNat ≤ t171.length from by omega)
       have KM35 := am_ (show (x9_1 : Int).toNat ≤ (((rd_T76 y177 x27_1).f1) : Int).toNat from by omega)
       replace q35 := eq_true q35
       refine start_ (n := 18) (S := fun w' => w'.cell? ⟨gb181, 0, none⟩ = some (.int .i64 ((rd_T76 y177 x27_1).f0)) ∧ w'.cell? ⟨gb181, 1, none⟩ = some (.int .i64 ((rd_T76 y177 x27_1).f1))) (ds := []) chaseref1_DifferOf.D0 (by kernel_rfl) rfl rfl ⟨(blk_cell BK181.out 0).trans rfl, (blk_cell BK181.out 1).trans rfl⟩ (fun hHeld => ?_); refine with_tabW chaseref1_DifferOf.tab8 chaseref1_DifferOf.bits8 (fun HT_ HW_ => ?_)
       generalize wc.drew = w33 at HO_5 HO_6 HO_7 HO_25 BK181 HB HR185 HR192 hHeld ⊢
       refine px_ 0 41 ?_ ?_ chaseref1_DifferOf.D2 HT_.out ?_ ?_ ?_; rotate_left 2; intro w'; go_simp; with_reducible rfl; simp only [Act.put, s_t, s_z, s_s, i64_w, i32_w]; rfl
       refine px_ 1 42 ?_ ?_ chaseref1_DifferOf.D5 HT_.out ?_ ?_ ?_; rotate_left 2; intro w'; go_simp; with_reducible rfl; simp only [Act.put, s_t, s_z, s_s, i64_w, i32_w]; rfl
       refine px_ 2 43 ?_ ?_ chaseref1_DifferOf.D7 HT_.out ?_ ?_ ?_; rotate_left 2; intro w'; go_simp; with_reducible rfl; simp only [Act.put, s_t, s_z, s_s, i64_w, i32_w]; rfl
       refine px_ 3 44 ?_ ?_ chaseref1_DifferOf.D8 HT_.out ?_ ?_ ?_; rotate_left 2; intro w'; go_simp; with_reducible rfl; simp only [Act.put, s_t, s_z, s_s, i64_w, i32_w]; rfl
       refine px_ 4 45 ?_ ?_ chaseref1_DifferOf.D11 HT_.out ?_ ?_ ?_; rotate_left 2; intro w'; go_simp; with_reducible rfl; simp only [Act.put, s_t, s_z, s_s, i64_w, i32_w]; rfl
       refine px_ 8 49 ?_ ?_ chaseref1_DifferOf.D12 HT_.out ?_ ?_ ?_; rotate_left 2; intro w'; go_simp; with_reducible rfl; simp only [Act.put, s_t, s_z, s_s, i64_w, i32_w]; rfl
       refine px_ 9 50 ?_ ?_ chaseref1_DifferOf.D13 HT_.out ?_ ?_ ?_; rotate_left 2; intro w'; go_simp; with_reducible rfl; simp only [Act.put, s_t, s_z, s_s, i64_w, i32_w]; rfl
       refine px_ 10 51 ?_ ?_ chaseref1_DifferOf.D14 HT_.out ?_ ?_ ?_; rotate_left 2; intro w'; go_simp; with_reducible rfl; simp only [Act.put, s_t, s_z, s_s, i64_w, i32_w]; rfl
       refine take_ (i := 5) (N := some 46) (v := ?_) (a' := ?_) chaseref1_DifferOf.D16 rfl rfl (take_ofW HT_.out HW_.out (by kernel_rfl)) (fun _ _ _ h => h) (Or.inl ⟨by rfl, ?_⟩) hHeld ?_ ?_
       rotate_left
       ·rintro w' ⟨s0, s1⟩
        go_simp
        with_reducible rfl
       rotate_left
       ·simp only [Act.put, s_t, s_z, s_s, i64_w, i32_w]
        rfl
       refine px_ 6 47 ?_ ?_ chaseref1_DifferOf.D17 HT_.out ?_ ?_ ?_; rotate_left 2; intro w'; go_simp; with_reducible rfl; simp only [Act.put, s_t, s_z, s_s, i64_w, i32_w]; rfl
       refine take_ (i := 11) (N := some 52) (v := ?_) (a' := ?_) chaseref1_DifferOf.D18 rfl rfl (take_ofW HT_.out HW_.out (by kernel_rfl)) (fun _ _ _ h => h) (Or.inl ⟨by rfl, ?_⟩) hHeld ?_ ?_
       rotate_left
       ·rintro w' ⟨s0, s1⟩
        go_simp
        with_reducible rfl
       rotate_left
       ·simp only [Act.put, s_t, s_z, s_s, i64_w, i32_w]
        rfl
       refine px_ 12 53 ?_ ?_ chaseref1_DifferOf.D19 HT_.out ?_ ?_ ?_; rotate_left 2; intro w'; go_simp; with_reducible rfl; simp only [Act.put, s_t, s_z, s_s, i64_w, i32_w]; rfl
       refine one_ (i := 7) (N := some 48) chaseref1_DifferOf.D21 rfl rfl (one_of HT_.out (by kernel_rfl)) (by decide) (fun K hK => ?_)
       refine goes_ Tryz.func19 (by kernel_rfl) rfl #[.slice A34 y182.length c34] (by rfl) rfl rfl (by (try simp only [m1_, m2_, m3_]); first | done | rfl | (simp only [List.length_drop, List.length_take]; rfl)) ?_
       with_reducible refine (slices_Clone_string_string.calls _ _ y182 t186 _ ?side1 ?side2 A27.out).mono ?_
       (case side1 => repeat (first | exact (by repeat (first | (with_reducible first | exact HR185.out | refine Kd.C_alloc ?_ _ | refine Kd.C_drewN ?_ _ | refine Kd.C_drew ?_) | exact HR185.out)) | (with_reducible refine Kd.C_alloc ?_ _) | (with_reducible refine Kd.C_drewN ?_ _) | (with_reducible refine Kd.C_drew ?_)))
       (case side2 => exact HC185.out)
       rintro e w36 ⟨v187, rfl, ho0, hb⟩
       refine ⟨_, rfl, ?_⟩
       have n0_ := am_ (Kd.R_elder' (by (with_reducible repeat (first | apply r1_ | apply r2_ | apply r3_)); exact HO_5.out) (Kd.R_base ho0) hb)
       have n1_ := am_ (Kd.R_elder' (by (with_reducible repeat (first | apply r1_ | apply r2_ | apply r3_)); exact HO_6.out) (Kd.R_base ho0) hb)
       have n2_ := am_ (Kd.S_elder' (by (with_reducible repeat (first | apply q1_ | apply q2_ | apply q3_)); exact HO_7.out) (Kd.R_base ho0) hb)
       have n3_ := am_ (Kd.R_below (by (with_reducible repeat (first | apply r1_ | apply r2_ | apply r3_)); exact HO_25.out) hb)
       have n4_ := am_ (Kd.R_lower (Kd.R_new' (Kd.R_new' ho0 (Kd.R_lt (by (with_reducible repeat (first | apply r1_ | apply r2_ | apply r3_)); exact HO_5.out))) (Kd.R_lt (by (with_reducible repeat (first | apply r1_ | apply r2_ | apply r3_)); exact HO_6.out))) (below_size (by repeat (first | (with_reducible first | exact HB.out | apply b3_ | apply b1_ | apply b2_ | refine below_set ?_ GE181.out) | exact HB.out))))
       have n5_ := am_ (blk_below (g := gb181) (o := .cells #[.int .i64 ((rd_T76 y177 x27_1).f0), .int .i64 ((rd_T76 y177 x27_1).f1)] 76 (0, 0)) (by (with_reducible repeat (first | refine blk_drewN ?_ _ | refine blk_drew ?_ | refine blk_alloc ?_ _)); exact BK181.out) hb)
       have n6_ := am_ (Kd.C_below (by repeat (first | (with_reducible first | exact HR185.out | refine Kd.C_alloc ?_ _ | refine Kd.C_drewN ?_ _ | refine Kd.C_drew ?_) | exact HR185.out)) hb)
       have n7_ := am_ (Kd.C_below (by repeat (first | (with_reducible first | exact HR192.out | refine Kd.C_alloc ?_ _ | refine Kd.C_drewN ?_ _ | refine Kd.C_drew ?_) | exact HR192.out)) hb)
       have n8_ := am_ (below_step (by repeat (first | (with_reducible first | exact HB.out | apply b3_ | apply b1_ | apply b2_ | refine below_set ?_ GE181.out) | exact HB.out)) hb)
       clear HO_5; clear HO_6; clear HO_7; clear HO_25; clear BK181; clear HR185; clear HR192; clear HB; have HO_5 := n0_; have HO_6 := n1_; have HO_7 := n2_; have HO_25 := n3_; have HO188 := n4_; have BK181 := n5_; have HR185 := n6_; have HR192 := n7_; have HB := n8_; clear n0_ n1_ n2_ n3_ n4_ n5_ n6_ n7_ n8_
       (try clear hb)
       (try clear hb2)
       (try clear hk)
       (try clear hi)
       (try clear ho0)
       refine hK.out _ _ ⟨(blk_cell BK181.out 0).trans rfl, (blk_cell BK181.out 1).trans rfl⟩ (fun hHeld => ?_)
       clear hK K
       refine norm_ (a' := ?_) ?_ ?_
       rotate_left
       ·show Act.put _ (some 48) _ = _
        simp only [Act.put, s_t, s_z, s_s, i64_w, i32_w]
        rfl
       refine one_ (i := 13) (N := some 54) chaseref1_DifferOf.D22 rfl rfl (one_of HT_.out (by kernel_rfl)) (by decide) (fun K hK => ?_)
       refine goes_ Tryz.func19 (by kernel_rfl) rfl #[.slice A35 y189.length c35] (by rfl) rfl rfl (by (try simp only [m1_, m2_, m3_]); first | done | rfl | (simp only [List.length_drop, List.length_take]; rfl)) ?_
       with_reducible refine (slices_Clone_string_string.calls _ _ y189 t193 _ ?side1 ?side2 A31.out).mono ?_
       (case side1 => repeat (first | exact (by repeat (first | (with_reducible first | exact HR192.out | refine Kd.C_alloc ?_ _ | refine Kd.C_drewN ?_ _ | refine Kd.C_drew ?_) | exact HR192.out)) | (with_reducible refine Kd.C_alloc ?_ _) | (with_reducible refine Kd.C_drewN ?_ _) | (with_reducible refine Kd.C_drew ?_)))
       (case side2 => exact HC192.out)
       rintro e w37 ⟨v194, rfl, ho0, hb⟩
       refine ⟨_, rfl, ?_⟩
       have n0_ := am_ (Kd.R_elder' (by (with_reducible repeat (first | apply r1_ | apply r2_ | apply r3_)); exact HO_5.out) (Kd.R_base ho0) hb)
       have n1_ := am_ (Kd.R_elder' (by (with_reducible repeat (first | apply r1_ | apply r2_ | apply r3_)); exact HO_6.out) (Kd.R_base ho0) hb)
       have n2_ := am_ (Kd.S_elder' (by (with_reducible repeat (first | apply q1_ | apply q2_ | apply q3_)); exact HO_7.out) (Kd.R_base ho0) hb)
       have n3_ := am_ (Kd.R_below (by (with_reducible repeat (first | apply r1_ | apply r2_ | apply r3_)); exact HO_25.out) hb)
       have n4_ := am_ (Kd.R_elder' (by (with_reducible repeat (first | apply r1_ | apply r2_ | apply r3_)); exact HO188.out) (Kd.R_base ho0) hb)
       have n5_ := am_ (Kd.R_lower (Kd.R_new' (Kd.R_new' (Kd.R_new' ho0 (Kd.R_lt (by (with_reducible repeat (first | apply r1_ | apply r2_ | apply r3_)); exact HO_5.out))) (Kd.R_lt (by (with_reducible repeat (first | apply r1_ | apply r2_ | apply r3_)); exact HO_6.out))) (Kd.R_lt (by (with_reducible repeat (first | apply r1_ | apply r2_ | apply r3_)); exact HO188.out))) (below_size (by repeat (first | (with_reducible first | exact HB.out | apply b3_ | apply b1_ | apply b2_ | refine below_set ?_ GE181.out) | exact HB.out))))
       have n6_ := am_ (blk_below (g := gb181) (o := .cells #[.int .i64 ((rd_T76 y177 x27_1).f0), .int .i64 ((rd_T76 y177 x27_1).f1)] 76 (0, 0)) (by (with_reducible repeat (first | refine blk_drewN ?_ _ | refine blk_drew ?_ | refine blk_alloc ?_ _)); exact BK181.out) hb)
       have n7_ := am_ (Kd.C_below (by repeat (first | (with_reducible first | exact HR185.out | refine Kd.C_alloc ?_ _ | refine Kd.C_drewN ?_ _ | refine Kd.C_drew ?_) | exact HR185.out)) hb)
       have n8_ := am_ (Kd.C_below (by repeat (first | (with_reducible first | exact HR192.out | refine Kd.C_alloc ?_ _ | refine Kd.C_drewN ?_ _ | refine Kd.C_drew ?_) | exact HR192.out)) hb)
       have n9_ := am_ (below_step (by repeat (first | (with_reducible first | exact HB.out | apply b3_ | apply b1_ | apply b2_ | refine below_set ?_ GE181.out) | exact HB.out)) hb)
       clear HO_5; clear HO_6; clear HO_7; clear HO_25; clear HO188; clear BK181; clear HR185; clear HR192; clear HB; have HO_5 := n0_; have HO_6 := n1_; have HO_7 := n2_; have HO_25 := n3_; have HO188 := n4_; have HO195 := n5_; have BK181 := n6_; have HR185 := n7_; have HR192 := n8_; have HB := n9_; clear n0_ n1_ n2_ n3_ n4_ n5_ n6_ n7_ n8_ n9_
       (try clear hb)
       (try clear hb2)
       (try clear hk)
       (try clear hi)
       (try clear ho0)
       obtain ⟨Ao38, co38, eo38⟩ := Kd.R_slice HO195.out
       (first | subst eo38 | (injection eo38 with f1_ f2_ f3_; have f4_ := f1_.symm; have f5_ := f3_.symm; clear f1_ f2_ f3_; subst f4_; subst f5_))
       obtain ⟨Ao39, co39, eo39⟩ := Kd.R_slice HO188.out
       (first | subst eo39 | (injection eo39 with f1_ f2_ f3_; have f4_ := f1_.symm; have f5_ := f3_.symm; clear f1_ f2_ f3_; subst f4_; subst f5_))
       refine hK.out _ _ ⟨(blk_cell BK181.out 0).trans rfl, (blk_cell BK181.out 1).trans rfl⟩ (fun hHeld => ?_)
       clear hK K
       refine norm_ (a' := ?_) ?_ ?_
       rotate_left
       ·show Act.put _ (some 54) _ = _
        simp only [Act.put, s_t, s_z, s_s, i64_w, i32_w]
        rfl
       refine px_ 14 55 ?_ ?_ chaseref1_DifferOf.D23 HT_.out ?_ ?_ ?_; rotate_left 2; intro w'; go_simp; with_reducible rfl; simp only [Act.put, s_t, s_z, s_s, i64_w, i32_w]; rfl
       refine one_ (i := 15) (N := some 56) chaseref1_DifferOf.D24 rfl rfl (one_of HT_.out (by kernel_rfl)) (by decide) (fun K hK => ?_)
       refine value_ (w1 := ?_) (v := ?_) (by rfl) rfl ?_ ?_
       rotate_left 2
       ·go_simp
        constructor
        ·rfl
        ·rfl
       refine hK.out _ _ ⟨(blk_cell (blk_alloc BK181.out _) 0).trans rfl, (blk_cell (blk_alloc BK181.out _) 1).trans rfl⟩ (fun hHeld => ?_)
       clear hK K
       refine norm_ (a' := ?_) ?_ ?_
       rotate_left
       ·show Act.put _ (some 56) _ = _
        simp only [Act.put, s_t, s_z, s_s, i64_w, i32_w]
        rfl
       refine one_ (i := 16) (N := some 57) chaseref1_DifferOf.D25 rfl rfl (one_of HT_.out (by kernel_rfl)) (by decide) (fun K hK => ?_)
       refine Kd.S_append_step k34 (w0 := w) w.heap.size (by rfl) (.tmp 41) (.tmp 56) 27 34 (.agg #[(.int .i64 0), (.slice none 0 0), (.slice none 0 0)]) 56 rfl Tryz.underlying27 info34 rfl (by decide) (by omega) u7 x7_1 (⟨x8_1, t186, t193⟩ : S34) [.int .i64 x8_1, .slice Ao39 t186.length co39, .slice Ao38 t193.length co38] (fun k_ => some k_ ≠ (.slice Ao9 t168.length co9 : Value).ownBlock ∧ some k_ ≠ (.slice Ao10 t171.length co10 : Value).ownBlock) (fun k_ => some k_ = (.slice Ao39 t186.length co39 : Value).ownBlock ∨ some k_ = (.slice Ao38 t193.length co38 : Value).ownBlock) rfl rfl ?aP (fun k_ hk_ => hk_.elim (fun h_ => ((Kd.R_mono (ok' := fun k_ => ((fun k_ => some k_ ≠ (.slice Ao9 t168.length co9 : Value).ownBlock ∧ some k_ ≠ (.slice Ao10 t171.length co10 : Value).ownBlock)) k_ ∧ some k_ ≠ (u7 : Value).ownBlock) (Kd.R_apart' (HO188.out) (Kd.S_typed HO_7.out) (by decide)) (fun k_ hk => ⟨⟨hk.1.1.1.2, hk.1.1.2⟩, hk.2⟩))).1 k_ h_.symm) (fun h_ => ((Kd.R_mono (ok' := fun k_ => ((fun k_ => some k_ ≠ (.slice Ao9 t168.length co9 : Value).ownBlock ∧ some k_ ≠ (.slice Ao10 t171.length co10 : Value).ownBlock)) k_ ∧ some k_ ≠ (u7 : Value).ownBlock) (Kd.R_apart' (HO195.out) (Kd.S_typed HO_7.out) (by decide)) (fun k_ hk => ⟨⟨hk.1.1.1.2, hk.1.1.2⟩, hk.2⟩))).1 k_ h_.symm)) ?aF ?aO ?aB ?aS ?aL ?_
       (case aP => exact k34_mkM _ _ _ (⟨x8_1, t186, t193⟩ : S34) (Kd.R_mono (Kd.R_tight rfl (Kd.R_mono (ok' := fun k_ => ((fun k_ => some k_ ≠ (.slice Ao9 t168.length co9 : Value).ownBlock ∧ some k_ ≠ (.slice Ao10 t171.length co10 : Value).ownBlock)) k_ ∧ some k_ ≠ (u7 : Value).ownBlock) (Kd.R_apart' (HO188.out) (Kd.S_typed HO_7.out) (by decide)) (fun k_ hk => ⟨⟨hk.1.1.1.2, hk.1.1.2⟩, hk.2⟩))) (fun _ h_ => Or.inl h_)) (Kd.R_mono (Kd.R_tight rfl (Kd.R_mono (ok' := fun k_ => ((fun k_ => some k_ ≠ (.slice Ao9 t168.length co9 : Value).ownBlock ∧ some k_ ≠ (.slice Ao10 t171.length co10 : Value).ownBlock)) k_ ∧ some k_ ≠ (u7 : Value).ownBlock) (Kd.R_apart' (HO195.out) (Kd.S_typed HO_7.out) (by decide)) (fun k_ hk => ⟨⟨hk.1.1.1.2, hk.1.1.2⟩, hk.2⟩))) (fun _ h_ => Or.inr (h_))))
       (case aB => exact (by repeat (first | (with_reducible first | exact HB.out | apply b3_ | apply b1_ | apply b2_ | refine below_set ?_ GE181.out) | exact HB.out)))
       (case aF => exact (fun k_ hk => ⟨Kd.fresh' (Kd.R_lt (by (with_reducible repeat (first | apply r1_ | apply r2_ | apply r3_)); exact HO_5.out)) k_ hk, Kd.fresh' (Kd.R_lt (by (with_reducible repeat (first | apply r1_ | apply r2_ | apply r3_)); exact HO_6.out)) k_ hk⟩))
       (case aO => exact (by (with_reducible repeat (first | apply q1_ | apply q2_ | apply q3_)); exact Kd.S_mono HO_7.out (fun k_ hk => ⟨⟨hk.1.1.1, hk.1.1.2⟩, fun e_ => e_.elim (fun h_ => hk.1.2 h_) (fun h_ => hk.2 h_)⟩)))
       (case aS => exact (below_size (by repeat (first | (with_reducible first | exact HB.out | apply b3_ | apply b1_ | apply b2_ | refine below_set ?_ GE181.out) | exact HB.out))))
       (case aL => have := LMc32.out; omega)
       intro v197 w40 ho hb hg hat
       rw [← Ny196.out] at ho
       have n0_ := am_ (Kd.R_over' (by (with_reducible repeat (first | apply r1_ | apply r2_ | apply r3_)); exact HO_5.out) (Kd.S_typed (by (with_reducible repeat (first | apply q1_ | apply q2_ | apply q3_)); exact HO_7.out)) (by decide) hg)
       have n1_ := am_ (Kd.R_over' (by (with_reducible repeat (first | apply r1_ | apply r2_ | apply r3_)); exact HO_6.out) (Kd.S_typed (by (with_reducible repeat (first | apply q1_ | apply q2_ | apply q3_)); exact HO_7.out)) (by decide) hg)
       have n2_ := am_ (Kd.R_over' (by (with_reducible repeat (first | apply r1_ | apply r2_ | apply r3_)); exact HO_25.out) (Kd.S_typed (by (with_reducible repeat (first | apply q1_ | apply q2_ | apply q3_)); exact HO_7.out)) (by decide) hg)
       have n3_ := am_ (blk_grown (g := gb181) (o := .cells #[.int .i64 ((rd_T76 y177 x27_1).f0), .int .i64 ((rd_T76 y177 x27_1).f1)] 76 (0, 0)) (by (with_reducible repeat (first | refine blk_drewN ?_ _ | refine blk_drew ?_ | refine blk_alloc ?_ _)); exact BK181.out) hg (Kd.S_ne HO_7.out BK181.out (by decide)))
       have n4_ := am_ (hb)
       have n5_ := am_ ((show Kd.C Kd.string w40 A34 y182.length y182 from by rw [Ny182.out, KA34.out]; exact Kd.C_mid (lo := (x8_1 : Int).toNat) (hi := (((rd_T76 y177 x27_1).f0) : Int).toNat) (c := co9) ((Kd.R_reads' (Kd.R_over' (by (with_reducible repeat (first | apply r1_ | apply r2_ | apply r3_)); exact HO_5.out) (Kd.S_typed (by (with_reducible repeat (first | apply q1_ | apply q2_ | apply q3_)); exact HO_7.out)) (by decide) hg)).2.2) KM34.out KL34.out ((Kd.R_reads' (Kd.R_over' (by (with_reducible repeat (first | apply r1_ | apply r2_ | apply r3_)); exact HO_5.out) (Kd.S_typed (by (with_reducible repeat (first | apply q1_ | apply q2_ | apply q3_)); exact HO_7.out)) (by decide) hg)).2.1)))
       have n6_ := am_ ((show Kd.C Kd.string w40 A35 y189.length y189 from by rw [Ny189.out, KA35.out]; exact Kd.C_mid (lo := (x9_1 : Int).toNat) (hi := (((rd_T76 y177 x27_1).f1) : Int).toNat) (c := co10) ((Kd.R_reads' (Kd.R_over' (by (with_reducible repeat (first | apply r1_ | apply r2_ | apply r3_)); exact HO_6.out) (Kd.S_typed (by (with_reducible repeat (first | apply q1_ | apply q2_ | apply q3_)); exact HO_7.out)) (by decide) hg)).2.2) KM35.out KL35.out ((Kd.R_reads' (Kd.R_over' (by (with_reducible repeat (first | apply r1_ | apply r2_ | apply r3_)); exact HO_6.out) (Kd.S_typed (by (with_reducible repeat (first | apply q1_ | apply q2_ | apply q3_)); exact HO_7.out)) (by decide) hg)).2.1)))
       have n7_ := am_ (ho)
       clear HO_5; clear HO_6; clear HO_25; clear BK181; clear HB; clear HR185; clear HR192; clear HO_7; clear HO188; clear HO195; have HO_5 := n0_; have HO_6 := n1_; have HO_25 := n2_; have BK181 := n3_; have HB := n4_; have HR185 := n5_; have HR192 := n6_; have HO198 := n7_; clear n0_ n1_ n2_ n3_ n4_ n5_ n6_ n7_; clear ho hb hg hat
       refine hK.out _ _ ⟨(blk_cell BK181.out 0).trans rfl, (blk_cell BK181.out 1).trans rfl⟩ (fun hHeld => ?_)
       clear hK K
       refine norm_ (a' := ?_) ?_ ?_
       rotate_left
       ·show Act.put _ (some 57) _ = _
        simp only [Act.put, s_t, s_z, s_s, i64_w, i32_w]
        rfl
       refine px_ 17 7 ?_ ?_ chaseref1_DifferOf.D26 HT_.out ?_ ?_ ?_; rotate_left 2; intro w'; go_simp; with_reducible rfl; simp only [Act.put, s_t, s_z, s_s, i64_w, i32_w]; rfl
       refine done_ (done_of HT_.out (by kernel_rfl)) ?_
       try go_wp2
       have n0_ := am_ (r3_ HO_5.out)
       have n1_ := am_ (r3_ HO_6.out)
       have n2_ := am_ (r3_ HO_25.out)
       have n3_ := am_ (q3_ HO198.out)
       have n4_ := am_ (blk_drew BK181.out)
       have n5_ := am_ (Kd.C_drew HR185.out)
       have n6_ := am_ (Kd.C_drew HR192.out)
       have n7_ := am_ (b2_ HB.out)
       clear HO_5; clear HO_6; clear HO_25; clear HO198; clear BK181; clear HR185; clear HR192; clear HB; have HO_5 := n0_; have HO_6 := n1_; have HO_25 := n2_; have HO198 := n3_; have BK181 := n4_; have HR185 := n5_; have HR192 := n6_; have HB := n7_; clear n0_ n1_ n2_ n3_ n4_ n5_ n6_ n7_
       refine start_ (n := 8) (S := fun w' => w'.cell? ⟨gb181, 0, none⟩ = some (.int .i64 ((rd_T76 y177 x27_1).f0)) ∧ w'.cell? ⟨gb181, 1, none⟩ = some (.int .i64 ((rd_T76 y177 x27_1).f1))) (ds := []) chaseref1_DifferOf.D1 (by kernel_rfl) rfl rfl ⟨(blk_cell BK181.out 0).trans rfl, (blk_cell BK181.out 1).trans rfl⟩ (fun hHeld => ?_); refine with_tabW chaseref1_DifferOf.tab9 chaseref1_DifferOf.bits9 (fun HT_ HW_ => ?_)
       generalize w40.drew = w41 at HO_5 HO_6 HO_25 HO198 BK181 HR185 HR192 HB hHeld ⊢
       refine px_ 0 58 ?_ ?_ chaseref1_DifferOf.D3 HT_.out ?_ ?_ ?_; rotate_left 2; intro w'; go_simp; with_reducible rfl; simp only [Act.put, s_t, s_z, s_s, i64_w, i32_w]; rfl
       refine px_ 3 61 ?_ ?_ chaseref1_DifferOf.D4 HT_.out ?_ ?_ ?_; rotate_left 2; intro w'; go_simp; with_reducible rfl; simp only [Act.put, s_t, s_z, s_s, i64_w, i32_w]; rfl
       refine take_ (i := 1) (N := some 59) (v := ?_) (a' := ?_) chaseref1_DifferOf.D6 rfl rfl (take_ofW HT_.out HW_.out (by kernel_rfl)) (fun _ _ _ h => h) (Or.inl ⟨by rfl, ?_⟩) hHeld ?_ ?_
       rotate_left
       ·rintro w' ⟨s0, s1⟩
        go_simp
        with_reducible rfl
       rotate_left
       ·simp only [Act.put, s_t, s_z, s_s, i64_w, i32_w]
        rfl
       refine px_ 2 60 ?_ ?_ chaseref1_DifferOf.D9 HT_.out ?_ ?_ ?_; rotate_left 2; intro w'; go_simp; with_reducible rfl; simp only [Act.put, s_t, s_z, s_s, i64_w, i32_w]; rfl
       refine px_ 6 8 ?_ ?_ chaseref1_DifferOf.D10 HT_.out ?_ ?_ ?_; rotate_left 2; intro w'; go_simp; with_reducible rfl; simp only [Act.put, s_t, s_z, s_s, i64_w, i32_w]; rfl
       refine take_ (i := 4) (N := some 62) (v := ?_) (a' := ?_) chaseref1_DifferOf.D15 rfl rfl (take_ofW HT_.out HW_.out (by kernel_rfl)) (fun _ _ _ h => h) (Or.inl ⟨by rfl, ?_⟩) hHeld ?_ ?_
       rotate_left
       ·rintro w' ⟨s0, s1⟩
        go_simp
        with_reducible rfl
       rotate_left
       ·simp only [Act.put, s_t, s_z, s_s, i64_w, i32_w]
        rfl
       refine px_ 5 63 ?_ ?_ chaseref1_DifferOf.D20 HT_.out ?_ ?_ ?_; rotate_left 2; intro w'; go_simp; with_reducible rfl; simp only [Act.put, s_t, s_z, s_s, i64_w, i32_w]; rfl
       refine px_ 7 9 ?_ ?_ chaseref1_DifferOf.D27 HT_.out ?_ ?_ ?_; rotate_left 2; intro w'; go_simp; with_reducible rfl; simp only [Act.put, s_t, s_z, s_s, i64_w, i32_w]; rfl
       refine done_ (done_of HT_.out (by kernel_rfl)) ?_
       try go_wp2
       go_roundg kj16
       case measure => have := HK1.out; have := HJ16.out; omega
       case rel => exact ⟨(y196), (wrap64 (((rd_T76 y177 x27_1).f0) + 1)), (wrap64 (((rd_T76 y177 x27_1).f1) + 1)), (wrap64 (x27_1 + 1)), (by first | rfl | (simp; done) | (simp [*]; done)), (by first | rfl | (simp; done) | (simp [*]; done)), (by first | rfl | (simp; done) | (simp [*]; done)), H', ⟨by have := HK1.out; have := HJ16.out; omega⟩, ⟨by (with_reducible repeat (first | apply r1_ | apply r2_ | apply r3_)); exact Kd.R_mono HO_5.out (fun _ hk => hk.1.1)⟩, ⟨by (with_reducible repeat (first | apply r1_ | apply r2_ | apply r3_)); exact Kd.R_mono HO_6.out (fun _ hk => hk.1.1)⟩, ⟨by (with_reducible repeat (first | apply q1_ | apply q2_ | apply q3_)); exact HO198.out⟩, ⟨by (with_reducible repeat (first | apply r1_ | apply r2_ | apply r3_)); exact Kd.R_mono HO_25.out (fun _ hk => trivial)⟩, ⟨by repeat (first | (with_reducible first | exact HB.out | apply b3_ | apply b1_ | apply b2_ | refine below_set ?_ GE181.out) | exact HB.out)⟩⟩
      ·replace c23 := Bool.eq_false_iff.mpr c23
       subst c23
       have H1 : (chaseref1_DifferOf.l0 kj16 t168 t171 x7_1 (wrap64 (((rd_T76 y177 x27_1).f0) + 1)) (wrap64 (((rd_T76 y177 x27_1).f1) + 1)) y177 (y177.length : Int) (wrap64 (x27_1 + 1))) = some r := by rw [if_neg (show ¬ (false = true) by decide)] at H; exact H
       clear H
       have H := H1
       clear H1
       have H' := am_ H
       clear H
       try go_wp2
       have n0_ := am_ (r3_ HO_5.out)
       have n1_ := am_ (r3_ HO_6.out)
       have n2_ := am_ (q3_ HO_7.out)
       have n3_ := am_ (r3_ HO_25.out)
       have n4_ := am_ (blk_drew BK181.out)
       have n5_ := am_ (b2_ HB.out)
       clear HO_5; clear HO_6; clear HO_7; clear HO_25; clear BK181; clear HB; have HO_5 := n0_; have HO_6 := n1_; have HO_7 := n2_; have HO_25 := n3_; have BK181 := n4_; have HB := n5_; clear n0_ n1_ n2_ n3_ n4_ n5_
       refine start_ (n := 8) (S := fun w' => w'.cell? ⟨gb181, 0, none⟩ = some (.int .i64 ((rd_T76 y177 x27_1).f0)) ∧ w'.cell? ⟨gb181, 1, none⟩ = some (.int .i64 ((rd_T76 y177 x27_1).f1))) (ds := []) chaseref1_DifferOf.D1 (by kernel_rfl) rfl rfl ⟨(blk_cell BK181.out 0).trans rfl, (blk_cell BK181.out 1).trans rfl⟩ (fun hHeld => ?_); refine with_tabW chaseref1_DifferOf.tab9 chaseref1_DifferOf.bits9 (fun HT_ HW_ => ?_)
       generalize wc.drew = w42 at HO_5 HO_6 HO_7 HO_25 BK181 HB hHeld ⊢
       refine px_ 0 58 ?_ ?_ chaseref1_DifferOf.D3 HT_.out ?_ ?_ ?_; rotate_left 2; intro w'; go_simp; with_reducible rfl; simp only [Act.put, s_t, s_z, s_s, i64_w, i32_w]; rfl
       refine px_ 3 61 ?_ ?_ chaseref1_DifferOf.D4 HT_.out ?_ ?_ ?_; rotate_left 2; intro w'; go_simp; with_reducible rfl; simp only [Act.put, s_t, s_z, s_s, i64_w, i32_w]; rfl
       refine take_ (i := 1) (N := some 59) (v := ?_) (a' := ?_) chaseref1_DifferOf.D6 rfl rfl (take_ofW HT_.out HW_.out (by kernel_rfl)) (fun _ _ _ h => h) (Or.inl ⟨by rfl, ?_⟩) hHeld ?_ ?_
       rotate_left
       ·rintro w' ⟨s0, s1⟩
        go_simp
        with_reducible rfl
       rotate_left
       ·simp only [Act.put, s_t, s_z, s_s, i64_w, i32_w]
        rfl
       refine px_ 2 60 ?_ ?_ chaseref1_DifferOf.D9 HT_.out ?_ ?_ ?_; rotate_left 2; intro w'; go_simp; with_reducible rfl; simp only [Act.put, s_t, s_z, s_s, i64_w, i32_w]; rfl
       refine px_ 6 8 ?_ ?_ chaseref1_DifferOf.D10 HT_.out ?_ ?_ ?_; rotate_left 2; intro w'; go_simp; with_reducible rfl; simp only [Act.put, s_t, s_z, s_s, i64_w, i32_w]; rfl
       refine take_ (i := 4) (N := some 62) (v := ?_) (a' := ?_) chaseref1_DifferOf.D15 rfl rfl (take_ofW HT_.out HW_.out (by kernel_rfl)) (fun _ _ _ h => h) (Or.inl ⟨by rfl, ?_⟩) hHeld ?_ ?_
       rotate_left
       ·rintro w' ⟨s0, s1⟩
        go_simp
        with_reducible rfl
       rotate_left
       ·simp only [Act.put, s_t, s_z, s_s, i64_w, i32_w]
        rfl
       refine px_ 5 63 ?_ ?_ chaseref1_DifferOf.D20 HT_.out ?_ ?_ ?_; rotate_left 2; intro w'; go_simp; with_reducible rfl; simp only [Act.put, s_t, s_z, s_s, i64_w, i32_w]; rfl
       refine px_ 7 9 ?_ ?_ chaseref1_DifferOf.D27 HT_.out ?_ ?_ ?_; rotate_left 2; intro w'; go_simp; with_reducible rfl; simp only [Act.put, s_t, s_z, s_s, i64_w, i32_w]; rfl
       refine done_ (done_of HT_.out (by kernel_rfl)) ?_
       try go_wp2
       go_roundg kj16
       case measure => have := HK1.out; have := HJ16.out; omega
       case rel => exact ⟨(x7_1), (wrap64 (((rd_T76 y177 x27_1).f0) + 1)), (wrap64 (((rd_T76 y177 x27_1).f1) + 1)), (wrap64 (x27_1 + 1)), (by first | rfl | (simp; done) | (simp [*]; done)), (by first | rfl | (simp; done) | (simp [*]; done)), (by first | rfl | (simp; done) | (simp [*]; done)), H', ⟨by have := HK1.out; have := HJ16.out; omega⟩, ⟨by (with_reducible repeat (first | apply r1_ | apply r2_ | apply r3_)); exact HO_5.out⟩, ⟨by (with_reducible repeat (first | apply r1_ | apply r2_ | apply r3_)); exact HO_6.out⟩, ⟨by (with_reducible repeat (first | apply q1_ | apply q2_ | apply q3_)); exact HO_7.out⟩, ⟨by (with_reducible repeat (first | apply r1_ | apply r2_ | apply r3_)); exact Kd.R_mono HO_25.out (fun _ hk => trivial)⟩, ⟨by repeat (first | (with_reducible first | exact HB.out | apply b3_ | apply b1_ | apply b2_ | refine below_set ?_ GE181.out) | exact HB.out)⟩⟩
   ·rw [if_neg c14] at H
    have c14b0 : decide (x27_1 < (y177.length : Int)) = false := decide_eq_false c14
    clear c14
    obtain rfl := Option.some.inj H
    go_wp2
    go_ret
    exact ⟨_, by first | rfl | (simp [errW_none, errW_some] <;> rfl) | (simp [*, errW_none, errW_some] <;> rfl), by (with_reducible repeat (first | apply q1_ | apply q2_ | apply q3_)); exact Kd.S_mono HO_7.out (fun _ hk => trivial), by repeat (first | (with_reducible first | exact HB.out | apply b3_ | apply b1_ | apply b2_) | exact HB.out)⟩
def chasemake_Stream_Changed.j0 : Nat → ByteArray → ByteArray → Bool → List Int → Int → Option (ByteArray × Int)
  | 0, _, _, _, _, _ => none
  | k + 1, x1, x2, x14, x1000, x1001 => if x14 = true then (some (x2, x1001)) else ((chasemake_Stream_Next.f x1000 x1001 (x1.size : Int)).bind fun bt199 => ((chasemake_Stream_Next.f x1000 bt199.2 (x2.size : Int)).bind fun bt201 => (if 0 ≤ bt201.1 then (if bt201.1 < (x2.size : Int) then ((chasemake_Stream_Next.f x1000 bt201.2 3).bind fun bt203 => (if bt203.1 = 0 then (if 0 ≤ bt199.1 then (if bt199.1 ≤ (x1.size : Int) then (if (x1.extract 0 (bt199.1 : Int).toNat).size + (Utf8.encode (wrap32 (bt x2 bt201.1))).size ≤ 9223372036854775807 then (if 0 ≤ (wrap64 (bt199.1 + 1)) then (if (wrap64 (bt199.1 + 1)) ≤ (x1.size : Int) then (if ((x1.extract 0 (bt199.1 : Int).toNat) ++ (Utf8.encode (wrap32 (bt x2 bt201.1)))).size + (x1.extract ((wrap64 (bt199.1 + 1)) : Int).toNat x1.size).size ≤ 9223372036854775807 then (some (((x1.extract 0 (bt199.1 : Int).toNat) ++ (Utf8.encode (wrap32 (bt x2 bt201.1)))) ++ (x1.extract ((wrap64 (bt199.1 + 1)) : Int).toNat x1.size), bt203.2)) else (none)) else (none)) else (none)) else (none)) else (none)) else (none)) else (if bt203.1 = 1 then (if 0 ≤ bt199.1 then (if bt199.1 ≤ (x1.size : Int) then (if (x1.extract 0 (bt199.1 : Int).toNat).size + (Utf8.encode (wrap32 (bt x2 bt201.1))).size ≤ 9223372036854775807 then (if ((x1.extract 0 (bt199.1 : Int).toNat) ++ (Utf8.encode (wrap32 (bt x2 bt201.1)))).size + (x1.extract (bt199.1 : Int).toNat x1.size).size ≤ 9223372036854775807 then (some (((x1.extract 0 (bt199.1 : Int).toNat) ++ (Utf8.encode (wrap32 (bt x2 bt201.1)))) ++ (x1.extract (bt199.1 : Int).toNat x1.size), bt203.2)) else (none)) else (none)) else (none)) else (none)) else (if 0 ≤ bt199.1 then (if bt199.1 ≤ (x1.size : Int) then (if 0 ≤ (wrap64 (bt199.1 + 1)) then (if (wrap64 (bt199.1 + 1)) ≤ (x1.size : Int) then (if (x1.extract 0 (bt199.1 : Int).toNat).size + (x1.extract ((wrap64 (bt199.1 + 1)) : Int).toNat x1.size).size ≤ 9223372036854775807 then (some ((x1.extract 0 (bt199.1 : Int).toNat) ++ (x1.extract ((wrap64 (bt199.1 + 1)) : Int).toNat x1.size), bt203.2)) else (none)) else (none)) else (none)) else (none)) else (none))))) else (none)) else (none))))
def chasemake_Stream_Changed.f (k : Nat) (s0_0 : List Int) (s0_1 : Int) (a1 : ByteArray) (a2 : ByteArray) : Option (ByteArray × Int) := if a1.toList = ([] : List UInt8) then (chasemake_Stream_Changed.j0 k a1 a2 true s0_0 s0_1) else (chasemake_Stream_Changed.j0 k a1 a2 (a2.toList == ([] : List UInt8)) s0_0 s0_1)
theorem chasemake_Stream_Changed.mono_l : ∀ k, (∀ y0 y1 y2 y3 y4, LeO (chasemake_Stream_Changed.j0 k y0 y1 y2 y3 y4) (chasemake_Stream_Changed.j0 (k + 1) y0 y1 y2 y3 y4))
  | 0 => fun _ _ _ _ _ r h => by simp [chasemake_Stream_Changed.j0] at h
  | k + 1 => by
    have ih0 := chasemake_Stream_Changed.mono_l k
    · intro y0 y1 y2 y3 y4
      unfold chasemake_Stream_Changed.j0
      repeat' first
      | (with_reducible exact ih0 _ _ _ _ _)
      | (with_reducible exact LeO.refl _)
      | (with_reducible exact LeO.none _)
      | (with_reducible refine LeO.ite ?_ ?_)
      | (with_reducible refine LeO.bind ?_ (fun _ => ?_))
      | exact ih0 _ _ _ _ _
      | exact LeO.none _
      | refine LeO.ite ?_ ?_
      | refine LeO.bind ?_ (fun _ => ?_)
theorem chasemake_Stream_Changed.mono : ∀ a0 a1 a2 a3 k, LeO (chasemake_Stream_Changed.f k a0 a1 a2 a3) (chasemake_Stream_Changed.f (k + 1) a0 a1 a2 a3) := by
  intro a0 a1 a2 a3 k
  have ih0 := chasemake_Stream_Changed.mono_l k
  unfold chasemake_Stream_Changed.f
  repeat' first
      | (with_reducible exact ih0 _ _ _ _ _)
      | (with_reducible exact LeO.refl _)
      | (with_reducible exact LeO.none _)
      | (with_reducible refine LeO.ite ?_ ?_)
      | (with_reducible refine LeO.bind ?_ (fun _ => ?_))
      | exact ih0 _ _ _ _ _
      | exact LeO.none _
      | refine LeO.ite ?_ ?_
      | refine LeO.bind ?_ (fun _ => ?_)
end Go.Proofs.YtenphgclongphaaGreatDoor.Pk
