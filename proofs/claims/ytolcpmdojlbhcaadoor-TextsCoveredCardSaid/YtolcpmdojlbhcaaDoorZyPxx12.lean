/- A part of the proof of textsCovered. No conditions. Laid by program over the kit's print and words. -/
import Derived.Test.YtolcpmdojlbhcaaDoorZyPxx0
import Derived.Test.YtolcpmdojlbhcaaDoorZyPxx9
import Derived.Test.YtolcpmdojlbhcaaDoorZyPxx11
namespace Go.Proofs.YtolcpmdojlbhcaaDoor.Px
open Go.RowKit Go.Proofs.YtolcpmdojlbhcaaDoor.GBase Go.Proofs.YtolcpmdojlbhcaaDoorW.PrintWords Go.Proofs.YtolcpmdojlbhcaaDoorW.PrintLast Go.Proofs.YtolcpmdojlbhcaaDoorW.PrintMore
attribute [local go_sem] str_leq max2_int min2_int max_two min_two max_three min_three max_four min_four
set_option linter.unusedVariables false
set_option linter.unusedSimpArgs false
set_option maxHeartbeats 8000000 in
set_option maxRecDepth 100000 in
theorem Z39.calls (k : Nat) (a0 : ByteArray) (A1 : Option Addr) (c1 : Nat) (l1 : List (S46)) (r : Int) (w : World) (hr1 : Kd.C k46 w A1 l1.length l1) (hc1 : l1.length ≤ c1) (hGl : Wd w) (h : Z39.f k a0 l1 = some r) :
  Calls Tryd.prog 29 #[.string a0, .slice A1 l1.length c1] w fun e w' => e = .returned (.int .i64 r) ∧ Below w.heap.size w w' := by
 have HGl := am_ hGl; clear hGl; have HR1 := am_ hr1; have HC1 := am_ hc1; clear hr1 hc1
 have HB := am_ (Below.refl w.heap.size w)
 have H : ((Z53.f a0).bind fun t325 => (if t325 = 0 then ((Z16.f k l1 (a0.size : Int)).bind fun t326 => (some t326)) else (some t325))) = some r := h
 clear h; replace H := Option.bind_eq_some_iff.mp H; obtain ⟨t325, A30, H⟩ := H; have A3 := am_ A30; clear A30
 by_cases c4 : t325 = 0
 ·rw [if_pos c4] at H
  have c4b0 : (t325 == 0) = true := beq_iff_eq.mpr c4
  have c4b1 : (t325 != 0) = false := bne_eq_false_iff_eq.mpr c4
  clear c4; replace H := Option.bind_eq_some_iff.mp H; obtain ⟨t326, A50, H⟩ := H
  replace H : (some t326) = some r := H
  have A5 := am_ A50; clear A50
  obtain rfl := Option.some.inj H
  go_enter Tryd.func29, Tryd.ntmps29
  go_wp2_with (first | ((with_reducible refine gate_callee (f := 16) rfl ?_); refine goesL_ (some 7) rfl rfl Tryd.func16 (by kernel_rfl) rfl #[.string a0] rfl gl_ ?_; (with_reducible refine (Z53.calls a0 t325 _ ?side1 A3.out).mono ?_); (case side1 => exact Wd.below HGl.out (bw_ HB.out)); rintro e w6 ⟨rfl, hb⟩; refine ⟨_, rfl, ?_⟩; have n0_ := am_ (below_step (bw_ HB.out) hb); clear HB; have HB := n0_; clear n0_; (try clear hb); (try clear hb2); (try clear hk); (try clear hi)) | ((with_reducible refine gate_callee (f := 64) rfl ?_); refine goesL_ (some 14) rfl rfl Tryd.func64 (by kernel_rfl) rfl #[.slice A1 l1.length c1, .int .i64 (a0.size : Int)] rfl gl_ ?_; (with_reducible refine (Z16.calls k _ _ l1 (a0.size : Int) t326 _ ?side1 ?side2 A5.out).mono ?_); (case side1 => repeat (first | exact (Kd.C_below HR1.out HB.out) | (with_reducible refine Kd.C_alloc ?_ _) | (with_reducible refine Kd.C_drewN ?_ _) | (with_reducible refine Kd.C_drew ?_))); (case side2 => exact HC1.out); rintro e w7 ⟨rfl, hb⟩; refine ⟨_, rfl, ?_⟩; have n0_ := am_ (below_step (bw_ HB.out) hb); clear HB; have HB := n0_; clear n0_; (try clear hb); (try clear hb2); (try clear hk); (try clear hi)))
  go_ret
  exact ⟨by first | rfl | (simp [errW_none, errW_some] <;> rfl) | (simp [*, errW_none, errW_some] <;> rfl), bw_ HB.out⟩
 ·rw [if_neg c4] at H
  have c4b0 : (t325 == 0) = false := beq_eq_false_iff_ne.mpr c4
  have c4b1 : (t325 != 0) = true := bne_iff_ne.mpr c4
  obtain rfl := Option.some.inj H
  go_enter Tryd.func29, Tryd.ntmps29
  go_wp2_with (first | ((with_reducible refine gate_callee (f := 16) rfl ?_); refine goesL_ (some 7) rfl rfl Tryd.func16 (by kernel_rfl) rfl #[.string a0] rfl gl_ ?_; (with_reducible refine (Z53.calls a0 t325 _ ?side1 A3.out).mono ?_); (case side1 => exact Wd.below HGl.out (bw_ HB.out)); rintro e w8 ⟨rfl, hb⟩; refine ⟨_, rfl, ?_⟩; have n0_ := am_ (below_step (bw_ HB.out) hb); clear HB; have HB := n0_; clear n0_; (try clear hb); (try clear hb2); (try clear hk); (try clear hi)))
  go_ret
  exact ⟨by first | rfl | (simp [errW_none, errW_some] <;> rfl) | (simp [*, errW_none, errW_some] <;> rfl), bw_ HB.out⟩
def Z60.f (a0 : ByteArray) (a1 : Int) : Option (Int) := some (Lib.indexByte a0.data.toList a1.toNat.toUInt8)
set_option maxHeartbeats 8000000 in
set_option maxRecDepth 100000 in
theorem Z60.calls (a0 : ByteArray) (a1 : Int) (r : Int) (w : World) (h : Z60.f a0 a1 = some r) :
    Calls Tryd.prog 98 #[.string a0, .int .u8 a1] w fun e w' => e = .returned (.int .i64 r) ∧ Drawn0 w w' := by
  obtain rfl := Option.some.inj h
  refine (Tryd.strings_IndexByte a0 a1 w).mono ?_
  rintro e w' ⟨rfl, rfl⟩
  exact ⟨rfl, Drawn0.refl _⟩
def Z30.f (a0 : Int) : Option (Bool) := if a0 ≥ 128 then (some true) else ((Z60.f (⟨#[97, 98, 99, 100, 101, 102, 103, 104, 105, 106, 107, 108, 109, 110, 111, 112, 113, 114, 115, 116, 117, 118, 119, 120, 121, 122, 65, 66, 67, 68, 69, 70, 71, 72, 73, 74, 75, 76, 77, 78, 79, 80, 81, 82, 83, 84, 85, 86, 87, 88, 89, 90, 48, 49, 50, 51, 52, 53, 54, 55, 56, 57]⟩ : ByteArray) a0).bind fun t327 => (some (decide (t327 ≥ 0))))
set_option maxHeartbeats 8000000 in
set_option maxRecDepth 100000 in
theorem Z30.calls (a0 : Int) (r : Bool) (w : World) (h : Z30.f a0 = some r) :
  Calls Tryd.prog 69 #[.int .u8 a0] w fun e w' => e = .returned (.bool r) ∧ Drawn0 w w' := by
 have H : (if a0 ≥ 128 then (some true) else ((Z60.f (⟨#[97, 98, 99, 100, 101, 102, 103, 104, 105, 106, 107, 108, 109, 110, 111, 112, 113, 114, 115, 116, 117, 118, 119, 120, 121, 122, 65, 66, 67, 68, 69, 70, 71, 72, 73, 74, 75, 76, 77, 78, 79, 80, 81, 82, 83, 84, 85, 86, 87, 88, 89, 90, 48, 49, 50, 51, 52, 53, 54, 55, 56, 57]⟩ : ByteArray) a0).bind fun t327 => (some (decide (t327 ≥ 0))))) = some r := h
 clear h
 by_cases c2 : a0 ≥ 128
 ·rw [if_pos c2] at H
  have c2b0 : decide (128 ≤ a0) = true := decide_eq_true c2
  clear c2
  obtain rfl := Option.some.inj H
  go_enter Tryd.func69, Tryd.ntmps69
  go_wp2
  go_ret
  exact ⟨by first | rfl | (simp; done) | (simp [*]; done), by repeat (first | exact Drawn0.refl _ | apply Drawn0.step)⟩
 ·rw [if_neg c2] at H
  have c2b0 : decide (128 ≤ a0) = false := decide_eq_false c2
  clear c2; replace H := Option.bind_eq_some_iff.mp H; obtain ⟨t327, A30, H⟩ := H
  replace H : (some (decide (t327 ≥ 0))) = some r := H
  have A3 := am_ A30; clear A30
  obtain rfl := Option.some.inj H
  go_enter Tryd.func69, Tryd.ntmps69
  go_wp2_with (first | (go_at_call 98; (with_reducible refine (Z60.calls (⟨#[97, 98, 99, 100, 101, 102, 103, 104, 105, 106, 107, 108, 109, 110, 111, 112, 113, 114, 115, 116, 117, 118, 119, 120, 121, 122, 65, 66, 67, 68, 69, 70, 71, 72, 73, 74, 75, 76, 77, 78, 79, 80, 81, 82, 83, 84, 85, 86, 87, 88, 89, 90, 48, 49, 50, 51, 52, 53, 54, 55, 56, 57]⟩ : ByteArray) a0 t327 _ A3.out).mono ?_); rintro e w' ⟨rfl, ⟨nd, rfl⟩⟩))
  go_ret
  exact ⟨by first | rfl | (simp; done) | (simp [*]; done), by repeat (first | exact Drawn0.refl _ | apply Drawn0.step)⟩
mutual
def Z18.l0 : Nat → ByteArray → List (S46) → Int → Option ((List (S46)))
  | 0, _, _, _ => none
  | k + 1, x0, x3, x4 => if x4 < (x0.size : Int) then (if 0 ≤ x4 then ((Z30.f (bt x0 x4)).bind fun t328 => (if t328 = true then (Z18.l1 k x0 x3 x4 x4) else (Z18.l0 k x0 x3 (wrap64 (x4 + 1))))) else (none)) else (some x3)
def Z18.l1 : Nat → ByteArray → List (S46) → Int → Int → Option ((List (S46)))
  | 0, _, _, _, _ => none
  | k + 1, x0, x3, x4, x5 => if x5 < (x0.size : Int) then (if 0 ≤ x5 then ((Z30.f (bt x0 x5)).bind fun t329 => (if t329 = true then (Z18.l1 k x0 x3 x4 (wrap64 (x5 + 1))) else (if x3.length < 8796093022208 then (Z18.l0 k x0 (x3 ++ [(⟨x4, x5⟩ : S46)]) (wrap64 (x5 + 1))) else (none)))) else (none)) else (if x3.length < 8796093022208 then (Z18.l0 k x0 (x3 ++ [(⟨x4, x5⟩ : S46)]) (wrap64 (x5 + 1))) else (none))
end
def Z18.f (k : Nat) (a0 : ByteArray) : Option ((List (S46))) := Z18.l0 k a0 ([] : List (S46)) 0
theorem Z18.mono_l : ∀ k, (∀ y0 y1 y2, LeO (Z18.l0 k y0 y1 y2) (Z18.l0 (k + 1) y0 y1 y2)) ∧ (∀ y0 y1 y2 y3, LeO (Z18.l1 k y0 y1 y2 y3) (Z18.l1 (k + 1) y0 y1 y2 y3))
  | 0 => ⟨fun _ _ _ r h => by simp [Z18.l0] at h, fun _ _ _ _ r h => by simp [Z18.l1] at h⟩
  | k + 1 => by
    obtain ⟨ih0, ih1⟩ := Z18.mono_l k
    refine ⟨?_, ?_⟩
    · intro y0 y1 y2
      unfold Z18.l0
      repeat' first
      | (with_reducible exact ih0 _ _ _)
      | (with_reducible exact ih1 _ _ _ _)
      | (with_reducible exact LeO.refl _)
      | (with_reducible exact LeO.none _)
      | (with_reducible refine LeO.ite ?_ ?_)
      | (with_reducible refine LeO.bind ?_ (fun _ => ?_))
      | exact ih0 _ _ _
      | exact ih1 _ _ _ _
      | exact LeO.none _
      | refine LeO.ite ?_ ?_
      | refine LeO.bind ?_ (fun _ => ?_)
    · intro y0 y1 y2 y3
      unfold Z18.l1
      repeat' first
      | (with_reducible exact ih0 _ _ _)
      | (with_reducible exact ih1 _ _ _ _)
      | (with_reducible exact LeO.refl _)
      | (with_reducible exact LeO.none _)
      | (with_reducible refine LeO.ite ?_ ?_)
      | (with_reducible refine LeO.bind ?_ (fun _ => ?_))
      | exact ih0 _ _ _
      | exact ih1 _ _ _ _
      | exact LeO.none _
      | refine LeO.ite ?_ ?_
      | refine LeO.bind ?_ (fun _ => ?_)
theorem Z18.mono : ∀ a0 k, LeO (Z18.f k a0) (Z18.f (k + 1) a0) := by
  intro a0 k
  obtain ⟨ih0, ih1⟩ := Z18.mono_l k
  unfold Z18.f
  repeat' first
      | (with_reducible exact ih0 _ _ _)
      | (with_reducible exact ih1 _ _ _ _)
      | (with_reducible exact LeO.refl _)
      | (with_reducible exact LeO.none _)
      | (with_reducible refine LeO.ite ?_ ?_)
      | (with_reducible refine LeO.bind ?_ (fun _ => ?_))
      | exact ih0 _ _ _
      | exact ih1 _ _ _ _
      | exact LeO.none _
      | refine LeO.ite ?_ ?_
      | refine LeO.bind ?_ (fun _ => ?_)
set_option maxHeartbeats 8000000 in
set_option maxRecDepth 100000 in
theorem Z18.calls (k : Nat) (a0 : ByteArray) (r : List (S46)) (w : World) (h : Z18.f k a0 = some r) :
  Calls Tryd.prog 66 #[.string a0] w fun e w' => ∃ v0_ : Value, e = .returned (v0_) ∧ Kd.R k46 46 w' w.heap.size (fun _ => True) v0_ r ∧ Below w.heap.size w w' := by
 have hu46 := Tryd.underlying46
 have HB := am_ (Below.refl w.heap.size w)
 have H : (Z18.l0 k a0 ([] : List (S46)) 0) = some r := h
 clear h
 have H' := am_ H
 clear H
 go_enter Tryd.func66, Tryd.ntmps66
 go_wp2
 go_loopg [3, 4] k (fun kq v3 v4 w' => ∃ (x3_1 : List (S46)) (x4_1 : Int), v4 = .int .i64 x4_1 ∧ Aside0 (Z18.l0 kq a0 x3_1 x4_1 = some r) ∧ Aside0 (kq ≤ k) ∧ Aside0 (Kd.R k46 46 w' w.heap.size (fun _ => True) v3 x3_1) ∧ Aside0 (Below w.heap.size w w'))
 case atStart => exact ⟨(([] : List (S46))), (0), tr_, H', ⟨Nat.le_refl _⟩, ⟨by first | exact Kd.R_nil _ _ _ _ _ | exact Kd.N_nil _ _ _ _ _ | exact Kd.V_nil _ _ _ _ _ | exact Kd.Q_nil _ _ _ _ _ | exact Kd.S_nil _ _ _ _ _⟩, ⟨bw_ HB.out⟩⟩
 case round =>
  clear H'; obtain ⟨x3_1, x4_1, rfl, HA, HK1, HO_3, HB⟩ := hrel
  cases gk with
  | zero => exact absurd HA.out (by simp [Z18.l0])
  | succ k1 =>
   have H := HA.out
   clear HA
   simp only [Z18.l0] at H
   by_cases c2 : x4_1 < (a0.size : Int)
   ·rw [if_pos c2] at H
    have c2b0 := decide_eq_true c2; clear c2
    by_cases c3 : 0 ≤ x4_1
    case neg => exact (nn_ c3 H).elim
    rw [if_pos c3] at H; have c3b0 := decide_eq_true c3; clear c3; replace H := Option.bind_eq_some_iff.mp H; obtain ⟨t328, A50, H⟩ := H; have A5 := am_ A50; clear A50
    by_cases c6 : t328 = true
    ·subst c6
     have H1 : (Z18.l1 k1 a0 x3_1 x4_1 x4_1) = some r := by rw [if_pos rfl] at H; exact H
     clear H
     have H := H1
     clear H1
     have H' := am_ H
     clear H; have p4 : 0 ≤ (x4_1 : Int) := ode_; have q4 : x4_1 < (a0.size : Int) := ode_
     have hx4 := bt_at a0 x4_1
     replace p4 := eq_true p4; replace q4 := eq_true q4
     go_wp2_with (first | ((with_reducible refine gate_callee (f := 69) rfl ?_); refine goesL_ (some 15) rfl rfl Tryd.func69 (by kernel_rfl) rfl #[.int .u8 (bt a0 x4_1)] rfl gl_ ?_; (with_reducible refine (Z30.calls (bt a0 x4_1) true _ A5.out).mono ?_); rintro e w' ⟨rfl, ⟨nd, rfl⟩⟩; refine ⟨_, rfl, ?_⟩))
     go_loopg [5] k1 (fun kq v5 w' => ∃ (x5_2 : Int), v5 = .int .i64 x5_2 ∧ Aside0 (Z18.l1 kq a0 x3_1 x4_1 x5_2 = some r) ∧ Aside0 (kq ≤ k1) ∧ Aside0 (Kd.R k46 46 w' w.heap.size (fun _ => True) u3 x3_1) ∧ Aside0 (Below w.heap.size w w'))
     case atStart => exact ⟨(x4_1), tr_, H', ⟨Nat.le_refl _⟩, ⟨rr_ HO_3.out⟩, ⟨bw_ HB.out⟩⟩
     case round =>
      clear H'; (try clear c2); (try clear c2b0); (try clear p2); (try clear c3); (try clear c3b0); (try clear p4); (try clear q4); (try clear hx4); (try clear c6); (try clear p6); (try clear p4); (try clear q4); obtain ⟨x5_2, rfl, HA, HK2, HO_3, HB⟩ := hrel
      cases gk with
      | zero => exact absurd HA.out (by simp [Z18.l1])
      | succ k2 =>
       have H := HA.out
       clear HA
       simp only [Z18.l1] at H
       by_cases c7 : x5_2 < (a0.size : Int)
       ·rw [if_pos c7] at H
        have c7b0 := decide_eq_true c7; clear c7
        by_cases c8 : 0 ≤ x5_2
        case neg => exact (nn_ c8 H).elim
        rw [if_pos c8] at H; have c8b0 := decide_eq_true c8; clear c8; replace H := Option.bind_eq_some_iff.mp H; obtain ⟨t329, A100, H⟩ := H; have A10 := am_ A100; clear A100
        by_cases c11 : t329 = true
        ·subst c11
         have H1 : (Z18.l1 k2 a0 x3_1 x4_1 (wrap64 (x5_2 + 1))) = some r := by rw [if_pos rfl] at H; exact H
         clear H
         have H := H1
         clear H1
         have H' := am_ H
         clear H; have p9 : 0 ≤ (x5_2 : Int) := ode_; have q9 : x5_2 < (a0.size : Int) := ode_
         have hx9 := bt_at a0 x5_2
         replace p9 := eq_true p9; replace q9 := eq_true q9
         go_wp2_with (first | (go_at_call 69; (with_reducible refine (Z30.calls (bt a0 x5_2) true _ A10.out).mono ?_); rintro e w' ⟨rfl, ⟨nd, rfl⟩⟩))
         go_roundg k2
         case measure => have := HK1.out; have := HK2.out; omega
         case rel => exact ⟨(wrap64 (x5_2 + 1)), tr_, H', ⟨by have := HK1.out; have := HK2.out; omega⟩, ⟨rr_ HO_3.out⟩, ⟨bw_ HB.out⟩⟩
        ·replace c11 := Bool.eq_false_iff.mpr c11
         subst c11
         have H1 : (if x3_1.length < 8796093022208 then (Z18.l0 k2 a0 (x3_1 ++ [(⟨x4_1, x5_2⟩ : S46)]) (wrap64 (x5_2 + 1))) else (none)) = some r := by rw [if_neg (show ¬ (false = true) by decide)] at H; exact H
         clear H
         have H := H1
         clear H1
         by_cases c12 : x3_1.length < 8796093022208
         case neg => exact (nn_ c12 H).elim
         rw [if_pos c12] at H; have LMc12 := am_ c12; clear c12
         obtain ⟨y330, hy330⟩ : ∃ y_ : List (S46), y_ = (x3_1 ++ [(⟨x4_1, x5_2⟩ : S46)]) := ⟨_, rfl⟩
         replace H : (Z18.l0 k2 a0 y330 (wrap64 (x5_2 + 1))) = some r := by first | (rw [hy330]; with_reducible exact H) | (have H2_ := (Option.bind_some _ _).symm.trans H; rw [hy330]; with_reducible exact H2_) | (have H2_ := (Option.bind_some _ _).symm.trans H; with_reducible exact H2_) | with_reducible exact H | (rw [hy330]; exact H) | exact H
         have Ny330 := am_ hy330; clear hy330
         have H' := am_ H
         clear H; have p9 : 0 ≤ (x5_2 : Int) := ode_; have q9 : x5_2 < (a0.size : Int) := ode_
         have hx9 := bt_at a0 x5_2
         replace p9 := eq_true p9; replace q9 := eq_true q9
         go_wp2_with (first | (go_at_call 69; (with_reducible refine (Z30.calls (bt a0 x5_2) false _ A10.out).mono ?_); rintro e w' ⟨rfl, ⟨nd, rfl⟩⟩) | ((with_reducible refine gate_builtin (b := .append) (xs := #[.tmp 30, .tmp 34]) rfl ?_); at_builtin; refine Kd.R_append k46 (w0 := w) w.heap.size rfl (.tmp 30) (.tmp 34) 38 46 (.agg #[(.int .i64 0), (.int .i64 0)]) 16 rfl Tryd.underlying38 info46 rfl (by decide) (by omega) u3 x3_1 (⟨x4_1, x5_2⟩ : S46) [.int .i64 x4_1, .int .i64 x5_2] (fun _ => True) (fun _ => False) rfl rfl ?aP (fun _ hk => hk.elim) ?aF ?aO ?aB ?aS ?aL ?_; (case aP => exact k46_mkM _ _ _ (⟨x4_1, x5_2⟩ : S46)); (case aB => exact (bw_ HB.out)); (case aF => exact (fun _ _ => trivial)); (case aO => exact (rr_ HO_3.out)); (case aS => exact (below_size (bw_ HB.out))); (case aL => have := LMc12.out; omega); intro v331 w13 ho hb hg hat; rw [← Ny330.out] at ho; have n0_ := am_ (hb); have n1_ := am_ (ho); clear HB; clear HO_3; have HB := n0_; have HO332 := n1_; clear n0_ n1_; clear ho hb hg hat))
         go_roundg k2
         case measure => have := HK1.out; have := HK2.out; omega
         case rel => exact ⟨(y330), (wrap64 (x5_2 + 1)), tr_, H', ⟨by have := HK1.out; have := HK2.out; omega⟩, ⟨rr_ HO332.out⟩, ⟨bw_ HB.out⟩⟩
       ·rw [if_neg c7] at H
        have c7b0 : decide (x5_2 < (a0.size : Int)) = false := decide_eq_false c7
        clear c7
        by_cases c14 : x3_1.length < 8796093022208
        case neg => exact (nn_ c14 H).elim
        rw [if_pos c14] at H; have LMc14 := am_ c14; clear c14
        obtain ⟨y333, hy333⟩ : ∃ y_ : List (S46), y_ = (x3_1 ++ [(⟨x4_1, x5_2⟩ : S46)]) := ⟨_, rfl⟩
        replace H : (Z18.l0 k2 a0 y333 (wrap64 (x5_2 + 1))) = some r := by first | (rw [hy333]; with_reducible exact H) | (have H2_ := (Option.bind_some _ _).symm.trans H; rw [hy333]; with_reducible exact H2_) | (have H2_ := (Option.bind_some _ _).symm.trans H; with_reducible exact H2_) | with_reducible exact H | (rw [hy333]; exact H) | exact H
        have Ny333 := am_ hy333; clear hy333
        have H' := am_ H
        clear H
        go_wp2_with (first | ((with_reducible refine gate_builtin (b := .append) (xs := #[.tmp 30, .tmp 34]) rfl ?_); at_builtin; refine Kd.R_append k46 (w0 := w) w.heap.size rfl (.tmp 30) (.tmp 34) 38 46 (.agg #[(.int .i64 0), (.int .i64 0)]) 16 rfl Tryd.underlying38 info46 rfl (by decide) (by omega) u3 x3_1 (⟨x4_1, x5_2⟩ : S46) [.int .i64 x4_1, .int .i64 x5_2] (fun _ => True) (fun _ => False) rfl rfl ?aP (fun _ hk => hk.elim) ?aF ?aO ?aB ?aS ?aL ?_; (case aP => exact k46_mkM _ _ _ (⟨x4_1, x5_2⟩ : S46)); (case aB => exact (bw_ HB.out)); (case aF => exact (fun _ _ => trivial)); (case aO => exact (rr_ HO_3.out)); (case aS => exact (below_size (bw_ HB.out))); (case aL => have := LMc14.out; omega); intro v334 w15 ho hb hg hat; rw [← Ny333.out] at ho; have n0_ := am_ (hb); have n1_ := am_ (ho); clear HB; clear HO_3; have HB := n0_; have HO335 := n1_; clear n0_ n1_; clear ho hb hg hat))
        go_roundg k2
        case measure => have := HK1.out; have := HK2.out; omega
        case rel => exact ⟨(y333), (wrap64 (x5_2 + 1)), tr_, H', ⟨by have := HK1.out; have := HK2.out; omega⟩, ⟨rr_ HO335.out⟩, ⟨bw_ HB.out⟩⟩
    ·replace c6 := Bool.eq_false_iff.mpr c6
     subst c6
     have H1 : (Z18.l0 k1 a0 x3_1 (wrap64 (x4_1 + 1))) = some r := by rw [if_neg (show ¬ (false = true) by decide)] at H; exact H
     clear H
     have H := H1
     clear H1
     have H' := am_ H
     clear H; have p4 : 0 ≤ (x4_1 : Int) := ode_; have q4 : x4_1 < (a0.size : Int) := ode_
     have hx4 := bt_at a0 x4_1
     replace p4 := eq_true p4; replace q4 := eq_true q4
     go_wp2_with (first | ((with_reducible refine gate_callee (f := 69) rfl ?_); refine goesL_ (some 15) rfl rfl Tryd.func69 (by kernel_rfl) rfl #[.int .u8 (bt a0 x4_1)] rfl gl_ ?_; (with_reducible refine (Z30.calls (bt a0 x4_1) false _ A5.out).mono ?_); rintro e w' ⟨rfl, ⟨nd, rfl⟩⟩; refine ⟨_, rfl, ?_⟩))
     go_roundg k1
     case measure => have := HK1.out; omega
     case rel => exact ⟨(x3_1), (wrap64 (x4_1 + 1)), tr_, H', ⟨by have := HK1.out; omega⟩, ⟨rr_ HO_3.out⟩, ⟨bw_ HB.out⟩⟩
   ·rw [if_neg c2] at H
    have c2b0 : decide (x4_1 < (a0.size : Int)) = false := decide_eq_false c2
    clear c2
    obtain rfl := Option.some.inj H
    go_wp2
    go_ret
    exact ⟨_, by first | rfl | (simp [errW_none, errW_some] <;> rfl) | (simp [*, errW_none, errW_some] <;> rfl), by (with_reducible repeat (first | apply r1_ | apply r2_ | apply r3_)); exact HO_3.out, bw_ HB.out⟩
theorem Z48.idx (c : UInt8) (w : World) : Calls Tryd.prog 98 #[.string ⟨#[65, 66, 67, 68, 69, 70, 71, 72, 73, 74, 75, 76, 77, 78, 79, 80, 81, 82, 83, 84, 85, 86, 87, 88, 89, 90]⟩, .int .u8 c.toNat] w fun e w' => e = .returned (.int .i64 (if 65 ≤ (c.toNat : Int) ∧ (c.toNat : Int) ≤ 90 then (c.toNat : Int) - 65 else -1)) ∧ w = w' := by
  refine (Tryd.strings_IndexByte _ _ _).mono ?_
  rintro e w' ⟨rfl, rfl⟩
  refine ⟨?_, rfl⟩
  have h := idx_cap c
  have h2 : ((c.toNat : Int).toNat.toUInt8) = c := by simp
  rw [h2, h]
def Z48.f (a0 : ByteArray) : Option (ByteArray) := if a0.size ≤ 140737488355328 then (some (lowA a0)) else (none)
set_option maxHeartbeats 8000000 in
set_option maxRecDepth 100000 in
theorem Z48.calls (a0 : ByteArray) (r : ByteArray) (w : World) (h : Z48.f a0 = some r) :
    Calls Tryd.prog 67 #[.string a0] w fun e w' => e = .returned (.string r) ∧ Below w.heap.size w w' := by
  unfold Z48.f at h
  by_cases hs : a0.size ≤ 140737488355328
  · rw [if_pos hs] at h
    obtain rfl := Option.some.inj h
    have hconv := fun (w : World) => Lib.run_convert_string_bytes (P := Tryd.prog) w 9 73 5 a0 Tryd.underlying9 Tryd.underlying73 Tryd.underlying5
    clear h
    go_enter Tryd.func67, Tryd.ntmps67
    go_wp2
    have hst := LowAt.start 5 w a0
    have Hst : Hid (LowAt 5 w (Lib.bytesWorld w 5 a0) a0 0) := hst
    have hs2 : a0.size ≤ 9223372036854775807 := by omega
    clear hst hconv
    go_loopw [11] (fun i wr => ∃ k : Nat, k ≤ a0.size ∧ i = .int .i64 k ∧ Hid (LowAt 5 w wr a0 k)) (fun i _ => a0.size - (intOf i).toNat)
    case atStart => exact ⟨0, Nat.zero_le _, rfl, Hst⟩
    case round =>
      obtain ⟨k, hk, rfl, HL⟩ := hrel
      by_cases hlt : k < a0.size
      · have hcell := HL.out.cell hlt
        have hfree := HL.out.free hlt
        have hidx := Z48.idx a0[k]
        by_cases hc : 65 ≤ (a0[k].toNat : Int) ∧ (a0[k].toNat : Int) ≤ 90
        · have h1 := hc.1
          have h2 := hc.2
          simp only [if_pos hc] at hidx
          have HX : Hid _ := hidx
          have HP : Hid (LowAt 5 w (wr.setCell ⟨w.heap.size, k, none⟩ (.int .u8 ((a0[k].toNat : Int) + 32))) a0 (k + 1)) := HL.out.put hlt h1 h2
          clear hc HL hidx
          go_wp2_with (go_at_call 98; refine (HX.out _).mono ?_; rintro e w' ⟨rfl, rfl⟩)
          go_roundw
          case rel => exact ⟨k + 1, by omega, by go_num, by rw [small_at a0[k] h1 h2]; exact HP⟩
          case measure => simp [intOf]; omega
        · have HP : Hid (LowAt 5 w wr a0 (k + 1)) := HL.out.keep hlt hc
          simp only [if_neg hc] at hidx
          have HX : Hid _ := hidx
          clear HL hc hidx
          go_wp2_with (go_at_call 98; refine (HX.out _).mono ?_; rintro e w' ⟨rfl, rfl⟩)
          go_roundw
          case rel => exact ⟨k + 1, by omega, by go_num, HP⟩
          case measure => simp [intOf]; omega
      · obtain rfl : k = a0.size := by omega
        have hB := HL.out.1
        have hd := HL.out.done Tryd.prog 73 9 (grownCap w a0.size 0 5) Tryd.underlying73 Tryd.underlying5 Tryd.underlying9
        clear HL
        go_wp2
        go_ret
        exact ⟨rfl, hB⟩
  · rw [if_neg hs] at h
    exact absurd h (by simp)
def Z31.l0 : Nat → ByteArray → List ByteArray → List (S46) → Int → Int → Option (List ByteArray)
  | 0, _, _, _, _, _ => none
  | k + 1, x0, x3, x7, x8, x9 => if x9 < x8 then (if 0 ≤ x9 then (if x9 < (x7.length : Int) then (if 0 ≤ ((rd_T46 x7 x9).f0) then (if ((rd_T46 x7 x9).f0) ≤ ((rd_T46 x7 x9).f1) then (if ((rd_T46 x7 x9).f1) ≤ (x0.size : Int) then ((Z48.f (x0.extract (((rd_T46 x7 x9).f0) : Int).toNat (((rd_T46 x7 x9).f1) : Int).toNat)).bind fun t341 => (if x3.length < 8796093022208 then (Z31.l0 k x0 (x3 ++ [t341]) x7 x8 (wrap64 (x9 + 1))) else (none))) else (none)) else (none)) else (none)) else (none)) else (none)) else (some x3)
def Z31.f (k : Nat) (a0 : ByteArray) : Option (List ByteArray) := (Z18.f k a0).bind fun t336 => (Z31.l0 k a0 ([] : List ByteArray) t336 (t336.length : Int) 0)
theorem Z31.mono_l : ∀ k, (∀ y0 y1 y2 y3 y4, LeO (Z31.l0 k y0 y1 y2 y3 y4) (Z31.l0 (k + 1) y0 y1 y2 y3 y4))
  | 0 => fun _ _ _ _ _ r h => by simp [Z31.l0] at h
  | k + 1 => by
    have ih0 := Z31.mono_l k
    · intro y0 y1 y2 y3 y4
      unfold Z31.l0
      repeat' first
      | (with_reducible exact ih0 _ _ _ _ _)
      | (with_reducible exact Z18.mono _ _)
      | (with_reducible exact LeO.refl _)
      | (with_reducible exact LeO.none _)
      | (with_reducible refine LeO.ite ?_ ?_)
      | (with_reducible refine LeO.bind ?_ (fun _ => ?_))
      | exact ih0 _ _ _ _ _
      | exact LeO.none _
      | refine LeO.ite ?_ ?_
      | refine LeO.bind ?_ (fun _ => ?_)
theorem Z31.mono : ∀ a0 k, LeO (Z31.f k a0) (Z31.f (k + 1) a0) := by
  intro a0 k
  have ih0 := Z31.mono_l k
  unfold Z31.f
  repeat' first
      | (with_reducible exact ih0 _ _ _ _ _)
      | (with_reducible exact Z18.mono _ _)
      | (with_reducible exact LeO.refl _)
      | (with_reducible exact LeO.none _)
      | (with_reducible refine LeO.ite ?_ ?_)
      | (with_reducible refine LeO.bind ?_ (fun _ => ?_))
      | exact ih0 _ _ _ _ _
      | exact LeO.none _
      | refine LeO.ite ?_ ?_
      | refine LeO.bind ?_ (fun _ => ?_)
set_option maxHeartbeats 8000000 in
set_option maxRecDepth 100000 in
theorem Z31.calls (k : Nat) (a0 : ByteArray) (r : List ByteArray) (w : World) (h : Z31.f k a0 = some r) :
  Calls Tryd.prog 40 #[.string a0] w fun e w' => ∃ v0_ : Value, e = .returned (v0_) ∧ Kd.R Kd.string 9 w' w.heap.size (fun _ => True) v0_ r ∧ Below w.heap.size w w' := by
 have hu46 := Tryd.underlying46
 have HB := am_ (Below.refl w.heap.size w)
 have H : ((Z18.f k a0).bind fun t336 => (Z31.l0 k a0 ([] : List ByteArray) t336 (t336.length : Int) 0)) = some r := h
 clear h; replace H := Option.bind_eq_some_iff.mp H; obtain ⟨t336, A20, H⟩ := H; have A2 := am_ A20; clear A20
 have H' := am_ H
 clear H
 go_enter Tryd.func40, Tryd.ntmps40
 go_wp2_with (first | ((with_reducible refine gate_callee (f := 66) rfl ?_); refine goesL_ (some 7) rfl rfl Tryd.func66 (by kernel_rfl) rfl #[.string a0] rfl gl_ ?_; (with_reducible refine (Z18.calls k a0 t336 _ A2.out).mono ?_); rintro e w3 ⟨v337, rfl, ho0, hb⟩; refine ⟨_, rfl, ?_⟩; have n0_ := am_ (Kd.R_lower ho0 (below_size (bw_ HB.out))); have n1_ := am_ (below_step (bw_ HB.out) hb); clear HB; have HO338 := n0_; have HB := n1_; clear n0_ n1_; (try clear hb); (try clear hb2); (try clear hk); (try clear hi); (try clear ho0); obtain ⟨Ao4, co4, eo4⟩ := Kd.R_slice HO338.out; subst eo4))
 go_loopg [3, 9] k (fun kq v3 v9 w' => ∃ (x3_1 : List ByteArray) (x9_1 : Int), v9 = .int .i64 x9_1 ∧ Aside0 (Z31.l0 kq a0 x3_1 t336 (t336.length : Int) x9_1 = some r) ∧ Aside0 (kq ≤ k) ∧ Aside0 (Kd.R Kd.string 9 w' w.heap.size (fun _ => True) v3 x3_1) ∧ Aside0 (Kd.R k46 46 w' w.heap.size (fun _ => True) (.slice Ao4 t336.length co4) t336) ∧ Aside0 (Below w.heap.size w w'))
 case atStart => exact ⟨(([] : List ByteArray)), (0), tr_, H', ⟨Nat.le_refl _⟩, ⟨by first | exact Kd.R_nil _ _ _ _ _ | exact Kd.N_nil _ _ _ _ _ | exact Kd.V_nil _ _ _ _ _ | exact Kd.Q_nil _ _ _ _ _ | exact Kd.S_nil _ _ _ _ _⟩, ⟨rr_ HO338.out⟩, ⟨bw_ HB.out⟩⟩
 case round =>
  clear H'; (try clear p2); (try clear c4); obtain ⟨x3_1, x9_1, rfl, HA, HK1, HO_3, HO_7, HB⟩ := hrel
  cases gk with
  | zero => exact absurd HA.out (by simp [Z31.l0])
  | succ k1 =>
   have H := HA.out
   clear HA
   simp only [Z31.l0] at H
   by_cases c5 : x9_1 < (t336.length : Int)
   ·rw [if_pos c5] at H
    have c5b0 := decide_eq_true c5; clear c5
    by_cases c6 : 0 ≤ x9_1
    case neg => exact (nn_ c6 H).elim
    rw [if_pos c6] at H; have c6b0 := decide_eq_true c6; clear c6
    by_cases c7 : x9_1 < (t336.length : Int)
    case neg => exact (nn_ c7 H).elim
    rw [if_pos c7] at H; have c7b0 := decide_eq_true c7; clear c7
    by_cases c8 : 0 ≤ ((rd_T46 t336 x9_1).f0)
    case neg => exact (nn_ c8 H).elim
    rw [if_pos c8] at H; have c8b0 := eq_true c8; have c8b1 := decide_eq_true c8; clear c8
    by_cases c9 : ((rd_T46 t336 x9_1).f0) ≤ ((rd_T46 t336 x9_1).f1)
    case neg => exact (nn_ c9 H).elim
    rw [if_pos c9] at H; have c9b0 := eq_true c9; have c9b1 := decide_eq_true c9; clear c9
    by_cases c10 : ((rd_T46 t336 x9_1).f1) ≤ (a0.size : Int)
    case neg => exact (nn_ c10 H).elim
    rw [if_pos c10] at H; have c10b0 := eq_true c10; have c10b1 := decide_eq_true c10; clear c10; replace H := Option.bind_eq_some_iff.mp H; obtain ⟨t341, A110, H⟩ := H; have A11 := am_ A110; clear A110
    by_cases c12 : x3_1.length < 8796093022208
    case neg => exact (nn_ c12 H).elim
    rw [if_pos c12] at H; have LMc12 := am_ c12; clear c12
    obtain ⟨y342, hy342⟩ : ∃ y_ : List ByteArray, y_ = (x3_1 ++ [t341]) := ⟨_, rfl⟩
    replace H : (Z31.l0 k1 a0 y342 t336 (t336.length : Int) (wrap64 (x9_1 + 1))) = some r := by first | (rw [hy342]; with_reducible exact H) | (have H2_ := (Option.bind_some _ _).symm.trans H; rw [hy342]; with_reducible exact H2_) | (have H2_ := (Option.bind_some _ _).symm.trans H; with_reducible exact H2_) | with_reducible exact H | (rw [hy342]; exact H) | exact H
    have Ny342 := am_ hy342; clear hy342
    have H' := am_ H
    clear H; have p339 : 0 ≤ (x9_1 : Int) := ode_; have q339 : x9_1 < (t336.length : Int) := ode_
    obtain ⟨ad339, e339, hx339_0, hx339_1⟩ := at_T46 (Kd.R_reads' HO_7.out).2.2 x9_1 p339 q339
    cases e339; replace p339 := eq_true p339; replace q339 := eq_true q339
    go_wp2_with (first | ((with_reducible refine gate_dst (N := 5) rfl ?_); refine box_event ?hg (N := 5) ?hd (cs := #[.int .i64 0, .int .i64 0]) (t := 46) ?hr ?_; (case hd => rfl); (case hg => rfl); (case hr => first | (go_simp; done) | (go_simp; rfl)); intro gb340 hg w13 hbox hb; have n0_ := am_ (Kd.R_below (rr_ HO_3.out) hb); have n1_ := am_ (Kd.R_below (Kd.R_elderB (rr_ HO_7.out) gb340 (Nat.le_of_eq hg.symm)) hb); have n2_ := am_ (below_step (bw_ HB.out) hb); have n3_ := am_ (hbox); have n4_ := am_ ((by rw [hg]; exact (below_size (bw_ HB.out)) : w.heap.size ≤ gb340)); have n5_ := am_ ((by rw [hg]; exact (below_size (bw_ HB.out)) : w.heap.size ≤ gb340)); clear HO_3; clear HO_7; clear HB; have HO_3 := n0_; have HO_7 := n1_; have HB := n2_; have BK340 := n3_; have GW340 := n4_; have GE340 := n5_; clear n0_ n1_ n2_ n3_ n4_ n5_; clear hb hbox hg; have hcz14_0 : w13.cell? ⟨gb340, 0, none⟩ = some (.int .i64 0) := (blk_cell BK340.out 0).trans rfl; have hcz14_1 : w13.cell? ⟨gb340, 1, none⟩ = some (.int .i64 0) := (blk_cell BK340.out 1).trans rfl; have hfz14_0 := blk_frozen BK340.out 0; have hfz14_1 := blk_frozen BK340.out 1) | ((with_reducible refine gate_callee (f := 67) rfl ?_); refine goesL_ (some 20) rfl rfl Tryd.func67 (by kernel_rfl) rfl #[.string (a0.extract (((rd_T46 t336 x9_1).f0) : Int).toNat (((rd_T46 t336 x9_1).f1) : Int).toNat)] rfl gl_ ?_; (with_reducible refine (Z48.calls (a0.extract (((rd_T46 t336 x9_1).f0) : Int).toNat (((rd_T46 t336 x9_1).f1) : Int).toNat) t341 _ A11.out).mono ?_); rintro e w15 ⟨rfl, hb⟩; refine ⟨_, rfl, ?_⟩; have n0_ := am_ (Kd.R_below (by (with_reducible repeat (first | apply r1_ | apply r2_ | apply r3_)); exact (Kd.R_mono (Kd.R_far (p := ⟨gb340, 1, none⟩) (Kd.R_far (p := ⟨gb340, 0, none⟩) (Kd.R_types HO_3.out BK340.out (by decide)) (fun _ hk => hk.2) (.int .i64 ((rd_T46 t336 x9_1).f0))) (fun _ hk => hk.2) (.int .i64 ((rd_T46 t336 x9_1).f1))) (fun _ h_ => h_.1))) hb); have n1_ := am_ (Kd.R_below (by (with_reducible repeat (first | apply r1_ | apply r2_ | apply r3_)); exact (Kd.R_mono (Kd.R_far (p := ⟨gb340, 1, none⟩) (Kd.R_far (p := ⟨gb340, 0, none⟩) (Kd.R_mono HO_7.out (fun k_ hk => (⟨hk, hk.2⟩ : _ ∧ k_ ≠ gb340))) (fun _ hk => hk.2) (.int .i64 ((rd_T46 t336 x9_1).f0))) (fun _ hk => hk.2) (.int .i64 ((rd_T46 t336 x9_1).f1))) (fun _ h_ => h_.1))) hb); have n2_ := am_ (blk_below (g := gb340) (o := .cells #[.int .i64 ((rd_T46 t336 x9_1).f0), .int .i64 ((rd_T46 t336 x9_1).f1)] 46 (0, 0)) (by (with_reducible repeat (first | refine blk_drewN ?_ _ | refine blk_drew ?_ | refine blk_alloc ?_ _)); refine blk_put (cs := #[.int .i64 ((rd_T46 t336 x9_1).f0), .int .i64 0]) ?_ 1 _ rfl; (with_reducible repeat (first | refine blk_drewN ?_ _ | refine blk_drew ?_ | refine blk_alloc ?_ _)); refine blk_put (cs := #[.int .i64 0, .int .i64 0]) ?_ 0 _ rfl; (with_reducible repeat (first | refine blk_drewN ?_ _ | refine blk_drew ?_ | refine blk_alloc ?_ _)); exact BK340.out) hb); have n3_ := am_ (below_step (bs_ HB.out GE340.out) hb); clear HO_3; clear HO_7; clear BK340; clear HB; have HO_3 := n0_; have HO_7 := n1_; have BK340 := n2_; have HB := n3_; clear n0_ n1_ n2_ n3_; (try clear hb); (try clear hb2); (try clear hk); (try clear hi)) | ((with_reducible refine gate_builtin (b := .append) (xs := #[.tmp 13, .tmp 21]) rfl ?_); at_builtin; refine Kd.R_append Kd.string (w0 := w) w.heap.size rfl (.tmp 13) (.tmp 21) 26 9 (.string ⟨#[]⟩) 16 rfl Tryd.underlying26 info9 rfl (by decide) (by omega) u3 x3_1 t341 [.string t341] (fun _ => True) (fun _ => False) rfl rfl ?aP (fun _ hk => hk.elim) ?aF ?aO ?aB ?aS ?aL ?_; (case aP => exact rfl); (case aB => exact (bs_ HB.out GE340.out)); (case aF => exact (fun _ _ => trivial)); (case aO => exact (rr_ HO_3.out)); (case aS => exact (below_size (bs_ HB.out GE340.out))); (case aL => have := LMc12.out; omega); intro v343 w16 ho hb hg hat; rw [← Ny342.out] at ho; have n0_ := am_ (Kd.R_over' (rr_ HO_7.out) (Kd.R_typed (rr_ HO_3.out)) (by decide) hg); have n1_ := am_ (blk_grown (g := gb340) (o := .cells #[.int .i64 ((rd_T46 t336 x9_1).f0), .int .i64 ((rd_T46 t336 x9_1).f1)] 46 (0, 0)) (bk_ BK340.out) hg (Kd.R_ne HO_3.out BK340.out (by decide))); have n2_ := am_ (hb); have n3_ := am_ (ho); clear HO_7; clear BK340; clear HB; clear HO_3; have HO_7 := n0_; have BK340 := n1_; have HB := n2_; have HO344 := n3_; clear n0_ n1_ n2_ n3_; clear ho hb hg hat))
    go_roundg k1
    case measure => have := HK1.out; omega
    case rel => exact ⟨(y342), (wrap64 (x9_1 + 1)), tr_, H', ⟨by have := HK1.out; omega⟩, ⟨rr_ HO344.out⟩, ⟨by (with_reducible repeat (first | apply r1_ | apply r2_ | apply r3_)); exact Kd.R_mono HO_7.out (fun _ hk => trivial)⟩, ⟨bs_ HB.out GE340.out⟩⟩
   ·rw [if_neg c5] at H
    have c5b0 : decide (x9_1 < (t336.length : Int)) = false := decide_eq_false c5
    clear c5
    obtain rfl := Option.some.inj H
    go_wp2
    go_ret
    exact ⟨_, by first | rfl | (simp [errW_none, errW_some] <;> rfl) | (simp [*, errW_none, errW_some] <;> rfl), by (with_reducible repeat (first | apply r1_ | apply r2_ | apply r3_)); exact HO_3.out, bw_ HB.out⟩
mutual
def Z20.l0 : Nat → List Bool → List (S46) → Int → Int → Option (List Bool)
  | 0, _, _, _, _ => none
  | k + 1, x5, x11, x12, x13 => if x13 < x12 then (if 0 ≤ x13 then (if x13 < (x11.length : Int) then (Z20.l1 k x5 ((rd_T46 x11 x13).f0) x11 x12 x13 ((rd_T46 x11 x13).f0) ((rd_T46 x11 x13).f1)) else (none)) else (none)) else (some x5)
def Z20.l1 : Nat → List Bool → Int → List (S46) → Int → Int → Int → Int → Option (List Bool)
  | 0, _, _, _, _, _, _, _ => none
  | k + 1, x5, x8, x11, x12, x13, x350000, x350001 => if x8 < x350001 then (if 0 ≤ x8 then (if x8 < (x5.length : Int) then (Z20.l1 k (x5.set (x8 : Int).toNat true) (wrap64 (x8 + 1)) x11 x12 x13 x350000 x350001) else (none)) else (none)) else (Z20.l0 k x5 x11 x12 (wrap64 (x13 + 1)))
end
def Z20.f (k : Nat) (l0 : List (S46)) (a1 : Int) : Option (List Bool) := if 0 ≤ a1 then (if (a1 : Int).toNat ≤ 281474976710656 then (Z20.l0 k (List.replicate (a1 : Int).toNat false) l0 (l0.length : Int) 0) else (none)) else (none)
theorem Z20.mono_l : ∀ k, (∀ y0 y1 y2 y3, LeO (Z20.l0 k y0 y1 y2 y3) (Z20.l0 (k + 1) y0 y1 y2 y3)) ∧ (∀ y0 y1 y2 y3 y4 y5 y6, LeO (Z20.l1 k y0 y1 y2 y3 y4 y5 y6) (Z20.l1 (k + 1) y0 y1 y2 y3 y4 y5 y6))
  | 0 => ⟨fun _ _ _ _ r h => by simp [Z20.l0] at h, fun _ _ _ _ _ _ _ r h => by simp [Z20.l1] at h⟩
  | k + 1 => by
    obtain ⟨ih0, ih1⟩ := Z20.mono_l k
    refine ⟨?_, ?_⟩
    · intro y0 y1 y2 y3
      unfold Z20.l0
      repeat' first
      | (with_reducible exact ih0 _ _ _ _)
      | (with_reducible exact ih1 _ _ _ _ _ _ _)
      | (with_reducible exact LeO.refl _)
      | (with_reducible exact LeO.none _)
      | (with_reducible refine LeO.ite ?_ ?_)
      | (with_reducible refine LeO.bind ?_ (fun _ => ?_))
      | exact ih0 _ _ _ _
      | exact ih1 _ _ _ _ _ _ _
      | exact LeO.none _
      | refine LeO.ite ?_ ?_
      | refine LeO.bind ?_ (fun _ => ?_)
    · intro y0 y1 y2 y3 y4 y5 y6
      unfold Z20.l1
      repeat' first
      | (with_reducible exact ih0 _ _ _ _)
      | (with_reducible exact ih1 _ _ _ _ _ _ _)
      | (with_reducible exact LeO.refl _)
      | (with_reducible exact LeO.none _)
      | (with_reducible refine LeO.ite ?_ ?_)
      | (with_reducible refine LeO.bind ?_ (fun _ => ?_))
      | exact ih0 _ _ _ _
      | exact ih1 _ _ _ _ _ _ _
      | exact LeO.none _
      | refine LeO.ite ?_ ?_
      | refine LeO.bind ?_ (fun _ => ?_)
theorem Z20.mono : ∀ a0 a1 k, LeO (Z20.f k a0 a1) (Z20.f (k + 1) a0 a1) := by
  intro a0 a1 k
  obtain ⟨ih0, ih1⟩ := Z20.mono_l k
  unfold Z20.f
  repeat' first
      | (with_reducible exact ih0 _ _ _ _)
      | (with_reducible exact ih1 _ _ _ _ _ _ _)
      | (with_reducible exact LeO.refl _)
      | (with_reducible exact LeO.none _)
      | (with_reducible refine LeO.ite ?_ ?_)
      | (with_reducible refine LeO.bind ?_ (fun _ => ?_))
      | exact ih0 _ _ _ _
      | exact ih1 _ _ _ _ _ _ _
      | exact LeO.none _
      | refine LeO.ite ?_ ?_
      | refine LeO.bind ?_ (fun _ => ?_)
set_option maxHeartbeats 8000000 in
set_option maxRecDepth 100000 in
theorem Z20.calls (k : Nat) (A0 : Option Addr) (c0 : Nat) (l0 : List (S46)) (a1 : Int) (r : List Bool) (w : World) (hr0 : Kd.C k46 w A0 l0.length l0) (hc0 : l0.length ≤ c0) (h : Z20.f k l0 a1 = some r) :
  Calls Tryd.prog 96 #[.slice A0 l0.length c0, .int .i64 a1] w fun e w' => ∃ v0_ : Value, e = .returned (v0_) ∧ Kd.R Kd.bool 4 w' w.heap.size (fun _ => True) v0_ r ∧ Below w.heap.size w w' := by
 have hu46 := Tryd.underlying46
 have HR0 := am_ hr0; have HC0 := am_ hc0; clear hr0 hc0
 have HB := am_ (Below.refl w.heap.size w)
 have H : (if 0 ≤ a1 then (if (a1 : Int).toNat ≤ 281474976710656 then (Z20.l0 k (List.replicate (a1 : Int).toNat false) l0 (l0.length : Int) 0) else (none)) else (none)) = some r := h
 clear h
 by_cases c3 : 0 ≤ a1
 case neg => exact (nn_ c3 H).elim
 rw [if_pos c3] at H; have c3b0 := eq_true c3; have c3b1 := decide_eq_true c3; clear c3
 by_cases c4 : (a1 : Int).toNat ≤ 281474976710656
 case neg => exact (nn_ c4 H).elim
 rw [if_pos c4] at H; have c4b0 := eq_true c4; have c4b1 := decide_eq_true c4; clear c4
 obtain ⟨y345, hy345⟩ : ∃ y_ : List Bool, y_ = (List.replicate (a1 : Int).toNat false) := ⟨_, rfl⟩
 replace H : (Z20.l0 k y345 l0 (l0.length : Int) 0) = some r := by first | (rw [hy345]; with_reducible exact H) | (have H2_ := (Option.bind_some _ _).symm.trans H; rw [hy345]; with_reducible exact H2_) | (have H2_ := (Option.bind_some _ _).symm.trans H; with_reducible exact H2_) | with_reducible exact H | (rw [hy345]; exact H) | exact H
 have Ny345 := am_ hy345; clear hy345
 have H' := am_ H
 clear H
 go_enter Tryd.func96, Tryd.ntmps96
 go_wp2_with (first | ((with_reducible refine gate_dst (N := 10) rfl ?_); refine Kd.R_make Kd.bool _ 4 rfl (N := 10) rfl 81 _ _ rfl a1 rfl rfl Tryd.underlying81 (.bool false) 1 info4 rfl (by decide) (by omega) false (ok := fun _ => True) (okp := fun _ => True) rfl (fun _ hk => hk) trivial (ode_) (Nat.le_trans (Nat.mul_le_mul_right _ (ode_ : a1.toNat ≤ 281474976710656)) (by omega)) (Below.refl _ _) (Nat.le_refl _) ?_; intro v346 w5 ho6 hb hg_ hnew_; clear hg_ hnew_; (first | rw [← Ny345.out] at ho6 | (simp only [Int.reduceToNat] at ho6; rw [← Ny345.out] at ho6)); have n0_ := am_ (Kd.R_lower ho6 (below_size (bw_ HB.out))); have n1_ := am_ (below_step (bw_ HB.out) hb); clear HB; have HO347 := n0_; have HB := n1_; clear n0_ n1_; clear hb ho6))
 go_loopg [13] k (fun kq v13 w' => ∃ (x5_1 : List Bool) (x13_1 : Int), v13 = .int .i64 x13_1 ∧ Aside0 (Z20.l0 kq x5_1 l0 (l0.length : Int) x13_1 = some r) ∧ Aside0 (kq ≤ k) ∧ Aside0 (Kd.R Kd.bool 4 w' w.heap.size (fun _ => True) v346 x5_1) ∧ Aside0 (Below w.heap.size w w'))
 case atStart => exact ⟨(y345), (0), tr_, H', ⟨Nat.le_refl _⟩, ⟨rr_ HO347.out⟩, ⟨bw_ HB.out⟩⟩
 case round =>
  clear H'; (try clear p2); (try clear c3); (try clear c3b0); (try clear c3b1); (try clear c4); (try clear c4b0); (try clear c4b1); obtain ⟨x5_1, x13_1, rfl, HA, HK1, HO_5, HB⟩ := hrel
  cases gk with
  | zero => exact absurd HA.out (by simp [Z20.l0])
  | succ k1 =>
   have H := HA.out
   clear HA
   simp only [Z20.l0] at H
   by_cases c7 : x13_1 < (l0.length : Int)
   ·rw [if_pos c7] at H
    have c7b0 := decide_eq_true c7; clear c7
    by_cases c8 : 0 ≤ x13_1
    case neg => exact (nn_ c8 H).elim
    rw [if_pos c8] at H; have c8b0 := decide_eq_true c8; clear c8
    by_cases c9 : x13_1 < (l0.length : Int)
    case neg => exact (nn_ c9 H).elim
    rw [if_pos c9] at H; have c9b0 := decide_eq_true c9; clear c9
    have H' := am_ H
    clear H; have p348 : 0 ≤ (x13_1 : Int) := ode_; have q348 : x13_1 < (l0.length : Int) := ode_
    obtain ⟨ad348, e348, hx348_0, hx348_1⟩ := at_T46 HR0.out x13_1 p348 q348
    cases e348
    first | replace hx348_0 := (HB.out.cell (World.block_lt_of_cell? w _ hx348_0)).trans hx348_0 | skip
    first | replace hx348_1 := (HB.out.cell (World.block_lt_of_cell? w _ hx348_1)).trans hx348_1 | skip
    replace p348 := eq_true p348; replace q348 := eq_true q348
    go_wp2_with (first | ((with_reducible refine gate_dst (N := 7) rfl ?_); refine box_event ?hg (N := 7) ?hd (cs := #[.int .i64 0, .int .i64 0]) (t := 46) ?hr ?_; (case hd => rfl); (case hg => rfl); (case hr => first | (go_simp; done) | (go_simp; rfl)); intro gb349 hg w10 hbox hb; have n0_ := am_ (Kd.R_below (rr_ HO_5.out) hb); have n1_ := am_ (below_step (bw_ HB.out) hb); have n2_ := am_ (hbox); have n3_ := am_ ((by rw [hg]; exact (below_size (bw_ HB.out)) : w.heap.size ≤ gb349)); have n4_ := am_ ((by rw [hg]; exact (below_size (bw_ HB.out)) : w.heap.size ≤ gb349)); clear HO_5; clear HB; have HO_5 := n0_; have HB := n1_; have BK349 := n2_; have GW349 := n3_; have GE349 := n4_; clear n0_ n1_ n2_ n3_ n4_; clear hb hbox hg; have hcz11_0 : w10.cell? ⟨gb349, 0, none⟩ = some (.int .i64 0) := (blk_cell BK349.out 0).trans rfl; have hcz11_1 : w10.cell? ⟨gb349, 1, none⟩ = some (.int .i64 0) := (blk_cell BK349.out 1).trans rfl; have hfz11_0 := blk_frozen BK349.out 0; have hfz11_1 := blk_frozen BK349.out 1))
    go_loopg [8] k1 (fun kq v8 w' => ∃ (x5_2 : List Bool) (x8_2 : Int), v8 = .int .i64 x8_2 ∧ Aside0 (Z20.l1 kq x5_2 x8_2 l0 (l0.length : Int) x13_1 ((rd_T46 l0 x13_1).f0) ((rd_T46 l0 x13_1).f1) = some r) ∧ Aside0 (kq ≤ k1) ∧ Aside0 (Kd.R Kd.bool 4 w' w.heap.size (fun _ => True) v346 x5_2) ∧ Aside0 (w'.heap[gb349]? = some (.cells #[.int .i64 ((rd_T46 l0 x13_1).f0), .int .i64 ((rd_T46 l0 x13_1).f1)] 46 (0, 0))) ∧ Aside0 (Below w.heap.size w w'))
    case atStart => exact ⟨(x5_1), ((rd_T46 l0 x13_1).f0), tr_, H', ⟨Nat.le_refl _⟩, ⟨by (with_reducible repeat (first | apply r1_ | apply r2_ | apply r3_)); exact Kd.R_mono (Kd.R_far (p := ⟨gb349, 1, none⟩) (Kd.R_far (p := ⟨gb349, 0, none⟩) (Kd.R_types HO_5.out BK349.out (by decide)) (fun _ hk => hk.2) (.int .i64 ((rd_T46 l0 x13_1).f0))) (fun _ hk => hk.2) (.int .i64 ((rd_T46 l0 x13_1).f1))) (fun _ hk => trivial)⟩, ⟨by (with_reducible repeat (first | refine blk_drewN ?_ _ | refine blk_drew ?_ | refine blk_alloc ?_ _)); refine blk_put (cs := #[.int .i64 ((rd_T46 l0 x13_1).f0), .int .i64 0]) ?_ 1 _ rfl; (with_reducible repeat (first | refine blk_drewN ?_ _ | refine blk_drew ?_ | refine blk_alloc ?_ _)); refine blk_put (cs := #[.int .i64 0, .int .i64 0]) ?_ 0 _ rfl; (with_reducible repeat (first | refine blk_drewN ?_ _ | refine blk_drew ?_ | refine blk_alloc ?_ _)); exact BK349.out⟩, ⟨bs_ HB.out GE349.out⟩⟩
    case round =>
     clear H'; (try clear p2); (try clear c3); (try clear c3b0); (try clear c3b1); (try clear p3); (try clear q3); (try clear hx3); (try clear c4); (try clear c4b0); (try clear c4b1); (try clear c7); (try clear c7b0); (try clear c8); (try clear c8b0); (try clear c9); (try clear c9b0); (try clear hcz11_0); (try clear hcz11_1); (try clear hfz11_0); (try clear hfz11_1); (try clear hx348_0); (try clear hx348_1); (try clear p2); (try clear p348); (try clear q348); obtain ⟨x5_2, x8_2, rfl, HA, HK2, HO_5, BK349, HB⟩ := hrel
     cases gk with
     | zero => exact absurd HA.out (by simp [Z20.l1])
     | succ k2 =>
      have H := HA.out
      clear HA
      simp only [Z20.l1] at H
      by_cases c12 : x8_2 < ((rd_T46 l0 x13_1).f1)
      ·rw [if_pos c12] at H
       have c12b0 := decide_eq_true c12; clear c12
       by_cases c13 : 0 ≤ x8_2
       case neg => exact (nn_ c13 H).elim
       rw [if_pos c13] at H; have c13b0 := decide_eq_true c13; clear c13
       by_cases c14 : x8_2 < (x5_2.length : Int)
       case neg => exact (nn_ c14 H).elim
       rw [if_pos c14] at H; have c14b0 := decide_eq_true c14; clear c14
       obtain ⟨y350, hy350⟩ : ∃ y_ : List Bool, y_ = (x5_2.set (x8_2 : Int).toNat true) := ⟨_, rfl⟩
       replace H : (Z20.l1 k2 y350 (wrap64 (x8_2 + 1)) l0 (l0.length : Int) x13_1 ((rd_T46 l0 x13_1).f0) ((rd_T46 l0 x13_1).f1)) = some r := by first | (rw [hy350]; with_reducible exact H) | (have H2_ := (Option.bind_some _ _).symm.trans H; rw [hy350]; with_reducible exact H2_) | (have H2_ := (Option.bind_some _ _).symm.trans H; with_reducible exact H2_) | with_reducible exact H | (rw [hy350]; exact H) | exact H
       have Ny350 := am_ hy350; clear hy350
       have H' := am_ H
       clear H
       have hcz16_0 : wr.cell? ⟨gb349, 0, none⟩ = some (.int .i64 ((rd_T46 l0 x13_1).f0)) := (blk_cell BK349.out 0).trans rfl
       have hcz16_1 : wr.cell? ⟨gb349, 1, none⟩ = some (.int .i64 ((rd_T46 l0 x13_1).f1)) := (blk_cell BK349.out 1).trans rfl
       have hfz16_0 := blk_frozen BK349.out 0
       have hfz16_1 := blk_frozen BK349.out 1
       have p15 : 0 ≤ (x8_2 : Int) := ode_; have q15 : (x8_2 : Int) < ((x5_2.length : Int) : Int) := ode_
       obtain ⟨go15, co15, eo15, gb15, gl15, cl15, HG15⟩ := Kd.R_form HO_5.out (by omega)
       (first | cases eo15 | (injection eo15 with ea_ en_ ec_; (first | subst ea_ | (injection ea_ with ea_; subst ea_)); subst ec_; clear en_))
       have GB15 := am_ gb15; have GG15 := am_ HG15; clear gb15 gl15 HG15
       obtain ⟨hx15_0, hf15_0⟩ := Kd.R_celln false HO_5.out (x8_2 : Int) p15 q15
       replace p15 := eq_true p15; replace q15 := eq_true q15
       have HP17 := Kd.R_putg HO_5.out (x8_2 : Int) true
       go_wp2_with (first | ((with_reducible refine gate_store (t := 4) (p := 27) rfl ?_); refine store_event (t := 4) (p := 27) (v := ?vo_w18) (w1 := (wr.setCell ⟨go15, (x8_2 : Int).toNat, none⟩ (.bool true))) ?hg ?ho ?hn ?hr ?_; (case ho => rfl); (case hg => rfl); (case hn => rfl); (case hr => first | (go_simp; done) | (go_simp; rfl)); intro w18 hw; have hg : wr.grownBy w18 (some go15) := (by rw [hw]; exact HP17.2); have hp_ : Kd.R Kd.bool 4 w18 w.heap.size (fun _ => True) (.slice (some ⟨go15, 0, none⟩) x5_2.length co15) y350 := (by rw [hw, Ny350.out]; exact HP17.1); clear HP17; have n0_ := am_ (hp_); have n1_ := am_ (blk_grown (g := gb349) (o := .cells #[.int .i64 ((rd_T46 l0 x13_1).f0), .int .i64 ((rd_T46 l0 x13_1).f1)] 46 (0, 0)) (bk_ BK349.out) hg (Kd.R_ne HO_5.out BK349.out (by decide))); have n2_ := am_ ((by rw [hw]; exact below_set (HB.out) GB15.out : Below w.heap.size w w18)); clear HO_5; clear BK349; clear HB; have HO_5 := n0_; have BK349 := n1_; have HB := n2_; clear n0_ n1_ n2_; clear hg hw hp_))
       go_roundg k2
       case measure => have := HK1.out; have := HK2.out; omega
       case rel => exact ⟨(y350), (wrap64 (x8_2 + 1)), tr_, H', ⟨by have := HK1.out; have := HK2.out; omega⟩, ⟨rr_ HO_5.out⟩, ⟨bk_ BK349.out⟩, ⟨bs_ HB.out GE349.out⟩⟩
      ·rw [if_neg c12] at H
       have c12b0 : decide (x8_2 < ((rd_T46 l0 x13_1).f1)) = false := decide_eq_false c12
       clear c12
       have H' := am_ H
       clear H
       have hcz19_0 : wr.cell? ⟨gb349, 0, none⟩ = some (.int .i64 ((rd_T46 l0 x13_1).f0)) := (blk_cell BK349.out 0).trans rfl
       have hcz19_1 : wr.cell? ⟨gb349, 1, none⟩ = some (.int .i64 ((rd_T46 l0 x13_1).f1)) := (blk_cell BK349.out 1).trans rfl
       have hfz19_0 := blk_frozen BK349.out 0
       have hfz19_1 := blk_frozen BK349.out 1
       go_wp2
       go_roundg k2
       case measure => have := HK1.out; have := HK2.out; omega
       case rel => exact ⟨(x5_2), (wrap64 (x13_1 + 1)), tr_, H', ⟨by have := HK1.out; have := HK2.out; omega⟩, ⟨rr_ HO_5.out⟩, ⟨bs_ HB.out GE349.out⟩⟩
   ·rw [if_neg c7] at H
    have c7b0 : decide (x13_1 < (l0.length : Int)) = false := decide_eq_false c7
    clear c7
    obtain rfl := Option.some.inj H
    go_wp2
    go_ret
    exact ⟨_, by first | rfl | (simp [errW_none, errW_some] <;> rfl) | (simp [*, errW_none, errW_some] <;> rfl), by (with_reducible repeat (first | apply r1_ | apply r2_ | apply r3_)); exact HO_5.out, bw_ HB.out⟩
def Z58.f (a0 : ByteArray) : Option (Int × Int) := some (((Lib.decodeGo a0).1 : Int), ((Lib.decodeGo a0).2 : Int))
set_option maxHeartbeats 8000000 in
set_option maxRecDepth 100000 in
theorem Z58.calls (a0 : ByteArray) (r1 : Int) (r2 : Int) (w : World) (hGl : Wd w) (h : Z58.f a0 = some (r1, r2)) :
    Calls Tryd.prog 97 #[.string a0] w fun e w' => e = .returned (.tuple #[.int .i32 r1, .int .i64 r2]) ∧ Below w.heap.size w w' := by
  unfold Z58.f at h
  obtain ⟨rfl, rfl⟩ : ((Lib.decodeGo a0).1 : Int) = r1 ∧ ((Lib.decodeGo a0).2 : Int) = r2 := by simpa using h
  refine (Any.utf8_DecodeRuneInString Tryd.dec197 a0 w hGl.2).mono ?_
  rintro e w' ⟨rfl, hb⟩
  exact ⟨rfl, hb⟩
mutual
def Z14.l0 : Nat → ByteArray → List Bool → List Bool → Int → Option (List Bool)
  | 0, _, _, _, _ => none
  | k + 1, x0, x5, x6, x7 => if x7 < (x0.size : Int) then (if 0 ≤ x7 then (if x7 ≤ (x0.size : Int) then ((Z58.f (x0.extract (x7 : Int).toNat x0.size)).bind fun bt357 => (if x7 ≤ (wrap64 (x7 + bt357.2)) then (if (wrap64 (x7 + bt357.2)) ≤ (x5.length : Int) then ((Z37.f k ((x5.take ((wrap64 (x7 + bt357.2)) : Int).toNat).drop (x7 : Int).toNat) true).bind fun t363 => (Z14.l1 k x0 x5 x6 x7 bt357.2 t363 bt357.2 0)) else (none)) else (none))) else (none)) else (none)) else (some x6)
def Z14.l1 : Nat → ByteArray → List Bool → List Bool → Int → Int → Bool → Int → Int → Option (List Bool)
  | 0, _, _, _, _, _, _, _, _ => none
  | k + 1, x0, x5, x6, x7, x9, x10, x37, x38 => if x38 < x37 then (if 0 ≤ (wrap64 (x7 + x38)) then (if (wrap64 (x7 + x38)) < (x6.length : Int) then (Z14.l1 k x0 x5 (x6.set ((wrap64 (x7 + x38)) : Int).toNat x10) x7 x9 x10 x37 (wrap64 (x38 + 1))) else (none)) else (none)) else (Z14.l0 k x0 x5 x6 (wrap64 (x7 + x9)))
end
def Z14.f (k : Nat) (a0 : ByteArray) (l1 : List (S46)) : Option (List Bool) := (Z20.f k l1 (a0.size : Int)).bind fun t351 => (if 0 ≤ (a0.size : Int) then (if ((a0.size : Int) : Int).toNat ≤ 281474976710656 then (Z14.l0 k a0 t351 (List.replicate ((a0.size : Int) : Int).toNat false) 0) else (none)) else (none))
theorem Z14.mono_l : ∀ k, (∀ y0 y1 y2 y3, LeO (Z14.l0 k y0 y1 y2 y3) (Z14.l0 (k + 1) y0 y1 y2 y3)) ∧ (∀ y0 y1 y2 y3 y4 y5 y6 y7, LeO (Z14.l1 k y0 y1 y2 y3 y4 y5 y6 y7) (Z14.l1 (k + 1) y0 y1 y2 y3 y4 y5 y6 y7))
  | 0 => ⟨fun _ _ _ _ r h => by simp [Z14.l0] at h, fun _ _ _ _ _ _ _ _ r h => by simp [Z14.l1] at h⟩
  | k + 1 => by
    obtain ⟨ih0, ih1⟩ := Z14.mono_l k
    refine ⟨?_, ?_⟩
    · intro y0 y1 y2 y3
      unfold Z14.l0
      repeat' first
      | (with_reducible exact ih0 _ _ _ _)
      | (with_reducible exact ih1 _ _ _ _ _ _ _ _)
      | (with_reducible exact Z20.mono _ _ _)
      | (with_reducible exact Z37.mono _ _ _)
      | (with_reducible exact LeO.refl _)
      | (with_reducible exact LeO.none _)
      | (with_reducible refine LeO.ite ?_ ?_)
      | (with_reducible refine LeO.bind ?_ (fun _ => ?_))
      | exact ih0 _ _ _ _
      | exact ih1 _ _ _ _ _ _ _ _
      | exact LeO.none _
      | refine LeO.ite ?_ ?_
      | refine LeO.bind ?_ (fun _ => ?_)
    · intro y0 y1 y2 y3 y4 y5 y6 y7
      unfold Z14.l1
      repeat' first
      | (with_reducible exact ih0 _ _ _ _)
      | (with_reducible exact ih1 _ _ _ _ _ _ _ _)
      | (with_reducible exact Z20.mono _ _ _)
      | (with_reducible exact Z37.mono _ _ _)
      | (with_reducible exact LeO.refl _)
      | (with_reducible exact LeO.none _)
      | (with_reducible refine LeO.ite ?_ ?_)
      | (with_reducible refine LeO.bind ?_ (fun _ => ?_))
      | exact ih0 _ _ _ _
      | exact ih1 _ _ _ _ _ _ _ _
      | exact LeO.none _
      | refine LeO.ite ?_ ?_
      | refine LeO.bind ?_ (fun _ => ?_)
theorem Z14.mono : ∀ a0 a1 k, LeO (Z14.f k a0 a1) (Z14.f (k + 1) a0 a1) := by
  intro a0 a1 k
  obtain ⟨ih0, ih1⟩ := Z14.mono_l k
  unfold Z14.f
  repeat' first
      | (with_reducible exact ih0 _ _ _ _)
      | (with_reducible exact ih1 _ _ _ _ _ _ _ _)
      | (with_reducible exact Z20.mono _ _ _)
      | (with_reducible exact Z37.mono _ _ _)
      | (with_reducible exact LeO.refl _)
      | (with_reducible exact LeO.none _)
      | (with_reducible refine LeO.ite ?_ ?_)
      | (with_reducible refine LeO.bind ?_ (fun _ => ?_))
      | exact ih0 _ _ _ _
      | exact ih1 _ _ _ _ _ _ _ _
      | exact LeO.none _
      | refine LeO.ite ?_ ?_
      | refine LeO.bind ?_ (fun _ => ?_)
end Go.Proofs.YtolcpmdojlbhcaaDoor.Px
