/- A part of the proof of textsCovered. No conditions. Laid by program over the kit's print and words. -/
import Derived.Test.YtolcpmdojlbhcaaDoorZyPxx0
import Derived.Test.YtolcpmdojlbhcaaDoorZyPxx2
import Derived.Test.YtolcpmdojlbhcaaDoorZyPxx3
namespace Go.Proofs.YtolcpmdojlbhcaaDoor.Px
open Go.RowKit Go.Proofs.YtolcpmdojlbhcaaDoor.GBase Go.Proofs.YtolcpmdojlbhcaaDoorW.PrintWords Go.Proofs.YtolcpmdojlbhcaaDoorW.PrintLast Go.Proofs.YtolcpmdojlbhcaaDoorW.PrintMore
attribute [local go_sem] str_leq max2_int min2_int max_two min_two max_three min_three max_four min_four
set_option linter.unusedVariables false
set_option linter.unusedSimpArgs false
def Z57.f (a0 : ByteArray) (a1 : ByteArray) : Option (Bool) := if (a0.size : Int) ≥ (a1.size : Int) then (if 0 ≤ (wrap64 ((a0.size : Int) - (a1.size : Int))) then (if (wrap64 ((a0.size : Int) - (a1.size : Int))) ≤ (a0.size : Int) then (some ((a0.extract ((wrap64 ((a0.size : Int) - (a1.size : Int))) : Int).toNat a0.size).toList == a1.toList)) else (none)) else (none)) else (some false)
set_option maxHeartbeats 8000000 in
set_option maxRecDepth 100000 in
theorem Z57.calls (a0 : ByteArray) (a1 : ByteArray) (r : Bool) (w : World) (h : Z57.f a0 a1 = some r) :
  Calls Tryd.prog 99 #[.string a0, .string a1] w fun e w' => e = .returned (.bool r) ∧ Drawn0 w w' := by
 have H : (if (a0.size : Int) ≥ (a1.size : Int) then (if 0 ≤ (wrap64 ((a0.size : Int) - (a1.size : Int))) then (if (wrap64 ((a0.size : Int) - (a1.size : Int))) ≤ (a0.size : Int) then (some ((a0.extract ((wrap64 ((a0.size : Int) - (a1.size : Int))) : Int).toNat a0.size).toList == a1.toList)) else (none)) else (none)) else (some false)) = some r := h
 clear h
 by_cases c3 : (a0.size : Int) ≥ (a1.size : Int)
 ·rw [if_pos c3] at H
  have c3b0 : decide ((a1.size : Int) ≤ (a0.size : Int)) = true := decide_eq_true c3
  have c3b1 : decide (a1.size ≤ a0.size) = true := decide_eq_true (Int.ofNat_le.mp c3)
  clear c3
  obtain ⟨ji4, hji4⟩ : ∃ j_ : Int, (wrap64 ((a0.size : Int) - (a1.size : Int))) = j_ := ⟨_, rfl⟩
  replace H : (if 0 ≤ (ji4) then (if (ji4) ≤ (a0.size : Int) then (some ((a0.extract ((ji4) : Int).toNat a0.size).toList == a1.toList)) else (none)) else (none)) = some r := by first | (rw [hji4] at H; exact H) | (simp only [hji4] at H ⊢; exact H)
  have hji4w : (IntKind.i64.wrap ((a0.size : Int) - (a1.size : Int))) = ji4 := (i64_w _).trans hji4
  by_cases c5 : 0 ≤ (ji4)
  case neg => exact (nn_ c5 H).elim
  rw [if_pos c5] at H; have c5b0 := eq_true c5; have c5b1 := decide_eq_true c5; clear c5
  by_cases c6 : (ji4) ≤ (a0.size : Int)
  case neg => exact (nn_ c6 H).elim
  rw [if_pos c6] at H; have c6b0 := eq_true c6; have c6b1 := decide_eq_true c6; clear c6
  obtain rfl := Option.some.inj H
  go_enter Tryd.func99, Tryd.ntmps99
  go_wp2
  go_ret
  exact ⟨by first | rfl | (simp; done) | (simp only [← hji4] <;> (first | rfl | simp)) | (simp [*]; done), by repeat (first | exact Drawn0.refl _ | apply Drawn0.step)⟩
 ·rw [if_neg c3] at H
  have c3b0 : decide ((a1.size : Int) ≤ (a0.size : Int)) = false := decide_eq_false c3
  have c3b1 : decide (a1.size ≤ a0.size) = false := decide_eq_false (fun h => c3 (Int.ofNat_le.mpr h))
  clear c3
  obtain rfl := Option.some.inj H
  go_enter Tryd.func99, Tryd.ntmps99
  go_wp2
  go_ret
  exact ⟨by first | rfl | (simp; done) | (simp [*]; done), by repeat (first | exact Drawn0.refl _ | apply Drawn0.step)⟩
def Z46.f (a0 : ByteArray) (a1 : ByteArray) : Option (Bool) := (Z57.f a0 a1).bind fun t148 => (some t148)
set_option maxHeartbeats 8000000 in
set_option maxRecDepth 100000 in
theorem Z46.calls (a0 : ByteArray) (a1 : ByteArray) (r : Bool) (w : World) (h : Z46.f a0 a1 = some r) :
    Calls Tryd.prog 89 #[.string a0, .string a1] w fun e w' => e = .returned (.bool r) ∧ Drawn0 w w' := by
  have H : ((Z57.f a0 a1).bind fun t148 => (some t148)) = some r := h
  clear h; replace H := Option.bind_eq_some_iff.mp H; obtain ⟨t148, A30, H⟩ := H
  replace H : (some t148) = some r := H
  have A3 := am_ A30; clear A30
  obtain rfl := Option.some.inj H
  go_enter Tryd.func89, Tryd.ntmps89
  go_wp2_with (first | ((with_reducible refine gate_callee (f := 99) rfl ?_); refine goesL_ (some 7) rfl rfl Tryd.func99 (by kernel_rfl) rfl #[.string a0, .string a1] rfl gl_ ?_; (with_reducible refine (Z57.calls a0 a1 t148 _ A3.out).mono ?_); rintro e w' ⟨rfl, ⟨nd, rfl⟩⟩; refine ⟨_, rfl, ?_⟩))
  go_ret
  exact ⟨by first | rfl | (simp; done) | (simp [*]; done), by repeat (first | exact Drawn0.refl _ | apply Drawn0.step)⟩
def Z54.f (a0 : ByteArray) : Option (Bool) := if a0.size ≤ 9223372036854775807 then (some (Lib.validD a0.data.toList)) else (none)
set_option maxHeartbeats 8000000 in
set_option maxRecDepth 100000 in
theorem Z54.calls (a0 : ByteArray) (r : Bool) (w : World) (hGl : Wd w) (h : Z54.f a0 = some r) :
    Calls Tryd.prog 42 #[.string a0] w fun e w' => e = .returned (.bool r) ∧ Below w.heap.size w w' := by
  unfold Z54.f at h
  by_cases hs : a0.size ≤ 9223372036854775807
  · rw [if_pos hs] at h
    obtain rfl := Option.some.inj h
    refine (Any.utf8_ValidString Tryd.valid196 a0 w hs hGl.2).mono ?_
    rintro e w' ⟨rfl, hb⟩
    exact ⟨rfl, hb⟩
  · rw [if_neg hs] at h
    exact absurd h (by simp)
def Z33.l0 : Nat → ByteArray → Bool → Int → Int → Option (Bool)
  | 0, _, _, _, _ => none
  | k + 1, x0, x1, x8, x9 => if x9 < x8 then (if 0 ≤ x9 then (if x9 < (x0.size : Int) then (if (bt x0 x9) < 32 then (if x1 = true then (if ((bt x0 x9) = 10) then (if (bt x0 x9) = 127 then (some false) else (Z33.l0 k x0 x1 x8 (wrap64 (x9 + 1)))) else (some false)) else (some false)) else (if (bt x0 x9) = 127 then (some false) else (Z33.l0 k x0 x1 x8 (wrap64 (x9 + 1))))) else (none)) else (none)) else ((Z54.f x0).bind fun t149 => (some t149))
def Z33.f (k : Nat) (a0 : ByteArray) (a1 : Bool) : Option (Bool) := Z33.l0 k a0 a1 (a0.size : Int) 0
theorem Z33.mono_l : ∀ k, (∀ y0 y1 y2 y3, LeO (Z33.l0 k y0 y1 y2 y3) (Z33.l0 (k + 1) y0 y1 y2 y3))
  | 0 => fun _ _ _ _ r h => by simp [Z33.l0] at h
  | k + 1 => by
    have ih0 := Z33.mono_l k
    · intro y0 y1 y2 y3
      unfold Z33.l0
      repeat' first
      | (with_reducible exact ih0 _ _ _ _)
      | (with_reducible exact LeO.refl _)
      | (with_reducible exact LeO.none _)
      | (with_reducible refine LeO.ite ?_ ?_)
      | (with_reducible refine LeO.bind ?_ (fun _ => ?_))
      | exact ih0 _ _ _ _
      | exact LeO.none _
      | refine LeO.ite ?_ ?_
      | refine LeO.bind ?_ (fun _ => ?_)
theorem Z33.mono : ∀ a0 a1 k, LeO (Z33.f k a0 a1) (Z33.f (k + 1) a0 a1) := by
  intro a0 a1 k
  have ih0 := Z33.mono_l k
  unfold Z33.f
  repeat' first
      | (with_reducible exact ih0 _ _ _ _)
      | (with_reducible exact LeO.refl _)
      | (with_reducible exact LeO.none _)
      | (with_reducible refine LeO.ite ?_ ?_)
      | (with_reducible refine LeO.bind ?_ (fun _ => ?_))
      | exact ih0 _ _ _ _
      | exact LeO.none _
      | refine LeO.ite ?_ ?_
      | refine LeO.bind ?_ (fun _ => ?_)
set_option maxHeartbeats 8000000 in
set_option maxRecDepth 100000 in
theorem Z33.calls (k : Nat) (a0 : ByteArray) (a1 : Bool) (r : Bool) (w : World) (hGl : Wd w) (h : Z33.f k a0 a1 = some r) :
  Calls Tryd.prog 106 #[.string a0, .bool a1] w fun e w' => e = .returned (.bool r) ∧ Below w.heap.size w w' := by
 have HGl := am_ hGl; clear hGl
 have HB := am_ (Below.refl w.heap.size w)
 have H : (Z33.l0 k a0 a1 (a0.size : Int) 0) = some r := h
 clear h
 have H' := am_ H
 clear H
 go_enter Tryd.func106, Tryd.ntmps106
 go_wp2
 go_loopg [9] k (fun kq v9 w' => ∃ (x9_1 : Int), v9 = .int .i64 x9_1 ∧ Aside0 (Z33.l0 kq a0 a1 (a0.size : Int) x9_1 = some r) ∧ Aside0 (kq ≤ k) ∧ Aside0 (Below w.heap.size w w'))
 case atStart => exact ⟨(0), tr_, H', ⟨Nat.le_refl _⟩, ⟨bw_ HB.out⟩⟩
 case round =>
  clear H'; (try clear c1); (try clear p2); obtain ⟨x9_1, rfl, HA, HK1, HB⟩ := hrel
  cases gk with
  | zero => exact absurd HA.out (by simp [Z33.l0])
  | succ k1 =>
   have H := HA.out
   clear HA
   simp only [Z33.l0] at H
   by_cases c3 : x9_1 < (a0.size : Int)
   ·rw [if_pos c3] at H
    have c3b0 := decide_eq_true c3; clear c3
    by_cases c4 : 0 ≤ x9_1
    case neg => exact (nn_ c4 H).elim
    rw [if_pos c4] at H; have c4b0 := decide_eq_true c4; clear c4
    by_cases c5 : x9_1 < (a0.size : Int)
    case neg => exact (nn_ c5 H).elim
    rw [if_pos c5] at H; have c5b0 := decide_eq_true c5; clear c5
    by_cases c7 : (bt a0 x9_1) < 32
    ·rw [if_pos c7] at H
     have c7b0 := decide_eq_true c7; clear c7
     by_cases c8 : a1 = true
     ·subst c8
      have H1 : (if ((bt a0 x9_1) = 10) then (if (bt a0 x9_1) = 127 then (some false) else (Z33.l0 k1 a0 true (a0.size : Int) (wrap64 (x9_1 + 1)))) else (some false)) = some r := by rw [if_pos rfl] at H; exact H
      clear H
      have H := H1
      clear H1
      by_cases c9 : ((bt a0 x9_1) = 10)
      ·rw [if_pos c9] at H
       have c9b0 : ((bt a0 x9_1) == 10) = true := beq_iff_eq.mpr c9
       have c9b1 : ((bt a0 x9_1) != 10) = false := bne_eq_false_iff_eq.mpr c9
       clear c9
       by_cases c10 : (bt a0 x9_1) = 127
       ·rw [if_pos c10] at H
        have c10b0 : ((bt a0 x9_1) == 127) = true := beq_iff_eq.mpr c10
        have c10b1 : ((bt a0 x9_1) != 127) = false := bne_eq_false_iff_eq.mpr c10
        clear c10
        obtain rfl := Option.some.inj H
        have p6 : 0 ≤ (x9_1 : Int) := ode_; have q6 : x9_1 < (a0.size : Int) := ode_
        have hx6 := bt_at a0 x9_1
        replace p6 := eq_true p6; replace q6 := eq_true q6
        go_wp2
        go_ret
        exact ⟨by first | rfl | (simp [errW_none, errW_some] <;> rfl) | (simp [*, errW_none, errW_some] <;> rfl), bw_ HB.out⟩
       ·rw [if_neg c10] at H
        have c10b0 : ((bt a0 x9_1) == 127) = false := beq_eq_false_iff_ne.mpr c10
        have c10b1 : ((bt a0 x9_1) != 127) = true := bne_iff_ne.mpr c10
        have H' := am_ H
        clear H; have p6 : 0 ≤ (x9_1 : Int) := ode_; have q6 : x9_1 < (a0.size : Int) := ode_
        have hx6 := bt_at a0 x9_1
        replace p6 := eq_true p6; replace q6 := eq_true q6
        go_wp2
        go_roundg k1
        case measure => have := HK1.out; omega
        case rel => exact ⟨(wrap64 (x9_1 + 1)), tr_, H', ⟨by have := HK1.out; omega⟩, ⟨bw_ HB.out⟩⟩
      ·rw [if_neg c9] at H
       have c9b0 : ((bt a0 x9_1) == 10) = false := beq_eq_false_iff_ne.mpr c9
       have c9b1 : ((bt a0 x9_1) != 10) = true := bne_iff_ne.mpr c9
       obtain rfl := Option.some.inj H
       have p6 : 0 ≤ (x9_1 : Int) := ode_; have q6 : x9_1 < (a0.size : Int) := ode_
       have hx6 := bt_at a0 x9_1
       replace p6 := eq_true p6; replace q6 := eq_true q6
       go_wp2
       go_ret
       exact ⟨by first | rfl | (simp [errW_none, errW_some] <;> rfl) | (simp [*, errW_none, errW_some] <;> rfl), bw_ HB.out⟩
     ·replace c8 := Bool.eq_false_iff.mpr c8
      subst c8
      have H1 : (some false) = some r := by rw [if_neg (show ¬ (false = true) by decide)] at H; exact H
      clear H
      have H := H1
      clear H1
      obtain rfl := Option.some.inj H
      have p6 : 0 ≤ (x9_1 : Int) := ode_; have q6 : x9_1 < (a0.size : Int) := ode_
      have hx6 := bt_at a0 x9_1
      replace p6 := eq_true p6; replace q6 := eq_true q6
      go_wp2
      go_ret
      exact ⟨by first | rfl | (simp [errW_none, errW_some] <;> rfl) | (simp [*, errW_none, errW_some] <;> rfl), bw_ HB.out⟩
    ·rw [if_neg c7] at H
     have c7b0 : decide ((bt a0 x9_1) < 32) = false := decide_eq_false c7
     clear c7
     by_cases c11 : (bt a0 x9_1) = 127
     ·rw [if_pos c11] at H
      have c11b0 : ((bt a0 x9_1) == 127) = true := beq_iff_eq.mpr c11
      have c11b1 : ((bt a0 x9_1) != 127) = false := bne_eq_false_iff_eq.mpr c11
      clear c11
      obtain rfl := Option.some.inj H
      have p6 : 0 ≤ (x9_1 : Int) := ode_; have q6 : x9_1 < (a0.size : Int) := ode_
      have hx6 := bt_at a0 x9_1
      replace p6 := eq_true p6; replace q6 := eq_true q6
      go_wp2
      go_ret
      exact ⟨by first | rfl | (simp [errW_none, errW_some] <;> rfl) | (simp [*, errW_none, errW_some] <;> rfl), bw_ HB.out⟩
     ·rw [if_neg c11] at H
      have c11b0 : ((bt a0 x9_1) == 127) = false := beq_eq_false_iff_ne.mpr c11
      have c11b1 : ((bt a0 x9_1) != 127) = true := bne_iff_ne.mpr c11
      have H' := am_ H
      clear H; have p6 : 0 ≤ (x9_1 : Int) := ode_; have q6 : x9_1 < (a0.size : Int) := ode_
      have hx6 := bt_at a0 x9_1
      replace p6 := eq_true p6; replace q6 := eq_true q6
      go_wp2
      go_roundg k1
      case measure => have := HK1.out; omega
      case rel => exact ⟨(wrap64 (x9_1 + 1)), tr_, H', ⟨by have := HK1.out; omega⟩, ⟨bw_ HB.out⟩⟩
   ·rw [if_neg c3] at H
    have c3b0 : decide (x9_1 < (a0.size : Int)) = false := decide_eq_false c3
    clear c3; replace H := Option.bind_eq_some_iff.mp H; obtain ⟨t149, A120, H⟩ := H
    replace H : (some t149) = some r := H
    have A12 := am_ A120; clear A120
    obtain rfl := Option.some.inj H
    go_wp2_with (first | ((with_reducible refine gate_callee (f := 42) rfl ?_); refine goesL_ (some 31) rfl rfl Tryd.func42 (by kernel_rfl) rfl #[.string a0] rfl gl_ ?_; (with_reducible refine (Z54.calls a0 t149 _ ?side1 A12.out).mono ?_); (case side1 => exact Wd.below HGl.out (bw_ HB.out)); rintro e w13 ⟨rfl, hb⟩; refine ⟨_, rfl, ?_⟩; have n0_ := am_ (below_step (bw_ HB.out) hb); clear HB; have HB := n0_; clear n0_; (try clear hb); (try clear hb2); (try clear hk); (try clear hi)))
    go_ret
    exact ⟨by first | rfl | (simp [errW_none, errW_some] <;> rfl) | (simp [*, errW_none, errW_some] <;> rfl), bw_ HB.out⟩
def Z47.f (k : Nat) (a0 : ByteArray) : Option (Bool) := (Z33.f k a0 true).bind fun t150 => (if t150 = true then (if a0.toList = ([] : List UInt8) then (some true) else ((Z46.f a0 (⟨#[10]⟩ : ByteArray)).bind fun t151 => (some t151))) else (some false))
theorem Z47.mono : ∀ a0 k, LeO (Z47.f k a0) (Z47.f (k + 1) a0) := by
  intro a0 k
  unfold Z47.f
  repeat' first
      | (with_reducible exact Z33.mono _ _ _)
      | (with_reducible exact LeO.refl _)
      | (with_reducible exact LeO.none _)
      | (with_reducible refine LeO.ite ?_ ?_)
      | (with_reducible refine LeO.bind ?_ (fun _ => ?_))
      | exact LeO.none _
      | refine LeO.ite ?_ ?_
      | refine LeO.bind ?_ (fun _ => ?_)
set_option maxHeartbeats 8000000 in
set_option maxRecDepth 100000 in
theorem Z47.calls (k : Nat) (a0 : ByteArray) (r : Bool) (w : World) (hGl : Wd w) (h : Z47.f k a0 = some r) :
  Calls Tryd.prog 90 #[.string a0] w fun e w' => e = .returned (.bool r) ∧ Below w.heap.size w w' := by
 have HGl := am_ hGl; clear hGl
 have HB := am_ (Below.refl w.heap.size w)
 have H : ((Z33.f k a0 true).bind fun t150 => (if t150 = true then (if a0.toList = ([] : List UInt8) then (some true) else ((Z46.f a0 (⟨#[10]⟩ : ByteArray)).bind fun t151 => (some t151))) else (some false))) = some r := h
 clear h; replace H := Option.bind_eq_some_iff.mp H; obtain ⟨t150, A20, H⟩ := H; have A2 := am_ A20; clear A20
 by_cases c3 : t150 = true
 ·subst c3
  have H1 : (if a0.toList = ([] : List UInt8) then (some true) else ((Z46.f a0 (⟨#[10]⟩ : ByteArray)).bind fun t151 => (some t151))) = some r := by rw [if_pos rfl] at H; exact H
  clear H
  have H := H1
  clear H1
  by_cases c4 : a0.toList = ([] : List UInt8)
  ·rw [if_pos c4] at H
   have c4b0 : (a0.toList == ([] : List UInt8)) = true := beq_iff_eq.mpr c4
   have c4b1 : (a0.toList != ([] : List UInt8)) = false := bne_eq_false_iff_eq.mpr c4
   clear c4
   obtain rfl := Option.some.inj H
   go_enter Tryd.func90, Tryd.ntmps90
   go_wp2_with (first | ((with_reducible refine gate_callee (f := 106) rfl ?_); refine goesL_ (some 4) rfl rfl Tryd.func106 (by kernel_rfl) rfl #[.string a0, .bool true] rfl gl_ ?_; (with_reducible refine (Z33.calls k a0 true true _ ?side1 A2.out).mono ?_); (case side1 => exact Wd.below HGl.out (bw_ HB.out)); rintro e w5 ⟨rfl, hb⟩; refine ⟨_, rfl, ?_⟩; have n0_ := am_ (below_step (bw_ HB.out) hb); clear HB; have HB := n0_; clear n0_; (try clear hb); (try clear hb2); (try clear hk); (try clear hi)))
   go_ret
   exact ⟨by first | rfl | (simp [errW_none, errW_some] <;> rfl) | (simp [*, errW_none, errW_some] <;> rfl), bw_ HB.out⟩
  ·rw [if_neg c4] at H
   have c4b0 : (a0.toList == ([] : List UInt8)) = false := beq_eq_false_iff_ne.mpr c4
   have c4b1 : (a0.toList != ([] : List UInt8)) = true := bne_iff_ne.mpr c4
   replace H := Option.bind_eq_some_iff.mp H; obtain ⟨t151, A60, H⟩ := H
   replace H : (some t151) = some r := H
   have A6 := am_ A60; clear A60
   obtain rfl := Option.some.inj H
   go_enter Tryd.func90, Tryd.ntmps90
   go_wp2_with (first | ((with_reducible refine gate_callee (f := 106) rfl ?_); refine goesL_ (some 4) rfl rfl Tryd.func106 (by kernel_rfl) rfl #[.string a0, .bool true] rfl gl_ ?_; (with_reducible refine (Z33.calls k a0 true true _ ?side1 A2.out).mono ?_); (case side1 => exact Wd.below HGl.out (bw_ HB.out)); rintro e w7 ⟨rfl, hb⟩; refine ⟨_, rfl, ?_⟩; have n0_ := am_ (below_step (bw_ HB.out) hb); clear HB; have HB := n0_; clear n0_; (try clear hb); (try clear hb2); (try clear hk); (try clear hi)) | (go_at_call 89; (with_reducible refine (Z46.calls a0 (⟨#[10]⟩ : ByteArray) t151 _ A6.out).mono ?_); rintro e w' ⟨rfl, ⟨nd, rfl⟩⟩))
   go_ret
   exact ⟨by first | rfl | (simp [errW_none, errW_some] <;> rfl) | (simp [*, errW_none, errW_some] <;> rfl), bw_ HB.out⟩
 ·replace c3 := Bool.eq_false_iff.mpr c3
  subst c3
  have H1 : (some false) = some r := by rw [if_neg (show ¬ (false = true) by decide)] at H; exact H
  clear H
  have H := H1
  clear H1
  obtain rfl := Option.some.inj H
  go_enter Tryd.func90, Tryd.ntmps90
  go_wp2_with (first | ((with_reducible refine gate_callee (f := 106) rfl ?_); refine goesL_ (some 4) rfl rfl Tryd.func106 (by kernel_rfl) rfl #[.string a0, .bool true] rfl gl_ ?_; (with_reducible refine (Z33.calls k a0 true false _ ?side1 A2.out).mono ?_); (case side1 => exact Wd.below HGl.out (bw_ HB.out)); rintro e w8 ⟨rfl, hb⟩; refine ⟨_, rfl, ?_⟩; have n0_ := am_ (below_step (bw_ HB.out) hb); clear HB; have HB := n0_; clear n0_; (try clear hb); (try clear hb2); (try clear hk); (try clear hi)))
  go_ret
  exact ⟨by first | rfl | (simp [errW_none, errW_some] <;> rfl) | (simp [*, errW_none, errW_some] <;> rfl), bw_ HB.out⟩
def Z29.f (k : Nat) (a0 : ByteArray) (l1 : List (S46)) : Option (Int) := (Z50.f a0).bind fun t152 => ((Z47.f k a0).bind fun t153 => ((Z19.f (!t153) 3).bind fun t154 => ((Z9.f k l1 (a0.size : Int)).bind fun t155 => ((Z13.f k (([t152, t154, t155] : List Int))).bind fun t159 => (some t159)))))
theorem Z29.mono : ∀ a0 a1 k, LeO (Z29.f k a0 a1) (Z29.f (k + 1) a0 a1) := by
  intro a0 a1 k
  unfold Z29.f
  repeat' first
      | (with_reducible exact Z13.mono _ _)
      | (with_reducible exact Z47.mono _ _)
      | (with_reducible exact Z9.mono _ _ _)
      | (with_reducible exact LeO.refl _)
      | (with_reducible exact LeO.none _)
      | (with_reducible refine LeO.ite ?_ ?_)
      | (with_reducible refine LeO.bind ?_ (fun _ => ?_))
      | exact LeO.none _
      | refine LeO.ite ?_ ?_
      | refine LeO.bind ?_ (fun _ => ?_)
set_option maxHeartbeats 8000000 in
set_option maxRecDepth 100000 in
theorem Z29.calls (k : Nat) (a0 : ByteArray) (A1 : Option Addr) (c1 : Nat) (l1 : List (S46)) (r : Int) (w : World) (hr1 : Kd.C k46 w A1 l1.length l1) (hc1 : l1.length ≤ c1) (hGl : Wd w) (h : Z29.f k a0 l1 = some r) :
  Calls Tryd.prog 53 #[.string a0, .slice A1 l1.length c1] w fun e w' => e = .returned (.int .i64 r) ∧ Below w.heap.size w w' := by
 have HGl := am_ hGl; clear hGl; have HR1 := am_ hr1; have HC1 := am_ hc1; clear hr1 hc1
 have HB := am_ (Below.refl w.heap.size w)
 have H : ((Z50.f a0).bind fun t152 => ((Z47.f k a0).bind fun t153 => ((Z19.f (!t153) 3).bind fun t154 => ((Z9.f k l1 (a0.size : Int)).bind fun t155 => ((Z13.f k (([t152, t154, t155] : List Int))).bind fun t159 => (some t159)))))) = some r := h
 clear h; replace H := Option.bind_eq_some_iff.mp H; obtain ⟨t152, A30, H⟩ := H; have A3 := am_ A30; clear A30; replace H := Option.bind_eq_some_iff.mp H; obtain ⟨t153, A40, H⟩ := H; have A4 := am_ A40; clear A40; replace H := Option.bind_eq_some_iff.mp H; obtain ⟨t154, A50, H⟩ := H; have A5 := am_ A50; clear A50; replace H := Option.bind_eq_some_iff.mp H; obtain ⟨t155, A60, H⟩ := H; have A6 := am_ A60; clear A60
 obtain ⟨y156, hy156⟩ : ∃ y_ : List Int, y_ = (([t152, t154, t155] : List Int)) := ⟨_, rfl⟩
 replace H : ((Z13.f k y156).bind fun t159 => (some t159)) = some r := by first | (rw [hy156]; with_reducible exact H) | (have H2_ := (Option.bind_some _ _).symm.trans H; rw [hy156]; with_reducible exact H2_) | (have H2_ := (Option.bind_some _ _).symm.trans H; with_reducible exact H2_) | with_reducible exact H | (rw [hy156]; exact H) | exact H
 have Ny156 := am_ hy156; clear hy156; replace H := Option.bind_eq_some_iff.mp H; obtain ⟨t159, A70, H⟩ := H
 replace H : (some t159) = some r := H
 have A7 := am_ A70; clear A70
 obtain rfl := Option.some.inj H
 go_enter Tryd.func53, Tryd.ntmps53
 go_wp2_with (first | ((with_reducible refine gate_callee (f := 47) rfl ?_); refine goesL_ (some 6) rfl rfl Tryd.func47 (by kernel_rfl) rfl #[.string a0] rfl gl_ ?_; (with_reducible refine (Z50.calls a0 t152 _ A3.out).mono ?_); rintro e w' ⟨rfl, ⟨nd, rfl⟩⟩; refine ⟨_, rfl, ?_⟩) | ((with_reducible refine gate_callee (f := 90) rfl ?_); refine goesL_ (some 8) rfl rfl Tryd.func90 (by kernel_rfl) rfl #[.string a0] rfl gl_ ?_; (with_reducible refine (Z47.calls k a0 t153 _ ?side1 A4.out).mono ?_); (case side1 => exact Wd.below HGl.out (bw_ HB.out)); rintro e w8 ⟨rfl, hb⟩; refine ⟨_, rfl, ?_⟩; have n0_ := am_ (below_step (bw_ HB.out) hb); clear HB; have HB := n0_; clear n0_; (try clear hb); (try clear hb2); (try clear hk); (try clear hi)) | ((with_reducible refine gate_callee (f := 46) rfl ?_); refine goesL_ (some 10) rfl rfl Tryd.func46 (by kernel_rfl) rfl #[.bool (!t153), .int .i64 3] rfl gl_ ?_; (with_reducible refine (Z19.calls (!t153) 3 t154 _ A5.out).mono ?_); rintro e w' ⟨rfl, ⟨nd, rfl⟩⟩; refine ⟨_, rfl, ?_⟩) | ((with_reducible refine gate_callee (f := 55) rfl ?_); refine goesL_ (some 14) rfl rfl Tryd.func55 (by kernel_rfl) rfl #[.slice A1 l1.length c1, .int .i64 (a0.size : Int)] rfl gl_ ?_; (with_reducible refine (Z9.calls k _ _ l1 (a0.size : Int) t155 _ ?side1 ?side2 A6.out).mono ?_); (case side1 => repeat (first | exact (Kd.C_below HR1.out (bw_ HB.out)) | (with_reducible refine Kd.C_alloc ?_ _) | (with_reducible refine Kd.C_drewN ?_ _) | (with_reducible refine Kd.C_drew ?_))); (case side2 => exact HC1.out); rintro e w9 ⟨rfl, hb⟩; refine ⟨_, rfl, ?_⟩; have n0_ := am_ (below_step (bw_ HB.out) hb); clear HB; have HB := n0_; clear n0_; (try clear hb); (try clear hb2); (try clear hk); (try clear hi)) | ((with_reducible refine gate_dst (N := 15) rfl ?_); refine Kd.R_lit (Kd.int .i64) _ 29 ?hg (N := 15) ?hd (xs := ([t152, t154, t155] : List Int)) (inner := [.int .i64 t152, .int .i64 t154, .int .i64 t155]) (ok := fun _ => True) (okp := fun _ => True) ?hr ?hp (fun _ hk => hk) trivial (Below.refl _ _) (Nat.le_refl _) (by simp) ?_; (case hd => rfl); (case hg => rfl); (case hr => first | (go_simp; done) | (go_simp; rfl)); (case hp => exact (Reps.one (show Kd.M (Kd.int .i64) _ _ _ t152 [.int .i64 t152] from rfl) (Reps.one (show Kd.M (Kd.int .i64) _ _ _ t154 [.int .i64 t154] from rfl) (Reps.one (show Kd.M (Kd.int .i64) _ _ _ t155 [.int .i64 t155] from rfl) (Reps.none _ _))))); intro v157 w10 ho11 hb hg_ hnew_; clear hg_ hnew_; (first | rw [← Ny156.out] at ho11 | (simp only [Int.reduceToNat] at ho11; rw [← Ny156.out] at ho11)); have n0_ := am_ (Kd.R_lower ho11 (below_size (bw_ HB.out))); have n1_ := am_ (below_step (bw_ HB.out) hb); clear HB; have HO158 := n0_; have HB := n1_; clear n0_ n1_; clear hb ho11; obtain ⟨Ao12, co12, eo12⟩ := Kd.R_slice HO158.out; subst eo12) | ((with_reducible refine gate_callee (f := 45) rfl ?_); refine goesL_ (some 16) rfl rfl Tryd.func45 (by kernel_rfl) rfl #[.slice Ao12 y156.length co12] rfl gl_ ?_; (with_reducible refine (Z13.calls k _ _ y156 t159 _ ?side1 ?side2 A7.out).mono ?_); (case side1 => exact cc_ (Kd.R_reads' HO158.out).2.2); (case side2 => exact (Kd.R_reads' HO158.out).2.1); rintro e w' ⟨rfl, ⟨nd, rfl⟩⟩; refine ⟨_, rfl, ?_⟩))
 go_ret
 exact ⟨by first | rfl | (simp [errW_none, errW_some] <;> rfl) | (simp [*, errW_none, errW_some] <;> rfl), bw_ HB.out⟩
def Z34.f (a0 : ByteArray) (a1 : Int) : Option (Bool) := if a1 < (a0.size : Int) then (if 0 ≤ a1 then (some (((bt a0 a1) / 64) == 2)) else (none)) else (some false)
set_option maxHeartbeats 8000000 in
set_option maxRecDepth 100000 in
theorem Z34.calls (a0 : ByteArray) (a1 : Int) (r : Bool) (w : World) (h : Z34.f a0 a1 = some r) :
    Calls Tryd.prog 61 #[.string a0, .int .i64 a1] w fun e w' => e = .returned (.bool r) ∧ Drawn0 w w' := by
  have H : (if a1 < (a0.size : Int) then (if 0 ≤ a1 then (some (((bt a0 a1) / 64) == 2)) else (none)) else (some false)) = some r := h
  clear h
  by_cases c3 : a1 < (a0.size : Int)
  · rw [if_pos c3] at H
    have c3b0 := decide_eq_true c3; clear c3
    by_cases c4 : 0 ≤ a1
    · rw [if_pos c4] at H
      have c4b0 := decide_eq_true c4; clear c4
      obtain rfl := Option.some.inj H
      have p5 : 0 ≤ (a1 : Int) := ode_; have q5 : a1 < (a0.size : Int) := ode_
      have hx5 := bt_at a0 a1
      replace p5 := eq_true p5; replace q5 := eq_true q5
      go_enter Tryd.func61, Tryd.ntmps61
      go_wp2
      go_ret
      exact ⟨by first | rfl | (simp; done) | (simp [*]; done), by repeat (first | exact Drawn0.refl _ | apply Drawn0.step)⟩
    · rw [if_neg c4] at H
      exact absurd H (by simp)
  · rw [if_neg c3] at H
    have c3b0 : decide (a1 < (a0.size : Int)) = false := decide_eq_false c3
    clear c3
    obtain rfl := Option.some.inj H
    go_enter Tryd.func61, Tryd.ntmps61
    go_wp2
    go_ret
    exact ⟨by first | rfl | (simp; done) | (simp [*]; done), by repeat (first | exact Drawn0.refl _ | apply Drawn0.step)⟩
mutual
def Z8.l0 : Nat → ByteArray → List (S46) → List (S46) → Int → Int → Option ((List (S46)))
  | 0, _, _, _, _, _ => none
  | k + 1, x0, x5, x8, x9, x10 => if x10 < x9 then (if 0 ≤ x10 then (if x10 < (x8.length : Int) then (Z8.l1 k x0 x5 x8 x9 x10 ((rd_T46 x8 x10).f0) ((rd_T46 x8 x10).f1)) else (none)) else (none)) else (some x5)
def Z8.j2 : Nat → ByteArray → List (S46) → List (S46) → Int → Int → Int → Int → Option ((List (S46)))
  | 0, _, _, _, _, _, _, _ => none
  | k + 1, x0, x5, x8, x9, x10, x162000, x162001 => Z8.l2 k x0 x5 x8 x9 x10 x162000 x162001
def Z8.l2 : Nat → ByteArray → List (S46) → List (S46) → Int → Int → Int → Int → Option ((List (S46)))
  | 0, _, _, _, _, _, _, _ => none
  | k + 1, x0, x5, x8, x9, x10, x162000, x162001 => (Z34.f x0 x162001).bind fun t163 => (if t163 = true then (Z8.l2 k x0 x5 x8 x9 x10 x162000 (wrap64 (x162001 + 1))) else (if x5.length < 8796093022208 then (Z8.l0 k x0 (x5 ++ [(⟨x162000, x162001⟩ : S46)]) x8 x9 (wrap64 (x10 + 1))) else (none)))
def Z8.l1 : Nat → ByteArray → List (S46) → List (S46) → Int → Int → Int → Int → Option ((List (S46)))
  | 0, _, _, _, _, _, _, _ => none
  | k + 1, x0, x5, x8, x9, x10, x162000, x162001 => if x162000 > 0 then ((Z34.f x0 x162000).bind fun t162 => (if t162 = true then (Z8.l1 k x0 x5 x8 x9 x10 (wrap64 (x162000 - 1)) x162001) else (Z8.j2 k x0 x5 x8 x9 x10 x162000 x162001))) else (Z8.j2 k x0 x5 x8 x9 x10 x162000 x162001)
end
def Z8.f (k : Nat) (a0 : ByteArray) (l1 : List (S46)) : Option ((List (S46))) := Z8.l0 k a0 ([] : List (S46)) l1 (l1.length : Int) 0
theorem Z8.mono_l : ∀ k, (∀ y0 y1 y2 y3 y4, LeO (Z8.l0 k y0 y1 y2 y3 y4) (Z8.l0 (k + 1) y0 y1 y2 y3 y4)) ∧ (∀ y0 y1 y2 y3 y4 y5 y6, LeO (Z8.j2 k y0 y1 y2 y3 y4 y5 y6) (Z8.j2 (k + 1) y0 y1 y2 y3 y4 y5 y6)) ∧ (∀ y0 y1 y2 y3 y4 y5 y6, LeO (Z8.l2 k y0 y1 y2 y3 y4 y5 y6) (Z8.l2 (k + 1) y0 y1 y2 y3 y4 y5 y6)) ∧ (∀ y0 y1 y2 y3 y4 y5 y6, LeO (Z8.l1 k y0 y1 y2 y3 y4 y5 y6) (Z8.l1 (k + 1) y0 y1 y2 y3 y4 y5 y6))
  | 0 => ⟨fun _ _ _ _ _ r h => by simp [Z8.l0] at h, fun _ _ _ _ _ _ _ r h => by simp [Z8.j2] at h, fun _ _ _ _ _ _ _ r h => by simp [Z8.l2] at h, fun _ _ _ _ _ _ _ r h => by simp [Z8.l1] at h⟩
  | k + 1 => by
    obtain ⟨ih0, ih1, ih2, ih3⟩ := Z8.mono_l k
    refine ⟨?_, ?_, ?_, ?_⟩
    · intro y0 y1 y2 y3 y4
      unfold Z8.l0
      repeat' first
      | (with_reducible exact ih0 _ _ _ _ _)
      | (with_reducible exact ih1 _ _ _ _ _ _ _)
      | (with_reducible exact ih2 _ _ _ _ _ _ _)
      | (with_reducible exact ih3 _ _ _ _ _ _ _)
      | (with_reducible exact LeO.refl _)
      | (with_reducible exact LeO.none _)
      | (with_reducible refine LeO.ite ?_ ?_)
      | (with_reducible refine LeO.bind ?_ (fun _ => ?_))
      | exact ih0 _ _ _ _ _
      | exact ih1 _ _ _ _ _ _ _
      | exact ih2 _ _ _ _ _ _ _
      | exact ih3 _ _ _ _ _ _ _
      | exact LeO.none _
      | refine LeO.ite ?_ ?_
      | refine LeO.bind ?_ (fun _ => ?_)
    · intro y0 y1 y2 y3 y4 y5 y6
      unfold Z8.j2
      repeat' first
      | (with_reducible exact ih0 _ _ _ _ _)
      | (with_reducible exact ih1 _ _ _ _ _ _ _)
      | (with_reducible exact ih2 _ _ _ _ _ _ _)
      | (with_reducible exact ih3 _ _ _ _ _ _ _)
      | (with_reducible exact LeO.refl _)
      | (with_reducible exact LeO.none _)
      | (with_reducible refine LeO.ite ?_ ?_)
      | (with_reducible refine LeO.bind ?_ (fun _ => ?_))
      | exact ih0 _ _ _ _ _
      | exact ih1 _ _ _ _ _ _ _
      | exact ih2 _ _ _ _ _ _ _
      | exact ih3 _ _ _ _ _ _ _
      | exact LeO.none _
      | refine LeO.ite ?_ ?_
      | refine LeO.bind ?_ (fun _ => ?_)
    · intro y0 y1 y2 y3 y4 y5 y6
      unfold Z8.l2
      repeat' first
      | (with_reducible exact ih0 _ _ _ _ _)
      | (with_reducible exact ih1 _ _ _ _ _ _ _)
      | (with_reducible exact ih2 _ _ _ _ _ _ _)
      | (with_reducible exact ih3 _ _ _ _ _ _ _)
      | (with_reducible exact LeO.refl _)
      | (with_reducible exact LeO.none _)
      | (with_reducible refine LeO.ite ?_ ?_)
      | (with_reducible refine LeO.bind ?_ (fun _ => ?_))
      | exact ih0 _ _ _ _ _
      | exact ih1 _ _ _ _ _ _ _
      | exact ih2 _ _ _ _ _ _ _
      | exact ih3 _ _ _ _ _ _ _
      | exact LeO.none _
      | refine LeO.ite ?_ ?_
      | refine LeO.bind ?_ (fun _ => ?_)
    · intro y0 y1 y2 y3 y4 y5 y6
      unfold Z8.l1
      repeat' first
      | (with_reducible exact ih0 _ _ _ _ _)
      | (with_reducible exact ih1 _ _ _ _ _ _ _)
      | (with_reducible exact ih2 _ _ _ _ _ _ _)
      | (with_reducible exact ih3 _ _ _ _ _ _ _)
      | (with_reducible exact LeO.refl _)
      | (with_reducible exact LeO.none _)
      | (with_reducible refine LeO.ite ?_ ?_)
      | (with_reducible refine LeO.bind ?_ (fun _ => ?_))
      | exact ih0 _ _ _ _ _
      | exact ih1 _ _ _ _ _ _ _
      | exact ih2 _ _ _ _ _ _ _
      | exact ih3 _ _ _ _ _ _ _
      | exact LeO.none _
      | refine LeO.ite ?_ ?_
      | refine LeO.bind ?_ (fun _ => ?_)
theorem Z8.mono : ∀ a0 a1 k, LeO (Z8.f k a0 a1) (Z8.f (k + 1) a0 a1) := by
  intro a0 a1 k
  obtain ⟨ih0, ih1, ih2, ih3⟩ := Z8.mono_l k
  unfold Z8.f
  repeat' first
      | (with_reducible exact ih0 _ _ _ _ _)
      | (with_reducible exact ih1 _ _ _ _ _ _ _)
      | (with_reducible exact ih2 _ _ _ _ _ _ _)
      | (with_reducible exact ih3 _ _ _ _ _ _ _)
      | (with_reducible exact LeO.refl _)
      | (with_reducible exact LeO.none _)
      | (with_reducible refine LeO.ite ?_ ?_)
      | (with_reducible refine LeO.bind ?_ (fun _ => ?_))
      | exact ih0 _ _ _ _ _
      | exact ih1 _ _ _ _ _ _ _
      | exact ih2 _ _ _ _ _ _ _
      | exact ih3 _ _ _ _ _ _ _
      | exact LeO.none _
      | refine LeO.ite ?_ ?_
      | refine LeO.bind ?_ (fun _ => ?_)
set_option maxHeartbeats 8000000 in
set_option maxRecDepth 100000 in
theorem Z8.calls (k : Nat) (a0 : ByteArray) (A1 : Option Addr) (c1 : Nat) (l1 : List (S46)) (r : List (S46)) (w : World) (hr1 : Kd.C k46 w A1 l1.length l1) (hc1 : l1.length ≤ c1) (h : Z8.f k a0 l1 = some r) :
  Calls Tryd.prog 54 #[.string a0, .slice A1 l1.length c1] w fun e w' => ∃ v0_ : Value, e = .returned (v0_) ∧ Kd.R k46 46 w' w.heap.size (fun _ => True) v0_ r ∧ Below w.heap.size w w' := by
 have hu46 := Tryd.underlying46
 have HR1 := am_ hr1; have HC1 := am_ hc1; clear hr1 hc1
 have HB := am_ (Below.refl w.heap.size w)
 have H : (Z8.l0 k a0 ([] : List (S46)) l1 (l1.length : Int) 0) = some r := h
 clear h
 have H' := am_ H
 clear H
 go_enter Tryd.func54, Tryd.ntmps54
 go_wp2
 go_loopg [5, 10] k (fun kq v5 v10 w' => ∃ (x5_1 : List (S46)) (x10_1 : Int), v10 = .int .i64 x10_1 ∧ Aside0 (Z8.l0 kq a0 x5_1 l1 (l1.length : Int) x10_1 = some r) ∧ Aside0 (kq ≤ k) ∧ Aside0 (Kd.R k46 46 w' w.heap.size (fun _ => True) v5 x5_1) ∧ Aside0 (Below w.heap.size w w'))
 case atStart => exact ⟨(([] : List (S46))), (0), tr_, H', ⟨Nat.le_refl _⟩, ⟨by first | exact Kd.R_nil _ _ _ _ _ | exact Kd.N_nil _ _ _ _ _ | exact Kd.V_nil _ _ _ _ _ | exact Kd.Q_nil _ _ _ _ _ | exact Kd.S_nil _ _ _ _ _⟩, ⟨bw_ HB.out⟩⟩
 case round =>
  clear H'; (try clear c1); (try clear p2); obtain ⟨x5_1, x10_1, rfl, HA, HK1, HO_5, HB⟩ := hrel
  cases gk with
  | zero => exact absurd HA.out (by simp [Z8.l0])
  | succ k1 =>
   have H := HA.out
   clear HA
   simp only [Z8.l0] at H
   by_cases c3 : x10_1 < (l1.length : Int)
   ·rw [if_pos c3] at H
    have c3b0 := decide_eq_true c3; clear c3
    by_cases c4 : 0 ≤ x10_1
    case neg => exact (nn_ c4 H).elim
    rw [if_pos c4] at H; have c4b0 := decide_eq_true c4; clear c4
    by_cases c5 : x10_1 < (l1.length : Int)
    case neg => exact (nn_ c5 H).elim
    rw [if_pos c5] at H; have c5b0 := decide_eq_true c5; clear c5; have HC6 := am_ H; clear H; have p160 : 0 ≤ (x10_1 : Int) := ode_; have q160 : x10_1 < (l1.length : Int) := ode_
    obtain ⟨ad160, e160, hx160_0, hx160_1⟩ := at_T46 HR1.out x10_1 p160 q160
    cases e160
    first | replace hx160_0 := (HB.out.cell (World.block_lt_of_cell? w _ hx160_0)).trans hx160_0 | skip
    first | replace hx160_1 := (HB.out.cell (World.block_lt_of_cell? w _ hx160_1)).trans hx160_1 | skip
    replace p160 := eq_true p160; replace q160 := eq_true q160
    go_upto_block 2 with (first | ((with_reducible refine gate_dst (N := 7) rfl ?_); refine box_event ?hg (N := 7) ?hd (cs := #[.int .i64 0, .int .i64 0]) (t := 46) ?hr ?_; (case hd => rfl); (case hg => rfl); (case hr => first | (go_simp; done) | (go_simp; rfl)); intro gb161 hg w7 hbox hb; have n0_ := am_ (Kd.R_below (Kd.R_elderB (rr_ HO_5.out) gb161 (Nat.le_of_eq hg.symm)) hb); have n1_ := am_ (below_step (bw_ HB.out) hb); have n2_ := am_ (hbox); have n3_ := am_ ((by rw [hg]; exact (below_size (bw_ HB.out)) : w.heap.size ≤ gb161)); have n4_ := am_ ((by rw [hg]; exact (below_size (bw_ HB.out)) : w.heap.size ≤ gb161)); clear HO_5; clear HB; have HO_5 := n0_; have HB := n1_; have BK161 := n2_; have GW161 := n3_; have GE161 := n4_; clear n0_ n1_ n2_ n3_ n4_; clear hb hbox hg; have hcz8_0 : w7.cell? ⟨gb161, 0, none⟩ = some (.int .i64 0) := (blk_cell BK161.out 0).trans rfl; have hcz8_1 : w7.cell? ⟨gb161, 1, none⟩ = some (.int .i64 0) := (blk_cell BK161.out 1).trans rfl; have hfz8_0 := blk_frozen BK161.out 0; have hfz8_1 := blk_frozen BK161.out 1))
    (try simp only [Act.put, s_t, s_z, s_s])
    go_cut [] (fun wc => ∃ (kq : Nat) (x162000_5 : Int), Aside0 (Z8.j2 kq a0 x5_1 l1 (l1.length : Int) x10_1 x162000_5 ((rd_T46 l1 x10_1).f1) = some r) ∧ Aside0 (kq ≤ k1) ∧ Aside0 (Kd.R k46 46 wc w.heap.size (fun k_ => k_ ≠ gb161) u5 x5_1) ∧ Aside0 (wc.heap[gb161]? = some (.cells #[.int .i64 x162000_5, .int .i64 ((rd_T46 l1 x10_1).f1)] 46 (0, 0))) ∧ Aside0 (Below w.heap.size w wc))
    case first =>
     have H := HC6.out
     clear HC6
     have H' := am_ H
     clear H
     go_wp2
     go_loopg [] k1 (fun kq w' => ∃ (x162000_2 : Int), Aside0 (Z8.l1 kq a0 x5_1 l1 (l1.length : Int) x10_1 x162000_2 ((rd_T46 l1 x10_1).f1) = some r) ∧ Aside0 (kq ≤ k1) ∧ Aside0 (Kd.R k46 46 w' w.heap.size (fun k_ => k_ ≠ gb161) u5 x5_1) ∧ Aside0 (w'.heap[gb161]? = some (.cells #[.int .i64 x162000_2, .int .i64 ((rd_T46 l1 x10_1).f1)] 46 (0, 0))) ∧ Aside0 (Below w.heap.size w w'))
     case atStart => exact ⟨((rd_T46 l1 x10_1).f0), H', ⟨Nat.le_refl _⟩, ⟨by (with_reducible repeat (first | apply r1_ | apply r2_ | apply r3_)); exact Kd.R_mono (Kd.R_far (p := ⟨gb161, 1, none⟩) (Kd.R_far (p := ⟨gb161, 0, none⟩) (Kd.R_mono HO_5.out (fun k_ hk => (⟨hk, hk.2⟩ : _ ∧ k_ ≠ gb161))) (fun _ hk => hk.2) (.int .i64 ((rd_T46 l1 x10_1).f0))) (fun _ hk => hk.2) (.int .i64 ((rd_T46 l1 x10_1).f1))) (fun _ hk => hk.1.2)⟩, ⟨by (with_reducible repeat (first | refine blk_drewN ?_ _ | refine blk_drew ?_ | refine blk_alloc ?_ _)); refine blk_put (cs := #[.int .i64 ((rd_T46 l1 x10_1).f0), .int .i64 0]) ?_ 1 _ rfl; (with_reducible repeat (first | refine blk_drewN ?_ _ | refine blk_drew ?_ | refine blk_alloc ?_ _)); refine blk_put (cs := #[.int .i64 0, .int .i64 0]) ?_ 0 _ rfl; (with_reducible repeat (first | refine blk_drewN ?_ _ | refine blk_drew ?_ | refine blk_alloc ?_ _)); exact BK161.out⟩, ⟨bs_ HB.out GE161.out⟩⟩
     case round =>
      clear H'; (try clear c1); (try clear p1); (try clear q1); (try clear hx1); (try clear p2); (try clear c3); (try clear c3b0); (try clear c4); (try clear c4b0); (try clear c5); (try clear c5b0); (try clear hcz8_0); (try clear hcz8_1); (try clear hfz8_0); (try clear hfz8_1); (try clear hx160_0); (try clear hx160_1); (try clear p160); (try clear p2); (try clear q160); obtain ⟨x162000_2, HA, HK2, HO_5, BK161, HB⟩ := hrel
      cases gk with
      | zero => exact absurd HA.out (by simp [Z8.l1])
      | succ k2 =>
       have H := HA.out
       clear HA
       simp only [Z8.l1] at H
       by_cases c9 : x162000_2 > 0
       ·rw [if_pos c9] at H
        have c9b0 : decide (0 < x162000_2) = true := decide_eq_true c9
        clear c9
        (first | rw [c9b0] | (simp only [i64_w, i32_w]; rw [c9b0]) | skip)
        replace H := Option.bind_eq_some_iff.mp H; obtain ⟨t162, A100, H⟩ := H; have A10 := am_ A100; clear A100
        by_cases c11 : t162 = true
        ·subst c11
         have H1 : (Z8.l1 k2 a0 x5_1 l1 (l1.length : Int) x10_1 (wrap64 (x162000_2 - 1)) ((rd_T46 l1 x10_1).f1)) = some r := by rw [if_pos rfl] at H; exact H
         clear H
         have H := H1
         clear H1
         have H' := am_ H
         clear H
         have hcz12_0 : wr.cell? ⟨gb161, 0, none⟩ = some (.int .i64 x162000_2) := (blk_cell BK161.out 0).trans rfl
         have hcz12_1 : wr.cell? ⟨gb161, 1, none⟩ = some (.int .i64 ((rd_T46 l1 x10_1).f1)) := (blk_cell BK161.out 1).trans rfl
         have hfz12_0 := blk_frozen BK161.out 0
         have hfz12_1 := blk_frozen BK161.out 1
         go_wp2_with (first | (go_at_call 61; (with_reducible refine (Z34.calls a0 x162000_2 true _ A10.out).mono ?_); rintro e w' ⟨rfl, ⟨nd, rfl⟩⟩; (try (rw [drewN_self wr]; generalize hq_ : World.drewN wr _ = wr; have n0_ : Aside0 (Kd.R k46 46 wr w.heap.size (fun k_ => k_ ≠ gb161) u5 x5_1) := ⟨by rw [← hq_]; exact (rr_ HO_5.out)⟩; have n1_ : Aside0 (wr.heap[gb161]? = some (.cells #[.int .i64 x162000_2, .int .i64 ((rd_T46 l1 x10_1).f1)] 46 (0, 0))) := ⟨by rw [← hq_]; exact (bk_ BK161.out)⟩; have n2_ : Aside0 (Below w.heap.size w wr) := ⟨by rw [← hq_]; exact (bs_ HB.out GE161.out)⟩; clear HO_5 BK161 HB hq_; have HO_5 := n0_; have BK161 := n1_; have HB := n2_; clear n0_ n1_ n2_; clear hcz12_0 hcz12_1 hfz12_0 hfz12_1; have hcz12_0 : wr.cell? ⟨gb161, 0, none⟩ = some (.int .i64 x162000_2) := (blk_cell BK161.out 0).trans rfl; have hcz12_1 : wr.cell? ⟨gb161, 1, none⟩ = some (.int .i64 ((rd_T46 l1 x10_1).f1)) := (blk_cell BK161.out 1).trans rfl; have hfz12_0 := blk_frozen BK161.out 0; have hfz12_1 := blk_frozen BK161.out 1))))
         go_roundg k2
         case measure => have := HK1.out; have := HK2.out; omega
         case rel => exact ⟨(wrap64 (x162000_2 - 1)), H', ⟨by have := HK1.out; have := HK2.out; omega⟩, ⟨by (with_reducible repeat (first | apply r1_ | apply r2_ | apply r3_)); exact Kd.R_mono (Kd.R_far (p := ⟨gb161, 0, none⟩) (Kd.R_mono HO_5.out (fun k_ hk => (⟨hk, hk⟩ : _ ∧ k_ ≠ gb161))) (fun _ hk => hk.2) (.int .i64 (wrap64 (x162000_2 - 1)))) (fun _ hk => hk.1)⟩, ⟨by (with_reducible repeat (first | refine blk_drewN ?_ _ | refine blk_drew ?_ | refine blk_alloc ?_ _)); refine blk_put (cs := #[.int .i64 x162000_2, .int .i64 ((rd_T46 l1 x10_1).f1)]) ?_ 0 _ rfl; (with_reducible repeat (first | refine blk_drewN ?_ _ | refine blk_drew ?_ | refine blk_alloc ?_ _)); exact BK161.out⟩, ⟨bs_ HB.out GE161.out⟩⟩
        ·replace c11 := Bool.eq_false_iff.mpr c11
         subst c11
         have H1 : (Z8.j2 k2 a0 x5_1 l1 (l1.length : Int) x10_1 x162000_2 ((rd_T46 l1 x10_1).f1)) = some r := by rw [if_neg (show ¬ (false = true) by decide)] at H; exact H
         clear H
         have H := H1
         clear H1
         have H' := am_ H
         clear H
         have hcz13_0 : wr.cell? ⟨gb161, 0, none⟩ = some (.int .i64 x162000_2) := (blk_cell BK161.out 0).trans rfl
         have hcz13_1 : wr.cell? ⟨gb161, 1, none⟩ = some (.int .i64 ((rd_T46 l1 x10_1).f1)) := (blk_cell BK161.out 1).trans rfl
         have hfz13_0 := blk_frozen BK161.out 0
         have hfz13_1 := blk_frozen BK161.out 1
         go_wp2_with (first | (go_at_call 61; (with_reducible refine (Z34.calls a0 x162000_2 false _ A10.out).mono ?_); rintro e w' ⟨rfl, ⟨nd, rfl⟩⟩))
         go_meet
         case rel => exact ⟨_, (x162000_2), H', ⟨by have := HK1.out; have := HK2.out; first | omega | exact Nat.le_refl _⟩, ⟨rr_ HO_5.out⟩, ⟨bk_ BK161.out⟩, ⟨bs_ HB.out GE161.out⟩⟩
       ·rw [if_neg c9] at H
        have c9b0 : decide (0 < x162000_2) = false := decide_eq_false c9
        clear c9
        (first | rw [c9b0] | (simp only [i64_w, i32_w]; rw [c9b0]) | skip)
        have H' := am_ H
        clear H
        have hcz14_0 : wr.cell? ⟨gb161, 0, none⟩ = some (.int .i64 x162000_2) := (blk_cell BK161.out 0).trans rfl
        have hcz14_1 : wr.cell? ⟨gb161, 1, none⟩ = some (.int .i64 ((rd_T46 l1 x10_1).f1)) := (blk_cell BK161.out 1).trans rfl
        have hfz14_0 := blk_frozen BK161.out 0
        have hfz14_1 := blk_frozen BK161.out 1
        go_wp2
        go_meet
        case rel => exact ⟨_, (x162000_2), H', ⟨by have := HK1.out; have := HK2.out; first | omega | exact Nat.le_refl _⟩, ⟨rr_ HO_5.out⟩, ⟨bk_ BK161.out⟩, ⟨bs_ HB.out GE161.out⟩⟩
    case rest =>
     clear HC6; (try clear c1); (try clear p1); (try clear q1); (try clear hx1); (try clear p2); (try clear c3); (try clear c3b0); (try clear c4); (try clear c4b0); (try clear c5); (try clear c5b0); (try clear p6); (try clear c9); (try clear c9b0); (try clear c11); (try clear hcz12_0); (try clear hcz12_1); (try clear hcz13_0); (try clear hcz13_1); (try clear hcz14_0); (try clear hcz14_1); (try clear hcz8_0); (try clear hcz8_1); (try clear hfz12_0); (try clear hfz12_1); (try clear hfz13_0); (try clear hfz13_1); (try clear hfz14_0); (try clear hfz14_1); (try clear hfz8_0); (try clear hfz8_1); (try clear hx160_0); (try clear hx160_1); (try clear p1); (try clear p160); (try clear p2); (try clear q1); (try clear q160); obtain ⟨kq, x162000_5, HA, HJ5, HO_5, BK161, HB⟩ := hcut
     cases kq with
     | zero => exact absurd HA.out (by simp [Z8.j2])
     | succ kj5 =>
      have H := HA.out
      clear HA
      simp only [Z8.j2] at H
      have H' := am_ H
      clear H
      go_wp2
      go_loopg [] kj5 (fun kq w' => ∃ (x162001_3 : Int), Aside0 (Z8.l2 kq a0 x5_1 l1 (l1.length : Int) x10_1 x162000_5 x162001_3 = some r) ∧ Aside0 (kq ≤ kj5) ∧ Aside0 (Kd.R k46 46 w' w.heap.size (fun k_ => k_ ≠ gb161) u5 x5_1) ∧ Aside0 (w'.heap[gb161]? = some (.cells #[.int .i64 x162000_5, .int .i64 x162001_3] 46 (0, 0))) ∧ Aside0 (Below w.heap.size w w'))
      case atStart => exact ⟨(((rd_T46 l1 x10_1).f1)), H', ⟨Nat.le_refl _⟩, ⟨rr_ HO_5.out⟩, ⟨bk_ BK161.out⟩, ⟨bs_ HB.out GE161.out⟩⟩
      case round =>
       clear H'; (try clear c1); (try clear p1); (try clear q1); (try clear hx1); (try clear p2); (try clear c3); (try clear c3b0); (try clear c4); (try clear c4b0); (try clear c5); (try clear c5b0); (try clear p6); (try clear c9); (try clear c9b0); (try clear c11); (try clear hcz12_0); (try clear hcz12_1); (try clear hcz13_0); (try clear hcz13_1); (try clear hcz14_0); (try clear hcz14_1); (try clear hcz8_0); (try clear hcz8_1); (try clear hfz12_0); (try clear hfz12_1); (try clear hfz13_0); (try clear hfz13_1); (try clear hfz14_0); (try clear hfz14_1); (try clear hfz8_0); (try clear hfz8_1); (try clear hx160_0); (try clear hx160_1); (try clear p1); (try clear p160); (try clear p2); (try clear p6); (try clear q1); (try clear q160); obtain ⟨x162001_3, HA, HK3, HO_5, BK161, HB⟩ := hrel
       cases gk with
       | zero => exact absurd HA.out (by simp [Z8.l2])
       | succ k3 =>
        have H := HA.out
        clear HA
        simp only [Z8.l2] at H
        replace H := Option.bind_eq_some_iff.mp H; obtain ⟨t163, A150, H⟩ := H; have A15 := am_ A150; clear A150
        by_cases c16 : t163 = true
        ·subst c16
         have H1 : (Z8.l2 k3 a0 x5_1 l1 (l1.length : Int) x10_1 x162000_5 (wrap64 (x162001_3 + 1))) = some r := by rw [if_pos rfl] at H; exact H
         clear H
         have H := H1
         clear H1
         have H' := am_ H
         clear H
         have hcz17_0 : wr.cell? ⟨gb161, 0, none⟩ = some (.int .i64 x162000_5) := (blk_cell BK161.out 0).trans rfl
         have hcz17_1 : wr.cell? ⟨gb161, 1, none⟩ = some (.int .i64 x162001_3) := (blk_cell BK161.out 1).trans rfl
         have hfz17_0 := blk_frozen BK161.out 0
         have hfz17_1 := blk_frozen BK161.out 1
         go_wp2_with (first | ((with_reducible refine gate_callee (f := 61) rfl ?_); refine goesL_ (some 30) rfl rfl Tryd.func61 (by kernel_rfl) rfl #[.string a0, .int .i64 x162001_3] rfl gl_ ?_; (with_reducible refine (Z34.calls a0 x162001_3 true _ A15.out).mono ?_); rintro e w' ⟨rfl, ⟨nd, rfl⟩⟩; refine ⟨_, rfl, ?_⟩; (try (rw [drewN_self wr]; generalize hq_ : World.drewN wr _ = wr; have n0_ : Aside0 (Kd.R k46 46 wr w.heap.size (fun k_ => k_ ≠ gb161) u5 x5_1) := ⟨by rw [← hq_]; exact (rr_ HO_5.out)⟩; have n1_ : Aside0 (wr.heap[gb161]? = some (.cells #[.int .i64 x162000_5, .int .i64 x162001_3] 46 (0, 0))) := ⟨by rw [← hq_]; exact (bk_ BK161.out)⟩; have n2_ : Aside0 (Below w.heap.size w wr) := ⟨by rw [← hq_]; exact (bs_ HB.out GE161.out)⟩; clear HO_5 BK161 HB hq_; have HO_5 := n0_; have BK161 := n1_; have HB := n2_; clear n0_ n1_ n2_; clear hcz17_0 hcz17_1 hfz17_0 hfz17_1; have hcz17_0 : wr.cell? ⟨gb161, 0, none⟩ = some (.int .i64 x162000_5) := (blk_cell BK161.out 0).trans rfl; have hcz17_1 : wr.cell? ⟨gb161, 1, none⟩ = some (.int .i64 x162001_3) := (blk_cell BK161.out 1).trans rfl; have hfz17_0 := blk_frozen BK161.out 0; have hfz17_1 := blk_frozen BK161.out 1))))
         go_roundg k3
         case measure => have := HK1.out; have := HJ5.out; have := HK3.out; omega
         case rel => exact ⟨(wrap64 (x162001_3 + 1)), H', ⟨by have := HK1.out; have := HJ5.out; have := HK3.out; omega⟩, ⟨by (with_reducible repeat (first | apply r1_ | apply r2_ | apply r3_)); exact Kd.R_mono (Kd.R_far (p := ⟨gb161, 1, none⟩) (Kd.R_mono HO_5.out (fun k_ hk => (⟨hk, hk⟩ : _ ∧ k_ ≠ gb161))) (fun _ hk => hk.2) (.int .i64 (wrap64 (x162001_3 + 1)))) (fun _ hk => hk.1)⟩, ⟨by (with_reducible repeat (first | refine blk_drewN ?_ _ | refine blk_drew ?_ | refine blk_alloc ?_ _)); refine blk_put (cs := #[.int .i64 x162000_5, .int .i64 x162001_3]) ?_ 1 _ rfl; (with_reducible repeat (first | refine blk_drewN ?_ _ | refine blk_drew ?_ | refine blk_alloc ?_ _)); exact BK161.out⟩, ⟨bs_ HB.out GE161.out⟩⟩
        ·replace c16 := Bool.eq_false_iff.mpr c16
         subst c16
         have H1 : (if x5_1.length < 8796093022208 then (Z8.l0 k3 a0 (x5_1 ++ [(⟨x162000_5, x162001_3⟩ : S46)]) l1 (l1.length : Int) (wrap64 (x10_1 + 1))) else (none)) = some r := by rw [if_neg (show ¬ (false = true) by decide)] at H; exact H
         clear H
         have H := H1
         clear H1
         by_cases c18 : x5_1.length < 8796093022208
         case neg => exact (nn_ c18 H).elim
         rw [if_pos c18] at H; have LMc18 := am_ c18; clear c18
         obtain ⟨y164, hy164⟩ : ∃ y_ : List (S46), y_ = (x5_1 ++ [(⟨x162000_5, x162001_3⟩ : S46)]) := ⟨_, rfl⟩
         replace H : (Z8.l0 k3 a0 y164 l1 (l1.length : Int) (wrap64 (x10_1 + 1))) = some r := by first | (rw [hy164]; with_reducible exact H) | (have H2_ := (Option.bind_some _ _).symm.trans H; rw [hy164]; with_reducible exact H2_) | (have H2_ := (Option.bind_some _ _).symm.trans H; with_reducible exact H2_) | with_reducible exact H | (rw [hy164]; exact H) | exact H
         have Ny164 := am_ hy164; clear hy164
         have H' := am_ H
         clear H
         have hcz19_0 : wr.cell? ⟨gb161, 0, none⟩ = some (.int .i64 x162000_5) := (blk_cell BK161.out 0).trans rfl
         have hcz19_1 : wr.cell? ⟨gb161, 1, none⟩ = some (.int .i64 x162001_3) := (blk_cell BK161.out 1).trans rfl
         have hfz19_0 := blk_frozen BK161.out 0
         have hfz19_1 := blk_frozen BK161.out 1
         go_wp2_with (first | ((with_reducible refine gate_callee (f := 61) rfl ?_); refine goesL_ (some 30) rfl rfl Tryd.func61 (by kernel_rfl) rfl #[.string a0, .int .i64 x162001_3] rfl gl_ ?_; (with_reducible refine (Z34.calls a0 x162001_3 false _ A15.out).mono ?_); rintro e w' ⟨rfl, ⟨nd, rfl⟩⟩; refine ⟨_, rfl, ?_⟩) | ((with_reducible refine gate_builtin (b := .append) (xs := #[.tmp 35, .tmp 37]) rfl ?_); at_builtin; refine Kd.R_append k46 (w0 := w) w.heap.size rfl (.tmp 35) (.tmp 37) 38 46 (.agg #[(.int .i64 0), (.int .i64 0)]) 16 rfl Tryd.underlying38 info46 rfl (by decide) (by omega) u5 x5_1 (⟨x162000_5, x162001_3⟩ : S46) [.int .i64 x162000_5, .int .i64 x162001_3] (fun k_ => k_ ≠ gb161) (fun _ => False) rfl rfl ?aP (fun _ hk => hk.elim) ?aF ?aO ?aB ?aS ?aL ?_; (case aP => exact k46_mkM _ _ _ (⟨x162000_5, x162001_3⟩ : S46)); (case aB => exact (bs_ HB.out GE161.out)); (case aF => exact (fun k_ hk => Kd.freshB (g := gb161) (o := .cells #[.int .i64 x162000_5, .int .i64 x162001_3] 46 (0, 0)) (bk_ BK161.out) k_ hk)); (case aO => exact (rr_ HO_5.out)); (case aS => exact (below_size (bs_ HB.out GE161.out))); (case aL => have := LMc18.out; omega); intro v165 w20 ho hb hg hat; rw [← Ny164.out] at ho; have n0_ := am_ (blk_grown (g := gb161) (o := .cells #[.int .i64 x162000_5, .int .i64 x162001_3] 46 (0, 0)) (bk_ BK161.out) hg (Kd.R_away HO_5.out (fun _ hk => hk))); have n1_ := am_ (hb); have n2_ := am_ (ho); clear BK161; clear HB; clear HO_5; have BK161 := n0_; have HB := n1_; have HO166 := n2_; clear n0_ n1_ n2_; clear ho hb hg hat))
         go_roundg k3
         case measure => have := HK1.out; have := HJ5.out; have := HK3.out; omega
         case rel => exact ⟨(y164), (wrap64 (x10_1 + 1)), tr_, H', ⟨by have := HK1.out; have := HJ5.out; have := HK3.out; omega⟩, ⟨by (with_reducible repeat (first | apply r1_ | apply r2_ | apply r3_)); exact Kd.R_mono HO166.out (fun _ hk => trivial)⟩, ⟨bs_ HB.out GE161.out⟩⟩
   ·rw [if_neg c3] at H
    have c3b0 : decide (x10_1 < (l1.length : Int)) = false := decide_eq_false c3
    clear c3
    obtain rfl := Option.some.inj H
    go_wp2
    go_ret
    exact ⟨_, by first | rfl | (simp [errW_none, errW_some] <;> rfl) | (simp [*, errW_none, errW_some] <;> rfl), by (with_reducible repeat (first | apply r1_ | apply r2_ | apply r3_)); exact HO_5.out, bw_ HB.out⟩
end Go.Proofs.YtolcpmdojlbhcaaDoor.Px
