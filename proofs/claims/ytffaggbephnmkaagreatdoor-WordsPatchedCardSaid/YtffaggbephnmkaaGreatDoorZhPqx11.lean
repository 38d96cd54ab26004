/- A part of the proof of wordsPatched. No conditions. Laid by program over the kit's print and words. -/
import Derived.Test.YtffaggbephnmkaaGreatDoorZhPqx0
import Derived.Test.YtffaggbephnmkaaGreatDoorZhPqx6
import Derived.Test.YtffaggbephnmkaaGreatDoorZhPqx9
import Derived.Test.YtffaggbephnmkaaGreatDoorZhPqx10
namespace Go.Proofs.YtffaggbephnmkaaGreatDoor.Pq
open Go.RowKit Go.Proofs.YtffaggbephnmkaaGreatDoor.GBase Go.Proofs.YtffaggbephnmkaaGreatDoorW.PrintWords Go.Proofs.YtffaggbephnmkaaGreatDoorW.PrintLast Go.Proofs.YtffaggbephnmkaaGreatDoorW.PrintMore
attribute [local go_sem] str_leq max2_int min2_int max_two min_two max_three min_three max_four min_four
set_option linter.unusedVariables false
set_option linter.unusedSimpArgs false
def Z30.f (k : Nat) (a0 : ByteArray) (l1 : List (S70)) : Option (ByteArray × Int) := (Z2.f k a0 l1).bind fun bt407 => (some (bt407.1, bt407.2.2))
theorem Z30.mono : ∀ a0 a1 k, LeO (Z30.f k a0 a1) (Z30.f (k + 1) a0 a1) := by
  intro a0 a1 k
  unfold Z30.f
  repeat' first
      | (with_reducible exact Z2.mono _ _ _)
      | (with_reducible exact LeO.refl _)
      | (with_reducible exact LeO.none _)
      | (with_reducible refine LeO.ite ?_ ?_)
      | (with_reducible refine LeO.bind ?_ (fun _ => ?_))
      | exact LeO.none _
      | refine LeO.ite ?_ ?_
      | refine LeO.bind ?_ (fun _ => ?_)
set_option maxHeartbeats 8000000 in
set_option maxRecDepth 100000 in
theorem Z30.calls (k : Nat) (a0 : ByteArray) (A1 : Option Addr) (c1 : Nat) (l1 : List (S70)) (r1 : ByteArray) (r2 : Int) (w : World) (hr1 : Kd.C k70 w A1 l1.length l1) (hc1 : l1.length ≤ c1) (hGl : Wd w) (h : Z30.f k a0 l1 = some (r1, r2)) :
  Calls Tryz.prog 18 #[.string a0, .slice A1 l1.length c1] w fun e w' => e = .returned (.tuple #[.string r1, .int .i64 r2]) ∧ Below w.heap.size w w' := by
 have HGl := am_ hGl; clear hGl; have HR1 := am_ hr1; have HC1 := am_ hc1; clear hr1 hc1
 have HB := am_ (Below.refl w.heap.size w)
 have H : ((Z2.f k a0 l1).bind fun bt407 => (some (bt407.1, bt407.2.2))) = some (r1, r2) := h
 clear h; replace H := Option.bind_eq_some_iff.mp H
 obtain ⟨⟨t407, t408, t409⟩, A30, H⟩ := H
 replace H : (some (t407, t409)) = some (r1, r2) := H
 have A3 := am_ A30; clear A30
 simp only [Option.some.injEq, Prod.mk.injEq] at H
 obtain ⟨rfl, rfl⟩ := H
 go_enter Tryz.func18, Tryz.ntmps18
 go_wp2_with (first | ((with_reducible refine gate_callee (f := 43) rfl ?_); refine goesL_ (some 12) rfl rfl Tryz.func43 (by kernel_rfl) rfl #[.string a0, .slice A1 l1.length c1] rfl gl_ ?_; (with_reducible refine (Z2.calls k a0 _ _ l1 t407 t408 t409 _ ?side1 ?side2 ?side3 A3.out).mono ?_); (case side1 => exact cc_ HR1.out); (case side2 => exact HC1.out); (case side3 => exact Wd.below HGl.out (bw_ HB.out)); rintro e w4 ⟨v410, rfl, ho0, hb⟩; refine ⟨_, rfl, ?_⟩; have n0_ := am_ (Kd.S_lower ho0 (below_size (bw_ HB.out))); have n1_ := am_ (below_step (bw_ HB.out) hb); clear HB; have HO411 := n0_; have HB := n1_; clear n0_ n1_; (try clear hb); (try clear hb2); (try clear hk); (try clear hi); (try clear ho0)))
 go_ret2
 exact ⟨by first | rfl | (simp [errW_none, errW_some] <;> rfl) | (simp [*, errW_none, errW_some] <;> rfl), bw_ HB.out⟩
def Z29.f (k : Nat) (a0 : ByteArray) (l1 : List (S70)) : Option ((List (S70)) × Int) := (Z2.f k a0 l1).bind fun bt412 => (some (bt412.2.1, bt412.2.2))
theorem Z29.mono : ∀ a0 a1 k, LeO (Z29.f k a0 a1) (Z29.f (k + 1) a0 a1) := by
  intro a0 a1 k
  unfold Z29.f
  repeat' first
      | (with_reducible exact Z2.mono _ _ _)
      | (with_reducible exact LeO.refl _)
      | (with_reducible exact LeO.none _)
      | (with_reducible refine LeO.ite ?_ ?_)
      | (with_reducible refine LeO.bind ?_ (fun _ => ?_))
      | exact LeO.none _
      | refine LeO.ite ?_ ?_
      | refine LeO.bind ?_ (fun _ => ?_)
set_option maxHeartbeats 8000000 in
set_option maxRecDepth 100000 in
theorem Z29.calls (k : Nat) (a0 : ByteArray) (A1 : Option Addr) (c1 : Nat) (l1 : List (S70)) (r1 : List (S70)) (r2 : Int) (w : World) (hr1 : Kd.C k70 w A1 l1.length l1) (hc1 : l1.length ≤ c1) (hGl : Wd w) (h : Z29.f k a0 l1 = some (r1, r2)) :
  Calls Tryz.prog 19 #[.string a0, .slice A1 l1.length c1] w fun e w' => ∃ v0_ : Value, e = .returned (.tuple #[v0_, .int .i64 r2]) ∧ Kd.S k70 70 w' w.heap.size (fun _ => True) v0_ r1 ∧ Below w.heap.size w w' := by
 have HGl := am_ hGl; clear hGl; have HR1 := am_ hr1; have HC1 := am_ hc1; clear hr1 hc1
 have HB := am_ (Below.refl w.heap.size w)
 have H : ((Z2.f k a0 l1).bind fun bt412 => (some (bt412.2.1, bt412.2.2))) = some (r1, r2) := h
 clear h; replace H := Option.bind_eq_some_iff.mp H
 obtain ⟨⟨t412, t413, t414⟩, A30, H⟩ := H
 replace H : (some (t413, t414)) = some (r1, r2) := H
 have A3 := am_ A30; clear A30
 simp only [Option.some.injEq, Prod.mk.injEq] at H
 obtain ⟨rfl, rfl⟩ := H
 go_enter Tryz.func19, Tryz.ntmps19
 go_wp2_with (first | ((with_reducible refine gate_callee (f := 43) rfl ?_); refine goesL_ (some 12) rfl rfl Tryz.func43 (by kernel_rfl) rfl #[.string a0, .slice A1 l1.length c1] rfl gl_ ?_; (with_reducible refine (Z2.calls k a0 _ _ l1 t412 t413 t414 _ ?side1 ?side2 ?side3 A3.out).mono ?_); (case side1 => exact cc_ HR1.out); (case side2 => exact HC1.out); (case side3 => exact Wd.below HGl.out (bw_ HB.out)); rintro e w4 ⟨v415, rfl, ho0, hb⟩; refine ⟨_, rfl, ?_⟩; have n0_ := am_ (Kd.S_lower ho0 (below_size (bw_ HB.out))); have n1_ := am_ (below_step (bw_ HB.out) hb); clear HB; have HO416 := n0_; have HB := n1_; clear n0_ n1_; (try clear hb); (try clear hb2); (try clear hk); (try clear hi); (try clear ho0)))
 go_ret2
 exact ⟨_, by first | rfl | (simp [errW_none, errW_some] <;> rfl) | (simp [*, errW_none, errW_some] <;> rfl), by (with_reducible repeat (first | apply q1_ | apply q2_ | apply q3_)); exact HO416.out, bw_ HB.out⟩
def Z21.l0 : Nat → List Int → Int → Int → Option (Int)
  | 0, _, _, _ => none
  | k + 1, x5, x6, x7 => if x7 < x6 then (if 0 ≤ x7 then (if x7 < (x5.length : Int) then (if (rd x5 x7) = 0 then (Z21.l0 k x5 x6 (wrap64 (x7 + 1))) else (some (rd x5 x7))) else (none)) else (none)) else (some 0)
def Z21.f (k : Nat) (l0 : List Int) : Option (Int) := Z21.l0 k l0 (l0.length : Int) 0
theorem Z21.mono_l : ∀ k, (∀ y0 y1 y2, LeO (Z21.l0 k y0 y1 y2) (Z21.l0 (k + 1) y0 y1 y2))
  | 0 => fun _ _ _ r h => by simp [Z21.l0] at h
  | k + 1 => by
    have ih0 := Z21.mono_l k
    · intro y0 y1 y2
      unfold Z21.l0
      repeat' first
      | (with_reducible exact ih0 _ _ _)
      | (with_reducible exact LeO.refl _)
      | (with_reducible exact LeO.none _)
      | (with_reducible refine LeO.ite ?_ ?_)
      | (with_reducible refine LeO.bind ?_ (fun _ => ?_))
      | exact ih0 _ _ _
      | exact LeO.none _
      | refine LeO.ite ?_ ?_
      | refine LeO.bind ?_ (fun _ => ?_)
theorem Z21.mono : ∀ a0 k, LeO (Z21.f k a0) (Z21.f (k + 1) a0) := by
  intro a0 k
  have ih0 := Z21.mono_l k
  unfold Z21.f
  repeat' first
      | (with_reducible exact ih0 _ _ _)
      | (with_reducible exact LeO.refl _)
      | (with_reducible exact LeO.none _)
      | (with_reducible refine LeO.ite ?_ ?_)
      | (with_reducible refine LeO.bind ?_ (fun _ => ?_))
      | exact ih0 _ _ _
      | exact LeO.none _
      | refine LeO.ite ?_ ?_
      | refine LeO.bind ?_ (fun _ => ?_)
set_option maxHeartbeats 8000000 in
set_option maxRecDepth 100000 in
theorem Z21.calls (k : Nat) (A0 : Option Addr) (c0 : Nat) (l0 : List Int) (r : Int) (w : World) (hr0 : Kd.C (Kd.int .i64) w A0 l0.length l0) (hc0 : l0.length ≤ c0) (h : Z21.f k l0 = some r) :
  Calls Tryz.prog 54 #[.slice A0 l0.length c0] w fun e w' => e = .returned (.int .i64 r) ∧ Drawn0 w w' := by
 have HR0 := am_ hr0; have HC0 := am_ hc0; clear hr0 hc0
 have H : (Z21.l0 k l0 (l0.length : Int) 0) = some r := h
 clear h
 have H' := am_ H
 clear H
 go_enter Tryz.func54, Tryz.ntmps54
 go_wp2
 go_loopg [7] k (fun kq v7 w' => ∃ (x7_1 : Int), v7 = .int .i64 x7_1 ∧ Aside0 (Z21.l0 kq l0 (l0.length : Int) x7_1 = some r) ∧ Aside0 (kq ≤ k) ∧ Drawn0 w w')
 case atStart => exact ⟨(0), tr_, H', ⟨Nat.le_refl _⟩, by repeat (first | exact Drawn0.refl _ | apply Drawn0.step)⟩
 case round =>
  clear H'
  obtain ⟨x7_1, rfl, HA, HK1, ⟨m1, rfl⟩⟩ := hrel
  cases gk with
  | zero => exact absurd HA.out (by simp [Z21.l0])
  | succ k1 =>
   have H := HA.out
   clear HA
   simp only [Z21.l0] at H
   by_cases c2 : x7_1 < (l0.length : Int)
   ·rw [if_pos c2] at H
    have c2b0 := decide_eq_true c2; clear c2
    by_cases c3 : 0 ≤ x7_1
    case neg => exact (nn_ c3 H).elim
    rw [if_pos c3] at H; have c3b0 := decide_eq_true c3; clear c3
    by_cases c4 : x7_1 < (l0.length : Int)
    case neg => exact (nn_ c4 H).elim
    rw [if_pos c4] at H; have c4b0 := decide_eq_true c4; clear c4
    by_cases c5 : (rd l0 x7_1) = 0
    ·rw [if_pos c5] at H
     have c5b0 : ((rd l0 x7_1) == 0) = true := beq_iff_eq.mpr c5
     have c5b1 : ((rd l0 x7_1) != 0) = false := bne_eq_false_iff_eq.mpr c5
     clear c5
     have H' := am_ H
     clear H; have p417 : 0 ≤ (x7_1 : Int) := ode_; have q417 : x7_1 < (l0.length : Int) := ode_
     obtain ⟨ad417, e417, hx417_0⟩ := Kd.at_int HR0.out x7_1 p417 q417
     cases e417; replace p417 := eq_true p417; replace q417 := eq_true q417
     go_wp2
     go_roundg k1
     case measure => have := HK1.out; omega
     case rel => exact ⟨(wrap64 (x7_1 + 1)), tr_, H', ⟨by have := HK1.out; omega⟩, by repeat (first | exact Drawn0.refl _ | apply Drawn0.step)⟩
    ·rw [if_neg c5] at H
     have c5b0 : ((rd l0 x7_1) == 0) = false := beq_eq_false_iff_ne.mpr c5
     have c5b1 : ((rd l0 x7_1) != 0) = true := bne_iff_ne.mpr c5
     obtain rfl := Option.some.inj H
     have p417 : 0 ≤ (x7_1 : Int) := ode_; have q417 : x7_1 < (l0.length : Int) := ode_
     obtain ⟨ad417, e417, hx417_0⟩ := Kd.at_int HR0.out x7_1 p417 q417
     cases e417; replace p417 := eq_true p417; replace q417 := eq_true q417
     go_wp2
     go_ret
     exact ⟨by first | rfl | (simp; done) | (simp [*]; done), by repeat (first | exact Drawn0.refl _ | apply Drawn0.step)⟩
   ·rw [if_neg c2] at H
    have c2b0 : decide (x7_1 < (l0.length : Int)) = false := decide_eq_false c2
    clear c2
    obtain rfl := Option.some.inj H
    go_wp2
    go_ret
    exact ⟨by first | rfl | (simp; done) | (simp [*]; done), by repeat (first | exact Drawn0.refl _ | apply Drawn0.step)⟩
def Z49.f (a0 : Int) : Option (Int) := (Z32.f a0 1 10).bind fun t418 => ((Z34.f (!t418) 1).bind fun t419 => (some t419))
set_option maxHeartbeats 8000000 in
set_option maxRecDepth 100000 in
theorem Z49.calls (a0 : Int) (r : Int) (w : World) (h : Z49.f a0 = some r) :
    Calls Tryz.prog 88 #[.int .i64 a0] w fun e w' => e = .returned (.int .i64 r) ∧ Drawn0 w w' := by
  have H : ((Z32.f a0 1 10).bind fun t418 => ((Z34.f (!t418) 1).bind fun t419 => (some t419))) = some r := h
  clear h; replace H := Option.bind_eq_some_iff.mp H; obtain ⟨t418, A20, H⟩ := H; have A2 := am_ A20; clear A20; replace H := Option.bind_eq_some_iff.mp H; obtain ⟨t419, A30, H⟩ := H
  replace H : (some t419) = some r := H
  have A3 := am_ A30; clear A30
  obtain rfl := Option.some.inj H
  go_enter Tryz.func88, Tryz.ntmps88
  go_wp2_with (first | ((with_reducible refine gate_callee (f := 63) rfl ?_); refine goesL_ (some 4) rfl rfl Tryz.func63 (by kernel_rfl) rfl #[.int .i64 a0, .int .i64 1, .int .i64 10] rfl gl_ ?_; (with_reducible refine (Z32.calls a0 1 10 t418 _ A2.out).mono ?_); rintro e w' ⟨rfl, ⟨nd, rfl⟩⟩; refine ⟨_, rfl, ?_⟩) | ((with_reducible refine gate_callee (f := 55) rfl ?_); refine goesL_ (some 6) rfl rfl Tryz.func55 (by kernel_rfl) rfl #[.bool (!t418), .int .i64 1] rfl gl_ ?_; (with_reducible refine (Z34.calls (!t418) 1 t419 _ A3.out).mono ?_); rintro e w' ⟨rfl, ⟨nd, rfl⟩⟩; refine ⟨_, rfl, ?_⟩))
  go_ret
  exact ⟨by first | rfl | (simp; done) | (simp [*]; done), by repeat (first | exact Drawn0.refl _ | apply Drawn0.step)⟩
def Z28.f (a0 : Int) : Option (Bool) := if a0 ≥ 48 then (some (decide (a0 ≤ 57))) else (some false)
set_option maxHeartbeats 8000000 in
set_option maxRecDepth 100000 in
theorem Z28.calls (a0 : Int) (r : Bool) (w : World) (h : Z28.f a0 = some r) :
    Calls Tryz.prog 140 #[.int .u8 a0] w fun e w' => e = .returned (.bool r) ∧ Drawn0 w w' := by
  have H : (if a0 ≥ 48 then (some (decide (a0 ≤ 57))) else (some false)) = some r := h
  clear h
  by_cases c2 : a0 ≥ 48
  · rw [if_pos c2] at H
    have c2b0 : decide (48 ≤ a0) = true := decide_eq_true c2
    clear c2
    obtain rfl := Option.some.inj H
    go_enter Tryz.func140, Tryz.ntmps140
    go_wp2
    go_ret
    exact ⟨by first | rfl | (simp; done) | (simp [*]; done), by repeat (first | exact Drawn0.refl _ | apply Drawn0.step)⟩
  · rw [if_neg c2] at H
    have c2b0 : decide (48 ≤ a0) = false := decide_eq_false c2
    clear c2
    obtain rfl := Option.some.inj H
    go_enter Tryz.func140, Tryz.ntmps140
    go_wp2
    go_ret
    exact ⟨by first | rfl | (simp; done) | (simp [*]; done), by repeat (first | exact Drawn0.refl _ | apply Drawn0.step)⟩
def Z50.f (a0 : Int) : Option (Bool) := if a0 ≥ 97 then (if a0 ≤ 122 then (some true) else (if a0 ≥ 65 then (if a0 ≤ 90 then (some true) else ((Z28.f a0).bind fun t420 => (if t420 = true then (some true) else (some (decide (a0 ≥ 128)))))) else ((Z28.f a0).bind fun t421 => (if t421 = true then (some true) else (some (decide (a0 ≥ 128))))))) else (if a0 ≥ 65 then (if a0 ≤ 90 then (some true) else ((Z28.f a0).bind fun t422 => (if t422 = true then (some true) else (some (decide (a0 ≥ 128)))))) else ((Z28.f a0).bind fun t423 => (if t423 = true then (some true) else (some (decide (a0 ≥ 128))))))
set_option maxHeartbeats 8000000 in
set_option maxRecDepth 100000 in
theorem Z50.calls (a0 : Int) (r : Bool) (w : World) (h : Z50.f a0 = some r) :
  Calls Tryz.prog 127 #[.int .u8 a0] w fun e w' => e = .returned (.bool r) ∧ Drawn0 w w' := by
 have H : (if a0 ≥ 97 then (if a0 ≤ 122 then (some true) else (if a0 ≥ 65 then (if a0 ≤ 90 then (some true) else ((Z28.f a0).bind fun t420 => (if t420 = true then (some true) else (some (decide (a0 ≥ 128)))))) else ((Z28.f a0).bind fun t421 => (if t421 = true then (some true) else (some (decide (a0 ≥ 128))))))) else (if a0 ≥ 65 then (if a0 ≤ 90 then (some true) else ((Z28.f a0).bind fun t422 => (if t422 = true then (some true) else (some (decide (a0 ≥ 128)))))) else ((Z28.f a0).bind fun t423 => (if t423 = true then (some true) else (some (decide (a0 ≥ 128))))))) = some r := h
 clear h
 by_cases c2 : a0 ≥ 97
 ·rw [if_pos c2] at H
  have c2b0 : decide (97 ≤ a0) = true := decide_eq_true c2
  clear c2
  by_cases c3 : a0 ≤ 122
  ·rw [if_pos c3] at H
   have c3b0 := decide_eq_true c3; clear c3
   obtain rfl := Option.some.inj H
   go_enter Tryz.func127, Tryz.ntmps127
   go_wp2
   go_ret
   exact ⟨by first | rfl | (simp; done) | (simp [*]; done), by repeat (first | exact Drawn0.refl _ | apply Drawn0.step)⟩
  ·rw [if_neg c3] at H
   have c3b0 : decide (a0 ≤ 122) = false := decide_eq_false c3
   clear c3
   by_cases c4 : a0 ≥ 65
   ·rw [if_pos c4] at H
    have c4b0 : decide (65 ≤ a0) = true := decide_eq_true c4
    clear c4
    by_cases c5 : a0 ≤ 90
    ·rw [if_pos c5] at H
     have c5b0 := decide_eq_true c5; clear c5
     obtain rfl := Option.some.inj H
     go_enter Tryz.func127, Tryz.ntmps127
     go_wp2
     go_ret
     exact ⟨by first | rfl | (simp; done) | (simp [*]; done), by repeat (first | exact Drawn0.refl _ | apply Drawn0.step)⟩
    ·rw [if_neg c5] at H
     have c5b0 : decide (a0 ≤ 90) = false := decide_eq_false c5
     clear c5; replace H := Option.bind_eq_some_iff.mp H; obtain ⟨t420, A60, H⟩ := H; have A6 := am_ A60; clear A60
     by_cases c7 : t420 = true
     ·subst c7
      have H1 : (some true) = some r := by rw [if_pos rfl] at H; exact H
      clear H
      have H := H1
      clear H1
      obtain rfl := Option.some.inj H
      go_enter Tryz.func127, Tryz.ntmps127
      go_wp2_with (first | (go_at_call 140; (with_reducible refine (Z28.calls a0 true _ A6.out).mono ?_); rintro e w' ⟨rfl, ⟨nd, rfl⟩⟩))
      go_ret
      exact ⟨by first | rfl | (simp; done) | (simp [*]; done), by repeat (first | exact Drawn0.refl _ | apply Drawn0.step)⟩
     ·replace c7 := Bool.eq_false_iff.mpr c7
      subst c7
      have H1 : (some (decide (a0 ≥ 128))) = some r := by rw [if_neg (show ¬ (false = true) by decide)] at H; exact H
      clear H
      have H := H1
      clear H1
      obtain rfl := Option.some.inj H
      go_enter Tryz.func127, Tryz.ntmps127
      go_wp2_with (first | (go_at_call 140; (with_reducible refine (Z28.calls a0 false _ A6.out).mono ?_); rintro e w' ⟨rfl, ⟨nd, rfl⟩⟩))
      go_ret
      exact ⟨by first | rfl | (simp; done) | (simp [*]; done), by repeat (first | exact Drawn0.refl _ | apply Drawn0.step)⟩
   ·rw [if_neg c4] at H
    have c4b0 : decide (65 ≤ a0) = false := decide_eq_false c4
    clear c4; replace H := Option.bind_eq_some_iff.mp H; obtain ⟨t421, A80, H⟩ := H; have A8 := am_ A80; clear A80
    by_cases c9 : t421 = true
    ·subst c9
     have H1 : (some true) = some r := by rw [if_pos rfl] at H; exact H
     clear H
     have H := H1
     clear H1
     obtain rfl := Option.some.inj H
     go_enter Tryz.func127, Tryz.ntmps127
     go_wp2_with (first | (go_at_call 140; (with_reducible refine (Z28.calls a0 true _ A8.out).mono ?_); rintro e w' ⟨rfl, ⟨nd, rfl⟩⟩))
     go_ret
     exact ⟨by first | rfl | (simp; done) | (simp [*]; done), by repeat (first | exact Drawn0.refl _ | apply Drawn0.step)⟩
    ·replace c9 := Bool.eq_false_iff.mpr c9
     subst c9
     have H1 : (some (decide (a0 ≥ 128))) = some r := by rw [if_neg (show ¬ (false = true) by decide)] at H; exact H
     clear H
     have H := H1
     clear H1
     obtain rfl := Option.some.inj H
     go_enter Tryz.func127, Tryz.ntmps127
     go_wp2_with (first | (go_at_call 140; (with_reducible refine (Z28.calls a0 false _ A8.out).mono ?_); rintro e w' ⟨rfl, ⟨nd, rfl⟩⟩))
     go_ret
     exact ⟨by first | rfl | (simp; done) | (simp [*]; done), by repeat (first | exact Drawn0.refl _ | apply Drawn0.step)⟩
 ·rw [if_neg c2] at H
  have c2b0 : decide (97 ≤ a0) = false := decide_eq_false c2
  clear c2
  by_cases c10 : a0 ≥ 65
  ·rw [if_pos c10] at H
   have c10b0 : decide (65 ≤ a0) = true := decide_eq_true c10
   clear c10
   by_cases c11 : a0 ≤ 90
   ·rw [if_pos c11] at H
    have c11b0 := decide_eq_true c11; clear c11
    obtain rfl := Option.some.inj H
    go_enter Tryz.func127, Tryz.ntmps127
    go_wp2
    go_ret
    exact ⟨by first | rfl | (simp; done) | (simp [*]; done), by repeat (first | exact Drawn0.refl _ | apply Drawn0.step)⟩
   ·rw [if_neg c11] at H
    have c11b0 : decide (a0 ≤ 90) = false := decide_eq_false c11
    clear c11; replace H := Option.bind_eq_some_iff.mp H; obtain ⟨t422, A120, H⟩ := H; have A12 := am_ A120; clear A120
    by_cases c13 : t422 = true
    ·subst c13
     have H1 : (some true) = some r := by rw [if_pos rfl] at H; exact H
     clear H
     have H := H1
     clear H1
     obtain rfl := Option.some.inj H
     go_enter Tryz.func127, Tryz.ntmps127
     go_wp2_with (first | (go_at_call 140; (with_reducible refine (Z28.calls a0 true _ A12.out).mono ?_); rintro e w' ⟨rfl, ⟨nd, rfl⟩⟩))
     go_ret
     exact ⟨by first | rfl | (simp; done) | (simp [*]; done), by repeat (first | exact Drawn0.refl _ | apply Drawn0.step)⟩
    ·replace c13 := Bool.eq_false_iff.mpr c13
     subst c13
     have H1 : (some (decide (a0 ≥ 128))) = some r := by rw [if_neg (show ¬ (false = true) by decide)] at H; exact H
     clear H
     have H := H1
     clear H1
     obtain rfl := Option.some.inj H
     go_enter Tryz.func127, Tryz.ntmps127
     go_wp2_with (first | (go_at_call 140; (with_reducible refine (Z28.calls a0 false _ A12.out).mono ?_); rintro e w' ⟨rfl, ⟨nd, rfl⟩⟩))
     go_ret
     exact ⟨by first | rfl | (simp; done) | (simp [*]; done), by repeat (first | exact Drawn0.refl _ | apply Drawn0.step)⟩
  ·rw [if_neg c10] at H
   have c10b0 : decide (65 ≤ a0) = false := decide_eq_false c10
   clear c10; replace H := Option.bind_eq_some_iff.mp H; obtain ⟨t423, A140, H⟩ := H; have A14 := am_ A140; clear A140
   by_cases c15 : t423 = true
   ·subst c15
    have H1 : (some true) = some r := by rw [if_pos rfl] at H; exact H
    clear H
    have H := H1
    clear H1
    obtain rfl := Option.some.inj H
    go_enter Tryz.func127, Tryz.ntmps127
    go_wp2_with (first | (go_at_call 140; (with_reducible refine (Z28.calls a0 true _ A14.out).mono ?_); rintro e w' ⟨rfl, ⟨nd, rfl⟩⟩))
    go_ret
    exact ⟨by first | rfl | (simp; done) | (simp [*]; done), by repeat (first | exact Drawn0.refl _ | apply Drawn0.step)⟩
   ·replace c15 := Bool.eq_false_iff.mpr c15
    subst c15
    have H1 : (some (decide (a0 ≥ 128))) = some r := by rw [if_neg (show ¬ (false = true) by decide)] at H; exact H
    clear H
    have H := H1
    clear H1
    obtain rfl := Option.some.inj H
    go_enter Tryz.func127, Tryz.ntmps127
    go_wp2_with (first | (go_at_call 140; (with_reducible refine (Z28.calls a0 false _ A14.out).mono ?_); rintro e w' ⟨rfl, ⟨nd, rfl⟩⟩))
    go_ret
    exact ⟨by first | rfl | (simp; done) | (simp [*]; done), by repeat (first | exact Drawn0.refl _ | apply Drawn0.step)⟩
def Z37.f (a0 : ByteArray) : Option (ByteArray) := if a0.size ≤ 140737488355328 then (some (lowA a0)) else (none)
set_option maxHeartbeats 8000000 in
set_option maxRecDepth 100000 in
theorem Z37.calls (a0 : ByteArray) (r : ByteArray) (w : World) (h : Z37.f a0 = some r) :
    Calls Tryz.prog 128 #[.string a0] w fun e w' => e = .returned (.string r) ∧ Below w.heap.size w w' := by
  unfold Z37.f at h
  by_cases hs : a0.size ≤ 140737488355328
  · rw [if_pos hs] at h
    obtain rfl := Option.some.inj h
    have hconv := fun (w : World) => Lib.run_convert_string_bytes (P := Tryz.prog) w 9 85 5 a0 Tryz.underlying9 Tryz.underlying85 Tryz.underlying5
    clear h
    go_enter Tryz.func128, Tryz.ntmps128
    go_wp2
    have hst := LowAt.start 5 w a0
    have Hst : Hid (LowAt 5 w (Lib.bytesWorld w 5 a0) a0 0) := hst
    have hs2 : a0.size ≤ 9223372036854775807 := by omega
    clear hst hconv
    go_loopw [10] (fun i wr => ∃ k : Nat, k ≤ a0.size ∧ i = .int .i64 k ∧ Hid (LowAt 5 w wr a0 k)) (fun i _ => a0.size - (intOf i).toNat)
    case atStart => exact ⟨0, Nat.zero_le _, rfl, Hst⟩
    case round =>
      obtain ⟨k, hk, rfl, HL⟩ := hrel
      by_cases hlt : k < a0.size
      · have hcell := HL.out.cell hlt
        have hfree := HL.out.free hlt
        by_cases hc : 65 ≤ (a0[k].toNat : Int) ∧ (a0[k].toNat : Int) ≤ 90
        · have h1 := hc.1
          have h2 := hc.2
          have HP : Hid (LowAt 5 w (wr.setCell ⟨w.heap.size, k, none⟩ (.int .u8 ((a0[k].toNat : Int) + 32))) a0 (k + 1)) := HL.out.put hlt h1 h2
          clear hc HL
          go_wp2
          go_roundw
          case rel => exact ⟨k + 1, by omega, by go_num, HP⟩
          case measure => simp [intOf]; omega
        · have HP : Hid (LowAt 5 w wr a0 (k + 1)) := HL.out.keep hlt hc
          clear HL
          by_cases h1 : 65 ≤ (a0[k].toNat : Int)
          · have h2 : ¬ (a0[k].toNat : Int) ≤ 90 := fun h => hc ⟨h1, h⟩
            clear hc
            go_wp2
            go_roundw
            case rel => exact ⟨k + 1, by omega, by go_num, HP⟩
            case measure => simp [intOf]; omega
          · clear hc
            go_wp2
            go_roundw
            case rel => exact ⟨k + 1, by omega, by go_num, HP⟩
            case measure => simp [intOf]; omega
      · obtain rfl : k = a0.size := by omega
        have hB := HL.out.1
        have hd := HL.out.done Tryz.prog 85 9 (grownCap w a0.size 0 5) Tryz.underlying85 Tryz.underlying5 Tryz.underlying9
        clear HL
        go_wp2
        go_ret
        exact ⟨rfl, hB⟩
  · rw [if_neg hs] at h
    exact absurd h (by simp)
mutual
def Z4.l0 : Nat → ByteArray → List ByteArray → Int → Int → Option (List ByteArray)
  | 0, _, _, _, _ => none
  | k + 1, x0, x3, x4, x5 => if x5 ≤ (x0.size : Int) then (if x5 < (x0.size : Int) then (if 0 ≤ x5 then ((Z50.f (bt x0 x5)).bind fun t424 => (Z4.j1 k x0 x3 x4 x5 t424)) else (none)) else (Z4.j1 k x0 x3 x4 x5 false)) else (some x3)
def Z4.j1 : Nat → ByteArray → List ByteArray → Int → Int → Bool → Option (List ByteArray)
  | 0, _, _, _, _, _ => none
  | k + 1, x0, x3, x4, x5, x6 => if x6 = true then (Z4.j2 k x0 x3 x4 x5 x6 (decide (x4 < 0))) else (Z4.j2 k x0 x3 x4 x5 x6 false)
def Z4.j2 : Nat → ByteArray → List ByteArray → Int → Int → Bool → Bool → Option (List ByteArray)
  | 0, _, _, _, _, _, _ => none
  | k + 1, x0, x3, x4, x5, x6, x27 => if x27 = true then (if x6 = true then (Z4.l0 k x0 x3 x5 (wrap64 (x5 + 1))) else (if x5 ≥ 0 then (if 0 ≤ x5 then (if x5 ≤ x5 then (if x5 ≤ (x0.size : Int) then ((Z37.f ByteArray.empty).bind fun t425 => (if x3.length < 8796093022208 then (Z4.l0 k x0 (x3 ++ [t425]) (-1) (wrap64 (x5 + 1))) else (none))) else (none)) else (none)) else (none)) else (Z4.l0 k x0 x3 x5 (wrap64 (x5 + 1))))) else (if x6 = true then (Z4.l0 k x0 x3 x4 (wrap64 (x5 + 1))) else (if x4 ≥ 0 then (if 0 ≤ x4 then (if x4 ≤ x5 then (if x5 ≤ (x0.size : Int) then ((Z37.f (x0.extract (x4 : Int).toNat (x5 : Int).toNat)).bind fun t429 => (if x3.length < 8796093022208 then (Z4.l0 k x0 (x3 ++ [t429]) (-1) (wrap64 (x5 + 1))) else (none))) else (none)) else (none)) else (none)) else (Z4.l0 k x0 x3 x4 (wrap64 (x5 + 1)))))
end
def Z4.f (k : Nat) (a0 : ByteArray) : Option (List ByteArray) := Z4.l0 k a0 ([] : List ByteArray) (-1) 0
theorem Z4.mono_l : ∀ k, (∀ y0 y1 y2 y3, LeO (Z4.l0 k y0 y1 y2 y3) (Z4.l0 (k + 1) y0 y1 y2 y3)) ∧ (∀ y0 y1 y2 y3 y4, LeO (Z4.j1 k y0 y1 y2 y3 y4) (Z4.j1 (k + 1) y0 y1 y2 y3 y4)) ∧ (∀ y0 y1 y2 y3 y4 y5, LeO (Z4.j2 k y0 y1 y2 y3 y4 y5) (Z4.j2 (k + 1) y0 y1 y2 y3 y4 y5))
  | 0 => ⟨fun _ _ _ _ r h => by simp [Z4.l0] at h, fun _ _ _ _ _ r h => by simp [Z4.j1] at h, fun _ _ _ _ _ _ r h => by simp [Z4.j2] at h⟩
  | k + 1 => by
    obtain ⟨ih0, ih1, ih2⟩ := Z4.mono_l k
    refine ⟨?_, ?_, ?_⟩
    · intro y0 y1 y2 y3
      unfold Z4.l0
      repeat' first
      | (with_reducible exact ih0 _ _ _ _)
      | (with_reducible exact ih1 _ _ _ _ _)
      | (with_reducible exact ih2 _ _ _ _ _ _)
      | (with_reducible exact LeO.refl _)
      | (with_reducible exact LeO.none _)
      | (with_reducible refine LeO.ite ?_ ?_)
      | (with_reducible refine LeO.bind ?_ (fun _ => ?_))
      | exact ih0 _ _ _ _
      | exact ih1 _ _ _ _ _
      | exact ih2 _ _ _ _ _ _
      | exact LeO.none _
      | refine LeO.ite ?_ ?_
      | refine LeO.bind ?_ (fun _ => ?_)
    · intro y0 y1 y2 y3 y4
      unfold Z4.j1
      repeat' first
      | (with_reducible exact ih0 _ _ _ _)
      | (with_reducible exact ih1 _ _ _ _ _)
      | (with_reducible exact ih2 _ _ _ _ _ _)
      | (with_reducible exact LeO.refl _)
      | (with_reducible exact LeO.none _)
      | (with_reducible refine LeO.ite ?_ ?_)
      | (with_reducible refine LeO.bind ?_ (fun _ => ?_))
      | exact ih0 _ _ _ _
      | exact ih1 _ _ _ _ _
      | exact ih2 _ _ _ _ _ _
      | exact LeO.none _
      | refine LeO.ite ?_ ?_
      | refine LeO.bind ?_ (fun _ => ?_)
    · intro y0 y1 y2 y3 y4 y5
      unfold Z4.j2
      repeat' first
      | (with_reducible exact ih0 _ _ _ _)
      | (with_reducible exact ih1 _ _ _ _ _)
      | (with_reducible exact ih2 _ _ _ _ _ _)
      | (with_reducible exact LeO.refl _)
      | (with_reducible exact LeO.none _)
      | (with_reducible refine LeO.ite ?_ ?_)
      | (with_reducible refine LeO.bind ?_ (fun _ => ?_))
      | exact ih0 _ _ _ _
      | exact ih1 _ _ _ _ _
      | exact ih2 _ _ _ _ _ _
      | exact LeO.none _
      | refine LeO.ite ?_ ?_
      | refine LeO.bind ?_ (fun _ => ?_)
theorem Z4.mono : ∀ a0 k, LeO (Z4.f k a0) (Z4.f (k + 1) a0) := by
  intro a0 k
  obtain ⟨ih0, ih1, ih2⟩ := Z4.mono_l k
  unfold Z4.f
  repeat' first
      | (with_reducible exact ih0 _ _ _ _)
      | (with_reducible exact ih1 _ _ _ _ _)
      | (with_reducible exact ih2 _ _ _ _ _ _)
      | (with_reducible exact LeO.refl _)
      | (with_reducible exact LeO.none _)
      | (with_reducible refine LeO.ite ?_ ?_)
      | (with_reducible refine LeO.bind ?_ (fun _ => ?_))
      | exact ih0 _ _ _ _
      | exact ih1 _ _ _ _ _
      | exact ih2 _ _ _ _ _ _
      | exact LeO.none _
      | refine LeO.ite ?_ ?_
      | refine LeO.bind ?_ (fun _ => ?_)
set_option maxHeartbeats 8000000 in
set_option maxRecDepth 100000 in
theorem Z4.calls (k : Nat) (a0 : ByteArray) (r : List ByteArray) (w : World) (h : Z4.f k a0 = some r) :
  Calls Tryz.prog 112 #[.string a0] w fun e w' => ∃ v0_ : Value, e = .returned (v0_) ∧ Kd.R Kd.string 9 w' w.heap.size (fun _ => True) v0_ r ∧ Below w.heap.size w w' := by
 have HB := am_ (Below.refl w.heap.size w)
 have H : (Z4.l0 k a0 ([] : List ByteArray) (-1) 0) = some r := h
 clear h
 have H' := am_ H
 clear H
 go_enter Tryz.func112, Tryz.ntmps112
 go_wp2
 go_loopg [3, 4, 5] k (fun kq v3 v4 v5 w' => ∃ (x3_1 : List ByteArray) (x4_1 : Int) (x5_1 : Int), v4 = .int .i64 x4_1 ∧ v5 = .int .i64 x5_1 ∧ Aside0 (Z4.l0 kq a0 x3_1 x4_1 x5_1 = some r) ∧ Aside0 (kq ≤ k) ∧ Aside0 (Kd.R Kd.string 9 w' w.heap.size (fun _ => True) v3 x3_1) ∧ Aside0 (Below w.heap.size w w'))
 case atStart => exact ⟨(([] : List ByteArray)), ((-1)), (0), tr_, tr_, H', ⟨Nat.le_refl _⟩, ⟨by first | exact Kd.R_nil _ _ _ _ _ | exact Kd.N_nil _ _ _ _ _ | exact Kd.V_nil _ _ _ _ _ | exact Kd.Q_nil _ _ _ _ _ | exact Kd.S_nil _ _ _ _ _⟩, ⟨bw_ HB.out⟩⟩
 case round =>
  clear H'; (try clear c1); obtain ⟨x3_1, x4_1, x5_1, rfl, rfl, HA, HK1, HO_3, HB⟩ := hrel
  cases gk with
  | zero => exact absurd HA.out (by simp [Z4.l0])
  | succ k1 =>
   have H := HA.out
   clear HA
   simp only [Z4.l0] at H
   by_cases c2 : x5_1 ≤ (a0.size : Int)
   ·rw [if_pos c2] at H
    have c2b0 := decide_eq_true c2; clear c2; have HC3 := am_ H; clear H
    go_upto_region 6 with (fail)
    go_cut [6] (fun v6 wc => ∃ (kq : Nat) (x6_2 : Bool), v6 = .bool x6_2 ∧ Aside0 (Z4.j1 kq a0 x3_1 x4_1 x5_1 x6_2 = some r) ∧ Aside0 (kq ≤ k1) ∧ Aside0 (Kd.R Kd.string 9 wc w.heap.size (fun _ => True) u3 x3_1) ∧ Aside0 (Below w.heap.size w wc))
    case first =>
     have H := HC3.out
     clear HC3
     by_cases c4 : x5_1 < (a0.size : Int)
     ·rw [if_pos c4] at H
      have c4b0 := decide_eq_true c4; clear c4
      (first | rw [c4b0] | (simp only [i64_w, i32_w]; rw [c4b0]) | skip)
      by_cases c5 : 0 ≤ x5_1
      case neg => exact (nn_ c5 H).elim
      rw [if_pos c5] at H; have c5b0 := decide_eq_true c5; clear c5; replace H := Option.bind_eq_some_iff.mp H; obtain ⟨t424, A70, H⟩ := H; have A7 := am_ A70; clear A70
      have H' := am_ H
      clear H; have p6 : 0 ≤ (x5_1 : Int) := ode_; have q6 : x5_1 < (a0.size : Int) := ode_
      have hx6 := bt_at a0 x5_1
      replace p6 := eq_true p6; replace q6 := eq_true q6
      go_wp2_with (first | (go_at_call 127; (with_reducible refine (Z50.calls (bt a0 x5_1) t424 _ A7.out).mono ?_); rintro e w' ⟨rfl, ⟨nd, rfl⟩⟩))
      go_meet
      case rel => exact ⟨_, (t424), tr_, H', ⟨by have := HK1.out; first | omega | exact Nat.le_refl _⟩, ⟨rr_ HO_3.out⟩, ⟨bw_ HB.out⟩⟩
     ·rw [if_neg c4] at H
      have c4b0 : decide (x5_1 < (a0.size : Int)) = false := decide_eq_false c4
      clear c4
      (first | rw [c4b0] | (simp only [i64_w, i32_w]; rw [c4b0]) | skip)
      have H' := am_ H
      clear H
      go_wp2
      go_meet
      case rel => exact ⟨_, (false), tr_, H', ⟨by have := HK1.out; first | omega | exact Nat.le_refl _⟩, ⟨rr_ HO_3.out⟩, ⟨bw_ HB.out⟩⟩
    case rest =>
     clear HC3; (try clear c1); (try clear c2); (try clear c2b0); (try clear p2); (try clear c4); (try clear c4b0); (try clear c5); (try clear c5b0); (try clear p6); (try clear q6); (try clear hx6); (try clear p6); (try clear q6); obtain ⟨kq, x6_2, rfl, HA, HJ2, HO_3, HB⟩ := hcut
     cases kq with
     | zero => exact absurd HA.out (by simp [Z4.j1])
     | succ kj2 =>
      have H := HA.out
      clear HA
      simp only [Z4.j1] at H
      have HC8 := am_ H; clear H
      go_upto_region 7 with (fail)
      go_cut [27] (fun v27 wc => ∃ (kq : Nat) (x27_7 : Bool), v27 = .bool x27_7 ∧ Aside0 (Z4.j2 kq a0 x3_1 x4_1 x5_1 x6_2 x27_7 = some r) ∧ Aside0 (kq ≤ kj2) ∧ Aside0 (Kd.R Kd.string 9 wc w.heap.size (fun _ => True) u3 x3_1) ∧ Aside0 (Below w.heap.size w wc))
      case first =>
       have H := HC8.out
       clear HC8
       by_cases c9 : x6_2 = true
       ·subst c9
        have H1 : (Z4.j2 kj2 a0 x3_1 x4_1 x5_1 true (decide (x4_1 < 0))) = some r := by rw [if_pos rfl] at H; exact H
        clear H
        have H := H1
        clear H1
        have H' := am_ H
        clear H
        go_wp2
        go_meet
        case rel => exact ⟨_, (decide (x4_1 < 0)), tr_, H', ⟨by have := HK1.out; have := HJ2.out; first | omega | exact Nat.le_refl _⟩, ⟨rr_ HO_3.out⟩, ⟨bw_ HB.out⟩⟩
       ·replace c9 := Bool.eq_false_iff.mpr c9
        subst c9
        have H1 : (Z4.j2 kj2 a0 x3_1 x4_1 x5_1 false false) = some r := by rw [if_neg (show ¬ (false = true) by decide)] at H; exact H
        clear H
        have H := H1
        clear H1
        have H' := am_ H
        clear H
        go_wp2
        go_meet
        case rel => exact ⟨_, (false), tr_, H', ⟨by have := HK1.out; have := HJ2.out; first | omega | exact Nat.le_refl _⟩, ⟨rr_ HO_3.out⟩, ⟨bw_ HB.out⟩⟩
      case rest =>
       clear HC8; (try clear c1); (try clear c2); (try clear c2b0); (try clear p2); (try clear c4); (try clear c4b0); (try clear c5); (try clear c5b0); (try clear p6); (try clear q6); (try clear hx6); (try clear c9); (try clear p2); (try clear p6); (try clear q6); obtain ⟨kq, x27_7, rfl, HA, HJ7, HO_3, HB⟩ := hcut
       cases kq with
       | zero => exact absurd HA.out (by simp [Z4.j2])
       | succ kj7 =>
        have H := HA.out
        clear HA
        simp only [Z4.j2] at H
        by_cases c10 : x27_7 = true
        ·subst c10
         have H1 : (if x6_2 = true then (Z4.l0 kj7 a0 x3_1 x5_1 (wrap64 (x5_1 + 1))) else (if x5_1 ≥ 0 then (if 0 ≤ x5_1 then (if x5_1 ≤ x5_1 then (if x5_1 ≤ (a0.size : Int) then ((Z37.f ByteArray.empty).bind fun t425 => (if x3_1.length < 8796093022208 then (Z4.l0 kj7 a0 (x3_1 ++ [t425]) (-1) (wrap64 (x5_1 + 1))) else (none))) else (none)) else (none)) else (none)) else (Z4.l0 kj7 a0 x3_1 x5_1 (wrap64 (x5_1 + 1))))) = some r := by rw [if_pos rfl] at H; exact H
         clear H
         have H := H1
         clear H1
         by_cases c11 : x6_2 = true
         ·subst c11
          have H1 : (Z4.l0 kj7 a0 x3_1 x5_1 (wrap64 (x5_1 + 1))) = some r := by rw [if_pos rfl] at H; exact H
          clear H
          have H := H1
          clear H1
          have H' := am_ H
          clear H
          go_wp2
          go_roundg kj7
          case measure => have := HK1.out; have := HJ2.out; have := HJ7.out; omega
          case rel => exact ⟨(x3_1), (x5_1), (wrap64 (x5_1 + 1)), tr_, tr_, H', ⟨by have := HK1.out; have := HJ2.out; have := HJ7.out; omega⟩, ⟨rr_ HO_3.out⟩, ⟨bw_ HB.out⟩⟩
         ·replace c11 := Bool.eq_false_iff.mpr c11
          subst c11
          have H1 : (if x5_1 ≥ 0 then (if 0 ≤ x5_1 then (if x5_1 ≤ x5_1 then (if x5_1 ≤ (a0.size : Int) then ((Z37.f ByteArray.empty).bind fun t425 => (if x3_1.length < 8796093022208 then (Z4.l0 kj7 a0 (x3_1 ++ [t425]) (-1) (wrap64 (x5_1 + 1))) else (none))) else (none)) else (none)) else (none)) else (Z4.l0 kj7 a0 x3_1 x5_1 (wrap64 (x5_1 + 1)))) = some r := by rw [if_neg (show ¬ (false = true) by decide)] at H; exact H
          clear H
          have H := H1
          clear H1
          by_cases c12 : x5_1 ≥ 0
          ·rw [if_pos c12] at H
           have c12b0 : decide (0 ≤ x5_1) = true := decide_eq_true c12
           clear c12
           by_cases c13 : 0 ≤ x5_1
           case neg => exact (nn_ c13 H).elim
           rw [if_pos c13] at H; have c13b0 := eq_true c13; have c13b1 := decide_eq_true c13; clear c13
           by_cases c14 : x5_1 ≤ x5_1
           case neg => exact (nn_ c14 H).elim
           rw [if_pos c14] at H; have c14b0 := eq_true c14; have c14b1 := decide_eq_true c14; clear c14
           by_cases c15 : x5_1 ≤ (a0.size : Int)
           case neg => exact (nn_ c15 H).elim
           rw [if_pos c15] at H; have c15b0 := eq_true c15; have c15b1 := decide_eq_true c15; clear c15; replace H := Option.bind_eq_some_iff.mp H; obtain ⟨t425, A160, H⟩ := H; have A16 := am_ A160; clear A160
           by_cases c17 : x3_1.length < 8796093022208
           case neg => exact (nn_ c17 H).elim
           rw [if_pos c17] at H; have LMc17 := am_ c17; clear c17
           obtain ⟨y426, hy426⟩ : ∃ y_ : List ByteArray, y_ = (x3_1 ++ [t425]) := ⟨_, rfl⟩
           replace H : (Z4.l0 kj7 a0 y426 (-1) (wrap64 (x5_1 + 1))) = some r := by first | (rw [hy426]; with_reducible exact H) | (have H2_ := (Option.bind_some _ _).symm.trans H; rw [hy426]; with_reducible exact H2_) | (have H2_ := (Option.bind_some _ _).symm.trans H; with_reducible exact H2_) | with_reducible exact H | (rw [hy426]; exact H) | exact H
           have Ny426 := am_ hy426; clear hy426
           have H' := am_ H
           clear H
           go_wp2_with (first | ((with_reducible refine gate_callee (f := 128) rfl ?_); refine goesL_ (some 40) rfl rfl Tryz.func128 (by kernel_rfl) rfl #[.string ByteArray.empty] rfl gl_ ?_; (with_reducible refine (Z37.calls ByteArray.empty t425 _ A16.out).mono ?_); rintro e w18 ⟨rfl, hb⟩; refine ⟨_, rfl, ?_⟩; have n0_ := am_ (Kd.R_below (rr_ HO_3.out) hb); have n1_ := am_ (below_step (bw_ HB.out) hb); clear HO_3; clear HB; have HO_3 := n0_; have HB := n1_; clear n0_ n1_; (try clear hb); (try clear hb2); (try clear hk); (try clear hi)) | ((with_reducible refine gate_builtin (b := .append) (xs := #[.tmp 35, .tmp 41]) rfl ?_); at_builtin; refine Kd.R_append Kd.string (w0 := w) w.heap.size rfl (.tmp 35) (.tmp 41) 27 9 (.string ⟨#[]⟩) 16 rfl Tryz.underlying27 info9 rfl (by decide) (by omega) u3 x3_1 t425 [.string t425] (fun _ => True) (fun _ => False) rfl rfl ?aP (fun _ hk => hk.elim) ?aF ?aO ?aB ?aS ?aL ?_; (case aP => exact rfl); (case aB => exact (bw_ HB.out)); (case aF => exact (fun _ _ => trivial)); (case aO => exact (rr_ HO_3.out)); (case aS => exact (below_size (bw_ HB.out))); (case aL => have := LMc17.out; omega); intro v427 w19 ho hb hg hat; rw [← Ny426.out] at ho; have n0_ := am_ (hb); have n1_ := am_ (ho); clear HB; clear HO_3; have HB := n0_; have HO428 := n1_; clear n0_ n1_; clear ho hb hg hat))
           go_roundg kj7
           case measure => have := HK1.out; have := HJ2.out; have := HJ7.out; omega
           case rel => exact ⟨(y426), ((-1)), (wrap64 (x5_1 + 1)), tr_, tr_, H', ⟨by have := HK1.out; have := HJ2.out; have := HJ7.out; omega⟩, ⟨rr_ HO428.out⟩, ⟨bw_ HB.out⟩⟩
          ·rw [if_neg c12] at H
           have c12b0 : decide (0 ≤ x5_1) = false := decide_eq_false c12
           clear c12
           have H' := am_ H
           clear H
           go_wp2
           go_roundg kj7
           case measure => have := HK1.out; have := HJ2.out; have := HJ7.out; omega
           case rel => exact ⟨(x3_1), (x5_1), (wrap64 (x5_1 + 1)), tr_, tr_, H', ⟨by have := HK1.out; have := HJ2.out; have := HJ7.out; omega⟩, ⟨rr_ HO_3.out⟩, ⟨bw_ HB.out⟩⟩
        ·replace c10 := Bool.eq_false_iff.mpr c10
         subst c10
         have H1 : (if x6_2 = true then (Z4.l0 kj7 a0 x3_1 x4_1 (wrap64 (x5_1 + 1))) else (if x4_1 ≥ 0 then (if 0 ≤ x4_1 then (if x4_1 ≤ x5_1 then (if x5_1 ≤ (a0.size : Int) then ((Z37.f (a0.extract (x4_1 : Int).toNat (x5_1 : Int).toNat)).bind fun t429 => (if x3_1.length < 8796093022208 then (Z4.l0 kj7 a0 (x3_1 ++ [t429]) (-1) (wrap64 (x5_1 + 1))) else (none))) else (none)) else (none)) else (none)) else (Z4.l0 kj7 a0 x3_1 x4_1 (wrap64 (x5_1 + 1))))) = some r := by rw [if_neg (show ¬ (false = true) by decide)] at H; exact H
         clear H
         have H := H1
         clear H1
         by_cases c20 : x6_2 = true
         ·subst c20
          have H1 : (Z4.l0 kj7 a0 x3_1 x4_1 (wrap64 (x5_1 + 1))) = some r := by rw [if_pos rfl] at H; exact H
          clear H
          have H := H1
          clear H1
          have H' := am_ H
          clear H
          go_wp2
          go_roundg kj7
          case measure => have := HK1.out; have := HJ2.out; have := HJ7.out; omega
          case rel => exact ⟨(x3_1), (x4_1), (wrap64 (x5_1 + 1)), tr_, tr_, H', ⟨by have := HK1.out; have := HJ2.out; have := HJ7.out; omega⟩, ⟨rr_ HO_3.out⟩, ⟨bw_ HB.out⟩⟩
         ·replace c20 := Bool.eq_false_iff.mpr c20
          subst c20
          have H1 : (if x4_1 ≥ 0 then (if 0 ≤ x4_1 then (if x4_1 ≤ x5_1 then (if x5_1 ≤ (a0.size : Int) then ((Z37.f (a0.extract (x4_1 : Int).toNat (x5_1 : Int).toNat)).bind fun t429 => (if x3_1.length < 8796093022208 then (Z4.l0 kj7 a0 (x3_1 ++ [t429]) (-1) (wrap64 (x5_1 + 1))) else (none))) else (none)) else (none)) else (none)) else (Z4.l0 kj7 a0 x3_1 x4_1 (wrap64 (x5_1 + 1)))) = some r := by rw [if_neg (show ¬ (false = true) by decide)] at H; exact H
          clear H
          have H := H1
          clear H1
          by_cases c21 : x4_1 ≥ 0
          ·rw [if_pos c21] at H
           have c21b0 : decide (0 ≤ x4_1) = true := decide_eq_true c21
           clear c21
           by_cases c22 : 0 ≤ x4_1
           case neg => exact (nn_ c22 H).elim
           rw [if_pos c22] at H; have c22b0 := eq_true c22; have c22b1 := decide_eq_true c22; clear c22
           by_cases c23 : x4_1 ≤ x5_1
           case neg => exact (nn_ c23 H).elim
           rw [if_pos c23] at H; have c23b0 := eq_true c23; have c23b1 := decide_eq_true c23; clear c23
           by_cases c24 : x5_1 ≤ (a0.size : Int)
           case neg => exact (nn_ c24 H).elim
           rw [if_pos c24] at H; have c24b0 := eq_true c24; have c24b1 := decide_eq_true c24; clear c24; replace H := Option.bind_eq_some_iff.mp H; obtain ⟨t429, A250, H⟩ := H; have A25 := am_ A250; clear A250
           by_cases c26 : x3_1.length < 8796093022208
           case neg => exact (nn_ c26 H).elim
           rw [if_pos c26] at H; have LMc26 := am_ c26; clear c26
           obtain ⟨y430, hy430⟩ : ∃ y_ : List ByteArray, y_ = (x3_1 ++ [t429]) := ⟨_, rfl⟩
           replace H : (Z4.l0 kj7 a0 y430 (-1) (wrap64 (x5_1 + 1))) = some r := by first | (rw [hy430]; with_reducible exact H) | (have H2_ := (Option.bind_some _ _).symm.trans H; rw [hy430]; with_reducible exact H2_) | (have H2_ := (Option.bind_some _ _).symm.trans H; with_reducible exact H2_) | with_reducible exact H | (rw [hy430]; exact H) | exact H
           have Ny430 := am_ hy430; clear hy430
           have H' := am_ H
           clear H
           go_wp2_with (first | ((with_reducible refine gate_callee (f := 128) rfl ?_); refine goesL_ (some 40) rfl rfl Tryz.func128 (by kernel_rfl) rfl #[.string (a0.extract (x4_1 : Int).toNat (x5_1 : Int).toNat)] rfl gl_ ?_; (with_reducible refine (Z37.calls (a0.extract (x4_1 : Int).toNat (x5_1 : Int).toNat) t429 _ A25.out).mono ?_); rintro e w27 ⟨rfl, hb⟩; refine ⟨_, rfl, ?_⟩; have n0_ := am_ (Kd.R_below (rr_ HO_3.out) hb); have n1_ := am_ (below_step (bw_ HB.out) hb); clear HO_3; clear HB; have HO_3 := n0_; have HB := n1_; clear n0_ n1_; (try clear hb); (try clear hb2); (try clear hk); (try clear hi)) | ((with_reducible refine gate_builtin (b := .append) (xs := #[.tmp 35, .tmp 41]) rfl ?_); at_builtin; refine Kd.R_append Kd.string (w0 := w) w.heap.size rfl (.tmp 35) (.tmp 41) 27 9 (.string ⟨#[]⟩) 16 rfl Tryz.underlying27 info9 rfl (by decide) (by omega) u3 x3_1 t429 [.string t429] (fun _ => True) (fun _ => False) rfl rfl ?aP (fun _ hk => hk.elim) ?aF ?aO ?aB ?aS ?aL ?_; (case aP => exact rfl); (case aB => exact (bw_ HB.out)); (case aF => exact (fun _ _ => trivial)); (case aO => exact (rr_ HO_3.out)); (case aS => exact (below_size (bw_ HB.out))); (case aL => have := LMc26.out; omega); intro v431 w28 ho hb hg hat; rw [← Ny430.out] at ho; have n0_ := am_ (hb); have n1_ := am_ (ho); clear HB; clear HO_3; have HB := n0_; have HO432 := n1_; clear n0_ n1_; clear ho hb hg hat))
           go_roundg kj7
           case measure => have := HK1.out; have := HJ2.out; have := HJ7.out; omega
           case rel => exact ⟨(y430), ((-1)), (wrap64 (x5_1 + 1)), tr_, tr_, H', ⟨by have := HK1.out; have := HJ2.out; have := HJ7.out; omega⟩, ⟨rr_ HO432.out⟩, ⟨bw_ HB.out⟩⟩
          ·rw [if_neg c21] at H
           have c21b0 : decide (0 ≤ x4_1) = false := decide_eq_false c21
           clear c21
           have H' := am_ H
           clear H
           go_wp2
           go_roundg kj7
           case measure => have := HK1.out; have := HJ2.out; have := HJ7.out; omega
           case rel => exact ⟨(x3_1), (x4_1), (wrap64 (x5_1 + 1)), tr_, tr_, H', ⟨by have := HK1.out; have := HJ2.out; have := HJ7.out; omega⟩, ⟨rr_ HO_3.out⟩, ⟨bw_ HB.out⟩⟩
   ·rw [if_neg c2] at H
    have c2b0 : decide (x5_1 ≤ (a0.size : Int)) = false := decide_eq_false c2
    clear c2
    obtain rfl := Option.some.inj H
    go_wp2
    go_ret
    exact ⟨_, by first | rfl | (simp [errW_none, errW_some] <;> rfl) | (simp [*, errW_none, errW_some] <;> rfl), by (with_reducible repeat (first | apply r1_ | apply r2_ | apply r3_)); exact HO_3.out, bw_ HB.out⟩
def Z48.f (l0 : List ByteArray) (a1 : ByteArray) : Option (ByteArray) := if l0.length ≤ 140737488355328 ∧ (joinS l0 a1).size ≤ 140737488355328 then (some (joinS l0 a1)) else (none)
set_option maxHeartbeats 8000000 in
set_option maxRecDepth 100000 in
theorem Z48.calls (A0 : Option Addr) (c0 : Nat) (l0 : List ByteArray) (a1 : ByteArray) (r : ByteArray) (w : World) (hr0 : Kd.C Kd.string w A0 l0.length l0) (hc0 : l0.length ≤ c0) (h : Z48.f l0 a1 = some r) :
    Calls Tryz.prog 113 #[.slice A0 l0.length c0, .string a1] w fun e w' => e = .returned (.string r) ∧ Below w.heap.size w w' := by
  unfold Z48.f at h
  by_cases hc : l0.length ≤ 140737488355328 ∧ (joinS l0 a1).size ≤ 140737488355328
  · rw [if_pos hc] at h
    obtain rfl := Option.some.inj h
    rcases Nat.eq_zero_or_pos l0.length with h0 | h0
    · obtain rfl := List.eq_nil_of_length_eq_zero h0
      refine (Tryz.strings_Join_none A0 c0 a1 w).mono ?_
      rintro e w' ⟨rfl, rfl⟩
      exact ⟨rfl, Below.refl _ _⟩
    · obtain ⟨b, o, rfl, hb, hcell⟩ := C_cells hr0 h0
      refine (Tryz.strings_Join b o c0 l0 a1 w hcell hb hc.1 hc0 ?_).mono ?_
      · have := hc.2
        simpa [joinS, toL, ByteArray.size] using this
      · rintro e w' ⟨rfl, hB⟩
        exact ⟨rfl, hB⟩
  · rw [if_neg hc] at h
    exact absurd h (by simp)
end Go.Proofs.YtffaggbephnmkaaGreatDoor.Pq
