/- A part of the proof of textsCovered. No conditions. Laid by program over the kit's print and words. -/
import Derived.Test.YtolcpmdojlbhcaaDoorZyPxx0
import Derived.Test.YtolcpmdojlbhcaaDoorZyPxx7
import Derived.Test.YtolcpmdojlbhcaaDoorZyPxx8
namespace Go.Proofs.YtolcpmdojlbhcaaDoor.Px
open Go.RowKit Go.Proofs.YtolcpmdojlbhcaaDoor.GBase Go.Proofs.YtolcpmdojlbhcaaDoorW.PrintWords Go.Proofs.YtolcpmdojlbhcaaDoorW.PrintLast Go.Proofs.YtolcpmdojlbhcaaDoorW.PrintMore
attribute [local go_sem] str_leq max2_int min2_int max_two min_two max_three min_three max_four min_four
set_option linter.unusedVariables false
set_option linter.unusedSimpArgs false
set_option maxHeartbeats 8000000 in
set_option maxRecDepth 100000 in
theorem Z55.calls (a0 : Int) (r : Bool) (w : World) (h : Z55.f a0 = some r) :
  Calls Tryd.prog 86 #[.int .u8 a0] w fun e w' => e = .returned (.bool r) ∧ Drawn0 w w' := by
 have H : (if a0 ≥ 97 then (if a0 ≤ 122 then (some true) else (if a0 ≥ 65 then (if a0 ≤ 90 then (some true) else ((Z28.f a0).bind fun t246 => (if t246 = true then (some true) else (some (decide (a0 ≥ 128)))))) else ((Z28.f a0).bind fun t247 => (if t247 = true then (some true) else (some (decide (a0 ≥ 128))))))) else (if a0 ≥ 65 then (if a0 ≤ 90 then (some true) else ((Z28.f a0).bind fun t248 => (if t248 = true then (some true) else (some (decide (a0 ≥ 128)))))) else ((Z28.f a0).bind fun t249 => (if t249 = true then (some true) else (some (decide (a0 ≥ 128))))))) = some r := h
 clear h
 by_cases c2 : a0 ≥ 97
 ·rw [if_pos c2] at H
  have c2b0 : decide (97 ≤ a0) = true := decide_eq_true c2
  clear c2
  by_cases c3 : a0 ≤ 122
  ·rw [if_pos c3] at H
   have c3b0 := decide_eq_true c3; clear c3
   obtain rfl := Option.some.inj H
   go_enter Tryd.func86, Tryd.ntmps86
   go_wp2
   go_ret
   exact ⟨by first | rfl | (simp; done) | (simp [*]; done), by repeat (first | exact Drawn0.refl _ | apply Drawn0.step)⟩
  ·rw [if_neg c3] at H
   have c3b0 : decide (a0 ≤ 122) = false := decide_eq_false c3
   clear c3
   by_cases c4 : a0 ≥ 65
   ·rw [if_pos c4] at H
    have c4b0 : decide (65 ≤ a0) = true := decide_eq_true c4
    clear c4
    by_cases c5 : a0 ≤ 90
    ·rw [if_pos c5] at H
     have c5b0 := decide_eq_true c5; clear c5
     obtain rfl := Option.some.inj H
     go_enter Tryd.func86, Tryd.ntmps86
     go_wp2
     go_ret
     exact ⟨by first | rfl | (simp; done) | (simp [*]; done), by repeat (first | exact Drawn0.refl _ | apply Drawn0.step)⟩
    ·rw [if_neg c5] at H
     have c5b0 : decide (a0 ≤ 90) = false := decide_eq_false c5
     clear c5; replace H := Option.bind_eq_some_iff.mp H; obtain ⟨t246, A60, H⟩ := H; have A6 := am_ A60; clear A60
     by_cases c7 : t246 = true
     ·subst c7
      have H1 : (some true) = some r := by rw [if_pos rfl] at H; exact H
      clear H
      have H := H1
      clear H1
      obtain rfl := Option.some.inj H
      go_enter Tryd.func86, Tryd.ntmps86
      go_wp2_with (first | (go_at_call 94; (with_reducible refine (Z28.calls a0 true _ A6.out).mono ?_); rintro e w' ⟨rfl, ⟨nd, rfl⟩⟩))
      go_ret
      exact ⟨by first | rfl | (simp; done) | (simp [*]; done), by repeat (first | exact Drawn0.refl _ | apply Drawn0.step)⟩
     ·replace c7 := Bool.eq_false_iff.mpr c7
      subst c7
      have H1 : (some (decide (a0 ≥ 128))) = some r := by rw [if_neg (show ¬ (false = true) by decide)] at H; exact H
      clear H
      have H := H1
      clear H1
      obtain rfl := Option.some.inj H
      go_enter Tryd.func86, Tryd.ntmps86
      go_wp2_with (first | (go_at_call 94; (with_reducible refine (Z28.calls a0 false _ A6.out).mono ?_); rintro e w' ⟨rfl, ⟨nd, rfl⟩⟩))
      go_ret
      exact ⟨by first | rfl | (simp; done) | (simp [*]; done), by repeat (first | exact Drawn0.refl _ | apply Drawn0.step)⟩
   ·rw [if_neg c4] at H
    have c4b0 : decide (65 ≤ a0) = false := decide_eq_false c4
    clear c4; replace H := Option.bind_eq_some_iff.mp H; obtain ⟨t247, A80, H⟩ := H; have A8 := am_ A80; clear A80
    by_cases c9 : t247 = true
    ·subst c9
     have H1 : (some true) = some r := by rw [if_pos rfl] at H; exact H
     clear H
     have H := H1
     clear H1
     obtain rfl := Option.some.inj H
     go_enter Tryd.func86, Tryd.ntmps86
     go_wp2_with (first | (go_at_call 94; (with_reducible refine (Z28.calls a0 true _ A8.out).mono ?_); rintro e w' ⟨rfl, ⟨nd, rfl⟩⟩))
     go_ret
     exact ⟨by first | rfl | (simp; done) | (simp [*]; done), by repeat (first | exact Drawn0.refl _ | apply Drawn0.step)⟩
    ·replace c9 := Bool.eq_false_iff.mpr c9
     subst c9
     have H1 : (some (decide (a0 ≥ 128))) = some r := by rw [if_neg (show ¬ (false = true) by decide)] at H; exact H
     clear H
     have H := H1
     clear H1
     obtain rfl := Option.some.inj H
     go_enter Tryd.func86, Tryd.ntmps86
     go_wp2_with (first | (go_at_call 94; (with_reducible refine (Z28.calls a0 false _ A8.out).mono ?_); rintro e w' ⟨rfl, ⟨nd, rfl⟩⟩))
     go_ret
     exact ⟨by first | rfl | (simp; done) | (simp [*]; done), by repeat (first | exact Drawn0.refl _ | apply Drawn0.step)⟩
 ·rw [if_neg c2] at H
  have c2b0 : decide (97 ≤ a0) = false := decide_eq_false c2
  clear c2
  by_cases c10 : a0 ≥ 65
  ·rw [if_pos c10] at H
   have c10b0 : decide (65 ≤ a0) = true := decide_eq_true c10
   clear c10
   by_cases c11 : a0 ≤ 90
   ·rw [if_pos c11] at H
    have c11b0 := decide_eq_true c11; clear c11
    obtain rfl := Option.some.inj H
    go_enter Tryd.func86, Tryd.ntmps86
    go_wp2
    go_ret
    exact ⟨by first | rfl | (simp; done) | (simp [*]; done), by repeat (first | exact Drawn0.refl _ | apply Drawn0.step)⟩
   ·rw [if_neg c11] at H
    have c11b0 : decide (a0 ≤ 90) = false := decide_eq_false c11
    clear c11; replace H := Option.bind_eq_some_iff.mp H; obtain ⟨t248, A120, H⟩ := H; have A12 := am_ A120; clear A120
    by_cases c13 : t248 = true
    ·subst c13
     have H1 : (some true) = some r := by rw [if_pos rfl] at H; exact H
     clear H
     have H := H1
     clear H1
     obtain rfl := Option.some.inj H
     go_enter Tryd.func86, Tryd.ntmps86
     go_wp2_with (first | (go_at_call 94; (with_reducible refine (Z28.calls a0 true _ A12.out).mono ?_); rintro e w' ⟨rfl, ⟨nd, rfl⟩⟩))
     go_ret
     exact ⟨by first | rfl | (simp; done) | (simp [*]; done), by repeat (first | exact Drawn0.refl _ | apply Drawn0.step)⟩
    ·replace c13 := Bool.eq_false_iff.mpr c13
     subst c13
     have H1 : (some (decide (a0 ≥ 128))) = some r := by rw [if_neg (show ¬ (false = true) by decide)] at H; exact H
     clear H
     have H := H1
     clear H1
     obtain rfl := Option.some.inj H
     go_enter Tryd.func86, Tryd.ntmps86
     go_wp2_with (first | (go_at_call 94; (with_reducible refine (Z28.calls a0 false _ A12.out).mono ?_); rintro e w' ⟨rfl, ⟨nd, rfl⟩⟩))
     go_ret
     exact ⟨by first | rfl | (simp; done) | (simp [*]; done), by repeat (first | exact Drawn0.refl _ | apply Drawn0.step)⟩
  ·rw [if_neg c10] at H
   have c10b0 : decide (65 ≤ a0) = false := decide_eq_false c10
   clear c10; replace H := Option.bind_eq_some_iff.mp H; obtain ⟨t249, A140, H⟩ := H; have A14 := am_ A140; clear A140
   by_cases c15 : t249 = true
   ·subst c15
    have H1 : (some true) = some r := by rw [if_pos rfl] at H; exact H
    clear H
    have H := H1
    clear H1
    obtain rfl := Option.some.inj H
    go_enter Tryd.func86, Tryd.ntmps86
    go_wp2_with (first | (go_at_call 94; (with_reducible refine (Z28.calls a0 true _ A14.out).mono ?_); rintro e w' ⟨rfl, ⟨nd, rfl⟩⟩))
    go_ret
    exact ⟨by first | rfl | (simp; done) | (simp [*]; done), by repeat (first | exact Drawn0.refl _ | apply Drawn0.step)⟩
   ·replace c15 := Bool.eq_false_iff.mpr c15
    subst c15
    have H1 : (some (decide (a0 ≥ 128))) = some r := by rw [if_neg (show ¬ (false = true) by decide)] at H; exact H
    clear H
    have H := H1
    clear H1
    obtain rfl := Option.some.inj H
    go_enter Tryd.func86, Tryd.ntmps86
    go_wp2_with (first | (go_at_call 94; (with_reducible refine (Z28.calls a0 false _ A14.out).mono ?_); rintro e w' ⟨rfl, ⟨nd, rfl⟩⟩))
    go_ret
    exact ⟨by first | rfl | (simp; done) | (simp [*]; done), by repeat (first | exact Drawn0.refl _ | apply Drawn0.step)⟩
mutual
def Z7.l0 : Nat → ByteArray → List ByteArray → Int → Int → Option (List ByteArray)
  | 0, _, _, _, _ => none
  | k + 1, x0, x3, x4, x5 => if x5 ≤ (x0.size : Int) then (if x5 < (x0.size : Int) then (if 0 ≤ x5 then ((Z55.f (bt x0 x5)).bind fun t250 => (Z7.j1 k x0 x3 x4 x5 t250)) else (none)) else (Z7.j1 k x0 x3 x4 x5 false)) else (some x3)
def Z7.j1 : Nat → ByteArray → List ByteArray → Int → Int → Bool → Option (List ByteArray)
  | 0, _, _, _, _, _ => none
  | k + 1, x0, x3, x4, x5, x6 => if x6 = true then (Z7.j2 k x0 x3 x4 x5 x6 (decide (x4 < 0))) else (Z7.j2 k x0 x3 x4 x5 x6 false)
def Z7.j2 : Nat → ByteArray → List ByteArray → Int → Int → Bool → Bool → Option (List ByteArray)
  | 0, _, _, _, _, _, _ => none
  | k + 1, x0, x3, x4, x5, x6, x27 => if x27 = true then (if x6 = true then (Z7.l0 k x0 x3 x5 (wrap64 (x5 + 1))) else (if x5 ≥ 0 then (if 0 ≤ x5 then (if x5 ≤ x5 then (if x5 ≤ (x0.size : Int) then ((Z41.f ByteArray.empty).bind fun t251 => (if x3.length < 8796093022208 then (Z7.l0 k x0 (x3 ++ [t251]) (-1) (wrap64 (x5 + 1))) else (none))) else (none)) else (none)) else (none)) else (Z7.l0 k x0 x3 x5 (wrap64 (x5 + 1))))) else (if x6 = true then (Z7.l0 k x0 x3 x4 (wrap64 (x5 + 1))) else (if x4 ≥ 0 then (if 0 ≤ x4 then (if x4 ≤ x5 then (if x5 ≤ (x0.size : Int) then ((Z41.f (x0.extract (x4 : Int).toNat (x5 : Int).toNat)).bind fun t255 => (if x3.length < 8796093022208 then (Z7.l0 k x0 (x3 ++ [t255]) (-1) (wrap64 (x5 + 1))) else (none))) else (none)) else (none)) else (none)) else (Z7.l0 k x0 x3 x4 (wrap64 (x5 + 1)))))
end
def Z7.f (k : Nat) (a0 : ByteArray) : Option (List ByteArray) := Z7.l0 k a0 ([] : List ByteArray) (-1) 0
theorem Z7.mono_l : ∀ k, (∀ y0 y1 y2 y3, LeO (Z7.l0 k y0 y1 y2 y3) (Z7.l0 (k + 1) y0 y1 y2 y3)) ∧ (∀ y0 y1 y2 y3 y4, LeO (Z7.j1 k y0 y1 y2 y3 y4) (Z7.j1 (k + 1) y0 y1 y2 y3 y4)) ∧ (∀ y0 y1 y2 y3 y4 y5, LeO (Z7.j2 k y0 y1 y2 y3 y4 y5) (Z7.j2 (k + 1) y0 y1 y2 y3 y4 y5))
  | 0 => ⟨fun _ _ _ _ r h => by simp [Z7.l0] at h, fun _ _ _ _ _ r h => by simp [Z7.j1] at h, fun _ _ _ _ _ _ r h => by simp [Z7.j2] at h⟩
  | k + 1 => by
    obtain ⟨ih0, ih1, ih2⟩ := Z7.mono_l k
    refine ⟨?_, ?_, ?_⟩
    · intro y0 y1 y2 y3
      unfold Z7.l0
      repeat' first
      | (with_reducible exact ih0 _ _ _ _)
      | (with_reducible exact ih1 _ _ _ _ _)
      | (with_reducible exact ih2 _ _ _ _ _ _)
      | (with_reducible exact LeO.refl _)
      | (with_reducible exact LeO.none _)
      | (with_reducible refine LeO.ite ?_ ?_)
      | (with_reducible refine LeO.bind ?_ (fun _ => ?_))
      | exact ih0 _ _ _ _
      | exact ih1 _ _ _ _ _
      | exact ih2 _ _ _ _ _ _
      | exact LeO.none _
      | refine LeO.ite ?_ ?_
      | refine LeO.bind ?_ (fun _ => ?_)
    · intro y0 y1 y2 y3 y4
      unfold Z7.j1
      repeat' first
      | (with_reducible exact ih0 _ _ _ _)
      | (with_reducible exact ih1 _ _ _ _ _)
      | (with_reducible exact ih2 _ _ _ _ _ _)
      | (with_reducible exact LeO.refl _)
      | (with_reducible exact LeO.none _)
      | (with_reducible refine LeO.ite ?_ ?_)
      | (with_reducible refine LeO.bind ?_ (fun _ => ?_))
      | exact ih0 _ _ _ _
      | exact ih1 _ _ _ _ _
      | exact ih2 _ _ _ _ _ _
      | exact LeO.none _
      | refine LeO.ite ?_ ?_
      | refine LeO.bind ?_ (fun _ => ?_)
    · intro y0 y1 y2 y3 y4 y5
      unfold Z7.j2
      repeat' first
      | (with_reducible exact ih0 _ _ _ _)
      | (with_reducible exact ih1 _ _ _ _ _)
      | (with_reducible exact ih2 _ _ _ _ _ _)
      | (with_reducible exact LeO.refl _)
      | (with_reducible exact LeO.none _)
      | (with_reducible refine LeO.ite ?_ ?_)
      | (with_reducible refine LeO.bind ?_ (fun _ => ?_))
      | exact ih0 _ _ _ _
      | exact ih1 _ _ _ _ _
      | exact ih2 _ _ _ _ _ _
      | exact LeO.none _
      | refine LeO.ite ?_ ?_
      | refine LeO.bind ?_ (fun _ => ?_)
theorem Z7.mono : ∀ a0 k, LeO (Z7.f k a0) (Z7.f (k + 1) a0) := by
  intro a0 k
  obtain ⟨ih0, ih1, ih2⟩ := Z7.mono_l k
  unfold Z7.f
  repeat' first
      | (with_reducible exact ih0 _ _ _ _)
      | (with_reducible exact ih1 _ _ _ _ _)
      | (with_reducible exact ih2 _ _ _ _ _ _)
      | (with_reducible exact LeO.refl _)
      | (with_reducible exact LeO.none _)
      | (with_reducible refine LeO.ite ?_ ?_)
      | (with_reducible refine LeO.bind ?_ (fun _ => ?_))
      | exact ih0 _ _ _ _
      | exact ih1 _ _ _ _ _
      | exact ih2 _ _ _ _ _ _
      | exact LeO.none _
      | refine LeO.ite ?_ ?_
      | refine LeO.bind ?_ (fun _ => ?_)
set_option maxHeartbeats 8000000 in
set_option maxRecDepth 100000 in
theorem Z7.calls (k : Nat) (a0 : ByteArray) (r : List ByteArray) (w : World) (h : Z7.f k a0 = some r) :
  Calls Tryd.prog 43 #[.string a0] w fun e w' => ∃ v0_ : Value, e = .returned (v0_) ∧ Kd.R Kd.string 9 w' w.heap.size (fun _ => True) v0_ r ∧ Below w.heap.size w w' := by
 have HB := am_ (Below.refl w.heap.size w)
 have H : (Z7.l0 k a0 ([] : List ByteArray) (-1) 0) = some r := h
 clear h
 have H' := am_ H
 clear H
 go_enter Tryd.func43, Tryd.ntmps43
 go_wp2
 go_loopg [3, 4, 5] k (fun kq v3 v4 v5 w' => ∃ (x3_1 : List ByteArray) (x4_1 : Int) (x5_1 : Int), v4 = .int .i64 x4_1 ∧ v5 = .int .i64 x5_1 ∧ Aside0 (Z7.l0 kq a0 x3_1 x4_1 x5_1 = some r) ∧ Aside0 (kq ≤ k) ∧ Aside0 (Kd.R Kd.string 9 w' w.heap.size (fun _ => True) v3 x3_1) ∧ Aside0 (Below w.heap.size w w'))
 case atStart => exact ⟨(([] : List ByteArray)), ((-1)), (0), tr_, tr_, H', ⟨Nat.le_refl _⟩, ⟨by first | exact Kd.R_nil _ _ _ _ _ | exact Kd.N_nil _ _ _ _ _ | exact Kd.V_nil _ _ _ _ _ | exact Kd.Q_nil _ _ _ _ _ | exact Kd.S_nil _ _ _ _ _⟩, ⟨bw_ HB.out⟩⟩
 case round =>
  clear H'; obtain ⟨x3_1, x4_1, x5_1, rfl, rfl, HA, HK1, HO_3, HB⟩ := hrel
  cases gk with
  | zero => exact absurd HA.out (by simp [Z7.l0])
  | succ k1 =>
   have H := HA.out
   clear HA
   simp only [Z7.l0] at H
   by_cases c2 : x5_1 ≤ (a0.size : Int)
   ·rw [if_pos c2] at H
    have c2b0 := decide_eq_true c2; clear c2; have HC3 := am_ H; clear H
    go_upto_region 6 with (fail)
    go_cut [6] (fun v6 wc => ∃ (kq : Nat) (x6_2 : Bool), v6 = .bool x6_2 ∧ Aside0 (Z7.j1 kq a0 x3_1 x4_1 x5_1 x6_2 = some r) ∧ Aside0 (kq ≤ k1) ∧ Aside0 (Kd.R Kd.string 9 wc w.heap.size (fun _ => True) u3 x3_1) ∧ Aside0 (Below w.heap.size w wc))
    case first =>
     have H := HC3.out
     clear HC3
     by_cases c4 : x5_1 < (a0.size : Int)
     ·rw [if_pos c4] at H
      have c4b0 := decide_eq_true c4; clear c4
      (first | rw [c4b0] | (simp only [i64_w, i32_w]; rw [c4b0]) | skip)
      by_cases c5 : 0 ≤ x5_1
      case neg => exact (nn_ c5 H).elim
      rw [if_pos c5] at H; have c5b0 := decide_eq_true c5; clear c5; replace H := Option.bind_eq_some_iff.mp H; obtain ⟨t250, A70, H⟩ := H; have A7 := am_ A70; clear A70
      have H' := am_ H
      clear H; have p6 : 0 ≤ (x5_1 : Int) := ode_; have q6 : x5_1 < (a0.size : Int) := ode_
      have hx6 := bt_at a0 x5_1
      replace p6 := eq_true p6; replace q6 := eq_true q6
      go_wp2_with (first | (go_at_call 86; (with_reducible refine (Z55.calls (bt a0 x5_1) t250 _ A7.out).mono ?_); rintro e w' ⟨rfl, ⟨nd, rfl⟩⟩))
      go_meet
      case rel => exact ⟨_, (t250), tr_, H', ⟨by have := HK1.out; first | omega | exact Nat.le_refl _⟩, ⟨rr_ HO_3.out⟩, ⟨bw_ HB.out⟩⟩
     ·rw [if_neg c4] at H
      have c4b0 : decide (x5_1 < (a0.size : Int)) = false := decide_eq_false c4
      clear c4
      (first | rw [c4b0] | (simp only [i64_w, i32_w]; rw [c4b0]) | skip)
      have H' := am_ H
      clear H
      go_wp2
      go_meet
      case rel => exact ⟨_, (false), tr_, H', ⟨by have := HK1.out; first | omega | exact Nat.le_refl _⟩, ⟨rr_ HO_3.out⟩, ⟨bw_ HB.out⟩⟩
    case rest =>
     clear HC3; (try clear c2); (try clear c2b0); (try clear p2); (try clear c4); (try clear c4b0); (try clear c5); (try clear c5b0); (try clear p6); (try clear q6); (try clear hx6); (try clear p6); (try clear q6); obtain ⟨kq, x6_2, rfl, HA, HJ2, HO_3, HB⟩ := hcut
     cases kq with
     | zero => exact absurd HA.out (by simp [Z7.j1])
     | succ kj2 =>
      have H := HA.out
      clear HA
      simp only [Z7.j1] at H
      have HC8 := am_ H; clear H
      go_upto_region 7 with (fail)
      go_cut [27] (fun v27 wc => ∃ (kq : Nat) (x27_7 : Bool), v27 = .bool x27_7 ∧ Aside0 (Z7.j2 kq a0 x3_1 x4_1 x5_1 x6_2 x27_7 = some r) ∧ Aside0 (kq ≤ kj2) ∧ Aside0 (Kd.R Kd.string 9 wc w.heap.size (fun _ => True) u3 x3_1) ∧ Aside0 (Below w.heap.size w wc))
      case first =>
       have H := HC8.out
       clear HC8
       by_cases c9 : x6_2 = true
       ·subst c9
        have H1 : (Z7.j2 kj2 a0 x3_1 x4_1 x5_1 true (decide (x4_1 < 0))) = some r := by rw [if_pos rfl] at H; exact H
        clear H
        have H := H1
        clear H1
        have H' := am_ H
        clear H
        go_wp2
        go_meet
        case rel => exact ⟨_, (decide (x4_1 < 0)), tr_, H', ⟨by have := HK1.out; have := HJ2.out; first | omega | exact Nat.le_refl _⟩, ⟨rr_ HO_3.out⟩, ⟨bw_ HB.out⟩⟩
       ·replace c9 := Bool.eq_false_iff.mpr c9
        subst c9
        have H1 : (Z7.j2 kj2 a0 x3_1 x4_1 x5_1 false false) = some r := by rw [if_neg (show ¬ (false = true) by decide)] at H; exact H
        clear H
        have H := H1
        clear H1
        have H' := am_ H
        clear H
        go_wp2
        go_meet
        case rel => exact ⟨_, (false), tr_, H', ⟨by have := HK1.out; have := HJ2.out; first | omega | exact Nat.le_refl _⟩, ⟨rr_ HO_3.out⟩, ⟨bw_ HB.out⟩⟩
      case rest =>
       clear HC8; (try clear c2); (try clear c2b0); (try clear p2); (try clear c4); (try clear c4b0); (try clear c5); (try clear c5b0); (try clear p6); (try clear q6); (try clear hx6); (try clear c9); (try clear p2); (try clear p6); (try clear q6); obtain ⟨kq, x27_7, rfl, HA, HJ7, HO_3, HB⟩ := hcut
       cases kq with
       | zero => exact absurd HA.out (by simp [Z7.j2])
       | succ kj7 =>
        have H := HA.out
        clear HA
        simp only [Z7.j2] at H
        by_cases c10 : x27_7 = true
        ·subst c10
         have H1 : (if x6_2 = true then (Z7.l0 kj7 a0 x3_1 x5_1 (wrap64 (x5_1 + 1))) else (if x5_1 ≥ 0 then (if 0 ≤ x5_1 then (if x5_1 ≤ x5_1 then (if x5_1 ≤ (a0.size : Int) then ((Z41.f ByteArray.empty).bind fun t251 => (if x3_1.length < 8796093022208 then (Z7.l0 kj7 a0 (x3_1 ++ [t251]) (-1) (wrap64 (x5_1 + 1))) else (none))) else (none)) else (none)) else (none)) else (Z7.l0 kj7 a0 x3_1 x5_1 (wrap64 (x5_1 + 1))))) = some r := by rw [if_pos rfl] at H; exact H
         clear H
         have H := H1
         clear H1
         by_cases c11 : x6_2 = true
         ·subst c11
          have H1 : (Z7.l0 kj7 a0 x3_1 x5_1 (wrap64 (x5_1 + 1))) = some r := by rw [if_pos rfl] at H; exact H
          clear H
          have H := H1
          clear H1
          have H' := am_ H
          clear H
          go_wp2
          go_roundg kj7
          case measure => have := HK1.out; have := HJ2.out; have := HJ7.out; omega
          case rel => exact ⟨(x3_1), (x5_1), (wrap64 (x5_1 + 1)), tr_, tr_, H', ⟨by have := HK1.out; have := HJ2.out; have := HJ7.out; omega⟩, ⟨rr_ HO_3.out⟩, ⟨bw_ HB.out⟩⟩
         ·replace c11 := Bool.eq_false_iff.mpr c11
          subst c11
          have H1 : (if x5_1 ≥ 0 then (if 0 ≤ x5_1 then (if x5_1 ≤ x5_1 then (if x5_1 ≤ (a0.size : Int) then ((Z41.f ByteArray.empty).bind fun t251 => (if x3_1.length < 8796093022208 then (Z7.l0 kj7 a0 (x3_1 ++ [t251]) (-1) (wrap64 (x5_1 + 1))) else (none))) else (none)) else (none)) else (none)) else (Z7.l0 kj7 a0 x3_1 x5_1 (wrap64 (x5_1 + 1)))) = some r := by rw [if_neg (show ¬ (false = true) by decide)] at H; exact H
          clear H
          have H := H1
          clear H1
          by_cases c12 : x5_1 ≥ 0
          ·rw [if_pos c12] at H
           have c12b0 : decide (0 ≤ x5_1) = true := decide_eq_true c12
           clear c12
           by_cases c13 : 0 ≤ x5_1
           case neg => exact (nn_ c13 H).elim
           rw [if_pos c13] at H; have c13b0 := eq_true c13; have c13b1 := decide_eq_true c13; clear c13
           by_cases c14 : x5_1 ≤ x5_1
           case neg => exact (nn_ c14 H).elim
           rw [if_pos c14] at H; have c14b0 := eq_true c14; have c14b1 := decide_eq_true c14; clear c14
           by_cases c15 : x5_1 ≤ (a0.size : Int)
           case neg => exact (nn_ c15 H).elim
           rw [if_pos c15] at H; have c15b0 := eq_true c15; have c15b1 := decide_eq_true c15; clear c15; replace H := Option.bind_eq_some_iff.mp H; obtain ⟨t251, A160, H⟩ := H; have A16 := am_ A160; clear A160
           by_cases c17 : x3_1.length < 8796093022208
           case neg => exact (nn_ c17 H).elim
           rw [if_pos c17] at H; have LMc17 := am_ c17; clear c17
           obtain ⟨y252, hy252⟩ : ∃ y_ : List ByteArray, y_ = (x3_1 ++ [t251]) := ⟨_, rfl⟩
           replace H : (Z7.l0 kj7 a0 y252 (-1) (wrap64 (x5_1 + 1))) = some r := by first | (rw [hy252]; with_reducible exact H) | (have H2_ := (Option.bind_some _ _).symm.trans H; rw [hy252]; with_reducible exact H2_) | (have H2_ := (Option.bind_some _ _).symm.trans H; with_reducible exact H2_) | with_reducible exact H | (rw [hy252]; exact H) | exact H
           have Ny252 := am_ hy252; clear hy252
           have H' := am_ H
           clear H
           go_wp2_with (first | ((with_reducible refine gate_callee (f := 63) rfl ?_); refine goesL_ (some 40) rfl rfl Tryd.func63 (by kernel_rfl) rfl #[.string ByteArray.empty] rfl gl_ ?_; (with_reducible refine (Z41.calls ByteArray.empty t251 _ A16.out).mono ?_); rintro e w18 ⟨rfl, hb⟩; refine ⟨_, rfl, ?_⟩; have n0_ := am_ (Kd.R_below (rr_ HO_3.out) hb); have n1_ := am_ (below_step (bw_ HB.out) hb); clear HO_3; clear HB; have HO_3 := n0_; have HB := n1_; clear n0_ n1_; (try clear hb); (try clear hb2); (try clear hk); (try clear hi)) | ((with_reducible refine gate_builtin (b := .append) (xs := #[.tmp 35, .tmp 41]) rfl ?_); at_builtin; refine Kd.R_append Kd.string (w0 := w) w.heap.size rfl (.tmp 35) (.tmp 41) 26 9 (.string ⟨#[]⟩) 16 rfl Tryd.underlying26 info9 rfl (by decide) (by omega) u3 x3_1 t251 [.string t251] (fun _ => True) (fun _ => False) rfl rfl ?aP (fun _ hk => hk.elim) ?aF ?aO ?aB ?aS ?aL ?_; (case aP => exact rfl); (case aB => exact (bw_ HB.out)); (case aF => exact (fun _ _ => trivial)); (case aO => exact (rr_ HO_3.out)); (case aS => exact (below_size (bw_ HB.out))); (case aL => have := LMc17.out; omega); intro v253 w19 ho hb hg hat; rw [← Ny252.out] at ho; have n0_ := am_ (hb); have n1_ := am_ (ho); clear HB; clear HO_3; have HB := n0_; have HO254 := n1_; clear n0_ n1_; clear ho hb hg hat))
           go_roundg kj7
           case measure => have := HK1.out; have := HJ2.out; have := HJ7.out; omega
           case rel => exact ⟨(y252), ((-1)), (wrap64 (x5_1 + 1)), tr_, tr_, H', ⟨by have := HK1.out; have := HJ2.out; have := HJ7.out; omega⟩, ⟨rr_ HO254.out⟩, ⟨bw_ HB.out⟩⟩
          ·rw [if_neg c12] at H
           have c12b0 : decide (0 ≤ x5_1) = false := decide_eq_false c12
           clear c12
           have H' := am_ H
           clear H
           go_wp2
           go_roundg kj7
           case measure => have := HK1.out; have := HJ2.out; have := HJ7.out; omega
           case rel => exact ⟨(x3_1), (x5_1), (wrap64 (x5_1 + 1)), tr_, tr_, H', ⟨by have := HK1.out; have := HJ2.out; have := HJ7.out; omega⟩, ⟨rr_ HO_3.out⟩, ⟨bw_ HB.out⟩⟩
        ·replace c10 := Bool.eq_false_iff.mpr c10
         subst c10
         have H1 : (if x6_2 = true then (Z7.l0 kj7 a0 x3_1 x4_1 (wrap64 (x5_1 + 1))) else (if x4_1 ≥ 0 then (if 0 ≤ x4_1 then (if x4_1 ≤ x5_1 then (if x5_1 ≤ (a0.size : Int) then ((Z41.f (a0.extract (x4_1 : Int).toNat (x5_1 : Int).toNat)).bind fun t255 => (if x3_1.length < 8796093022208 then (Z7.l0 kj7 a0 (x3_1 ++ [t255]) (-1) (wrap64 (x5_1 + 1))) else (none))) else (none)) else (none)) else (none)) else (Z7.l0 kj7 a0 x3_1 x4_1 (wrap64 (x5_1 + 1))))) = some r := by rw [if_neg (show ¬ (false = true) by decide)] at H; exact H
         clear H
         have H := H1
         clear H1
         by_cases c20 : x6_2 = true
         ·subst c20
          have H1 : (Z7.l0 kj7 a0 x3_1 x4_1 (wrap64 (x5_1 + 1))) = some r := by rw [if_pos rfl] at H; exact H
          clear H
          have H := H1
          clear H1
          have H' := am_ H
          clear H
          go_wp2
          go_roundg kj7
          case measure => have := HK1.out; have := HJ2.out; have := HJ7.out; omega
          case rel => exact ⟨(x3_1), (x4_1), (wrap64 (x5_1 + 1)), tr_, tr_, H', ⟨by have := HK1.out; have := HJ2.out; have := HJ7.out; omega⟩, ⟨rr_ HO_3.out⟩, ⟨bw_ HB.out⟩⟩
         ·replace c20 := Bool.eq_false_iff.mpr c20
          subst c20
          have H1 : (if x4_1 ≥ 0 then (if 0 ≤ x4_1 then (if x4_1 ≤ x5_1 then (if x5_1 ≤ (a0.size : Int) then ((Z41.f (a0.extract (x4_1 : Int).toNat (x5_1 : Int).toNat)).bind fun t255 => (if x3_1.length < 8796093022208 then (Z7.l0 kj7 a0 (x3_1 ++ [t255]) (-1) (wrap64 (x5_1 + 1))) else (none))) else (none)) else (none)) else (none)) else (Z7.l0 kj7 a0 x3_1 x4_1 (wrap64 (x5_1 + 1)))) = some r := by rw [if_neg (show ¬ (false = true) by decide)] at H; exact H
          clear H
          have H := H1
          clear H1
          by_cases c21 : x4_1 ≥ 0
          ·rw [if_pos c21] at H
           have c21b0 : decide (0 ≤ x4_1) = true := decide_eq_true c21
           clear c21
           by_cases c22 : 0 ≤ x4_1
           case neg => exact (nn_ c22 H).elim
           rw [if_pos c22] at H; have c22b0 := eq_true c22; have c22b1 := decide_eq_true c22; clear c22
           by_cases c23 : x4_1 ≤ x5_1
           case neg => exact (nn_ c23 H).elim
           rw [if_pos c23] at H; have c23b0 := eq_true c23; have c23b1 := decide_eq_true c23; clear c23
           by_cases c24 : x5_1 ≤ (a0.size : Int)
           case neg => exact (nn_ c24 H).elim
           rw [if_pos c24] at H; have c24b0 := eq_true c24; have c24b1 := decide_eq_true c24; clear c24; replace H := Option.bind_eq_some_iff.mp H; obtain ⟨t255, A250, H⟩ := H; have A25 := am_ A250; clear A250
           by_cases c26 : x3_1.length < 8796093022208
           case neg => exact (nn_ c26 H).elim
           rw [if_pos c26] at H; have LMc26 := am_ c26; clear c26
           obtain ⟨y256, hy256⟩ : ∃ y_ : List ByteArray, y_ = (x3_1 ++ [t255]) := ⟨_, rfl⟩
           replace H : (Z7.l0 kj7 a0 y256 (-1) (wrap64 (x5_1 + 1))) = some r := by first | (rw [hy256]; with_reducible exact H) | (have H2_ := (Option.bind_some _ _).symm.trans H; rw [hy256]; with_reducible exact H2_) | (have H2_ := (Option.bind_some _ _).symm.trans H; with_reducible exact H2_) | with_reducible exact H | (rw [hy256]; exact H) | exact H
           have Ny256 := am_ hy256; clear hy256
           have H' := am_ H
           clear H
           go_wp2_with (first | ((with_reducible refine gate_callee (f := 63) rfl ?_); refine goesL_ (some 40) rfl rfl Tryd.func63 (by kernel_rfl) rfl #[.string (a0.extract (x4_1 : Int).toNat (x5_1 : Int).toNat)] rfl gl_ ?_; (with_reducible refine (Z41.calls (a0.extract (x4_1 : Int).toNat (x5_1 : Int).toNat) t255 _ A25.out).mono ?_); rintro e w27 ⟨rfl, hb⟩; refine ⟨_, rfl, ?_⟩; have n0_ := am_ (Kd.R_below (rr_ HO_3.out) hb); have n1_ := am_ (below_step (bw_ HB.out) hb); clear HO_3; clear HB; have HO_3 := n0_; have HB := n1_; clear n0_ n1_; (try clear hb); (try clear hb2); (try clear hk); (try clear hi)) | ((with_reducible refine gate_builtin (b := .append) (xs := #[.tmp 35, .tmp 41]) rfl ?_); at_builtin; refine Kd.R_append Kd.string (w0 := w) w.heap.size rfl (.tmp 35) (.tmp 41) 26 9 (.string ⟨#[]⟩) 16 rfl Tryd.underlying26 info9 rfl (by decide) (by omega) u3 x3_1 t255 [.string t255] (fun _ => True) (fun _ => False) rfl rfl ?aP (fun _ hk => hk.elim) ?aF ?aO ?aB ?aS ?aL ?_; (case aP => exact rfl); (case aB => exact (bw_ HB.out)); (case aF => exact (fun _ _ => trivial)); (case aO => exact (rr_ HO_3.out)); (case aS => exact (below_size (bw_ HB.out))); (case aL => have := LMc26.out; omega); intro v257 w28 ho hb hg hat; rw [← Ny256.out] at ho; have n0_ := am_ (hb); have n1_ := am_ (ho); clear HB; clear HO_3; have HB := n0_; have HO258 := n1_; clear n0_ n1_; clear ho hb hg hat))
           go_roundg kj7
           case measure => have := HK1.out; have := HJ2.out; have := HJ7.out; omega
           case rel => exact ⟨(y256), ((-1)), (wrap64 (x5_1 + 1)), tr_, tr_, H', ⟨by have := HK1.out; have := HJ2.out; have := HJ7.out; omega⟩, ⟨rr_ HO258.out⟩, ⟨bw_ HB.out⟩⟩
          ·rw [if_neg c21] at H
           have c21b0 : decide (0 ≤ x4_1) = false := decide_eq_false c21
           clear c21
           have H' := am_ H
           clear H
           go_wp2
           go_roundg kj7
           case measure => have := HK1.out; have := HJ2.out; have := HJ7.out; omega
           case rel => exact ⟨(x3_1), (x4_1), (wrap64 (x5_1 + 1)), tr_, tr_, H', ⟨by have := HK1.out; have := HJ2.out; have := HJ7.out; omega⟩, ⟨rr_ HO_3.out⟩, ⟨bw_ HB.out⟩⟩
   ·rw [if_neg c2] at H
    have c2b0 : decide (x5_1 ≤ (a0.size : Int)) = false := decide_eq_false c2
    clear c2
    obtain rfl := Option.some.inj H
    go_wp2
    go_ret
    exact ⟨_, by first | rfl | (simp [errW_none, errW_some] <;> rfl) | (simp [*, errW_none, errW_some] <;> rfl), by (with_reducible repeat (first | apply r1_ | apply r2_ | apply r3_)); exact HO_3.out, bw_ HB.out⟩
def Z56.f (l0 : List (S46)) : Option ((List (S46)) × Int) := if (l0.length : Int) > 1000 then (some (([] : List (S46)), 2)) else (some (l0, 0))
set_option maxHeartbeats 8000000 in
set_option maxRecDepth 100000 in
theorem Z56.calls (P0_ : Nat → Prop) (u9000_ : Value) (l0 : List (S46)) (r1 : List (S46)) (r2 : Int) (w0 w : World) (hB : Below w0.heap.size w0 w) (ho0 : Kd.R k46 46 w w0.heap.size P0_ u9000_ l0) (h : Z56.f l0 = some (r1, r2)) :
  Calls Tryd.prog 56 #[u9000_] w fun e w' => ∃ v0_ : Value, e = .returned (.tuple #[v0_, .int .i64 r2]) ∧ Kd.R k46 46 w' w0.heap.size (fun k_ => (P0_ k_ ∨ w.heap.size ≤ k_)) v0_ r1 ∧ Below w0.heap.size w0 w' ∧ Kept w w' (fun k_ => P0_ k_) := by
 have HO0 := am_ (show Kd.R k46 46 w w0.heap.size (fun k_ => (P0_ k_ ∨ w.heap.size ≤ k_)) u9000_ l0 from Kd.R_mono ho0 (fun k_ hk => (.inl hk)))
 have HK := am_ (Kept.refl w (fun k_ => P0_ k_))
 have HW0 := am_ hB.size; have HB := am_ hB; clear hB
 have H : (if (l0.length : Int) > 1000 then (some (([] : List (S46)), 2)) else (some (l0, 0))) = some (r1, r2) := h
 clear h
 by_cases c2 : (l0.length : Int) > 1000
 ·rw [if_pos c2] at H
  have c2b0 : decide (1000 < (l0.length : Int)) = true := decide_eq_true c2
  have c2b1 : decide (1000 < l0.length) = true := decide_eq_true (by omega)
  clear c2
  simp only [Option.some.injEq, Prod.mk.injEq] at H
  obtain ⟨rfl, rfl⟩ := H
  obtain ⟨Ao3, co3, eo3⟩ := Kd.R_slice HO0.out
  subst eo3
  go_enter Tryd.func56, Tryd.ntmps56
  go_wp2
  go_ret2
  exact ⟨_, by first | rfl | (simp [errW_none, errW_some] <;> rfl) | (simp [*, errW_none, errW_some] <;> rfl), by first | exact Kd.R_nil _ _ _ _ _ | exact Kd.N_nil _ _ _ _ _ | exact Kd.V_nil _ _ _ _ _ | exact Kd.Q_nil _ _ _ _ _ | exact Kd.S_nil _ _ _ _ _, bw_ HB.out, by repeat (first | (with_reducible first | exact HK.out | apply Kept.alloc | apply Kept.drewN | apply Kept.drew) | exact HK.out)⟩
 ·rw [if_neg c2] at H
  have c2b0 : decide (1000 < (l0.length : Int)) = false := decide_eq_false c2
  have c2b1 : decide (1000 < l0.length) = false := decide_eq_false (by omega)
  clear c2
  simp only [Option.some.injEq, Prod.mk.injEq] at H
  obtain ⟨rfl, rfl⟩ := H
  obtain ⟨Ao4, co4, eo4⟩ := Kd.R_slice HO0.out
  subst eo4
  go_enter Tryd.func56, Tryd.ntmps56
  go_wp2
  go_ret2
  exact ⟨_, by first | rfl | (simp [errW_none, errW_some] <;> rfl) | (simp [*, errW_none, errW_some] <;> rfl), by (with_reducible repeat (first | apply r1_ | apply r2_ | apply r3_)); exact HO0.out, bw_ HB.out, by repeat (first | (with_reducible first | exact HK.out | apply Kept.alloc | apply Kept.drewN | apply Kept.drew) | exact HK.out)⟩
def Z35.l0 : Nat → List Bool → Bool → Int → Int → Option (Int)
  | 0, _, _, _, _ => none
  | k + 1, x0, x1, x7, x8 => if x8 < x7 then (if 0 ≤ x8 then (if x8 < (x0.length : Int) then (if (x1 == (rdOf false x0 x8)) = true then (some x8) else (Z35.l0 k x0 x1 x7 (wrap64 (x8 + 1)))) else (none)) else (none)) else (some (-1))
def Z35.f (k : Nat) (l0 : List Bool) (a1 : Bool) : Option (Int) := Z35.l0 k l0 a1 (l0.length : Int) 0
theorem Z35.mono_l : ∀ k, (∀ y0 y1 y2 y3, LeO (Z35.l0 k y0 y1 y2 y3) (Z35.l0 (k + 1) y0 y1 y2 y3))
  | 0 => fun _ _ _ _ r h => by simp [Z35.l0] at h
  | k + 1 => by
    have ih0 := Z35.mono_l k
    · intro y0 y1 y2 y3
      unfold Z35.l0
      repeat' first
      | (with_reducible exact ih0 _ _ _ _)
      | (with_reducible exact LeO.refl _)
      | (with_reducible exact LeO.none _)
      | (with_reducible refine LeO.ite ?_ ?_)
      | (with_reducible refine LeO.bind ?_ (fun _ => ?_))
      | exact ih0 _ _ _ _
      | exact LeO.none _
      | refine LeO.ite ?_ ?_
      | refine LeO.bind ?_ (fun _ => ?_)
theorem Z35.mono : ∀ a0 a1 k, LeO (Z35.f k a0 a1) (Z35.f (k + 1) a0 a1) := by
  intro a0 a1 k
  have ih0 := Z35.mono_l k
  unfold Z35.f
  repeat' first
      | (with_reducible exact ih0 _ _ _ _)
      | (with_reducible exact LeO.refl _)
      | (with_reducible exact LeO.none _)
      | (with_reducible refine LeO.ite ?_ ?_)
      | (with_reducible refine LeO.bind ?_ (fun _ => ?_))
      | exact ih0 _ _ _ _
      | exact LeO.none _
      | refine LeO.ite ?_ ?_
      | refine LeO.bind ?_ (fun _ => ?_)
set_option maxHeartbeats 8000000 in
set_option maxRecDepth 100000 in
theorem Z35.calls (k : Nat) (A0 : Option Addr) (c0 : Nat) (l0 : List Bool) (a1 : Bool) (r : Int) (w : World) (hr0 : Kd.C Kd.bool w A0 l0.length l0) (hc0 : l0.length ≤ c0) (h : Z35.f k l0 a1 = some r) :
  Calls Tryd.prog 95 #[.slice A0 l0.length c0, .bool a1] w fun e w' => e = .returned (.int .i64 r) ∧ Drawn0 w w' := by
 have HR0 := am_ hr0; have HC0 := am_ hc0; clear hr0 hc0
 have H : (Z35.l0 k l0 a1 (l0.length : Int) 0) = some r := h
 clear h
 have H' := am_ H
 clear H
 go_enter Tryd.func95, Tryd.ntmps95
 go_wp2
 go_loopg [8] k (fun kq v8 w' => ∃ (x8_1 : Int), v8 = .int .i64 x8_1 ∧ Aside0 (Z35.l0 kq l0 a1 (l0.length : Int) x8_1 = some r) ∧ Aside0 (kq ≤ k) ∧ Drawn0 w w')
 case atStart => exact ⟨(0), tr_, H', ⟨Nat.le_refl _⟩, by repeat (first | exact Drawn0.refl _ | apply Drawn0.step)⟩
 case round =>
  clear H'; (try clear p2)
  obtain ⟨x8_1, rfl, HA, HK1, ⟨m1, rfl⟩⟩ := hrel
  cases gk with
  | zero => exact absurd HA.out (by simp [Z35.l0])
  | succ k1 =>
   have H := HA.out
   clear HA
   simp only [Z35.l0] at H
   by_cases c3 : x8_1 < (l0.length : Int)
   ·rw [if_pos c3] at H
    have c3b0 := decide_eq_true c3; clear c3
    by_cases c4 : 0 ≤ x8_1
    case neg => exact (nn_ c4 H).elim
    rw [if_pos c4] at H; have c4b0 := decide_eq_true c4; clear c4
    by_cases c5 : x8_1 < (l0.length : Int)
    case neg => exact (nn_ c5 H).elim
    rw [if_pos c5] at H; have c5b0 := decide_eq_true c5; clear c5
    by_cases c6 : (a1 == (rdOf false l0 x8_1)) = true
    ·rw [if_pos c6] at H
     have c6b0 : (a1 == (rdOf false l0 x8_1)) = true := c6
     (try (have c6b1 : decide (a1 = (rdOf false l0 x8_1)) = true := by simpa using c6))
     (try (have c6b2 : (a1 == (rdOf false l0 x8_1)) = true := by simpa using c6))
     clear c6
     obtain rfl := Option.some.inj H
     have p259 : 0 ≤ (x8_1 : Int) := ode_; have q259 : x8_1 < (l0.length : Int) := ode_
     obtain ⟨ad259, e259, hx259_0⟩ := Kd.at_bool HR0.out x8_1 p259 q259
     cases e259; replace p259 := eq_true p259; replace q259 := eq_true q259
     go_wp2
     go_ret
     exact ⟨by first | rfl | (simp; done) | (simp [*]; done), by repeat (first | exact Drawn0.refl _ | apply Drawn0.step)⟩
    ·rw [if_neg c6] at H
     have c6b0 : (a1 == (rdOf false l0 x8_1)) = false := by simpa using c6
     (try (have c6b1 : decide (a1 = (rdOf false l0 x8_1)) = false := by simpa using c6))
     (try (have c6b2 : (a1 == (rdOf false l0 x8_1)) = false := by simpa using c6))
     (try (have c6b3 : ¬ (a1 = (rdOf false l0 x8_1)) := by simpa using c6))
     clear c6
     have H' := am_ H
     clear H; have p259 : 0 ≤ (x8_1 : Int) := ode_; have q259 : x8_1 < (l0.length : Int) := ode_
     obtain ⟨ad259, e259, hx259_0⟩ := Kd.at_bool HR0.out x8_1 p259 q259
     cases e259; replace p259 := eq_true p259; replace q259 := eq_true q259
     go_wp2
     go_roundg k1
     case measure => have := HK1.out; omega
     case rel => exact ⟨(wrap64 (x8_1 + 1)), tr_, H', ⟨by have := HK1.out; omega⟩, by repeat (first | exact Drawn0.refl _ | apply Drawn0.step)⟩
   ·rw [if_neg c3] at H
    have c3b0 : decide (x8_1 < (l0.length : Int)) = false := decide_eq_false c3
    clear c3
    obtain rfl := Option.some.inj H
    go_wp2
    go_ret
    exact ⟨by first | rfl | (simp; done) | (simp [*]; done), by repeat (first | exact Drawn0.refl _ | apply Drawn0.step)⟩
def Z37.f (k : Nat) (l0 : List Bool) (a1 : Bool) : Option (Bool) := (Z35.f k l0 a1).bind fun t260 => (some (decide (t260 ≥ 0)))
theorem Z37.mono : ∀ a0 a1 k, LeO (Z37.f k a0 a1) (Z37.f (k + 1) a0 a1) := by
  intro a0 a1 k
  unfold Z37.f
  repeat' first
      | (with_reducible exact Z35.mono _ _ _)
      | (with_reducible exact LeO.refl _)
      | (with_reducible exact LeO.none _)
      | (with_reducible refine LeO.ite ?_ ?_)
      | (with_reducible refine LeO.bind ?_ (fun _ => ?_))
      | exact LeO.none _
      | refine LeO.ite ?_ ?_
      | refine LeO.bind ?_ (fun _ => ?_)
set_option maxHeartbeats 8000000 in
set_option maxRecDepth 100000 in
theorem Z37.calls (k : Nat) (A0 : Option Addr) (c0 : Nat) (l0 : List Bool) (a1 : Bool) (r : Bool) (w : World) (hr0 : Kd.C Kd.bool w A0 l0.length l0) (hc0 : l0.length ≤ c0) (h : Z37.f k l0 a1 = some r) :
  Calls Tryd.prog 62 #[.slice A0 l0.length c0, .bool a1] w fun e w' => e = .returned (.bool r) ∧ Drawn0 w w' := by
 have HR0 := am_ hr0; have HC0 := am_ hc0; clear hr0 hc0
 have H : ((Z35.f k l0 a1).bind fun t260 => (some (decide (t260 ≥ 0)))) = some r := h
 clear h; replace H := Option.bind_eq_some_iff.mp H; obtain ⟨t260, A30, H⟩ := H
 replace H : (some (decide (t260 ≥ 0))) = some r := H
 have A3 := am_ A30; clear A30
 obtain rfl := Option.some.inj H
 go_enter Tryd.func62, Tryd.ntmps62
 go_wp2_with (first | ((with_reducible refine gate_callee (f := 95) rfl ?_); refine goesL_ (some 7) rfl rfl Tryd.func95 (by kernel_rfl) rfl #[.slice A0 l0.length c0, .bool a1] rfl gl_ ?_; (with_reducible refine (Z35.calls k _ _ l0 a1 t260 _ ?side1 ?side2 A3.out).mono ?_); (case side1 => exact cc_ HR0.out); (case side2 => exact HC0.out); rintro e w' ⟨rfl, ⟨nd, rfl⟩⟩; refine ⟨_, rfl, ?_⟩))
 go_ret
 exact ⟨by first | rfl | (simp; done) | (simp [*]; done), by repeat (first | exact Drawn0.refl _ | apply Drawn0.step)⟩
end Go.Proofs.YtolcpmdojlbhcaaDoor.Px
