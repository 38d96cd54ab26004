/- A part of the proof of wordsDiffer. No conditions. Laid by program over the kit's print and words. -/
import Derived.Test.YtbamfhcifpfocaaDoorZdPwx0
namespace Go.Proofs.YtbamfhcifpfocaaDoor.Pw
open Go.RowKit Go.Proofs.YtbamfhcifpfocaaDoor.GBase Go.Proofs.YtbamfhcifpfocaaDoorW.PrintWords Go.Proofs.YtbamfhcifpfocaaDoorW.PrintLast Go.Proofs.YtbamfhcifpfocaaDoorW.PrintMore
attribute [local go_sem] str_leq max2_int min2_int max_two min_two max_three min_three max_four min_four
set_option linter.unusedVariables false
set_option linter.unusedSimpArgs false
def slices_Index_string_string.l0 : Nat → List ByteArray → ByteArray → Int → Int → Option (Int)
  | 0, _, _, _, _ => none
  | k + 1, x0, x1, x7, x8 => if x8 < x7 then (if 0 ≤ x8 then (if x8 < (x0.length : Int) then (if x1.toList = (rdOf ByteArray.empty x0 x8).toList then (some x8) else (slices_Index_string_string.l0 k x0 x1 x7 (wrap64 (x8 + 1)))) else (none)) else (none)) else (some (-1))
def slices_Index_string_string.f (k : Nat) (l0 : List ByteArray) (a1 : ByteArray) : Option (Int) := slices_Index_string_string.l0 k l0 a1 (l0.length : Int) 0
theorem slices_Index_string_string.mono_l : ∀ k, (∀ y0 y1 y2 y3, LeO (slices_Index_string_string.l0 k y0 y1 y2 y3) (slices_Index_string_string.l0 (k + 1) y0 y1 y2 y3))
  | 0 => fun _ _ _ _ r h => by simp [slices_Index_string_string.l0] at h
  | k + 1 => by
    have ih0 := slices_Index_string_string.mono_l k
    · intro y0 y1 y2 y3
      unfold slices_Index_string_string.l0
      repeat' first
      | (with_reducible exact ih0 _ _ _ _)
      | (with_reducible exact LeO.refl _)
      | (with_reducible exact LeO.none _)
      | (with_reducible refine LeO.ite ?_ ?_)
      | (with_reducible refine LeO.bind ?_ (fun _ => ?_))
      | exact ih0 _ _ _ _
      | exact LeO.none _
      | refine LeO.ite ?_ ?_
      | refine LeO.bind ?_ (fun _ => ?_)
theorem slices_Index_string_string.mono : ∀ a0 a1 k, LeO (slices_Index_string_string.f k a0 a1) (slices_Index_string_string.f (k + 1) a0 a1) := by
  intro a0 a1 k
  have ih0 := slices_Index_string_string.mono_l k
  unfold slices_Index_string_string.f
  repeat' first
      | (with_reducible exact ih0 _ _ _ _)
      | (with_reducible exact LeO.refl _)
      | (with_reducible exact LeO.none _)
      | (with_reducible refine LeO.ite ?_ ?_)
      | (with_reducible refine LeO.bind ?_ (fun _ => ?_))
      | exact ih0 _ _ _ _
      | exact LeO.none _
      | refine LeO.ite ?_ ?_
      | refine LeO.bind ?_ (fun _ => ?_)
set_option maxHeartbeats 8000000 in
set_option maxRecDepth 100000 in
theorem slices_Index_string_string.calls (k : Nat) (A0 : Option Addr) (c0 : Nat) (l0 : List ByteArray) (a1 : ByteArray) (r : Int) (w : World) (hr0 : Kd.C Kd.string w A0 l0.length l0) (hc0 : l0.length ≤ c0) (h : slices_Index_string_string.f k l0 a1 = some r) :
  Calls Tryd.prog 128 #[.slice A0 l0.length c0, .string a1] w fun e w' => e = .returned (.int .i64 r) ∧ Drawn0 w w' := by
 have HR0 := am_ hr0; have HC0 := am_ hc0; clear hr0 hc0
 have H : (slices_Index_string_string.l0 k l0 a1 (l0.length : Int) 0) = some r := h
 clear h
 have H' := am_ H
 clear H
 go_enter Tryd.func128, Tryd.ntmps128
 go_wp2
 go_loopg [8] k (fun kq v8 w' => ∃ (x8_1 : Int), v8 = .int .i64 x8_1 ∧ Aside0 (slices_Index_string_string.l0 kq l0 a1 (l0.length : Int) x8_1 = some r) ∧ Aside0 (kq ≤ k) ∧ Drawn0 w w')
 case atStart => exact ⟨(0), (by first | rfl | (simp; done) | (simp [*]; done)), H', ⟨Nat.le_refl _⟩, by repeat (first | exact Drawn0.refl _ | apply Drawn0.step)⟩
 case round =>
  clear H'; (try clear c1); (try clear p2)
  obtain ⟨x8_1, rfl, HA, HK1, ⟨m1, rfl⟩⟩ := hrel
  cases gk with
  | zero => exact absurd HA.out (by simp [slices_Index_string_string.l0])
  | succ k1 =>
   have H := HA.out
   clear HA
   simp only [slices_Index_string_string.l0] at H
   by_cases c3 : x8_1 < (l0.length : Int)
   ·rw [if_pos c3] at H
    have c3b0 := decide_eq_true c3; clear c3
    by_cases c4 : 0 ≤ x8_1
    case neg => exact (nn_ c4 H).elim
    rw [if_pos c4] at H; have c4b0 := decide_eq_true c4; clear c4
    by_cases c5 : x8_1 < (l0.length : Int)
    case neg => exact (nn_ c5 H).elim
    rw [if_pos c5] at H; have c5b0 := decide_eq_true c5; clear c5
    by_cases c6 : a1.toList = (rdOf ByteArray.empty l0 x8_1).toList
    ·rw [if_pos c6] at H
     have c6b0 : (a1.toList == (rdOf ByteArray.empty l0 x8_1).toList) = true := beq_iff_eq.mpr c6
     have c6b1 : (a1.toList != (rdOf ByteArray.empty l0 x8_1).toList) = false := bne_eq_false_iff_eq.mpr c6
     clear c6
     obtain rfl := Option.some.inj H
     have p206 : 0 ≤ (x8_1 : Int) := ode_; have q206 : x8_1 < (l0.length : Int) := ode_
     obtain ⟨ad206, e206, hx206_0⟩ := Kd.at_string HR0.out x8_1 p206 q206
     cases e206; replace p206 := eq_true p206; replace q206 := eq_true q206
     go_wp2
     go_ret
     exact ⟨by first | rfl | (simp; done) | (simp [*]; done), by repeat (first | exact Drawn0.refl _ | apply Drawn0.step)⟩
    ·rw [if_neg c6] at H
     have c6b0 : (a1.toList == (rdOf ByteArray.empty l0 x8_1).toList) = false := beq_eq_false_iff_ne.mpr c6
     have c6b1 : (a1.toList != (rdOf ByteArray.empty l0 x8_1).toList) = true := bne_iff_ne.mpr c6
     have H' := am_ H
     clear H; have p206 : 0 ≤ (x8_1 : Int) := ode_; have q206 : x8_1 < (l0.length : Int) := ode_
     obtain ⟨ad206, e206, hx206_0⟩ := Kd.at_string HR0.out x8_1 p206 q206
     cases e206; replace p206 := eq_true p206; replace q206 := eq_true q206
     go_wp2
     go_roundg k1
     case measure => have := HK1.out; omega
     case rel => exact ⟨(wrap64 (x8_1 + 1)), (by first | rfl | (simp; done) | (simp [*]; done)), H', ⟨by have := HK1.out; omega⟩, by repeat (first | exact Drawn0.refl _ | apply Drawn0.step)⟩
   ·rw [if_neg c3] at H
    have c3b0 : decide (x8_1 < (l0.length : Int)) = false := decide_eq_false c3
    clear c3
    obtain rfl := Option.some.inj H
    go_wp2
    go_ret
    exact ⟨by first | rfl | (simp; done) | (simp [*]; done), by repeat (first | exact Drawn0.refl _ | apply Drawn0.step)⟩
mutual
def near_kept.l0 : Nat → List ByteArray → List ByteArray → Int → List Int → Int → Option ((List (S132)))
  | 0, _, _, _, _, _ => none
  | k + 1, x0, x1, x5, x6, x7 => if x7 ≥ 0 then (near_kept.l1 k x0 x1 x5 x6 x7 (wrap64 ((x1.length : Int) - 1))) else (near_kept.l2 k x0 x1 x5 x6 ([] : List (S132)) 0 0)
def near_kept.l1 : Nat → List ByteArray → List ByteArray → Int → List Int → Int → Int → Option ((List (S132)))
  | 0, _, _, _, _, _, _ => none
  | k + 1, x0, x1, x5, x6, x7, x8 => if x8 ≥ 0 then (if 0 ≤ x7 then (if x7 < (x0.length : Int) then (if 0 ≤ x8 then (if x8 < (x1.length : Int) then (if (rdOf ByteArray.empty x0 x7).toList = (rdOf ByteArray.empty x1 x8).toList then (if 0 ≤ (wrap64 ((wrap64 ((wrap64 ((wrap64 (x7 + 1)) * x5)) + x8)) + 1)) then (if (wrap64 ((wrap64 ((wrap64 ((wrap64 (x7 + 1)) * x5)) + x8)) + 1)) < (x6.length : Int) then (if 0 ≤ (wrap64 ((wrap64 (x7 * x5)) + x8)) then (if (wrap64 ((wrap64 (x7 * x5)) + x8)) < (x6.length : Int) then (near_kept.l1 k x0 x1 x5 (x6.set ((wrap64 ((wrap64 (x7 * x5)) + x8)) : Int).toNat (wrap64 ((rd x6 (wrap64 ((wrap64 ((wrap64 ((wrap64 (x7 + 1)) * x5)) + x8)) + 1))) + 1))) x7 (wrap64 (x8 - 1))) else (none)) else (none)) else (none)) else (none)) else (if 0 ≤ (wrap64 ((wrap64 ((wrap64 (x7 + 1)) * x5)) + x8)) then (if (wrap64 ((wrap64 ((wrap64 (x7 + 1)) * x5)) + x8)) < (x6.length : Int) then (if 0 ≤ (wrap64 ((wrap64 ((wrap64 (x7 * x5)) + x8)) + 1)) then (if (wrap64 ((wrap64 ((wrap64 (x7 * x5)) + x8)) + 1)) < (x6.length : Int) then (if 0 ≤ (wrap64 ((wrap64 (x7 * x5)) + x8)) then (if (wrap64 ((wrap64 (x7 * x5)) + x8)) < (x6.length : Int) then (near_kept.l1 k x0 x1 x5 (x6.set ((wrap64 ((wrap64 (x7 * x5)) + x8)) : Int).toNat (mx (rd x6 (wrap64 ((wrap64 ((wrap64 (x7 + 1)) * x5)) + x8))) (rd x6 (wrap64 ((wrap64 ((wrap64 (x7 * x5)) + x8)) + 1))))) x7 (wrap64 (x8 - 1))) else (none)) else (none)) else (none)) else (none)) else (none)) else (none))) else (none)) else (none)) else (none)) else (none)) else (near_kept.l0 k x0 x1 x5 x6 (wrap64 (x7 - 1)))
def near_kept.l2 : Nat → List ByteArray → List ByteArray → Int → List Int → List (S132) → Int → Int → Option ((List (S132)))
  | 0, _, _, _, _, _, _, _ => none
  | k + 1, x0, x1, x5, x6, x9, x10, x11 => if x10 < (x0.length : Int) then (if 0 ≤ (wrap64 ((wrap64 (x10 * x5)) + x11)) then (if (wrap64 ((wrap64 (x10 * x5)) + x11)) < (x6.length : Int) then (near_kept.j3 k x0 x1 x5 x6 x9 x10 x11 (decide ((rd x6 (wrap64 ((wrap64 (x10 * x5)) + x11))) > 0))) else (none)) else (none)) else (near_kept.j3 k x0 x1 x5 x6 x9 x10 x11 false)
def near_kept.j3 : Nat → List ByteArray → List ByteArray → Int → List Int → List (S132) → Int → Int → Bool → Option ((List (S132)))
  | 0, _, _, _, _, _, _, _, _ => none
  | k + 1, x0, x1, x5, x6, x9, x10, x11, x103 => if x103 = true then (if 0 ≤ x11 then (if x11 ≤ (x1.length : Int) then (if 0 ≤ x10 then (if x10 < (x0.length : Int) then ((slices_Index_string_string.f k (x1.drop (x11 : Int).toNat) (rdOf ByteArray.empty x0 x10)).bind fun t220 => (if t220 ≥ 0 then (if 0 ≤ (wrap64 ((wrap64 ((wrap64 ((wrap64 ((wrap64 (x10 + 1)) * x5)) + x11)) + t220)) + 1)) then (if (wrap64 ((wrap64 ((wrap64 ((wrap64 ((wrap64 (x10 + 1)) * x5)) + x11)) + t220)) + 1)) < (x6.length : Int) then (if 0 ≤ (wrap64 ((wrap64 (x10 * x5)) + x11)) then (if (wrap64 ((wrap64 (x10 * x5)) + x11)) < (x6.length : Int) then (if (wrap64 ((rd x6 (wrap64 ((wrap64 ((wrap64 ((wrap64 ((wrap64 (x10 + 1)) * x5)) + x11)) + t220)) + 1))) + 1)) = (rd x6 (wrap64 ((wrap64 (x10 * x5)) + x11))) then (if x9.length < 8796093022208 then (near_kept.l2 k x0 x1 x5 x6 (x9 ++ [(⟨x10, wrap64 (x11 + t220)⟩ : S132)]) (wrap64 (x10 + 1)) (wrap64 (x11 + (wrap64 (t220 + 1))))) else (none)) else (near_kept.l2 k x0 x1 x5 x6 x9 (wrap64 (x10 + 1)) x11)) else (none)) else (none)) else (none)) else (none)) else (near_kept.l2 k x0 x1 x5 x6 x9 (wrap64 (x10 + 1)) x11))) else (none)) else (none)) else (none)) else (none)) else (some x9)
end
def near_kept.f (k : Nat) (l0 : List ByteArray) (l1 : List ByteArray) : Option ((List (S132))) := if 0 ≤ (wrap64 ((wrap64 ((l0.length : Int) + 1)) * (wrap64 ((l1.length : Int) + 1)))) then (if (wrap64 ((wrap64 ((l0.length : Int) + 1)) * (wrap64 ((l1.length : Int) + 1))) : Int).toNat ≤ 35184372088832 then (near_kept.l0 k l0 l1 (wrap64 ((l1.length : Int) + 1)) (List.replicate (wrap64 ((wrap64 ((l0.length : Int) + 1)) * (wrap64 ((l1.length : Int) + 1))) : Int).toNat 0) (wrap64 ((l0.length : Int) - 1))) else (none)) else (none)
theorem near_kept.mono_l : ∀ k, (∀ y0 y1 y2 y3 y4, LeO (near_kept.l0 k y0 y1 y2 y3 y4) (near_kept.l0 (k + 1) y0 y1 y2 y3 y4)) ∧ (∀ y0 y1 y2 y3 y4 y5, LeO (near_kept.l1 k y0 y1 y2 y3 y4 y5) (near_kept.l1 (k + 1) y0 y1 y2 y3 y4 y5)) ∧ (∀ y0 y1 y2 y3 y4 y5 y6, LeO (near_kept.l2 k y0 y1 y2 y3 y4 y5 y6) (near_kept.l2 (k + 1) y0 y1 y2 y3 y4 y5 y6)) ∧ (∀ y0 y1 y2 y3 y4 y5 y6 y7, LeO (near_kept.j3 k y0 y1 y2 y3 y4 y5 y6 y7) (near_kept.j3 (k + 1) y0 y1 y2 y3 y4 y5 y6 y7))
  | 0 => ⟨fun _ _ _ _ _ r h => by simp [near_kept.l0] at h, fun _ _ _ _ _ _ r h => by simp [near_kept.l1] at h, fun _ _ _ _ _ _ _ r h => by simp [near_kept.l2] at h, fun _ _ _ _ _ _ _ _ r h => by simp [near_kept.j3] at h⟩
  | k + 1 => by
    obtain ⟨ih0, ih1, ih2, ih3⟩ := near_kept.mono_l k
    refine ⟨?_, ?_, ?_, ?_⟩
    · intro y0 y1 y2 y3 y4
      unfold near_kept.l0
      repeat' first
      | (with_reducible exact ih0 _ _ _ _ _)
      | (with_reducible exact ih1 _ _ _ _ _ _)
      | (with_reducible exact ih2 _ _ _ _ _ _ _)
      | (with_reducible exact ih3 _ _ _ _ _ _ _ _)
      | (with_reducible exact slices_Index_string_string.mono _ _ _)
      | (with_reducible exact LeO.refl _)
      | (with_reducible exact LeO.none _)
      | (with_reducible refine LeO.ite ?_ ?_)
      | (with_reducible refine LeO.bind ?_ (fun _ => ?_))
      | exact ih0 _ _ _ _ _
      | exact ih1 _ _ _ _ _ _
      | exact ih2 _ _ _ _ _ _ _
      | exact ih3 _ _ _ _ _ _ _ _
      | exact LeO.none _
      | refine LeO.ite ?_ ?_
      | refine LeO.bind ?_ (fun _ => ?_)
    · intro y0 y1 y2 y3 y4 y5
      unfold near_kept.l1
      repeat' first
      | (with_reducible exact ih0 _ _ _ _ _)
      | (with_reducible exact ih1 _ _ _ _ _ _)
      | (with_reducible exact ih2 _ _ _ _ _ _ _)
      | (with_reducible exact ih3 _ _ _ _ _ _ _ _)
      | (with_reducible exact slices_Index_string_string.mono _ _ _)
      | (with_reducible exact LeO.refl _)
      | (with_reducible exact LeO.none _)
      | (with_reducible refine LeO.ite ?_ ?_)
      | (with_reducible refine LeO.bind ?_ (fun _ => ?_))
      | exact ih0 _ _ _ _ _
      | exact ih1 _ _ _ _ _ _
      | exact ih2 _ _ _ _ _ _ _
      | exact ih3 _ _ _ _ _ _ _ _
      | exact LeO.none _
      | refine LeO.ite ?_ ?_
      | refine LeO.bind ?_ (fun _ => ?_)
    · intro y0 y1 y2 y3 y4 y5 y6
      unfold near_kept.l2
      repeat' first
      | (with_reducible exact ih0 _ _ _ _ _)
      | (with_reducible exact ih1 _ _ _ _ _ _)
      | (with_reducible exact ih2 _ _ _ _ _ _ _)
      | (with_reducible exact ih3 _ _ _ _ _ _ _ _)
      | (with_reducible exact slices_Index_string_string.mono _ _ _)
      | (with_reducible exact LeO.refl _)
      | (with_reducible exact LeO.none _)
      | (with_reducible refine LeO.ite ?_ ?_)
      | (with_reducible refine LeO.bind ?_ (fun _ => ?_))
      | exact ih0 _ _ _ _ _
      | exact ih1 _ _ _ _ _ _
      | exact ih2 _ _ _ _ _ _ _
      | exact ih3 _ _ _ _ _ _ _ _
      | exact LeO.none _
      | refine LeO.ite ?_ ?_
      | refine LeO.bind ?_ (fun _ => ?_)
    · intro y0 y1 y2 y3 y4 y5 y6 y7
      unfold near_kept.j3
      repeat' first
      | (with_reducible exact ih0 _ _ _ _ _)
      | (with_reducible exact ih1 _ _ _ _ _ _)
      | (with_reducible exact ih2 _ _ _ _ _ _ _)
      | (with_reducible exact ih3 _ _ _ _ _ _ _ _)
      | (with_reducible exact slices_Index_string_string.mono _ _ _)
      | (with_reducible exact LeO.refl _)
      | (with_reducible exact LeO.none _)
      | (with_reducible refine LeO.ite ?_ ?_)
      | (with_reducible refine LeO.bind ?_ (fun _ => ?_))
      | exact ih0 _ _ _ _ _
      | exact ih1 _ _ _ _ _ _
      | exact ih2 _ _ _ _ _ _ _
      | exact ih3 _ _ _ _ _ _ _ _
      | exact LeO.none _
      | refine LeO.ite ?_ ?_
      | refine LeO.bind ?_ (fun _ => ?_)
theorem near_kept.mono : ∀ a0 a1 k, LeO (near_kept.f k a0 a1) (near_kept.f (k + 1) a0 a1) := by
  intro a0 a1 k
  obtain ⟨ih0, ih1, ih2, ih3⟩ := near_kept.mono_l k
  unfold near_kept.f
  repeat' first
      | (with_reducible exact ih0 _ _ _ _ _)
      | (with_reducible exact ih1 _ _ _ _ _ _)
      | (with_reducible exact ih2 _ _ _ _ _ _ _)
      | (with_reducible exact ih3 _ _ _ _ _ _ _ _)
      | (with_reducible exact slices_Index_string_string.mono _ _ _)
      | (with_reducible exact LeO.refl _)
      | (with_reducible exact LeO.none _)
      | (with_reducible refine LeO.ite ?_ ?_)
      | (with_reducible refine LeO.bind ?_ (fun _ => ?_))
      | exact ih0 _ _ _ _ _
      | exact ih1 _ _ _ _ _ _
      | exact ih2 _ _ _ _ _ _ _
      | exact ih3 _ _ _ _ _ _ _ _
      | exact LeO.none _
      | refine LeO.ite ?_ ?_
      | refine LeO.bind ?_ (fun _ => ?_)
def near_kept.T9 : Bool × List (List Nat × List Nat) := (true, [([], []), ([], []), ([0, 1], [0, 1]), ([2], [2]), ([], []), ([], []), ([4, 5], [4, 5]), ([6], [6]), ([3, 7], [3, 7])])
def near_kept.B9 : List Nat := [0, 0, 3, 7, 0, 0, 48, 112, 255]
theorem near_kept.tab9 : rtab .any (opsOf Tryd.f119 9) = near_kept.T9 := by kernel_rfl
theorem near_kept.bits9 : waitsOk near_kept.T9.2 near_kept.B9 = true := by kernel_rfl
def near_kept.T11 : Bool × List (List Nat × List Nat) := (true, [([], []), ([], []), ([], []), ([1, 2], [1, 2]), ([], []), ([3, 4], [3, 4]), ([], []), ([], []), ([7], [7]), ([], []), ([8, 9], [8, 9]), ([], []), ([10, 11], [10, 11]), ([6, 12], [6, 12]), ([13], [13]), ([], []), ([], []), ([], []), ([16, 17], [16, 17]), ([], []), ([18, 19], [18, 19]), ([20], [20]), ([15, 21], [15, 21]), ([22], [22]), ([14, 23], [14, 23]), ([0, 5, 0, 1, 2, 3, 4, 5, 6, 7, 8, 9, 10, 11, 12, 13, 14, 15, 16, 17, 18, 19, 20, 21, 22, 23, 24], [0, 5]), ([25, 24, 0, 1, 2, 3, 4, 5, 6, 7, 8, 9, 10, 11, 12, 13, 14, 15, 16, 17, 18, 19, 20, 21, 22, 23, 24], [24, 25])])
def near_kept.B11 : List Nat := [0, 0, 0, 6, 0, 30, 0, 0, 128, 0, 896, 0, 3968, 8128, 16320, 0, 0, 0, 196608, 0, 983040, 2031616, 4161536, 8355840, 16777152, 33554431, 67108863]
theorem near_kept.tab11 : rtab .any (opsOf Tryd.f119 11) = near_kept.T11 := by kernel_rfl
theorem near_kept.bits11 : waitsOk near_kept.T11.2 near_kept.B11 = true := by kernel_rfl
def near_kept.T16 : Bool × List (List Nat × List Nat) := (true, [([], []), ([], []), ([0, 1], [0, 1]), ([], []), ([], []), ([3, 4], [3, 4]), ([5], [5]), ([2, 6], [2, 6]), ([7, 7, 0, 1, 2, 3, 4, 5, 6, 7], [7])])
def near_kept.B16 : List Nat := [0, 0, 3, 0, 0, 24, 56, 127, 255]
theorem near_kept.tab16 : rtab .any (opsOf Tryd.f119 16) = near_kept.T16 := by kernel_rfl
theorem near_kept.bits16 : waitsOk near_kept.T16.2 near_kept.B16 = true := by kernel_rfl
def near_kept.T17 : Bool × List (List Nat × List Nat) := (true, [([], []), ([0], [0]), ([1], [1]), ([2], [2]), ([2], [2]), ([4, 2], [2, 4]), ([2], [2]), ([5, 6, 2], [2, 5, 6]), ([2], [2]), ([7, 8, 2], [2, 7, 8]), ([2], [2]), ([9, 10, 2], [2, 9, 10]), ([11, 2], [2, 11]), ([3, 12, 2], [2, 3, 12]), ([13, 2], [2, 13]), ([14, 2], [2, 14]), ([2], [2]), ([2], [2]), ([2], [2]), ([17, 18, 2], [2, 17, 18]), ([2], [2]), ([19, 20, 2], [2, 19, 20]), ([16, 21, 2], [2, 16, 21]), ([22, 2], [2, 22]), ([15, 23, 2], [2, 15, 23]), ([2, 24], [2, 24])])
def near_kept.B17 : List Nat := [0, 1, 3, 7, 7, 23, 7, 119, 7, 503, 7, 2039, 4087, 8191, 16383, 32767, 7, 7, 7, 393223, 7, 1966087, 4128775, 8323079, 16777215, 33554431]
theorem near_kept.tab17 : rtab .any (opsOf Tryd.f119 17) = near_kept.T17 := by kernel_rfl
theorem near_kept.bits17 : waitsOk near_kept.T17.2 near_kept.B17 = true := by kernel_rfl
abbrev near_kept.D0 : Array Bool := #[false, false, false, false, false, false, false, false, false, false, false, false, false, false, false, false, false, false, false, false, false, false, false, false, false, false, false]
abbrev near_kept.D1 : Array Bool := #[false, false, false, false, false, false, false, false, false, false, false, false, false, false, false, false, false, false, false, false, false, false, false, false, false, false]
abbrev near_kept.D2 : Array Bool := #[false, false, false, false, false, false, false, false, false]
abbrev near_kept.D3 : Array Bool := #[true, false, false, false, false, false, false, false, false, false, false, false, false, false, false, false, false, false, false, false, false, false, false, false, false, false, false]
abbrev near_kept.D4 : Array Bool := #[true, false, false, false, false, false, false, false, false, false, false, false, false, false, false, false, false, false, false, false, false, false, false, false, false, false]
abbrev near_kept.D5 : Array Bool := #[true, false, false, false, false, false, false, false, false]
abbrev near_kept.D6 : Array Bool := #[true, true, false, false, false, false, false, false, false, false, false, false, false, false, false, false, false, false, false, false, false, false, false, false, false, false, false]
abbrev near_kept.D7 : Array Bool := #[true, true, false, false, false, false, false, false, false, false, false, false, false, false, false, false, false, false, false, false, false, false, false, false, false, false]
abbrev near_kept.D8 : Array Bool := #[true, true, false, false, false, false, false, false, false]
abbrev near_kept.D9 : Array Bool := #[true, true, true, false, false, false, false, false, false, false, false, false, false, false, false, false, false, false, false, false, false, false, false, false, false, false, false]
abbrev near_kept.D10 : Array Bool := #[true, true, true, false, false, false, false, false, false, false, false, false, false, false, false, false, false, false, false, false, false, false, false, false, false, false]
abbrev near_kept.D11 : Array Bool := #[true, true, true, false, false, false, false, false, false]
abbrev near_kept.D12 : Array Bool := #[true, true, true, false, true, false, false, false, false]
abbrev near_kept.D13 : Array Bool := #[true, true, true, false, true, true, false, false, false]
abbrev near_kept.D14 : Array Bool := #[true, true, true, false, true, true, true, false, false]
abbrev near_kept.D15 : Array Bool := #[true, true, true, true, false, false, false, false, false, false, false, false, false, false, false, false, false, false, false, false, false, false, false, false, false, false, false]
abbrev near_kept.D16 : Array Bool := #[true, true, true, true, false, false, false, false, false, false, false, false, false, false, false, false, false, false, false, false, false, false, false, false, false, false]
abbrev near_kept.D17 : Array Bool := #[true, true, true, true, false, false, false, false, false]
abbrev near_kept.D18 : Array Bool := #[true, true, true, true, true, false, false, false, false, false, false, false, false, false, false, false, false, false, false, false, false, false, false, false, false, false, false]
abbrev near_kept.D19 : Array Bool := #[true, true, true, true, true, false, false, false, false, false, false, false, false, false, false, false, false, false, false, false, false, false, false, false, false, false]
abbrev near_kept.D20 : Array Bool := #[true, true, true, true, true, false, false, false, false]
abbrev near_kept.D21 : Array Bool := #[true, true, true, true, true, true, false, false, false, false, false, false, false, false, false, false, false, false, false, false, false, false, false, false, false, false, false]
abbrev near_kept.D22 : Array Bool := #[true, true, true, true, true, true, false, false, false, false, false, false, false, false, false, false, false, false, false, false, false, false, false, false, false, false]
abbrev near_kept.D23 : Array Bool := #[true, true, true, true, true, true, false, false, false]
abbrev near_kept.D24 : Array Bool := #[true, true, true, true, true, true, true, false, false, false, false, false, false, false, false, false, false, false, false, false, false, false, false, false, false, false, false]
abbrev near_kept.D25 : Array Bool := #[true, true, true, true, true, true, true, false, false, false, false, false, false, false, false, false, false, false, false, false, false, false, false, false, false, false]
abbrev near_kept.D26 : Array Bool := #[true, true, true, true, true, true, true, false, false]
abbrev near_kept.D27 : Array Bool := #[true, true, true, true, true, true, true, true, false, false, false, false, false, false, false, false, false, false, false, false, false, false, false, false, false, false, false]
abbrev near_kept.D28 : Array Bool := #[true, true, true, true, true, true, true, true, false, false, false, false, false, false, false, false, false, false, false, false, false, false, false, false, false, false]
abbrev near_kept.D29 : Array Bool := #[true, true, true, true, true, true, true, true, false]
abbrev near_kept.D30 : Array Bool := #[true, true, true, true, true, true, true, true, true, false, false, false, false, false, false, false, false, false, false, false, false, false, false, false, false, false, false]
abbrev near_kept.D31 : Array Bool := #[true, true, true, true, true, true, true, true, true, false, false, false, false, false, false, false, false, false, false, false, false, false, false, false, false, false]
abbrev near_kept.D32 : Array Bool := #[true, true, true, true, true, true, true, true, true, true, false, false, false, false, false, false, false, false, false, false, false, false, false, false, false, false, false]
abbrev near_kept.D33 : Array Bool := #[true, true, true, true, true, true, true, true, true, true, false, false, false, false, false, false, false, false, false, false, false, false, false, false, false, false]
abbrev near_kept.D34 : Array Bool := #[true, true, true, true, true, true, true, true, true, true, true, false, false, false, false, false, false, false, false, false, false, false, false, false, false, false, false]
abbrev near_kept.D35 : Array Bool := #[true, true, true, true, true, true, true, true, true, true, true, false, false, false, false, false, false, false, false, false, false, false, false, false, false, false]
abbrev near_kept.D36 : Array Bool := #[true, true, true, true, true, true, true, true, true, true, true, true, false, false, false, false, false, false, false, false, false, false, false, false, false, false, false]
abbrev near_kept.D37 : Array Bool := #[true, true, true, true, true, true, true, true, true, true, true, true, false, false, false, false, false, false, false, false, false, false, false, false, false, false]
abbrev near_kept.D38 : Array Bool := #[true, true, true, true, true, true, true, true, true, true, true, true, true, false, false, false, false, false, false, false, false, false, false, false, false, false, false]
abbrev near_kept.D39 : Array Bool := #[true, true, true, true, true, true, true, true, true, true, true, true, true, false, false, false, false, false, false, false, false, false, false, false, false, false]
abbrev near_kept.D40 : Array Bool := #[true, true, true, true, true, true, true, true, true, true, true, true, true, true, false, false, false, false, false, false, false, false, false, false, false, false, false]
abbrev near_kept.D41 : Array Bool := #[true, true, true, true, true, true, true, true, true, true, true, true, true, true, false, false, false, false, false, false, false, false, false, false, false, false]
abbrev near_kept.D42 : Array Bool := #[true, true, true, true, true, true, true, true, true, true, true, true, true, true, false, false, true, false, false, false, false, false, false, false, false, false]
abbrev near_kept.D43 : Array Bool := #[true, true, true, true, true, true, true, true, true, true, true, true, true, true, false, false, true, true, false, false, false, false, false, false, false, false]
abbrev near_kept.D44 : Array Bool := #[true, true, true, true, true, true, true, true, true, true, true, true, true, true, false, false, true, true, true, false, false, false, false, false, false, false]
abbrev near_kept.D45 : Array Bool := #[true, true, true, true, true, true, true, true, true, true, true, true, true, true, false, false, true, true, true, true, false, false, false, false, false, false]
abbrev near_kept.D46 : Array Bool := #[true, true, true, true, true, true, true, true, true, true, true, true, true, true, false, false, true, true, true, true, true, false, false, false, false, false]
abbrev near_kept.D47 : Array Bool := #[true, true, true, true, true, true, true, true, true, true, true, true, true, true, false, false, true, true, true, true, true, true, false, false, false, false]
abbrev near_kept.D48 : Array Bool := #[true, true, true, true, true, true, true, true, true, true, true, true, true, true, false, false, true, true, true, true, true, true, true, false, false, false]
abbrev near_kept.D49 : Array Bool := #[true, true, true, true, true, true, true, true, true, true, true, true, true, true, false, true, false, false, false, false, false, false, false, false, false, false, false]
abbrev near_kept.D50 : Array Bool := #[true, true, true, true, true, true, true, true, true, true, true, true, true, true, false, true, true, false, false, false, false, false, false, false, false, false, false]
abbrev near_kept.D51 : Array Bool := #[true, true, true, true, true, true, true, true, true, true, true, true, true, true, false, true, true, true, false, false, false, false, false, false, false, false, false]
abbrev near_kept.D52 : Array Bool := #[true, true, true, true, true, true, true, true, true, true, true, true, true, true, false, true, true, true, true, false, false, false, false, false, false, false, false]
abbrev near_kept.D53 : Array Bool := #[true, true, true, true, true, true, true, true, true, true, true, true, true, true, false, true, true, true, true, true, false, false, false, false, false, false, false]
abbrev near_kept.D54 : Array Bool := #[true, true, true, true, true, true, true, true, true, true, true, true, true, true, false, true, true, true, true, true, true, false, false, false, false, false, false]
abbrev near_kept.D55 : Array Bool := #[true, true, true, true, true, true, true, true, true, true, true, true, true, true, false, true, true, true, true, true, true, true, false, false, false, false, false]
abbrev near_kept.D56 : Array Bool := #[true, true, true, true, true, true, true, true, true, true, true, true, true, true, false, true, true, true, true, true, true, true, true, false, false, false, false]
abbrev near_kept.D57 : Array Bool := #[true, true, true, true, true, true, true, true, true, true, true, true, true, true, true, false, false, false, false, false, false, false, false, false, false, false]
abbrev near_kept.D58 : Array Bool := #[true, true, true, true, true, true, true, true, true, true, true, true, true, true, true, false, true, true, true, true, true, true, true, false, false, false]
abbrev near_kept.D59 : Array Bool := #[true, true, true, true, true, true, true, true, true, true, true, true, true, true, true, true, false, false, false, false, false, false, false, false, false, false]
abbrev near_kept.D60 : Array Bool := #[true, true, true, true, true, true, true, true, true, true, true, true, true, true, true, true, true, false, false, false, false, false, false, false, false, false]
abbrev near_kept.D61 : Array Bool := #[true, true, true, true, true, true, true, true, true, true, true, true, true, true, true, true, true, true, false, false, false, false, false, false, false, false]
abbrev near_kept.D62 : Array Bool := #[true, true, true, true, true, true, true, true, true, true, true, true, true, true, true, true, true, true, true, false, false, false, false, false, false, false]
abbrev near_kept.D63 : Array Bool := #[true, true, true, true, true, true, true, true, true, true, true, true, true, true, true, true, true, true, true, true, false, false, false, false, false, false]
abbrev near_kept.D64 : Array Bool := #[true, true, true, true, true, true, true, true, true, true, true, true, true, true, true, true, true, true, true, true, true, false, false, false, false, false]
abbrev near_kept.D65 : Array Bool := #[true, true, true, true, true, true, true, true, true, true, true, true, true, true, true, true, true, true, true, true, true, true, false, false, false, false]
abbrev near_kept.D66 : Array Bool := #[true, true, true, true, true, true, true, true, true, true, true, true, true, true, true, true, true, true, true, true, true, true, true, false, false, false, false]
abbrev near_kept.D67 : Array Bool := #[true, true, true, true, true, true, true, true, true, true, true, true, true, true, true, true, true, true, true, true, true, true, true, false, false, false]
abbrev near_kept.D68 : Array Bool := #[true, true, true, true, true, true, true, true, true, true, true, true, true, true, true, true, true, true, true, true, true, true, true, true, false, false, false]
abbrev near_kept.D69 : Array Bool := #[true, true, true, true, true, true, true, true, true, true, true, true, true, true, true, true, true, true, true, true, true, true, true, true, false, false]
abbrev near_kept.D70 : Array Bool := #[true, true, true, true, true, true, true, true, true, true, true, true, true, true, true, true, true, true, true, true, true, true, true, true, true, false, false]
abbrev near_kept.D71 : Array Bool := #[true, true, true, true, true, true, true, true, true, true, true, true, true, true, true, true, true, true, true, true, true, true, true, true, true, false]
abbrev near_kept.D72 : Array Bool := #[true, true, true, true, true, true, true, true, true, true, true, true, true, true, true, true, true, true, true, true, true, true, true, true, true, true, false]
abbrev near_kept.D73 : Array Bool := #[true, true, true, true, true, true, true, true, true, true, true, true, true, true, true, true, true, true, true, true, true, true, true, true, true, true, true]
abbrev near_kept.D74 : Array Bool := #[true, true, true, true, true, true, true, true, true, true, true, true, true, true, true, true, true, true, true, true, true, true, true, true, true, true]
abbrev near_kept.D75 : Array Bool := #[true, true, true, true, true, true, true, true, true]
end Go.Proofs.YtbamfhcifpfocaaDoor.Pw
