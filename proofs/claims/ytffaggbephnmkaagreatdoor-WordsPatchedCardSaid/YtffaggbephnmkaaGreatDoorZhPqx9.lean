/- A part of the proof of wordsPatched. No conditions. Laid by program over the kit's print and words. -/
import Derived.Test.YtffaggbephnmkaaGreatDoorZhPqx0
import Derived.Test.YtffaggbephnmkaaGreatDoorZhPqx1
import Derived.Test.YtffaggbephnmkaaGreatDoorZhPqx5
import Derived.Test.YtffaggbephnmkaaGreatDoorZhPqx8
namespace Go.Proofs.YtffaggbephnmkaaGreatDoor.Pq
open Go.RowKit Go.Proofs.YtffaggbephnmkaaGreatDoor.GBase Go.Proofs.YtffaggbephnmkaaGreatDoorW.PrintWords Go.Proofs.YtffaggbephnmkaaGreatDoorW.PrintLast Go.Proofs.YtffaggbephnmkaaGreatDoorW.PrintMore
attribute [local go_sem] str_leq max2_int min2_int max_two min_two max_three min_three max_four min_four
set_option linter.unusedVariables false
set_option linter.unusedSimpArgs false
mutual
def Z2.l0 : Nat → List ByteArray → List ByteArray → List (S70) → Int → List (S70) → Int → Int → Option (ByteArray × (List (S70)) × Int)
  | 0, _, _, _, _, _, _, _ => none
  | k + 1, x8, x9, x10, x11, x25, x26, x27 => if x27 < x26 then (if 0 ≤ x27 then (if x27 < (x25.length : Int) then (if ((rd_T70 x25 x27).f0) < 0 then (Z2.j1 k x8 x9 x10 x11 x27 x25 x26 x27 true ((rd_T70 x25 x27).f0) ((rd_T70 x25 x27).f1) ((rd_T70 x25 x27).f2)) else (Z2.j1 k x8 x9 x10 x11 x27 x25 x26 x27 (decide (((rd_T70 x25 x27).f0) > (x8.length : Int))) ((rd_T70 x25 x27).f0) ((rd_T70 x25 x27).f1) ((rd_T70 x25 x27).f2))) else (none)) else (none)) else (if 0 ≤ x11 then (if x11 ≤ (x8.length : Int) then ((some (x8.drop (x11 : Int).toNat : List ByteArray)).bind fun y359 => (if x9.length + y359.length < 8796093022208 then ((Z39.f (x9 ++ y359)).bind fun t366 => (if (t366.size : Int) > 20000 then (some ((⟨#[]⟩ : ByteArray), ([] : List (S70)), 2)) else (some (t366, x10, 0)))) else (none))) else (none)) else (none))
def Z2.j3 : Nat → List ByteArray → List ByteArray → List (S70) → Int → List (S70) → Int → Int → Int → List ByteArray → List ByteArray → Option (ByteArray × (List (S70)) × Int)
  | 0, _, _, _, _, _, _, _, _, _, _ => none
  | k + 1, x8, x9, x10, x11, x25, x26, x27, x369000, x369001, x369002 => (Z14.f x369001).bind fun t369 => (if t369.length + x369002.length < 8796093022208 then ((some (t369 ++ x369002 : List ByteArray)).bind fun y372 => (Z2.l1 k x8 x9 x10 x11 x25 x26 x27 y372 (y372.length : Int) 0 x369000 x369001 x369002)) else (none))
def Z2.l1 : Nat → List ByteArray → List ByteArray → List (S70) → Int → List (S70) → Int → Int → List ByteArray → Int → Int → Int → List ByteArray → List ByteArray → Option (ByteArray × (List (S70)) × Int)
  | 0, _, _, _, _, _, _, _, _, _, _, _, _, _ => none
  | k + 1, x8, x9, x10, x11, x25, x26, x27, x68, x69, x70, x369000, x369001, x369002 => if x70 < x69 then (if 0 ≤ x70 then (if x70 < (x68.length : Int) then ((Z6.f k (rdOf ByteArray.empty x68 x70)).bind fun t376 => ((Z10.f k t376 (([rdOf ByteArray.empty x68 x70] : List ByteArray))).bind fun t382 => (if t382 = true then (Z2.l1 k x8 x9 x10 x11 x25 x26 x27 x68 x69 (wrap64 (x70 + 1)) x369000 x369001 x369002) else (some ((⟨#[]⟩ : ByteArray), ([] : List (S70)), 3))))) else (none)) else (none)) else (if (wrap64 (x369000 + (x369001.length : Int))) > (x8.length : Int) then (Z2.j5 k x8 x9 x10 x11 x25 x26 x27 true x369000 x369001 x369002) else (if 0 ≤ x369000 then (if x369000 ≤ (wrap64 (x369000 + (x369001.length : Int))) then (if (wrap64 (x369000 + (x369001.length : Int))) ≤ (x8.length : Int) then ((Z10.f k ((x8.take ((wrap64 (x369000 + (x369001.length : Int))) : Int).toNat).drop (x369000 : Int).toNat) x369001).bind fun t387 => (Z2.j5 k x8 x9 x10 x11 x25 x26 x27 (!t387) x369000 x369001 x369002)) else (none)) else (none)) else (none)))
def Z2.j5 : Nat → List ByteArray → List ByteArray → List (S70) → Int → List (S70) → Int → Int → Bool → Int → List ByteArray → List ByteArray → Option (ByteArray × (List (S70)) × Int)
  | 0, _, _, _, _, _, _, _, _, _, _, _ => none
  | k + 1, x8, x9, x10, x11, x25, x26, x27, x105, x369000, x369001, x369002 => if x105 = true then (some ((⟨#[]⟩ : ByteArray), ([] : List (S70)), 13)) else (if 0 ≤ x11 then (if x11 ≤ x369000 then (if x369000 ≤ (x8.length : Int) then ((some ((x8.take (x369000 : Int).toNat).drop (x11 : Int).toNat : List ByteArray)).bind fun y388 => (if x9.length + y388.length < 8796093022208 then ((some (x9 ++ y388 : List ByteArray)).bind fun y392 => ((Z14.f x369002).bind fun t395 => ((Z14.f x369001).bind fun t398 => (if x10.length < 2513169434916 then (if y392.length + x369002.length < 8796093022208 then (Z2.l0 k x8 (y392 ++ x369002) (x10 ++ [(⟨(y392.length : Int), t395, t398⟩ : S70)]) (wrap64 (x369000 + (x369001.length : Int))) x25 x26 (wrap64 (x27 + 1))) else (none)) else (none))))) else (none))) else (none)) else (none)) else (none))
def Z2.j1 : Nat → List ByteArray → List ByteArray → List (S70) → Int → Int → List (S70) → Int → Int → Bool → Int → List ByteArray → List ByteArray → Option (ByteArray × (List (S70)) × Int)
  | 0, _, _, _, _, _, _, _, _, _, _, _, _ => none
  | k + 1, x8, x9, x10, x11, x12, x25, x26, x27, x32, x369000, x369001, x369002 => if x32 = true then (some ((⟨#[]⟩ : ByteArray), ([] : List (S70)), 1)) else (if x12 > 0 then (Z2.j2 k x8 x9 x10 x11 x25 x26 x27 (decide (x369000 ≤ x11)) x369000 x369001 x369002) else (Z2.j2 k x8 x9 x10 x11 x25 x26 x27 false x369000 x369001 x369002))
def Z2.j2 : Nat → List ByteArray → List ByteArray → List (S70) → Int → List (S70) → Int → Int → Bool → Int → List ByteArray → List ByteArray → Option (ByteArray × (List (S70)) × Int)
  | 0, _, _, _, _, _, _, _, _, _, _, _ => none
  | k + 1, x8, x9, x10, x11, x25, x26, x27, x43, x369000, x369001, x369002 => if x43 = true then (some ((⟨#[]⟩ : ByteArray), ([] : List (S70)), 7)) else (if (x369001.length : Int) = 0 then (if (x369002.length : Int) = 0 then (some ((⟨#[]⟩ : ByteArray), ([] : List (S70)), 3)) else (Z2.j3 k x8 x9 x10 x11 x25 x26 x27 x369000 x369001 x369002)) else (Z2.j3 k x8 x9 x10 x11 x25 x26 x27 x369000 x369001 x369002))
end
def Z2.f (k : Nat) (a0 : ByteArray) (l1 : List (S70)) : Option (ByteArray × (List (S70)) × Int) := (Z16.f k (([a0] : List ByteArray))).bind fun t355 => (if t355 = 0 then ((Z6.f k a0).bind fun t356 => (Z2.l0 k t356 ([] : List ByteArray) ([] : List (S70)) 0 l1 (l1.length : Int) 0)) else (some ((⟨#[]⟩ : ByteArray), ([] : List (S70)), t355)))
theorem Z2.mono_l : ∀ k, (∀ y0 y1 y2 y3 y4 y5 y6, LeO (Z2.l0 k y0 y1 y2 y3 y4 y5 y6) (Z2.l0 (k + 1) y0 y1 y2 y3 y4 y5 y6)) ∧ (∀ y0 y1 y2 y3 y4 y5 y6 y7 y8 y9, LeO (Z2.j3 k y0 y1 y2 y3 y4 y5 y6 y7 y8 y9) (Z2.j3 (k + 1) y0 y1 y2 y3 y4 y5 y6 y7 y8 y9)) ∧ (∀ y0 y1 y2 y3 y4 y5 y6 y7 y8 y9 y10 y11 y12, LeO (Z2.l1 k y0 y1 y2 y3 y4 y5 y6 y7 y8 y9 y10 y11 y12) (Z2.l1 (k + 1) y0 y1 y2 y3 y4 y5 y6 y7 y8 y9 y10 y11 y12)) ∧ (∀ y0 y1 y2 y3 y4 y5 y6 y7 y8 y9 y10, LeO (Z2.j5 k y0 y1 y2 y3 y4 y5 y6 y7 y8 y9 y10) (Z2.j5 (k + 1) y0 y1 y2 y3 y4 y5 y6 y7 y8 y9 y10)) ∧ (∀ y0 y1 y2 y3 y4 y5 y6 y7 y8 y9 y10 y11, LeO (Z2.j1 k y0 y1 y2 y3 y4 y5 y6 y7 y8 y9 y10 y11) (Z2.j1 (k + 1) y0 y1 y2 y3 y4 y5 y6 y7 y8 y9 y10 y11)) ∧ (∀ y0 y1 y2 y3 y4 y5 y6 y7 y8 y9 y10, LeO (Z2.j2 k y0 y1 y2 y3 y4 y5 y6 y7 y8 y9 y10) (Z2.j2 (k + 1) y0 y1 y2 y3 y4 y5 y6 y7 y8 y9 y10))
  | 0 => ⟨fun _ _ _ _ _ _ _ r h => by simp [Z2.l0] at h, fun _ _ _ _ _ _ _ _ _ _ r h => by simp [Z2.j3] at h, fun _ _ _ _ _ _ _ _ _ _ _ _ _ r h => by simp [Z2.l1] at h, fun _ _ _ _ _ _ _ _ _ _ _ r h => by simp [Z2.j5] at h, fun _ _ _ _ _ _ _ _ _ _ _ _ r h => by simp [Z2.j1] at h, fun _ _ _ _ _ _ _ _ _ _ _ r h => by simp [Z2.j2] at h⟩
  | k + 1 => by
    obtain ⟨ih0, ih1, ih2, ih3, ih4, ih5⟩ := Z2.mono_l k
    refine ⟨?_, ?_, ?_, ?_, ?_, ?_⟩
    · intro y0 y1 y2 y3 y4 y5 y6
      unfold Z2.l0
      repeat' first
      | (with_reducible exact ih0 _ _ _ _ _ _ _)
      | (with_reducible exact ih1 _ _ _ _ _ _ _ _ _ _)
      | (with_reducible exact ih2 _ _ _ _ _ _ _ _ _ _ _ _ _)
      | (with_reducible exact ih3 _ _ _ _ _ _ _ _ _ _ _)
      | (with_reducible exact ih4 _ _ _ _ _ _ _ _ _ _ _ _)
      | (with_reducible exact ih5 _ _ _ _ _ _ _ _ _ _ _)
      | (with_reducible exact Z16.mono _ _)
      | (with_reducible exact Z6.mono _ _)
      | (with_reducible exact Z10.mono _ _ _)
      | (with_reducible exact LeO.refl _)
      | (with_reducible exact LeO.none _)
      | (with_reducible refine LeO.ite ?_ ?_)
      | (with_reducible refine LeO.bind ?_ (fun _ => ?_))
      | exact ih0 _ _ _ _ _ _ _
      | exact ih1 _ _ _ _ _ _ _ _ _ _
      | exact ih2 _ _ _ _ _ _ _ _ _ _ _ _ _
      | exact ih3 _ _ _ _ _ _ _ _ _ _ _
      | exact ih4 _ _ _ _ _ _ _ _ _ _ _ _
      | exact ih5 _ _ _ _ _ _ _ _ _ _ _
      | exact LeO.none _
      | refine LeO.ite ?_ ?_
      | refine LeO.bind ?_ (fun _ => ?_)
    · intro y0 y1 y2 y3 y4 y5 y6 y7 y8 y9
      unfold Z2.j3
      repeat' first
      | (with_reducible exact ih0 _ _ _ _ _ _ _)
      | (with_reducible exact ih1 _ _ _ _ _ _ _ _ _ _)
      | (with_reducible exact ih2 _ _ _ _ _ _ _ _ _ _ _ _ _)
      | (with_reducible exact ih3 _ _ _ _ _ _ _ _ _ _ _)
      | (with_reducible exact ih4 _ _ _ _ _ _ _ _ _ _ _ _)
      | (with_reducible exact ih5 _ _ _ _ _ _ _ _ _ _ _)
      | (with_reducible exact Z16.mono _ _)
      | (with_reducible exact Z6.mono _ _)
      | (with_reducible exact Z10.mono _ _ _)
      | (with_reducible exact LeO.refl _)
      | (with_reducible exact LeO.none _)
      | (with_reducible refine LeO.ite ?_ ?_)
      | (with_reducible refine LeO.bind ?_ (fun _ => ?_))
      | exact ih0 _ _ _ _ _ _ _
      | exact ih1 _ _ _ _ _ _ _ _ _ _
      | exact ih2 _ _ _ _ _ _ _ _ _ _ _ _ _
      | exact ih3 _ _ _ _ _ _ _ _ _ _ _
      | exact ih4 _ _ _ _ _ _ _ _ _ _ _ _
      | exact ih5 _ _ _ _ _ _ _ _ _ _ _
      | exact LeO.none _
      | refine LeO.ite ?_ ?_
      | refine LeO.bind ?_ (fun _ => ?_)
    · intro y0 y1 y2 y3 y4 y5 y6 y7 y8 y9 y10 y11 y12
      unfold Z2.l1
      repeat' first
      | (with_reducible exact ih0 _ _ _ _ _ _ _)
      | (with_reducible exact ih1 _ _ _ _ _ _ _ _ _ _)
      | (with_reducible exact ih2 _ _ _ _ _ _ _ _ _ _ _ _ _)
      | (with_reducible exact ih3 _ _ _ _ _ _ _ _ _ _ _)
      | (with_reducible exact ih4 _ _ _ _ _ _ _ _ _ _ _ _)
      | (with_reducible exact ih5 _ _ _ _ _ _ _ _ _ _ _)
      | (with_reducible exact Z16.mono _ _)
      | (with_reducible exact Z6.mono _ _)
      | (with_reducible exact Z10.mono _ _ _)
      | (with_reducible exact LeO.refl _)
      | (with_reducible exact LeO.none _)
      | (with_reducible refine LeO.ite ?_ ?_)
      | (with_reducible refine LeO.bind ?_ (fun _ => ?_))
      | exact ih0 _ _ _ _ _ _ _
      | exact ih1 _ _ _ _ _ _ _ _ _ _
      | exact ih2 _ _ _ _ _ _ _ _ _ _ _ _ _
      | exact ih3 _ _ _ _ _ _ _ _ _ _ _
      | exact ih4 _ _ _ _ _ _ _ _ _ _ _ _
      | exact ih5 _ _ _ _ _ _ _ _ _ _ _
      | exact LeO.none _
      | refine LeO.ite ?_ ?_
      | refine LeO.bind ?_ (fun _ => ?_)
    · intro y0 y1 y2 y3 y4 y5 y6 y7 y8 y9 y10
      unfold Z2.j5
      repeat' first
      | (with_reducible exact ih0 _ _ _ _ _ _ _)
      | (with_reducible exact ih1 _ _ _ _ _ _ _ _ _ _)
      | (with_reducible exact ih2 _ _ _ _ _ _ _ _ _ _ _ _ _)
      | (with_reducible exact ih3 _ _ _ _ _ _ _ _ _ _ _)
      | (with_reducible exact ih4 _ _ _ _ _ _ _ _ _ _ _ _)
      | (with_reducible exact ih5 _ _ _ _ _ _ _ _ _ _ _)
      | (with_reducible exact Z16.mono _ _)
      | (with_reducible exact Z6.mono _ _)
      | (with_reducible exact Z10.mono _ _ _)
      | (with_reducible exact LeO.refl _)
      | (with_reducible exact LeO.none _)
      | (with_reducible refine LeO.ite ?_ ?_)
      | (with_reducible refine LeO.bind ?_ (fun _ => ?_))
      | exact ih0 _ _ _ _ _ _ _
      | exact ih1 _ _ _ _ _ _ _ _ _ _
      | exact ih2 _ _ _ _ _ _ _ _ _ _ _ _ _
      | exact ih3 _ _ _ _ _ _ _ _ _ _ _
      | exact ih4 _ _ _ _ _ _ _ _ _ _ _ _
      | exact ih5 _ _ _ _ _ _ _ _ _ _ _
      | exact LeO.none _
      | refine LeO.ite ?_ ?_
      | refine LeO.bind ?_ (fun _ => ?_)
    · intro y0 y1 y2 y3 y4 y5 y6 y7 y8 y9 y10 y11
      unfold Z2.j1
      repeat' first
      | (with_reducible exact ih0 _ _ _ _ _ _ _)
      | (with_reducible exact ih1 _ _ _ _ _ _ _ _ _ _)
      | (with_reducible exact ih2 _ _ _ _ _ _ _ _ _ _ _ _ _)
      | (with_reducible exact ih3 _ _ _ _ _ _ _ _ _ _ _)
      | (with_reducible exact ih4 _ _ _ _ _ _ _ _ _ _ _ _)
      | (with_reducible exact ih5 _ _ _ _ _ _ _ _ _ _ _)
      | (with_reducible exact Z16.mono _ _)
      | (with_reducible exact Z6.mono _ _)
      | (with_reducible exact Z10.mono _ _ _)
      | (with_reducible exact LeO.refl _)
      | (with_reducible exact LeO.none _)
      | (with_reducible refine LeO.ite ?_ ?_)
      | (with_reducible refine LeO.bind ?_ (fun _ => ?_))
      | exact ih0 _ _ _ _ _ _ _
      | exact ih1 _ _ _ _ _ _ _ _ _ _
      | exact ih2 _ _ _ _ _ _ _ _ _ _ _ _ _
      | exact ih3 _ _ _ _ _ _ _ _ _ _ _
      | exact ih4 _ _ _ _ _ _ _ _ _ _ _ _
      | exact ih5 _ _ _ _ _ _ _ _ _ _ _
      | exact LeO.none _
      | refine LeO.ite ?_ ?_
      | refine LeO.bind ?_ (fun _ => ?_)
    · intro y0 y1 y2 y3 y4 y5 y6 y7 y8 y9 y10
      unfold Z2.j2
      repeat' first
      | (with_reducible exact ih0 _ _ _ _ _ _ _)
      | (with_reducible exact ih1 _ _ _ _ _ _ _ _ _ _)
      | (with_reducible exact ih2 _ _ _ _ _ _ _ _ _ _ _ _ _)
      | (with_reducible exact ih3 _ _ _ _ _ _ _ _ _ _ _)
      | (with_reducible exact ih4 _ _ _ _ _ _ _ _ _ _ _ _)
      | (with_reducible exact ih5 _ _ _ _ _ _ _ _ _ _ _)
      | (with_reducible exact Z16.mono _ _)
      | (with_reducible exact Z6.mono _ _)
      | (with_reducible exact Z10.mono _ _ _)
      | (with_reducible exact LeO.refl _)
      | (with_reducible exact LeO.none _)
      | (with_reducible refine LeO.ite ?_ ?_)
      | (with_reducible refine LeO.bind ?_ (fun _ => ?_))
      | exact ih0 _ _ _ _ _ _ _
      | exact ih1 _ _ _ _ _ _ _ _ _ _
      | exact ih2 _ _ _ _ _ _ _ _ _ _ _ _ _
      | exact ih3 _ _ _ _ _ _ _ _ _ _ _
      | exact ih4 _ _ _ _ _ _ _ _ _ _ _ _
      | exact ih5 _ _ _ _ _ _ _ _ _ _ _
      | exact LeO.none _
      | refine LeO.ite ?_ ?_
      | refine LeO.bind ?_ (fun _ => ?_)
theorem Z2.mono : ∀ a0 a1 k, LeO (Z2.f k a0 a1) (Z2.f (k + 1) a0 a1) := by
  intro a0 a1 k
  obtain ⟨ih0, ih1, ih2, ih3, ih4, ih5⟩ := Z2.mono_l k
  unfold Z2.f
  repeat' first
      | (with_reducible exact ih0 _ _ _ _ _ _ _)
      | (with_reducible exact ih1 _ _ _ _ _ _ _ _ _ _)
      | (with_reducible exact ih2 _ _ _ _ _ _ _ _ _ _ _ _ _)
      | (with_reducible exact ih3 _ _ _ _ _ _ _ _ _ _ _)
      | (with_reducible exact ih4 _ _ _ _ _ _ _ _ _ _ _ _)
      | (with_reducible exact ih5 _ _ _ _ _ _ _ _ _ _ _)
      | (with_reducible exact Z16.mono _ _)
      | (with_reducible exact Z6.mono _ _)
      | (with_reducible exact Z10.mono _ _ _)
      | (with_reducible exact LeO.refl _)
      | (with_reducible exact LeO.none _)
      | (with_reducible refine LeO.ite ?_ ?_)
      | (with_reducible refine LeO.bind ?_ (fun _ => ?_))
      | exact ih0 _ _ _ _ _ _ _
      | exact ih1 _ _ _ _ _ _ _ _ _ _
      | exact ih2 _ _ _ _ _ _ _ _ _ _ _ _ _
      | exact ih3 _ _ _ _ _ _ _ _ _ _ _
      | exact ih4 _ _ _ _ _ _ _ _ _ _ _ _
      | exact ih5 _ _ _ _ _ _ _ _ _ _ _
      | exact LeO.none _
      | refine LeO.ite ?_ ?_
      | refine LeO.bind ?_ (fun _ => ?_)
def Z2.T23 : Bool × List (List Nat × List Nat) := (true, [([], []), ([0], [0]), ([], []), ([2], [2]), ([3], [3]), ([1, 4], [1, 4]), ([], []), ([6], [6]), ([5, 7], [5, 7]), ([8], [8]), ([9], [9]), ([9], [9]), ([11, 9], [9, 11]), ([9], [9]), ([13, 9], [9, 13]), ([9], [9]), ([15, 9], [9, 15]), ([16, 9], [9, 16]), ([14, 17, 9], [9, 14, 17]), ([10, 12, 18, 9], [9, 10, 12, 18]), ([9], [9]), ([20, 9], [9, 20]), ([19, 21, 9, 9], [9, 19, 21]), ([22, 9], [9, 22]), ([9, 23], [9, 23])])
def Z2.B23 : List Nat := [0, 1, 0, 4, 12, 31, 0, 64, 255, 511, 1023, 1023, 3071, 1023, 9215, 1023, 33791, 99327, 254975, 524287, 1023, 1049599, 4194303, 8388607, 16777215]
theorem Z2.tab23 : rtab .any (opsOf Tryz.f43 23) = Z2.T23 := by kernel_rfl
theorem Z2.bits23 : waitsOk Z2.T23.2 Z2.B23 = true := by kernel_rfl
def Z2.T26 : Bool × List (List Nat × List Nat) := (true, [([], []), ([], []), ([1], [1]), ([], []), ([3], [3]), ([4], [4]), ([], []), ([6], [6]), ([7, 5], [7]), ([2, 5, 8], [2, 5, 8]), ([9], [9]), ([0, 10, 8], [0, 10]), ([11, 11, 0, 1, 2, 3, 4, 5, 6, 7, 8, 9, 10, 11], [0, 11])])
def Z2.B26 : List Nat := [0, 0, 2, 0, 8, 24, 0, 64, 248, 510, 1022, 2047, 4095]
theorem Z2.tab26 : rtab .any (opsOf Tryz.f43 26) = Z2.T26 := by kernel_rfl
theorem Z2.bits26 : waitsOk Z2.T26.2 Z2.B26 = true := by kernel_rfl
abbrev Z2.D0 : Array Bool := #[false, false, false, false, false, false, false, false, false, false, false, false, false, false, false, false, false, false, false, false, false, false, false, false, false]
abbrev Z2.D1 : Array Bool := #[false, false, false, false, false, false, false, false, false, false, false, false, false]
abbrev Z2.D2 : Array Bool := #[true, false, false, false, false, false, false, false, false, false, false, false, false, false, false, false, false, false, false, false, false, false, false, false, false]
abbrev Z2.D3 : Array Bool := #[true, false, false, false, false, false, false, false, false, false, false, false, false]
abbrev Z2.D4 : Array Bool := #[true, false, true, false, false, false, false, false, false, false, false, false, false, false, false, false, false, false, false, false, false, false, false, false, false]
abbrev Z2.D5 : Array Bool := #[true, false, true, false, false, false, true, false, false, false, false, false, false, false, false, false, false, false, false, false, false, false, false, false, false]
abbrev Z2.D6 : Array Bool := #[true, false, true, false, false, false, true, true, false, false, false, false, false, false, false, false, false, false, false, false, false, false, false, false, false]
abbrev Z2.D7 : Array Bool := #[true, true, false, false, false, false, false, false, false, false, false, false, false]
abbrev Z2.D8 : Array Bool := #[true, true, true, false, false, false, false, false, false, false, false, false, false]
abbrev Z2.D9 : Array Bool := #[true, true, true, false, false, false, true, true, false, false, false, false, false, false, false, false, false, false, false, false, false, false, false, false, false]
abbrev Z2.D10 : Array Bool := #[true, true, true, true, false, false, false, false, false, false, false, false, false]
abbrev Z2.D11 : Array Bool := #[true, true, true, true, false, false, true, false, false, false, false, false, false]
abbrev Z2.D12 : Array Bool := #[true, true, true, true, false, false, true, true, false, false, false, false, false, false, false, false, false, false, false, false, false, false, false, false, false]
abbrev Z2.D13 : Array Bool := #[true, true, true, true, true, false, true, false, false, false, false, false, false]
abbrev Z2.D14 : Array Bool := #[true, true, true, true, true, false, true, true, false, false, false, false, false, false, false, false, false, false, false, false, false, false, false, false, false]
abbrev Z2.D15 : Array Bool := #[true, true, true, true, true, false, true, true, false, false, false, false, false]
abbrev Z2.D16 : Array Bool := #[true, true, true, true, true, true, true, true, false, false, false, false, false, false, false, false, false, false, false, false, false, false, false, false, false]
abbrev Z2.D17 : Array Bool := #[true, true, true, true, true, true, true, true, false, false, false, false, false]
abbrev Z2.D18 : Array Bool := #[true, true, true, true, true, true, true, true, true, false, false, false, false, false, false, false, false, false, false, false, false, false, false, false, false]
abbrev Z2.D19 : Array Bool := #[true, true, true, true, true, true, true, true, true, false, false, false, false]
abbrev Z2.D20 : Array Bool := #[true, true, true, true, true, true, true, true, true, true, false, false, false, false, false, false, false, false, false, false, false, false, false, false, false]
abbrev Z2.D21 : Array Bool := #[true, true, true, true, true, true, true, true, true, true, false, false, false]
abbrev Z2.D22 : Array Bool := #[true, true, true, true, true, true, true, true, true, true, true, false, false, false, false, false, false, false, false, false, false, false, false, false, false]
abbrev Z2.D23 : Array Bool := #[true, true, true, true, true, true, true, true, true, true, true, false, false]
abbrev Z2.D24 : Array Bool := #[true, true, true, true, true, true, true, true, true, true, true, true, false, false, false, false, false, false, false, false, false, false, false, false, false]
abbrev Z2.D25 : Array Bool := #[true, true, true, true, true, true, true, true, true, true, true, true, false, true, false, false, false, false, false, false, false, false, false, false, false]
abbrev Z2.D26 : Array Bool := #[true, true, true, true, true, true, true, true, true, true, true, true, false, true, false, true, false, false, false, false, false, false, false, false, false]
abbrev Z2.D27 : Array Bool := #[true, true, true, true, true, true, true, true, true, true, true, true, false, true, false, true, false, false, false, false, true, false, false, false, false]
abbrev Z2.D28 : Array Bool := #[true, true, true, true, true, true, true, true, true, true, true, true, false]
abbrev Z2.D29 : Array Bool := #[true, true, true, true, true, true, true, true, true, true, true, true, true, false, false, false, false, false, false, false, false, false, false, false, false]
abbrev Z2.D30 : Array Bool := #[true, true, true, true, true, true, true, true, true, true, true, true, true, true, false, false, false, false, false, false, false, false, false, false, false]
abbrev Z2.D31 : Array Bool := #[true, true, true, true, true, true, true, true, true, true, true, true, true, true, false, true, false, false, false, false, true, false, false, false, false]
abbrev Z2.D32 : Array Bool := #[true, true, true, true, true, true, true, true, true, true, true, true, true, true, true, false, false, false, false, false, false, false, false, false, false]
abbrev Z2.D33 : Array Bool := #[true, true, true, true, true, true, true, true, true, true, true, true, true, true, true, true, false, false, false, false, false, false, false, false, false]
abbrev Z2.D34 : Array Bool := #[true, true, true, true, true, true, true, true, true, true, true, true, true, true, true, true, false, false, false, false, true, false, false, false, false]
abbrev Z2.D35 : Array Bool := #[true, true, true, true, true, true, true, true, true, true, true, true, true, true, true, true, true, false, false, false, false, false, false, false, false]
abbrev Z2.D36 : Array Bool := #[true, true, true, true, true, true, true, true, true, true, true, true, true, true, true, true, true, false, false, false, true, false, false, false, false]
abbrev Z2.D37 : Array Bool := #[true, true, true, true, true, true, true, true, true, true, true, true, true, true, true, true, true, true, false, false, false, false, false, false, false]
abbrev Z2.D38 : Array Bool := #[true, true, true, true, true, true, true, true, true, true, true, true, true, true, true, true, true, true, false, false, true, false, false, false, false]
abbrev Z2.D39 : Array Bool := #[true, true, true, true, true, true, true, true, true, true, true, true, true, true, true, true, true, true, true, false, false, false, false, false, false]
abbrev Z2.D40 : Array Bool := #[true, true, true, true, true, true, true, true, true, true, true, true, true, true, true, true, true, true, true, false, true, false, false, false, false]
abbrev Z2.D41 : Array Bool := #[true, true, true, true, true, true, true, true, true, true, true, true, true, true, true, true, true, true, true, true, false, false, false, false, false]
abbrev Z2.D42 : Array Bool := #[true, true, true, true, true, true, true, true, true, true, true, true, true, true, true, true, true, true, true, true, true, false, false, false, false]
abbrev Z2.D43 : Array Bool := #[true, true, true, true, true, true, true, true, true, true, true, true, true, true, true, true, true, true, true, true, true, true, false, false, false]
abbrev Z2.D44 : Array Bool := #[true, true, true, true, true, true, true, true, true, true, true, true, true, true, true, true, true, true, true, true, true, true, true, false, false]
abbrev Z2.D45 : Array Bool := #[true, true, true, true, true, true, true, true, true, true, true, true, true, true, true, true, true, true, true, true, true, true, true, true, false]
abbrev Z2.D46 : Array Bool := #[true, true, true, true, true, true, true, true, true, true, true, true, true, true, true, true, true, true, true, true, true, true, true, true, true]
abbrev Z2.D47 : Array Bool := #[true, true, true, true, true, true, true, true, true, true, true, true, true]
end Go.Proofs.YtffaggbephnmkaaGreatDoor.Pq
