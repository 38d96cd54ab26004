/- A part of the proof of wordsStay. No conditions. Laid by program over the kit's print and words. -/
import Derived.Test.YtenphgclongphaaGreatDoorZyPkx0
namespace Go.Proofs.YtenphgclongphaaGreatDoor.Pk
open Go.RowKit Go.Proofs.YtenphgclongphaaGreatDoor.GBase Go.Proofs.YtenphgclongphaaGreatDoorW.PrintWords Go.Proofs.YtenphgclongphaaGreatDoorW.PrintLast Go.Proofs.YtenphgclongphaaGreatDoorW.PrintMore
attribute [local go_sem] str_leq max2_int min2_int max_two min_two max_three min_three max_four min_four
set_option linter.unusedVariables false
set_option linter.unusedSimpArgs false
mutual
def chaseref1_keptOf.l0 : Nat → List ByteArray → List ByteArray → List (List Int) → Int → Int → Option ((List (S76)))
  | 0, _, _, _, _, _ => none
  | k + 1, x0, x1, x5, x18, x19 => if x19 < x18 then (if 0 ≤ (wrap64 ((x1.length : Int) + 1)) then (if (wrap64 ((x1.length : Int) + 1) : Int).toNat ≤ 35184372088832 then (if 0 ≤ x19 then (if x19 < (x5.length : Int) then (chaseref1_keptOf.l0 k x0 x1 (x5.set (x19 : Int).toNat (List.replicate (wrap64 ((x1.length : Int) + 1) : Int).toNat 0)) x18 (wrap64 (x19 + 1))) else (none)) else (none)) else (none)) else (none)) else (chaseref1_keptOf.l1 k x0 x1 x5 (wrap64 ((x0.length : Int) - 1)))
def chaseref1_keptOf.l1 : Nat → List ByteArray → List ByteArray → List (List Int) → Int → Option ((List (S76)))
  | 0, _, _, _, _ => none
  | k + 1, x0, x1, x5, x7 => if x7 ≥ 0 then (chaseref1_keptOf.l2 k x0 x1 x5 x7 (wrap64 ((x1.length : Int) - 1))) else (chaseref1_keptOf.l3 k x0 x1 x5 ([] : List (S76)) 0 (x0.length : Int) 0)
def chaseref1_keptOf.l2 : Nat → List ByteArray → List ByteArray → List (List Int) → Int → Int → Option ((List (S76)))
  | 0, _, _, _, _, _ => none
  | k + 1, x0, x1, x5, x7, x8 => if x8 ≥ 0 then (if 0 ≤ x7 then (if x7 < (x5.length : Int) then (if 0 ≤ (wrap64 (x7 + 1)) then (if (wrap64 (x7 + 1)) < (x5.length : Int) then (if 0 ≤ x8 then (if x8 < ((rd_L2 x5 (wrap64 (x7 + 1))).length : Int) then (if 0 ≤ (wrap64 (x8 + 1)) then (if (wrap64 (x8 + 1)) < ((rd_L2 x5 x7).length : Int) then (if x8 < ((rd_L2 x5 x7).length : Int) then ((some (x5.set (x7 : Int).toNat ((rd_L2 x5 x7).set (x8 : Int).toNat (mx (rd (rd_L2 x5 (wrap64 (x7 + 1))) x8) (rd (rd_L2 x5 x7) (wrap64 (x8 + 1))))) : List (List Int))).bind fun y148 => (if x7 < (x0.length : Int) then (if x8 < (x1.length : Int) then (if (rdOf ByteArray.empty x0 x7).toList = (rdOf ByteArray.empty x1 x8).toList then (if x8 < ((rd_L2 y148 x7).length : Int) then (if (wrap64 (x8 + 1)) < ((rd_L2 y148 (wrap64 (x7 + 1))).length : Int) then (chaseref1_keptOf.l2 k x0 x1 (y148.set (x7 : Int).toNat ((rd_L2 y148 x7).set (x8 : Int).toNat (mx (rd (rd_L2 y148 x7) x8) (wrap64 ((rd (rd_L2 y148 (wrap64 (x7 + 1))) (wrap64 (x8 + 1))) + 1))))) x7 (wrap64 (x8 - 1))) else (none)) else (none)) else (chaseref1_keptOf.l2 k x0 x1 y148 x7 (wrap64 (x8 - 1)))) else (none)) else (none))) else (none)) else (none)) else (none)) else (none)) else (none)) else (none)) else (none)) else (none)) else (none)) else (chaseref1_keptOf.l1 k x0 x1 x5 (wrap64 (x7 - 1)))
def chaseref1_keptOf.l3 : Nat → List ByteArray → List ByteArray → List (List Int) → List (S76) → Int → Int → Int → Option ((List (S76)))
  | 0, _, _, _, _, _, _, _ => none
  | k + 1, x0, x1, x5, x9, x10, x101, x102 => if x102 < x101 then (chaseref1_keptOf.l4 k x0 x1 x5 x9 x10 x102 x10 x101 x102) else (some x9)
def chaseref1_keptOf.l4 : Nat → List ByteArray → List ByteArray → List (List Int) → List (S76) → Int → Int → Int → Int → Int → Option ((List (S76)))
  | 0, _, _, _, _, _, _, _, _, _ => none
  | k + 1, x0, x1, x5, x9, x10, x11, x12, x101, x102 => if x12 < (x1.length : Int) then (if 0 ≤ x11 then (if x11 < (x0.length : Int) then (if 0 ≤ x12 then (if (rdOf ByteArray.empty x0 x11).toList = (rdOf ByteArray.empty x1 x12).toList then (if 0 ≤ (wrap64 (x11 + 1)) then (if (wrap64 (x11 + 1)) < (x5.length : Int) then (if 0 ≤ (wrap64 (x12 + 1)) then (if (wrap64 (x12 + 1)) < ((rd_L2 x5 (wrap64 (x11 + 1))).length : Int) then (if x11 < (x5.length : Int) then (if 0 ≤ x10 then (if x10 < ((rd_L2 x5 x11).length : Int) then (if (wrap64 ((rd (rd_L2 x5 (wrap64 (x11 + 1))) (wrap64 (x12 + 1))) + 1)) = (rd (rd_L2 x5 x11) x10) then (if x9.length < 8796093022208 then (chaseref1_keptOf.l3 k x0 x1 x5 (x9 ++ [(⟨x11, x12⟩ : S76)]) (wrap64 (x12 + 1)) x101 (wrap64 (x102 + 1))) else (none)) else (chaseref1_keptOf.l4 k x0 x1 x5 x9 x10 x11 (wrap64 (x12 + 1)) x101 x102)) else (none)) else (none)) else (none)) else (none)) else (none)) else (none)) else (none)) else (chaseref1_keptOf.l4 k x0 x1 x5 x9 x10 x11 (wrap64 (x12 + 1)) x101 x102)) else (none)) else (none)) else (none)) else (chaseref1_keptOf.l3 k x0 x1 x5 x9 x10 x101 (wrap64 (x102 + 1)))
end
def chaseref1_keptOf.f (k : Nat) (l0 : List ByteArray) (l1 : List ByteArray) : Option ((List (S76))) := if 0 ≤ (wrap64 ((l0.length : Int) + 1)) then (if (wrap64 ((l0.length : Int) + 1) : Int).toNat ≤ 11728124029610 then ((some (List.replicate (wrap64 ((l0.length : Int) + 1) : Int).toNat [] : List (List Int))).bind fun y134 => (chaseref1_keptOf.l0 k l0 l1 y134 (y134.length : Int) 0)) else (none)) else (none)
theorem chaseref1_keptOf.mono_l : ∀ k, (∀ y0 y1 y2 y3 y4, LeO (chaseref1_keptOf.l0 k y0 y1 y2 y3 y4) (chaseref1_keptOf.l0 (k + 1) y0 y1 y2 y3 y4)) ∧ (∀ y0 y1 y2 y3, LeO (chaseref1_keptOf.l1 k y0 y1 y2 y3) (chaseref1_keptOf.l1 (k + 1) y0 y1 y2 y3)) ∧ (∀ y0 y1 y2 y3 y4, LeO (chaseref1_keptOf.l2 k y0 y1 y2 y3 y4) (chaseref1_keptOf.l2 (k + 1) y0 y1 y2 y3 y4)) ∧ (∀ y0 y1 y2 y3 y4 y5 y6, LeO (chaseref1_keptOf.l3 k y0 y1 y2 y3 y4 y5 y6) (chaseref1_keptOf.l3 (k + 1) y0 y1 y2 y3 y4 y5 y6)) ∧ (∀ y0 y1 y2 y3 y4 y5 y6 y7 y8, LeO (chaseref1_keptOf.l4 k y0 y1 y2 y3 y4 y5 y6 y7 y8) (chaseref1_keptOf.l4 (k + 1) y0 y1 y2 y3 y4 y5 y6 y7 y8))
  | 0 => ⟨fun _ _ _ _ _ r h => by simp [chaseref1_keptOf.l0] at h, fun _ _ _ _ r h => by simp [chaseref1_keptOf.l1] at h, fun _ _ _ _ _ r h => by simp [chaseref1_keptOf.l2] at h, fun _ _ _ _ _ _ _ r h => by simp [chaseref1_keptOf.l3] at h, fun _ _ _ _ _ _ _ _ _ r h => by simp [chaseref1_keptOf.l4] at h⟩
  | k + 1 => by
    obtain ⟨ih0, ih1, ih2, ih3, ih4⟩ := chaseref1_keptOf.mono_l k
    refine ⟨?_, ?_, ?_, ?_, ?_⟩
    · intro y0 y1 y2 y3 y4
      unfold chaseref1_keptOf.l0
      repeat' first
      | (with_reducible exact ih0 _ _ _ _ _)
      | (with_reducible exact ih1 _ _ _ _)
      | (with_reducible exact ih2 _ _ _ _ _)
      | (with_reducible exact ih3 _ _ _ _ _ _ _)
      | (with_reducible exact ih4 _ _ _ _ _ _ _ _ _)
      | (with_reducible exact LeO.refl _)
      | (with_reducible exact LeO.none _)
      | (with_reducible refine LeO.ite ?_ ?_)
      | (with_reducible refine LeO.bind ?_ (fun _ => ?_))
      | exact ih0 _ _ _ _ _
      | exact ih1 _ _ _ _
      | exact ih2 _ _ _ _ _
      | exact ih3 _ _ _ _ _ _ _
      | exact ih4 _ _ _ _ _ _ _ _ _
      | exact LeO.none _
      | refine LeO.ite ?_ ?_
      | refine LeO.bind ?_ (fun _ => ?_)
    · intro y0 y1 y2 y3
      unfold chaseref1_keptOf.l1
      repeat' first
      | (with_reducible exact ih0 _ _ _ _ _)
      | (with_reducible exact ih1 _ _ _ _)
      | (with_reducible exact ih2 _ _ _ _ _)
      | (with_reducible exact ih3 _ _ _ _ _ _ _)
      | (with_reducible exact ih4 _ _ _ _ _ _ _ _ _)
      | (with_reducible exact LeO.refl _)
      | (with_reducible exact LeO.none _)
      | (with_reducible refine LeO.ite ?_ ?_)
      | (with_reducible refine LeO.bind ?_ (fun _ => ?_))
      | exact ih0 _ _ _ _ _
      | exact ih1 _ _ _ _
      | exact ih2 _ _ _ _ _
      | exact ih3 _ _ _ _ _ _ _
      | exact ih4 _ _ _ _ _ _ _ _ _
      | exact LeO.none _
      | refine LeO.ite ?_ ?_
      | refine LeO.bind ?_ (fun _ => ?_)
    · intro y0 y1 y2 y3 y4
      unfold chaseref1_keptOf.l2
      repeat' first
      | (with_reducible exact ih0 _ _ _ _ _)
      | (with_reducible exact ih1 _ _ _ _)
      | (with_reducible exact ih2 _ _ _ _ _)
      | (with_reducible exact ih3 _ _ _ _ _ _ _)
      | (with_reducible exact ih4 _ _ _ _ _ _ _ _ _)
      | (with_reducible exact LeO.refl _)
      | (with_reducible exact LeO.none _)
      | (with_reducible refine LeO.ite ?_ ?_)
      | (with_reducible refine LeO.bind ?_ (fun _ => ?_))
      | exact ih0 _ _ _ _ _
      | exact ih1 _ _ _ _
      | exact ih2 _ _ _ _ _
      | exact ih3 _ _ _ _ _ _ _
      | exact ih4 _ _ _ _ _ _ _ _ _
      | exact LeO.none _
      | refine LeO.ite ?_ ?_
      | refine LeO.bind ?_ (fun _ => ?_)
    · intro y0 y1 y2 y3 y4 y5 y6
      unfold chaseref1_keptOf.l3
      repeat' first
      | (with_reducible exact ih0 _ _ _ _ _)
      | (with_reducible exact ih1 _ _ _ _)
      | (with_reducible exact ih2 _ _ _ _ _)
      | (with_reducible exact ih3 _ _ _ _ _ _ _)
      | (with_reducible exact ih4 _ _ _ _ _ _ _ _ _)
      | (with_reducible exact LeO.refl _)
      | (with_reducible exact LeO.none _)
      | (with_reducible refine LeO.ite ?_ ?_)
      | (with_reducible refine LeO.bind ?_ (fun _ => ?_))
      | exact ih0 _ _ _ _ _
      | exact ih1 _ _ _ _
      | exact ih2 _ _ _ _ _
      | exact ih3 _ _ _ _ _ _ _
      | exact ih4 _ _ _ _ _ _ _ _ _
      | exact LeO.none _
      | refine LeO.ite ?_ ?_
      | refine LeO.bind ?_ (fun _ => ?_)
    · intro y0 y1 y2 y3 y4 y5 y6 y7 y8
      unfold chaseref1_keptOf.l4
      repeat' first
      | (with_reducible exact ih0 _ _ _ _ _)
      | (with_reducible exact ih1 _ _ _ _)
      | (with_reducible exact ih2 _ _ _ _ _)
      | (with_reducible exact ih3 _ _ _ _ _ _ _)
      | (with_reducible exact ih4 _ _ _ _ _ _ _ _ _)
      | (with_reducible exact LeO.refl _)
      | (with_reducible exact LeO.none _)
      | (with_reducible refine LeO.ite ?_ ?_)
      | (with_reducible refine LeO.bind ?_ (fun _ => ?_))
      | exact ih0 _ _ _ _ _
      | exact ih1 _ _ _ _
      | exact ih2 _ _ _ _ _
      | exact ih3 _ _ _ _ _ _ _
      | exact ih4 _ _ _ _ _ _ _ _ _
      | exact LeO.none _
      | refine LeO.ite ?_ ?_
      | refine LeO.bind ?_ (fun _ => ?_)
theorem chaseref1_keptOf.mono : ∀ a0 a1 k, LeO (chaseref1_keptOf.f k a0 a1) (chaseref1_keptOf.f (k + 1) a0 a1) := by
  intro a0 a1 k
  obtain ⟨ih0, ih1, ih2, ih3, ih4⟩ := chaseref1_keptOf.mono_l k
  unfold chaseref1_keptOf.f
  repeat' first
      | (with_reducible exact ih0 _ _ _ _ _)
      | (with_reducible exact ih1 _ _ _ _)
      | (with_reducible exact ih2 _ _ _ _ _)
      | (with_reducible exact ih3 _ _ _ _ _ _ _)
      | (with_reducible exact ih4 _ _ _ _ _ _ _ _ _)
      | (with_reducible exact LeO.refl _)
      | (with_reducible exact LeO.none _)
      | (with_reducible refine LeO.ite ?_ ?_)
      | (with_reducible refine LeO.bind ?_ (fun _ => ?_))
      | exact ih0 _ _ _ _ _
      | exact ih1 _ _ _ _
      | exact ih2 _ _ _ _ _
      | exact ih3 _ _ _ _ _ _ _
      | exact ih4 _ _ _ _ _ _ _ _ _
      | exact LeO.none _
      | refine LeO.ite ?_ ?_
      | refine LeO.bind ?_ (fun _ => ?_)
def chaseref1_keptOf.T13 : Bool × List (List Nat × List Nat) := (true, [([], []), ([], []), ([0, 1], [0, 1]), ([2], [2]), ([], []), ([], []), ([], []), ([6], [6]), ([5, 7], [5, 7]), ([8], [8]), ([], []), ([9, 10], [9, 10]), ([11], [11]), ([], []), ([], []), ([13, 14], [13, 14]), ([15], [15]), ([], []), ([17], [17]), ([16, 18], [16, 18]), ([19], [19]), ([12, 20], [12, 20]), ([3, 4, 0, 1, 2, 3, 4, 5, 6, 7, 8, 9, 10, 11, 12, 13, 14, 15, 16, 17, 18, 19, 20, 21], [3, 4]), ([22, 21, 0, 1, 2, 3, 4, 5, 6, 7, 8, 9, 10, 11, 12, 13, 14, 15, 16, 17, 18, 19, 20, 21], [21, 22])])
def chaseref1_keptOf.B13 : List Nat := [0, 0, 3, 7, 0, 0, 0, 64, 224, 480, 0, 2016, 4064, 0, 0, 24576, 57344, 0, 131072, 516096, 1040384, 2097120, 4194303, 8388607]
theorem chaseref1_keptOf.tab13 : rtab .any (opsOf Tryz.f34 13) = chaseref1_keptOf.T13 := by kernel_rfl
theorem chaseref1_keptOf.bits13 : waitsOk chaseref1_keptOf.T13.2 chaseref1_keptOf.B13 = true := by kernel_rfl
def chaseref1_keptOf.T14 : Bool × List (List Nat × List Nat) := (true, [([], []), ([], []), ([0, 1], [0, 1]), ([2], [2]), ([], []), ([], []), ([4, 5], [4, 5]), ([6], [6]), ([3, 7], [3, 7])])
def chaseref1_keptOf.B14 : List Nat := [0, 0, 3, 7, 0, 0, 48, 112, 255]
theorem chaseref1_keptOf.tab14 : rtab .any (opsOf Tryz.f34 14) = chaseref1_keptOf.T14 := by kernel_rfl
theorem chaseref1_keptOf.bits14 : waitsOk chaseref1_keptOf.T14.2 chaseref1_keptOf.B14 = true := by kernel_rfl
def chaseref1_keptOf.T15 : Bool × List (List Nat × List Nat) := (true, [([], []), ([], []), ([0, 1], [0, 1]), ([2], [2]), ([], []), ([], []), ([], []), ([5, 6], [5, 6]), ([7], [7]), ([], []), ([8, 9], [8, 9]), ([10], [10]), ([], []), ([], []), ([13], [13]), ([12, 14], [12, 14]), ([15], [15]), ([], []), ([17], [17]), ([16, 18], [16, 18]), ([19], [19]), ([20], [20]), ([11, 21], [11, 21]), ([3, 4, 0, 1, 2, 3, 4, 5, 6, 7, 8, 9, 10, 11, 12, 13, 14, 15, 16, 17, 18, 19, 20, 21, 22], [3, 4]), ([23, 22, 0, 1, 2, 3, 4, 5, 6, 7, 8, 9, 10, 11, 12, 13, 14, 15, 16, 17, 18, 19, 20, 21, 22], [22, 23])])
def chaseref1_keptOf.B15 : List Nat := [0, 0, 3, 7, 0, 0, 0, 96, 224, 0, 992, 2016, 0, 0, 8192, 28672, 61440, 0, 131072, 520192, 1044480, 2093056, 4194272, 8388607, 16777215]
theorem chaseref1_keptOf.tab15 : rtab .any (opsOf Tryz.f34 15) = chaseref1_keptOf.T15 := by kernel_rfl
theorem chaseref1_keptOf.bits15 : waitsOk chaseref1_keptOf.T15.2 chaseref1_keptOf.B15 = true := by kernel_rfl
def chaseref1_keptOf.T24 : Bool × List (List Nat × List Nat) := (true, [([], []), ([], []), ([0, 1], [0, 1]), ([2], [2]), ([], []), ([], []), ([4, 5], [4, 5]), ([6], [6]), ([3, 7], [3, 7]), ([8], [8]), ([9], [9]), ([9], [9]), ([11, 9], [9, 11]), ([10, 12, 9], [9, 10, 12]), ([13, 9], [9, 13]), ([9], [9]), ([15, 9], [9, 15]), ([14, 16, 9], [9, 14, 16]), ([17, 9], [9, 17]), ([18, 9], [9, 18]), ([9], [9]), ([9], [9]), ([20, 21, 9], [9, 20, 21]), ([22, 9], [9, 22]), ([9], [9]), ([23, 24, 9], [9, 23, 24]), ([25, 9], [9, 25]), ([19, 26, 9], [9, 19, 26]), ([9, 27], [9, 27])])
def chaseref1_keptOf.B24 : List Nat := [0, 0, 3, 7, 0, 0, 48, 112, 255, 511, 1023, 1023, 3071, 8191, 16383, 1023, 33791, 131071, 262143, 524287, 1023, 1023, 3146751, 7341055, 1023, 32506879, 66061311, 134217727, 268435455]
theorem chaseref1_keptOf.tab24 : rtab .any (opsOf Tryz.f34 24) = chaseref1_keptOf.T24 := by kernel_rfl
theorem chaseref1_keptOf.bits24 : waitsOk chaseref1_keptOf.T24.2 chaseref1_keptOf.B24 = true := by kernel_rfl
abbrev chaseref1_keptOf.D0 : Array Bool := #[false, false, false, false, false, false, false, false, false, false, false, false, false, false, false, false, false, false, false, false, false, false, false, false, false, false, false, false, false]
abbrev chaseref1_keptOf.D1 : Array Bool := #[false, false, false, false, false, false, false, false, false, false, false, false, false, false, false, false, false, false, false, false, false, false, false, false, false]
abbrev chaseref1_keptOf.D2 : Array Bool := #[false, false, false, false, false, false, false, false, false, false, false, false, false, false, false, false, false, false, false, false, false, false, false, false]
abbrev chaseref1_keptOf.D3 : Array Bool := #[false, false, false, false, false, false, false, false, false]
abbrev chaseref1_keptOf.D4 : Array Bool := #[true, false, false, false, false, false, false, false, false, false, false, false, false, false, false, false, false, false, false, false, false, false, false, false, false, false, false, false, false]
abbrev chaseref1_keptOf.D5 : Array Bool := #[true, false, false, false, false, false, false, false, false, false, false, false, false, false, false, false, false, false, false, false, false, false, false, false, false]
abbrev chaseref1_keptOf.D6 : Array Bool := #[true, false, false, false, false, false, false, false, false, false, false, false, false, false, false, false, false, false, false, false, false, false, false, false]
abbrev chaseref1_keptOf.D7 : Array Bool := #[true, false, false, false, false, false, false, false, false]
abbrev chaseref1_keptOf.D8 : Array Bool := #[true, true, false, false, false, false, false, false, false, false, false, false, false, false, false, false, false, false, false, false, false, false, false, false, false, false, false, false, false]
abbrev chaseref1_keptOf.D9 : Array Bool := #[true, true, false, false, false, false, false, false, false, false, false, false, false, false, false, false, false, false, false, false, false, false, false, false, false]
abbrev chaseref1_keptOf.D10 : Array Bool := #[true, true, false, false, false, false, false, false, false, false, false, false, false, false, false, false, false, false, false, false, false, false, false, false]
abbrev chaseref1_keptOf.D11 : Array Bool := #[true, true, false, false, false, false, false, false, false]
abbrev chaseref1_keptOf.D12 : Array Bool := #[true, true, true, false, false, false, false, false, false, false, false, false, false, false, false, false, false, false, false, false, false, false, false, false, false, false, false, false, false]
abbrev chaseref1_keptOf.D13 : Array Bool := #[true, true, true, false, false, false, false, false, false, false, false, false, false, false, false, false, false, false, false, false, false, false, false, false, false]
abbrev chaseref1_keptOf.D14 : Array Bool := #[true, true, true, false, false, false, false, false, false, false, false, false, false, false, false, false, false, false, false, false, false, false, false, false]
abbrev chaseref1_keptOf.D15 : Array Bool := #[true, true, true, false, false, false, false, false, false]
abbrev chaseref1_keptOf.D16 : Array Bool := #[true, true, true, false, true, false, false, false, false, false, false, false, false, false, false, false, false, false, false, false, false, false, false, false, false, false, false, false, false]
abbrev chaseref1_keptOf.D17 : Array Bool := #[true, true, true, false, true, false, false, false, false, false, false, false, false, false, false, false, false, false, false, false, false, false, false, false, false]
abbrev chaseref1_keptOf.D18 : Array Bool := #[true, true, true, false, true, false, false, false, false, false, false, false, false, false, false, false, false, false, false, false, false, false, false, false]
abbrev chaseref1_keptOf.D19 : Array Bool := #[true, true, true, false, true, false, false, false, false]
abbrev chaseref1_keptOf.D20 : Array Bool := #[true, true, true, false, true, true, false, false, false, false, false, false, false, false, false, false, false, false, false, false, false, false, false, false, false, false, false, false, false]
abbrev chaseref1_keptOf.D21 : Array Bool := #[true, true, true, false, true, true, false, false, false, false, false, false, false, false, false, false, false, false, false, false, false, false, false, false, false]
abbrev chaseref1_keptOf.D22 : Array Bool := #[true, true, true, false, true, true, false, false, false, false, false, false, false, false, false, false, false, false, false, false, false, false, false, false]
abbrev chaseref1_keptOf.D23 : Array Bool := #[true, true, true, false, true, true, false, false, false]
abbrev chaseref1_keptOf.D24 : Array Bool := #[true, true, true, false, true, true, true, false, false, false, false, false, false, false, false, false, false, false, false, false, false, false, false, false, false, false, false, false, false]
abbrev chaseref1_keptOf.D25 : Array Bool := #[true, true, true, false, true, true, true, false, false, false, false, false, false, false, false, false, false, false, false, false, false, false, false, false, false]
abbrev chaseref1_keptOf.D26 : Array Bool := #[true, true, true, false, true, true, true, false, false, false, false, false, false, false, false, false, false, false, false, false, false, false, false, false]
abbrev chaseref1_keptOf.D27 : Array Bool := #[true, true, true, false, true, true, true, false, false]
abbrev chaseref1_keptOf.D28 : Array Bool := #[true, true, true, false, true, true, true, true, false, false, false, false, false, false, false, false, false, false, false, false, false, false, false, false, false]
abbrev chaseref1_keptOf.D29 : Array Bool := #[true, true, true, false, true, true, true, true, false, false, false, false, false, false, false, false, false, false, false, false, false, false, false, false]
abbrev chaseref1_keptOf.D30 : Array Bool := #[true, true, true, false, true, true, true, true, false, true, false, false, false, false, false, false, false, false, false, false, false, false, false, false, false]
abbrev chaseref1_keptOf.D31 : Array Bool := #[true, true, true, false, true, true, true, true, false, true, false, false, true, false, false, false, false, false, false, false, false, false, false, false, false]
abbrev chaseref1_keptOf.D32 : Array Bool := #[true, true, true, false, true, true, true, true, false, true, false, false, true, true, false, false, false, false, false, false, false, false, false, false, false]
abbrev chaseref1_keptOf.D33 : Array Bool := #[true, true, true, false, true, true, true, true, false, true, false, false, true, true, true, false, false, false, false, false, false, false, false, false, false]
abbrev chaseref1_keptOf.D34 : Array Bool := #[true, true, true, false, true, true, true, true, false, true, false, false, true, true, true, true, false, false, false, false, false, false, false, false, false]
abbrev chaseref1_keptOf.D35 : Array Bool := #[true, true, true, false, true, true, true, true, false, true, false, false, true, true, true, true, false, true, false, false, false, false, false, false, false]
abbrev chaseref1_keptOf.D36 : Array Bool := #[true, true, true, false, true, true, true, true, false, true, false, false, true, true, true, true, false, true, true, false, false, false, false, false, false]
abbrev chaseref1_keptOf.D37 : Array Bool := #[true, true, true, false, true, true, true, true, true, false, false, false, false, false, false, false, false, false, false, false, false, false, false, false]
abbrev chaseref1_keptOf.D38 : Array Bool := #[true, true, true, false, true, true, true, true, true, false, true, false, false, false, false, false, false, false, false, false, false, false, false, false]
abbrev chaseref1_keptOf.D39 : Array Bool := #[true, true, true, false, true, true, true, true, true, false, true, false, false, true, false, false, false, false, false, false, false, false, false, false]
abbrev chaseref1_keptOf.D40 : Array Bool := #[true, true, true, false, true, true, true, true, true, false, true, false, false, true, true, false, false, false, false, false, false, false, false, false]
abbrev chaseref1_keptOf.D41 : Array Bool := #[true, true, true, false, true, true, true, true, true, false, true, false, false, true, true, true, false, false, false, false, false, false, false, false]
abbrev chaseref1_keptOf.D42 : Array Bool := #[true, true, true, false, true, true, true, true, true, false, true, false, false, true, true, true, false, true, false, false, false, false, false, false]
abbrev chaseref1_keptOf.D43 : Array Bool := #[true, true, true, false, true, true, true, true, true, false, true, false, false, true, true, true, false, true, true, false, false, false, false, false]
abbrev chaseref1_keptOf.D44 : Array Bool := #[true, true, true, true, true, true, true, false, false, false, false, false, false, false, false, false, false, false, false, false, false, false, false, false, false, false, false, false, false]
abbrev chaseref1_keptOf.D45 : Array Bool := #[true, true, true, true, true, true, true, false, false]
abbrev chaseref1_keptOf.D46 : Array Bool := #[true, true, true, true, true, true, true, true, false, false, false, false, false, false, false, false, false, false, false, false, false, false, false, false, false, false, false, false, false]
abbrev chaseref1_keptOf.D47 : Array Bool := #[true, true, true, true, true, true, true, true, false, true, false, false, true, true, true, true, false, true, true, false, false, false, false, false, false]
abbrev chaseref1_keptOf.D48 : Array Bool := #[true, true, true, true, true, true, true, true, false]
abbrev chaseref1_keptOf.D49 : Array Bool := #[true, true, true, true, true, true, true, true, true, false, false, false, false, false, false, false, false, false, false, false, false, false, false, false, false, false, false, false, false]
abbrev chaseref1_keptOf.D50 : Array Bool := #[true, true, true, true, true, true, true, true, true, false, true, false, false, true, true, true, false, true, true, false, false, false, false, false]
abbrev chaseref1_keptOf.D51 : Array Bool := #[true, true, true, true, true, true, true, true, true, true, false, false, false, false, false, false, false, false, false, false, false, false, false, false, false, false, false, false, false]
abbrev chaseref1_keptOf.D52 : Array Bool := #[true, true, true, true, true, true, true, true, true, true, false, false, true, true, true, true, false, true, true, false, false, false, false, false, false]
abbrev chaseref1_keptOf.D53 : Array Bool := #[true, true, true, true, true, true, true, true, true, true, true, false, false, false, false, false, false, false, false, false, false, false, false, false, false, false, false, false, false]
abbrev chaseref1_keptOf.D54 : Array Bool := #[true, true, true, true, true, true, true, true, true, true, true, false, false, true, true, true, false, true, true, false, false, false, false, false]
abbrev chaseref1_keptOf.D55 : Array Bool := #[true, true, true, true, true, true, true, true, true, true, true, false, true, true, true, true, false, true, true, false, false, false, false, false, false]
abbrev chaseref1_keptOf.D56 : Array Bool := #[true, true, true, true, true, true, true, true, true, true, true, true, false, false, false, false, false, false, false, false, false, false, false, false, false, false, false, false, false]
abbrev chaseref1_keptOf.D57 : Array Bool := #[true, true, true, true, true, true, true, true, true, true, true, true, false, true, true, true, false, true, true, false, false, false, false, false]
abbrev chaseref1_keptOf.D58 : Array Bool := #[true, true, true, true, true, true, true, true, true, true, true, true, true, false, false, false, false, false, false, false, false, false, false, false, false, false, false, false, false]
abbrev chaseref1_keptOf.D59 : Array Bool := #[true, true, true, true, true, true, true, true, true, true, true, true, true, true, false, false, false, false, false, false, false, false, false, false, false, false, false, false, false]
abbrev chaseref1_keptOf.D60 : Array Bool := #[true, true, true, true, true, true, true, true, true, true, true, true, true, true, false, true, false, false, false, false, false, false, false, false, false, false, false, false, false]
abbrev chaseref1_keptOf.D61 : Array Bool := #[true, true, true, true, true, true, true, true, true, true, true, true, true, true, false, true, true, false, false, false, false, false, false, false, false, false, false, false, false]
abbrev chaseref1_keptOf.D62 : Array Bool := #[true, true, true, true, true, true, true, true, true, true, true, true, true, true, false, true, true, false, false, false, true, false, false, false, false, false, false, false, false]
abbrev chaseref1_keptOf.D63 : Array Bool := #[true, true, true, true, true, true, true, true, true, true, true, true, true, true, false, true, true, false, false, false, true, true, false, false, false, false, false, false, false]
abbrev chaseref1_keptOf.D64 : Array Bool := #[true, true, true, true, true, true, true, true, true, true, true, true, true, true, false, true, true, false, false, false, true, true, true, false, false, false, false, false, false]
abbrev chaseref1_keptOf.D65 : Array Bool := #[true, true, true, true, true, true, true, true, true, true, true, true, true, true, false, true, true, false, false, false, true, true, true, false, true, false, false, false, false]
abbrev chaseref1_keptOf.D66 : Array Bool := #[true, true, true, true, true, true, true, true, true, true, true, true, true, true, true, false, false, false, false, false, false, false, false, false, false, false, false, false, false]
abbrev chaseref1_keptOf.D67 : Array Bool := #[true, true, true, true, true, true, true, true, true, true, true, true, true, true, true, true, false, false, false, false, false, false, false, false, false, false, false, false, false]
abbrev chaseref1_keptOf.D68 : Array Bool := #[true, true, true, true, true, true, true, true, true, true, true, true, true, true, true, true, false, true, true, false, false, false, false, false, false]
abbrev chaseref1_keptOf.D69 : Array Bool := #[true, true, true, true, true, true, true, true, true, true, true, true, true, true, true, true, false, true, true, false, false, false, false, false]
abbrev chaseref1_keptOf.D70 : Array Bool := #[true, true, true, true, true, true, true, true, true, true, true, true, true, true, true, true, true, false, false, false, false, false, false, false, false, false, false, false, false]
abbrev chaseref1_keptOf.D71 : Array Bool := #[true, true, true, true, true, true, true, true, true, true, true, true, true, true, true, true, true, false, false, false, true, true, true, false, true, false, false, false, false]
abbrev chaseref1_keptOf.D72 : Array Bool := #[true, true, true, true, true, true, true, true, true, true, true, true, true, true, true, true, true, true, false, false, false, false, false, false, false, false, false, false, false]
abbrev chaseref1_keptOf.D73 : Array Bool := #[true, true, true, true, true, true, true, true, true, true, true, true, true, true, true, true, true, true, false, false, true, true, true, false, true, false, false, false, false]
abbrev chaseref1_keptOf.D74 : Array Bool := #[true, true, true, true, true, true, true, true, true, true, true, true, true, true, true, true, true, true, true, false, false, false, false, false, false, false, false, false, false]
abbrev chaseref1_keptOf.D75 : Array Bool := #[true, true, true, true, true, true, true, true, true, true, true, true, true, true, true, true, true, true, true, false, false, false, false, false, false]
abbrev chaseref1_keptOf.D76 : Array Bool := #[true, true, true, true, true, true, true, true, true, true, true, true, true, true, true, true, true, true, true, false, false, false, false, false]
abbrev chaseref1_keptOf.D77 : Array Bool := #[true, true, true, true, true, true, true, true, true, true, true, true, true, true, true, true, true, true, true, false, true, true, true, false, true, false, false, false, false]
abbrev chaseref1_keptOf.D78 : Array Bool := #[true, true, true, true, true, true, true, true, true, true, true, true, true, true, true, true, true, true, true, true, false, false, false, false, false, false, false, false, false]
abbrev chaseref1_keptOf.D79 : Array Bool := #[true, true, true, true, true, true, true, true, true, true, true, true, true, true, true, true, true, true, true, true, false, false, false, false, false]
abbrev chaseref1_keptOf.D80 : Array Bool := #[true, true, true, true, true, true, true, true, true, true, true, true, true, true, true, true, true, true, true, true, false, false, false, false]
abbrev chaseref1_keptOf.D81 : Array Bool := #[true, true, true, true, true, true, true, true, true, true, true, true, true, true, true, true, true, true, true, true, true, false, false, false, false, false, false, false, false]
abbrev chaseref1_keptOf.D82 : Array Bool := #[true, true, true, true, true, true, true, true, true, true, true, true, true, true, true, true, true, true, true, true, true, false, false, false, false]
abbrev chaseref1_keptOf.D83 : Array Bool := #[true, true, true, true, true, true, true, true, true, true, true, true, true, true, true, true, true, true, true, true, true, false, false, false]
abbrev chaseref1_keptOf.D84 : Array Bool := #[true, true, true, true, true, true, true, true, true, true, true, true, true, true, true, true, true, true, true, true, true, true, false, false, false, false, false, false, false]
abbrev chaseref1_keptOf.D85 : Array Bool := #[true, true, true, true, true, true, true, true, true, true, true, true, true, true, true, true, true, true, true, true, true, true, false, false, false]
abbrev chaseref1_keptOf.D86 : Array Bool := #[true, true, true, true, true, true, true, true, true, true, true, true, true, true, true, true, true, true, true, true, true, true, false, false]
abbrev chaseref1_keptOf.D87 : Array Bool := #[true, true, true, true, true, true, true, true, true, true, true, true, true, true, true, true, true, true, true, true, true, true, true, false, false, false, false, false, false]
abbrev chaseref1_keptOf.D88 : Array Bool := #[true, true, true, true, true, true, true, true, true, true, true, true, true, true, true, true, true, true, true, true, true, true, true, false, false]
abbrev chaseref1_keptOf.D89 : Array Bool := #[true, true, true, true, true, true, true, true, true, true, true, true, true, true, true, true, true, true, true, true, true, true, true, false, true, false, false, false, false]
abbrev chaseref1_keptOf.D90 : Array Bool := #[true, true, true, true, true, true, true, true, true, true, true, true, true, true, true, true, true, true, true, true, true, true, true, false]
abbrev chaseref1_keptOf.D91 : Array Bool := #[true, true, true, true, true, true, true, true, true, true, true, true, true, true, true, true, true, true, true, true, true, true, true, true, false, false, false, false, false]
abbrev chaseref1_keptOf.D92 : Array Bool := #[true, true, true, true, true, true, true, true, true, true, true, true, true, true, true, true, true, true, true, true, true, true, true, true, false]
abbrev chaseref1_keptOf.D93 : Array Bool := #[true, true, true, true, true, true, true, true, true, true, true, true, true, true, true, true, true, true, true, true, true, true, true, true, true, false, false, false, false]
abbrev chaseref1_keptOf.D94 : Array Bool := #[true, true, true, true, true, true, true, true, true, true, true, true, true, true, true, true, true, true, true, true, true, true, true, true, true, true, false, false, false]
abbrev chaseref1_keptOf.D95 : Array Bool := #[true, true, true, true, true, true, true, true, true, true, true, true, true, true, true, true, true, true, true, true, true, true, true, true, true, true, true, false, false]
abbrev chaseref1_keptOf.D96 : Array Bool := #[true, true, true, true, true, true, true, true, true, true, true, true, true, true, true, true, true, true, true, true, true, true, true, true, true, true, true, true, false]
abbrev chaseref1_keptOf.D97 : Array Bool := #[true, true, true, true, true, true, true, true, true, true, true, true, true, true, true, true, true, true, true, true, true, true, true, true, true, true, true, true, true]
abbrev chaseref1_keptOf.D98 : Array Bool := #[true, true, true, true, true, true, true, true, true, true, true, true, true, true, true, true, true, true, true, true, true, true, true, true, true]
abbrev chaseref1_keptOf.D99 : Array Bool := #[true, true, true, true, true, true, true, true, true, true, true, true, true, true, true, true, true, true, true, true, true, true, true, true]
abbrev chaseref1_keptOf.D100 : Array Bool := #[true, true, true, true, true, true, true, true, true]
end Go.Proofs.YtenphgclongphaaGreatDoor.Pk
