/- A part of the proof of wordsStay. No conditions. Laid by program over the kit's print and words. -/
import Derived.Test.YtenphgclongphaaGreatDoorZyPkx0
import Derived.Test.YtenphgclongphaaGreatDoorZyPkx6
import Derived.Test.YtenphgclongphaaGreatDoorZyPkx8
namespace Go.Proofs.YtenphgclongphaaGreatDoor.Pk
open Go.RowKit Go.Proofs.YtenphgclongphaaGreatDoor.GBase Go.Proofs.YtenphgclongphaaGreatDoorW.PrintWords Go.Proofs.YtenphgclongphaaGreatDoorW.PrintLast Go.Proofs.YtenphgclongphaaGreatDoorW.PrintMore
attribute [local go_sem] str_leq max2_int min2_int max_two min_two max_three min_three max_four min_four
set_option linter.unusedVariables false
set_option linter.unusedSimpArgs false
def near_Catalog_Add.j0 : Nat → Bool → Bool → ByteArray → ByteArray → Option (Int)
  | 0, _, _, _, _ => none
  | k + 1, x6, x7, x343000, x343001 => (base_Key.f k x343000).bind fun t343 => ((base_When.f (!t343) 5).bind fun t344 => ((near_large.f x343001).bind fun t345 => ((base_When.f x6 6).bind fun t346 => ((base_When.f x7 12).bind fun t347 => ((base_First.f k (([t344, t345, t346, t347] : List Int))).bind fun t351 => (if t351 = 0 then (some 0) else (some t351)))))))
def near_Catalog_Add.f (k : Nat) (a0 : Int) (a1_0 : ByteArray) (a1_1 : ByteArray) : Option (Int) := if 0 = 300 then (near_Catalog_Add.j0 k false true a1_0 a1_1) else (near_Catalog_Add.j0 k false (decide ((wrap64 (0 + (a1_1.size : Int))) > 500000)) a1_0 a1_1)
theorem near_Catalog_Add.mono_l : ∀ k, (∀ y0 y1 y2 y3, LeO (near_Catalog_Add.j0 k y0 y1 y2 y3) (near_Catalog_Add.j0 (k + 1) y0 y1 y2 y3))
  | 0 => fun _ _ _ _ r h => by simp [near_Catalog_Add.j0] at h
  | k + 1 => by
    have ih0 := near_Catalog_Add.mono_l k
    · intro y0 y1 y2 y3
      unfold near_Catalog_Add.j0
      repeat' first
      | (with_reducible exact ih0 _ _ _ _)
      | (with_reducible exact base_First.mono _ _)
      | (with_reducible exact base_Key.mono _ _)
      | (with_reducible exact LeO.refl _)
      | (with_reducible exact LeO.none _)
      | (with_reducible refine LeO.ite ?_ ?_)
      | (with_reducible refine LeO.bind ?_ (fun _ => ?_))
      | exact ih0 _ _ _ _
      | exact LeO.none _
      | refine LeO.ite ?_ ?_
      | refine LeO.bind ?_ (fun _ => ?_)
theorem near_Catalog_Add.mono : ∀ a0 a1 a2 k, LeO (near_Catalog_Add.f k a0 a1 a2) (near_Catalog_Add.f (k + 1) a0 a1 a2) := by
  intro a0 a1 a2 k
  have ih0 := near_Catalog_Add.mono_l k
  unfold near_Catalog_Add.f
  repeat' first
      | (with_reducible exact ih0 _ _ _ _)
      | (with_reducible exact base_First.mono _ _)
      | (with_reducible exact base_Key.mono _ _)
      | (with_reducible exact LeO.refl _)
      | (with_reducible exact LeO.none _)
      | (with_reducible refine LeO.ite ?_ ?_)
      | (with_reducible refine LeO.bind ?_ (fun _ => ?_))
      | exact ih0 _ _ _ _
      | exact LeO.none _
      | refine LeO.ite ?_ ?_
      | refine LeO.bind ?_ (fun _ => ?_)
def slices_Sort_string_string.f (l0 : List ByteArray) : Option (List ByteArray) := if l0.length < 4611686018427387904 then (some (sortS l0)) else (none)
set_option maxHeartbeats 8000000 in
set_option maxRecDepth 100000 in
theorem slices_Sort_string_string.calls (P0_ : Nat → Prop) (u9000_ : Value) (l0 : List ByteArray) (r : List ByteArray) (w0 w : World) (hB : Below w0.heap.size w0 w) (ho0 : Kd.R Kd.string 9 w w0.heap.size P0_ u9000_ l0) (h : slices_Sort_string_string.f l0 = some r) :
    Calls Tryz.prog 50 #[u9000_] w fun e w' => e = .returned (.tuple #[]) ∧ Kd.R Kd.string 9 w' w0.heap.size (fun k_ => (P0_ k_ ∨ w.heap.size ≤ k_)) u9000_ r ∧ Below w0.heap.size w0 w' ∧ Kept w w' (fun k_ => P0_ k_) := by
  unfold slices_Sort_string_string.f at h
  by_cases hc : l0.length < 4611686018427387904
  · rw [if_pos hc] at h
    obtain rfl := Option.some.inj h
    obtain ⟨hP, ho⟩ := R_scalar ho0
    rcases ho.2 with ⟨rfl, hz⟩ | ⟨g, cap, cur, rfl, hg, hb, hn, hcap, hs, ht⟩
    · obtain rfl := List.eq_nil_of_length_eq_zero hz
      refine (Tryz.slices_Sort_string_none none 0 w).mono ?_
      rintro e w' ⟨rfl, rfl⟩
      exact ⟨rfl, by simpa [sortS, toL, ofL] using Kd.R_nil _ _ _ _ _, hB, Kept.refl _ _⟩
    · have hH : Sort.Holds encStr w g 0 (toL l0).toArray := holds_of_row hb (by rw [toL_length, toL_enc]; simpa using ht)
      have hcall := Tryz.slices_Sort_string g 0 cap (toL l0) w hH (Array.getElem?_eq_some_iff.1 hb).1 (by rw [toL_length]; exact hc)
      rw [toL_length] at hcall
      refine hcall.mono ?_
      rintro e w' ⟨rfl, q, os, rfl⟩
      have hl : ((toL l0).mergeSort fun x y => decide (x ≤ y)).length = l0.length := by rw [List.length_mergeSort, toL_length]
      obtain ⟨o1, o2, o3⟩ := put_out (h1 := encStr_one) (n := q) (m := l0.length) (os := os) hB (hP g rfl) hg hb (by rw [hl]; exact hn) hcap hs (by rw [← hl, List.take_length]) hl.symm
      exact ⟨rfl, R_str o1, o2, o3⟩
  · rw [if_neg hc] at h
    exact absurd h (by simp)
def near_letter.f (a0 : Int) : Option (Bool) := if a0 ≥ 97 then (if a0 ≤ 122 then (some true) else (if a0 ≥ 65 then (if a0 ≤ 90 then (some true) else ((base_Digit.f a0).bind fun t352 => (if t352 = true then (some true) else (some (decide (a0 ≥ 128)))))) else ((base_Digit.f a0).bind fun t353 => (if t353 = true then (some true) else (some (decide (a0 ≥ 128))))))) else (if a0 ≥ 65 then (if a0 ≤ 90 then (some true) else ((base_Digit.f a0).bind fun t354 => (if t354 = true then (some true) else (some (decide (a0 ≥ 128)))))) else ((base_Digit.f a0).bind fun t355 => (if t355 = true then (some true) else (some (decide (a0 ≥ 128))))))
end Go.Proofs.YtenphgclongphaaGreatDoor.Pk
