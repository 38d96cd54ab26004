/- A part of the proof of wordsPatched. No conditions. Laid by program over the kit's print and words. -/
import Derived.Test.YtffaggbephnmkaaGreatDoorZhPqx0
import Derived.Test.YtffaggbephnmkaaGreatDoorZhPqx1
import Derived.Test.YtffaggbephnmkaaGreatDoorZhPqx5
import Derived.Test.YtffaggbephnmkaaGreatDoorZhPqx6
import Derived.Test.YtffaggbephnmkaaGreatDoorZhPqx7
import Derived.Test.YtffaggbephnmkaaGreatDoorZhPqx8
import Derived.Test.YtffaggbephnmkaaGreatDoorZhPqx11
namespace Go.Proofs.YtffaggbephnmkaaGreatDoor.Pq
open Go.RowKit Go.Proofs.YtffaggbephnmkaaGreatDoor.GBase Go.Proofs.YtffaggbephnmkaaGreatDoorW.PrintWords Go.Proofs.YtffaggbephnmkaaGreatDoorW.PrintLast Go.Proofs.YtffaggbephnmkaaGreatDoorW.PrintMore
attribute [local go_sem] str_leq max2_int min2_int max_two min_two max_three min_three max_four min_four
set_option linter.unusedVariables false
set_option linter.unusedSimpArgs false
def Z51.f (l0 : List ByteArray) : Option (List ByteArray) := if l0.length < 4611686018427387904 then (some (sortS l0)) else (none)
set_option maxHeartbeats 8000000 in
set_option maxRecDepth 100000 in
theorem Z51.calls (P0_ : Nat → Prop) (u9000_ : Value) (l0 : List ByteArray) (r : List ByteArray) (w0 w : World) (hB : Below w0.heap.size w0 w) (ho0 : Kd.R Kd.string 9 w w0.heap.size P0_ u9000_ l0) (h : Z51.f l0 = some r) :
    Calls Tryz.prog 114 #[u9000_] w fun e w' => e = .returned (.tuple #[]) ∧ Kd.R Kd.string 9 w' w0.heap.size (fun k_ => (P0_ k_ ∨ w.heap.size ≤ k_)) u9000_ r ∧ Below w0.heap.size w0 w' ∧ Kept w w' (fun k_ => P0_ k_) := by
  unfold Z51.f at h
  by_cases hc : l0.length < 4611686018427387904
  · rw [if_pos hc] at h
    obtain rfl := Option.some.inj h
    obtain ⟨hP, ho⟩ := R_scalar ho0
    rcases ho.2 with ⟨rfl, hz⟩ | ⟨g, cap, cur, rfl, hg, hb, hn, hcap, hs, ht⟩
    · obtain rfl := List.eq_nil_of_length_eq_zero hz
      refine (Tryz.slices_Sort_string_none none 0 w).mono ?_
      rintro e w' ⟨rfl, rfl⟩
      exact ⟨rfl, by simpa [sortS, toL, ofL] using Kd.R_nil _ _ _ _ _, hB, Kept.refl _ _⟩
    · have hH : Sort.Holds encStr w g 0 (toL l0).toArray := holds_of_row hb (by rw [toL_length, toL_enc]; simpa using ht)
      have hcall := Tryz.slices_Sort_string g 0 cap (toL l0) w hH (Array.getElem?_eq_some_iff.1 hb).1 (by rw [toL_length]; exact hc)
      rw [toL_length] at hcall
      refine hcall.mono ?_
      rintro e w' ⟨rfl, q, os, rfl⟩
      have hl : ((toL l0).mergeSort fun x y => decide (x ≤ y)).length = l0.length := by rw [List.length_mergeSort, toL_length]
      obtain ⟨o1, o2, o3⟩ := put_out (h1 := encStr_one) (n := q) (m := l0.length) (os := os) hB (hP g rfl) hg hb (by rw [hl]; exact hn) hcap hs (by rw [← hl, List.take_length]) hl.symm
      exact ⟨rfl, R_str o1, o2, o3⟩
  · rw [if_neg hc] at h
    exact absurd h (by simp)
def Z52.f (l0 : List ByteArray) : Option (List ByteArray) := some (compactS l0)
set_option maxHeartbeats 8000000 in
set_option maxRecDepth 100000 in
theorem Z52.calls (P0_ : Nat → Prop) (u9000_ : Value) (l0 : List ByteArray) (r : List ByteArray) (w0 w : World) (hB : Below w0.heap.size w0 w) (ho0 : Kd.R Kd.string 9 w w0.heap.size P0_ u9000_ l0) (h : Z52.f l0 = some r) :
    Calls Tryz.prog 115 #[u9000_] w fun e w' => ∃ v0_ : Value, e = .returned (v0_) ∧ Kd.R Kd.string 9 w' w0.heap.size (fun k_ => (P0_ k_ ∨ w.heap.size ≤ k_)) v0_ r ∧ Below w0.heap.size w0 w' ∧ Kept w w' (fun k_ => P0_ k_) := by
  obtain rfl := Option.some.inj h
  obtain ⟨hP, ho⟩ := R_scalar ho0
  rcases ho.2 with ⟨rfl, hz⟩ | ⟨g, cap, cur, rfl, hg, hb, hn, hcap, hs, ht⟩
  · obtain rfl := List.eq_nil_of_length_eq_zero hz
    refine (Tryz.slices_Compact_string_empty none 0 w).mono ?_
    rintro e w' ⟨rfl, rfl⟩
    exact ⟨_, rfl, by simpa [compactS, toL, ofL, Lib.compact, Lib.compactUpTo] using Kd.R_nil _ _ _ _ _, hB, Kept.refl _ _⟩
  · have hm : maxLen = 9223372036854775807 := rfl
    have hH : Sort.Holds encStr w g 0 (toL l0).toArray := holds_of_row hb (by rw [toL_length, toL_enc]; simpa using ht)
    have hcall := Tryz.slices_Compact_string g 0 cap (toL l0) w hH (by rw [toL_length]; omega) (by rw [toL_length]; exact hn)
    rw [toL_length] at hcall
    refine hcall.mono ?_
    rintro e w' ⟨rfl, q, rfl⟩
    have hle := compact_le (toL l0)
    rw [toL_length] at hle
    have hl : (Lib.compact (toL l0) ++ List.replicate (l0.length - (Lib.compact (toL l0)).length) []).length = l0.length := by simp; omega
    obtain ⟨o1, o2, o3⟩ := put_out (h1 := encStr_one) (n := q) (m := (Lib.compact (toL l0)).length) (os := #[]) hB (hP g rfl) hg hb (by rw [hl]; exact hn) hcap hs List.take_left rfl
    rw [Sort.grow_empty] at o1 o2 o3
    exact ⟨_, rfl, R_str o1, o2, o3⟩
def Z19.l0 : Nat → Int → List ByteArray → List ByteArray → Int → Int → Option (List ByteArray)
  | 0, _, _, _, _, _ => none
  | k + 1, x1, x5, x6, x21, x22 => if x22 < x21 then (if 0 ≤ x22 then (if x22 ≤ (wrap64 (x22 + x1)) then (if (wrap64 (x22 + x1)) ≤ (x5.length : Int) then ((Z48.f ((x5.take ((wrap64 (x22 + x1)) : Int).toNat).drop (x22 : Int).toNat) (⟨#[32]⟩ : ByteArray)).bind fun t440 => (if x6.length < 8796093022208 then (Z19.l0 k x1 x5 (x6 ++ [t440]) x21 (wrap64 (x22 + 1))) else (none))) else (none)) else (none)) else (none)) else ((Z51.f x6).bind fun t444 => ((Z52.f t444).bind fun t445 => (some t445)))
def Z19.f (k : Nat) (a0 : ByteArray) (a1 : Int) : Option (List ByteArray) := (Z4.f k a0).bind fun t433 => (if (t433.length : Int) = 0 then (some ([] : List ByteArray)) else (Z19.l0 k (mn a1 (t433.length : Int)) t433 ([] : List ByteArray) (wrap64 ((wrap64 ((t433.length : Int) - (mn a1 (t433.length : Int)))) + 1)) 0))
theorem Z19.mono_l : ∀ k, (∀ y0 y1 y2 y3 y4, LeO (Z19.l0 k y0 y1 y2 y3 y4) (Z19.l0 (k + 1) y0 y1 y2 y3 y4))
  | 0 => fun _ _ _ _ _ r h => by simp [Z19.l0] at h
  | k + 1 => by
    have ih0 := Z19.mono_l k
    · intro y0 y1 y2 y3 y4
      unfold Z19.l0
      repeat' first
      | (with_reducible exact ih0 _ _ _ _ _)
      | (with_reducible exact Z4.mono _ _)
      | (with_reducible exact LeO.refl _)
      | (with_reducible exact LeO.none _)
      | (with_reducible refine LeO.ite ?_ ?_)
      | (with_reducible refine LeO.bind ?_ (fun _ => ?_))
      | exact ih0 _ _ _ _ _
      | exact LeO.none _
      | refine LeO.ite ?_ ?_
      | refine LeO.bind ?_ (fun _ => ?_)
theorem Z19.mono : ∀ a0 a1 k, LeO (Z19.f k a0 a1) (Z19.f (k + 1) a0 a1) := by
  intro a0 a1 k
  have ih0 := Z19.mono_l k
  unfold Z19.f
  repeat' first
      | (with_reducible exact ih0 _ _ _ _ _)
      | (with_reducible exact Z4.mono _ _)
      | (with_reducible exact LeO.refl _)
      | (with_reducible exact LeO.none _)
      | (with_reducible refine LeO.ite ?_ ?_)
      | (with_reducible refine LeO.bind ?_ (fun _ => ?_))
      | exact ih0 _ _ _ _ _
      | exact LeO.none _
      | refine LeO.ite ?_ ?_
      | refine LeO.bind ?_ (fun _ => ?_)
set_option maxHeartbeats 8000000 in
set_option maxRecDepth 100000 in
theorem Z19.calls (k : Nat) (a0 : ByteArray) (a1 : Int) (r : List ByteArray) (w : World) (h : Z19.f k a0 a1 = some r) :
  Calls Tryz.prog 89 #[.string a0, .int .i64 a1] w fun e w' => ∃ v0_ : Value, e = .returned (v0_) ∧ Kd.R Kd.string 9 w' w.heap.size (fun _ => True) v0_ r ∧ Below w.heap.size w w' := by
 have HB := am_ (Below.refl w.heap.size w)
 have H : ((Z4.f k a0).bind fun t433 => (if (t433.length : Int) = 0 then (some ([] : List ByteArray)) else (Z19.l0 k (mn a1 (t433.length : Int)) t433 ([] : List ByteArray) (wrap64 ((wrap64 ((t433.length : Int) - (mn a1 (t433.length : Int)))) + 1)) 0))) = some r := h
 clear h; replace H := Option.bind_eq_some_iff.mp H; obtain ⟨t433, A30, H⟩ := H; have A3 := am_ A30; clear A30
 by_cases c4 : (t433.length : Int) = 0
 ·rw [if_pos c4] at H
  have c4b0 : ((t433.length : Int) == 0) = true := beq_iff_eq.mpr c4
  have c4b1 : ((t433.length : Int) != 0) = false := bne_eq_false_iff_eq.mpr c4
  clear c4
  obtain rfl := Option.some.inj H
  go_enter Tryz.func89, Tryz.ntmps89
  go_wp2_with (first | ((with_reducible refine gate_callee (f := 112) rfl ?_); refine goesL_ (some 9) rfl rfl Tryz.func112 (by kernel_rfl) rfl #[.string a0] rfl gl_ ?_; (with_reducible refine (Z4.calls k a0 t433 _ A3.out).mono ?_); rintro e w5 ⟨v434, rfl, ho0, hb⟩; refine ⟨_, rfl, ?_⟩; have n0_ := am_ (Kd.R_lower ho0 (below_size (bw_ HB.out))); have n1_ := am_ (below_step (bw_ HB.out) hb); clear HB; have HO435 := n0_; have HB := n1_; clear n0_ n1_; (try clear hb); (try clear hb2); (try clear hk); (try clear hi); (try clear ho0); obtain ⟨Ao6, co6, eo6⟩ := Kd.R_slice HO435.out; subst eo6))
  go_ret
  exact ⟨_, by first | rfl | (simp [errW_none, errW_some] <;> rfl) | (simp [*, errW_none, errW_some] <;> rfl), by first | exact Kd.R_nil _ _ _ _ _ | exact Kd.N_nil _ _ _ _ _ | exact Kd.V_nil _ _ _ _ _ | exact Kd.Q_nil _ _ _ _ _ | exact Kd.S_nil _ _ _ _ _, bw_ HB.out⟩
 ·rw [if_neg c4] at H
  have c4b0 : ((t433.length : Int) == 0) = false := beq_eq_false_iff_ne.mpr c4
  have c4b1 : ((t433.length : Int) != 0) = true := bne_iff_ne.mpr c4
  have c4b2 : ¬ (t433 = []) := fun h_ => c4 (by rw [h_]; rfl)
  obtain ⟨ji7, hji7⟩ : ∃ j_ : Int, (mn a1 (t433.length : Int)) = j_ := ⟨_, rfl⟩
  replace H : (Z19.l0 k ji7 t433 ([] : List ByteArray) (wrap64 ((wrap64 ((t433.length : Int) - (ji7))) + 1)) 0) = some r := by first | (rw [hji7] at H; exact H) | (simp only [hji7] at H ⊢; exact H)
  (try rw [hji7] at A3)
  have hji7_ : (if (t433.length : Int) < a1 then (t433.length : Int) else a1) = ji7 := hji7
  have H' := am_ H
  clear H
  go_enter Tryz.func89, Tryz.ntmps89
  go_wp2_with (first | ((with_reducible refine gate_callee (f := 112) rfl ?_); refine goesL_ (some 9) rfl rfl Tryz.func112 (by kernel_rfl) rfl #[.string a0] rfl gl_ ?_; (with_reducible refine (Z4.calls k a0 t433 _ A3.out).mono ?_); rintro e w8 ⟨v434, rfl, ho0, hb⟩; refine ⟨_, rfl, ?_⟩; have n0_ := am_ (Kd.R_lower ho0 (below_size (bw_ HB.out))); have n1_ := am_ (below_step (bw_ HB.out) hb); clear HB; have HO435 := n0_; have HB := n1_; clear n0_ n1_; (try clear hb); (try clear hb2); (try clear hk); (try clear hi); (try clear ho0); obtain ⟨Ao9, co9, eo9⟩ := Kd.R_slice HO435.out; subst eo9))
  go_loopg [6, 22] k (fun kq v6 v22 w' => ∃ (x6_1 : List ByteArray) (x22_1 : Int), v22 = .int .i64 x22_1 ∧ Aside0 (Z19.l0 kq ji7 t433 x6_1 (wrap64 ((wrap64 ((t433.length : Int) - (ji7))) + 1)) x22_1 = some r) ∧ Aside0 (kq ≤ k) ∧ Aside0 (Kd.R Kd.string 9 w' w.heap.size (fun k_ => some k_ ≠ (v6 : Value).ownBlock) (.slice Ao9 t433.length co9) t433) ∧ Aside0 (Kd.R Kd.string 9 w' w.heap.size (fun k_ => some k_ ≠ ((.slice Ao9 t433.length co9) : Value).ownBlock) v6 x6_1) ∧ Aside0 (Below w.heap.size w w'))
  case atStart => exact ⟨(([] : List ByteArray)), (0), tr_, H', ⟨Nat.le_refl _⟩, ⟨by (with_reducible repeat (first | apply r1_ | apply r2_ | apply r3_)); exact Kd.R_mono HO435.out (fun _ hk => (by simp [Value.ownBlock]))⟩, ⟨by first | exact Kd.R_nil _ _ _ _ _ | exact Kd.N_nil _ _ _ _ _ | exact Kd.V_nil _ _ _ _ _ | exact Kd.Q_nil _ _ _ _ _ | exact Kd.S_nil _ _ _ _ _⟩, ⟨bw_ HB.out⟩⟩
  case round =>
   clear H'; (try clear c1); (try clear p2); (try clear c4); (try clear c4b0); (try clear c4b1); (try clear c4b2); (try clear p6); (try clear c8); obtain ⟨x6_1, x22_1, rfl, HA, HK1, HO_5, HO_6, HB⟩ := hrel
   cases gk with
   | zero => exact absurd HA.out (by simp [Z19.l0])
   | succ k1 =>
    have H := HA.out
    clear HA
    simp only [Z19.l0] at H
    by_cases c10 : x22_1 < (wrap64 ((wrap64 ((t433.length : Int) - (ji7))) + 1))
    ·rw [if_pos c10] at H
     have c10b0 := decide_eq_true c10; clear c10
     by_cases c11 : 0 ≤ x22_1
     case neg => exact (nn_ c11 H).elim
     rw [if_pos c11] at H; have c11b0 := eq_true c11; have c11b1 := decide_eq_true c11; clear c11
     by_cases c12 : x22_1 ≤ (wrap64 (x22_1 + ji7))
     case neg => exact (nn_ c12 H).elim
     rw [if_pos c12] at H; have c12b0 := eq_true c12; have c12b1 := decide_eq_true c12
     by_cases c13 : (wrap64 (x22_1 + ji7)) ≤ (t433.length : Int)
     case neg => exact (nn_ c13 H).elim
     rw [if_pos c13] at H; have c13b0 := eq_true c13; have c13b1 := decide_eq_true c13
     obtain ⟨y436, hy436⟩ : ∃ y_ : List ByteArray, y_ = ((t433.take ((wrap64 (x22_1 + ji7)) : Int).toNat).drop (x22_1 : Int).toNat) := ⟨_, rfl⟩
     replace H : ((Z48.f y436 (⟨#[32]⟩ : ByteArray)).bind fun t440 => (if x6_1.length < 8796093022208 then (Z19.l0 k1 ji7 t433 (x6_1 ++ [t440]) (wrap64 ((wrap64 ((t433.length : Int) - (ji7))) + 1)) (wrap64 (x22_1 + 1))) else (none))) = some r := by first | (rw [hy436]; with_reducible exact H) | (have H2_ := (Option.bind_some _ _).symm.trans H; rw [hy436]; with_reducible exact H2_) | (have H2_ := (Option.bind_some _ _).symm.trans H; with_reducible exact H2_) | with_reducible exact H | (rw [hy436]; exact H) | exact H
     have Ny436 := am_ hy436; clear hy436; replace H := Option.bind_eq_some_iff.mp H; obtain ⟨t440, A140, H⟩ := H; have A14 := am_ A140; clear A140
     by_cases c15 : x6_1.length < 8796093022208
     case neg => exact (nn_ c15 H).elim
     rw [if_pos c15] at H; have LMc15 := am_ c15; clear c15
     obtain ⟨y441, hy441⟩ : ∃ y_ : List ByteArray, y_ = (x6_1 ++ [t440]) := ⟨_, rfl⟩
     replace H : (Z19.l0 k1 ji7 t433 y441 (wrap64 ((wrap64 ((t433.length : Int) - (ji7))) + 1)) (wrap64 (x22_1 + 1))) = some r := by first | (rw [hy441]; with_reducible exact H) | (have H2_ := (Option.bind_some _ _).symm.trans H; rw [hy441]; with_reducible exact H2_) | (have H2_ := (Option.bind_some _ _).symm.trans H; with_reducible exact H2_) | with_reducible exact H | (rw [hy441]; exact H) | exact H
     have Ny441 := am_ hy441; clear hy441
     have H' := am_ H
     clear H; have q16 : ((wrap64 (x22_1 + ji7)) : Int) ≤ ((t433.length : Int) : Int) := ode_
     obtain ⟨i016, hi016, _, hsz16, _⟩ := info_parts info9
     have hroom16 : t433.length ≤ co9 := (Kd.R_reads' HO_5.out).2.1
     have hC16 : Kd.C Kd.string _ Ao9 t433.length t433 := (Kd.R_reads' HO_5.out).2.2
     have ql16 : (x22_1 : Int) ≤ ((wrap64 (x22_1 + ji7)) : Int) := ode_; have q016 : (0 : Int) ≤ (x22_1 : Int) := ode_
     have hcut16 := cut_mid (P := Tryz.prog) 27 9 .i64 .i64 Tryz.underlying27 hi016 1 hsz16 Ao9 t433.length co9 x22_1 (wrap64 (x22_1 + ji7)) q016 ql16 q16 hroom16
     have hr16 := Kd.C_mid (lo := (x22_1 : Int).toNat) (hi := ((wrap64 (x22_1 + ji7)) : Int).toNat) (c := co9) hC16 (by omega) (by omega) hroom16
     obtain ⟨A16, hA16⟩ : ∃ A1, A1 = (if co9 = (x22_1 : Int).toNat then Ao9 else (Ao9 : Option Addr).map (·.add ((x22_1 : Int).toNat * 1))) := ⟨_, rfl⟩
     obtain ⟨c16, hc16⟩ : ∃ c1, c1 = co9 - (x22_1 : Int).toNat := ⟨_, rfl⟩
     have hy16 : y436.length = ((wrap64 (x22_1 + ji7)) : Int).toNat - (x22_1 : Int).toNat := (by rw [Ny436.out, List.length_drop, List.length_take] <;> omega)
     rw [show ((t433).take ((wrap64 (x22_1 + ji7)) : Int).toNat).drop (x22_1 : Int).toNat = y436 from Ny436.out.symm] at hr16
     replace hr16 : Kd.C Kd.string _ A16 y436.length y436 := (by rw [hA16]; exact hr16)
     rw [← hy16, ← hA16, ← hc16] at hcut16
     have HR439 := am_ hr16
     have HC439 := am_ (show y436.length ≤ c16 from by rw [hy16, hc16]; exact Nat.sub_le_sub_right (Nat.le_trans (by omega) hroom16) _)
     clear hr16 hC16 hroom16 hi016 hsz16 hc16; have KY16 := am_ hy16; have KA16 := am_ hA16; clear hy16 hA16
     have KL16 := am_ (show ((wrap64 (x22_1 + ji7)) : Int).toNat ≤ t433.length from by omega)
     have KM16 := am_ (show (x22_1 : Int).toNat ≤ ((wrap64 (x22_1 + ji7)) : Int).toNat from by omega)
     replace q16 := eq_true q16
     go_wp2_with (first | ((with_reducible refine gate_callee (f := 113) rfl ?_); refine goesL_ (some 32) rfl rfl Tryz.func113 (by kernel_rfl) rfl #[.slice A16 y436.length c16, .string (⟨#[32]⟩ : ByteArray)] rfl gl_ ?_; (with_reducible refine (Z48.calls _ _ y436 (⟨#[32]⟩ : ByteArray) t440 _ ?side1 ?side2 A14.out).mono ?_); (case side1 => repeat (first | exact (by repeat (first | (with_reducible first | exact HR439.out | refine Kd.C_alloc ?_ _ | refine Kd.C_drewN ?_ _ | refine Kd.C_drew ?_) | exact HR439.out)) | (with_reducible refine Kd.C_alloc ?_ _) | (with_reducible refine Kd.C_drewN ?_ _) | (with_reducible refine Kd.C_drew ?_))); (case side2 => exact HC439.out); rintro e w17 ⟨rfl, hb⟩; refine ⟨_, rfl, ?_⟩; have n0_ := am_ (Kd.R_below (rr_ HO_5.out) hb); have n1_ := am_ (Kd.R_below (rr_ HO_6.out) hb); have n2_ := am_ (Kd.C_below (by repeat (first | (with_reducible first | exact HR439.out | refine Kd.C_alloc ?_ _ | refine Kd.C_drewN ?_ _ | refine Kd.C_drew ?_) | exact HR439.out)) hb); have n3_ := am_ (below_step (bw_ HB.out) hb); clear HO_5; clear HO_6; clear HR439; clear HB; have HO_5 := n0_; have HO_6 := n1_; have HR439 := n2_; have HB := n3_; clear n0_ n1_ n2_ n3_; (try clear hb); (try clear hb2); (try clear hk); (try clear hi)) | ((with_reducible refine gate_builtin (b := .append) (xs := #[.tmp 25, .tmp 33]) rfl ?_); at_builtin; refine Kd.R_append Kd.string (w0 := w) w.heap.size rfl (.tmp 25) (.tmp 33) 27 9 (.string ⟨#[]⟩) 16 rfl Tryz.underlying27 info9 rfl (by decide) (by omega) u6 x6_1 t440 [.string t440] (fun k_ => some k_ ≠ (.slice Ao9 t433.length co9 : Value).ownBlock) (fun _ => False) rfl rfl ?aP (fun _ hk => hk.elim) ?aF ?aO ?aB ?aS ?aL ?_; (case aP => exact rfl); (case aB => exact (bw_ HB.out)); (case aF => exact (fun k_ hk => Kd.fresh' (Kd.R_lt (rr_ HO_5.out)) k_ hk)); (case aO => exact (rr_ HO_6.out)); (case aS => exact (below_size (bw_ HB.out))); (case aL => have := LMc15.out; omega); intro v442 w18 ho hb hg hat; rw [← Ny441.out] at ho; have n0_ := am_ (Kd.R_after (ok := (fun _ => True)) (by (with_reducible repeat (first | apply r1_ | apply r2_ | apply r3_)); exact Kd.R_mono HO_5.out (fun _ hk => ⟨trivial, hk⟩)) hg hat); have n1_ := am_ (hb); have n2_ := am_ ((show Kd.C Kd.string w18 A16 y436.length y436 from by rw [Ny436.out, KA16.out]; exact Kd.C_mid (lo := (x22_1 : Int).toNat) (hi := ((wrap64 (x22_1 + ji7)) : Int).toNat) (c := co9) ((Kd.R_reads' (Kd.R_after (ok := (fun _ => True)) (by (with_reducible repeat (first | apply r1_ | apply r2_ | apply r3_)); exact Kd.R_mono HO_5.out (fun _ hk => ⟨trivial, hk⟩)) hg hat)).2.2) KM16.out KL16.out ((Kd.R_reads' (Kd.R_after (ok := (fun _ => True)) (by (with_reducible repeat (first | apply r1_ | apply r2_ | apply r3_)); exact Kd.R_mono HO_5.out (fun _ hk => ⟨trivial, hk⟩)) hg hat)).2.1))); have n3_ := am_ (ho); clear HO_5; clear HB; clear HR439; clear HO_6; have HO_5 := n0_; have HB := n1_; have HR439 := n2_; have HO443 := n3_; clear n0_ n1_ n2_ n3_; clear ho hb hg hat))
     go_roundg k1
     case measure => have := HK1.out; omega
     case rel => exact ⟨(y441), (wrap64 (x22_1 + 1)), tr_, H', ⟨by have := HK1.out; omega⟩, ⟨by (with_reducible repeat (first | apply r1_ | apply r2_ | apply r3_)); exact Kd.R_mono HO_5.out (fun _ hk => hk.2)⟩, ⟨rr_ HO443.out⟩, ⟨bw_ HB.out⟩⟩
    ·rw [if_neg c10] at H
     have c10b0 : decide (x22_1 < (wrap64 ((wrap64 ((t433.length : Int) - (ji7))) + 1))) = false := decide_eq_false c10
     clear c10; replace H := Option.bind_eq_some_iff.mp H; obtain ⟨t444, A190, H⟩ := H; have A19 := am_ A190; clear A190; replace H := Option.bind_eq_some_iff.mp H; obtain ⟨t445, A200, H⟩ := H
     replace H : (some t445) = some r := H
     have A20 := am_ A200; clear A200
     obtain rfl := Option.some.inj H
     obtain ⟨Ao21, co21, eo21⟩ := Kd.R_slice HO_6.out
     subst eo21
     go_wp2_with (first | ((with_reducible refine gate_callee (f := 114) rfl ?_); refine goesL_ (some 37) rfl rfl Tryz.func114 (by kernel_rfl) rfl #[.slice Ao21 x6_1.length co21] rfl gl_ ?_; (with_reducible refine (Z51.calls (fun k_ => some k_ = (.slice Ao21 x6_1.length co21 : Value).ownBlock) (.slice Ao21 x6_1.length co21) x6_1 t444 w _ ?side1 ?side2 A19.out).mono ?_); (case side1 => exact bw_ HB.out); (case side2 => exact Kd.R_tight rfl HO_6.out); rintro e w22 ⟨rfl, hy0, hb, hkp⟩; refine ⟨_, rfl, ?_⟩; have n0_ := am_ (Kd.R_mono (ok' := fun k_ => some k_ ≠ (.slice Ao21 x6_1.length co21 : Value).ownBlock) (Kd.R_keptB (HO_5.out) hkp (fun k_ hk_ hs_ => (hk_) hs_)) (fun k_ hk_ => hk_.1)); have n1_ := am_ (Kd.R_reok rfl hy0 (fun k_ e_ => HO_6.out.1 k_ e_)); have n2_ := am_ (hb); clear HO_5; clear HO_6; clear HB; have HO_5 := n0_; have HO_6 := n1_; have HB := n2_; clear n0_ n1_ n2_; (try clear hb); (try clear hkp); (try clear hy0)) | ((with_reducible refine gate_callee (f := 115) rfl ?_); refine goesL_ (some 39) rfl rfl Tryz.func115 (by kernel_rfl) rfl #[.slice Ao21 x6_1.length co21] rfl gl_ ?_; (with_reducible refine (Z52.calls (fun k_ => some k_ = (.slice Ao21 x6_1.length co21 : Value).ownBlock) (.slice Ao21 x6_1.length co21) t444 t445 w _ ?side1 ?side2 A20.out).mono ?_); (case side1 => exact bw_ HB.out); (case side2 => exact Kd.R_tight rfl HO_6.out); rintro e w23 ⟨v446, rfl, ho0, hb, hkp⟩; refine ⟨_, rfl, ?_⟩; have n0_ := am_ (Kd.R_mono (ok' := fun k_ => some k_ ≠ (v446 : Value).ownBlock) (Kd.R_keptB (HO_5.out) hkp (fun k_ hk_ hs_ => (hk_) hs_)) (fun k_ hk_ => fun e_ => Or.elim (ho0.1 k_ e_.symm) (fun hs_ => hk_.2.1 hs_) (fun hn_ => Nat.not_le.2 hk_.2.2 hn_))); have n1_ := am_ (Kd.R_mono (ok' := fun k_ => some k_ ≠ (.slice Ao9 t433.length co9 : Value).ownBlock) ho0 (fun k_ hk_ => Or.elim hk_ (fun hs_ => fun e_ => (((HO_5.out).1 k_ e_.symm)) hs_) (fun hn_ => (Kd.fresh' (Kd.R_lt (rr_ HO_5.out)) k_ hn_)))); have n2_ := am_ (hb); clear HO_5; clear HB; clear HO_6; have HO_5 := n0_; have HO447 := n1_; have HB := n2_; clear n0_ n1_ n2_; (try clear hb); (try clear hkp); (try clear ho0)))
     go_ret
     exact ⟨_, by first | rfl | (simp [errW_none, errW_some] <;> rfl) | (simp only [← hji7]; first | rfl | (simp [errW_none, errW_some] <;> rfl)) | (simp [*, errW_none, errW_some] <;> rfl), by (with_reducible repeat (first | apply r1_ | apply r2_ | apply r3_)); exact Kd.R_mono HO447.out (fun _ hk => trivial), bw_ HB.out⟩
def Z38.f (k : Nat) (a0 : ByteArray) (a1 : Int) : Option (List ByteArray × Int) := (Z25.f a0).bind fun t448 => ((Z49.f a1).bind fun t449 => ((Z21.f k (([t448, t449] : List Int))).bind fun t453 => (if t453 = 0 then ((Z19.f k a0 a1).bind fun t454 => (some (t454, 0))) else (some (([] : List ByteArray), t453)))))
theorem Z38.mono : ∀ a0 a1 k, LeO (Z38.f k a0 a1) (Z38.f (k + 1) a0 a1) := by
  intro a0 a1 k
  unfold Z38.f
  repeat' first
      | (with_reducible exact Z21.mono _ _)
      | (with_reducible exact Z19.mono _ _ _)
      | (with_reducible exact LeO.refl _)
      | (with_reducible exact LeO.none _)
      | (with_reducible refine LeO.ite ?_ ?_)
      | (with_reducible refine LeO.bind ?_ (fun _ => ?_))
      | exact LeO.none _
      | refine LeO.ite ?_ ?_
      | refine LeO.bind ?_ (fun _ => ?_)
set_option maxHeartbeats 8000000 in
set_option maxRecDepth 100000 in
theorem Z38.calls (k : Nat) (a0 : ByteArray) (a1 : Int) (r1 : List ByteArray) (r2 : Int) (w : World) (h : Z38.f k a0 a1 = some (r1, r2)) :
  Calls Tryz.prog 44 #[.string a0, .int .i64 a1] w fun e w' => ∃ v0_ : Value, e = .returned (.tuple #[v0_, .int .i64 r2]) ∧ Kd.R Kd.string 9 w' w.heap.size (fun _ => True) v0_ r1 ∧ Below w.heap.size w w' := by
 have HB := am_ (Below.refl w.heap.size w)
 have H : ((Z25.f a0).bind fun t448 => ((Z49.f a1).bind fun t449 => ((Z21.f k (([t448, t449] : List Int))).bind fun t453 => (if t453 = 0 then ((Z19.f k a0 a1).bind fun t454 => (some (t454, 0))) else (some (([] : List ByteArray), t453)))))) = some (r1, r2) := h
 clear h; replace H := Option.bind_eq_some_iff.mp H; obtain ⟨t448, A30, H⟩ := H; have A3 := am_ A30; clear A30; replace H := Option.bind_eq_some_iff.mp H; obtain ⟨t449, A40, H⟩ := H; have A4 := am_ A40; clear A40
 obtain ⟨y450, hy450⟩ : ∃ y_ : List Int, y_ = (([t448, t449] : List Int)) := ⟨_, rfl⟩
 replace H : ((Z21.f k y450).bind fun t453 => (if t453 = 0 then ((Z19.f k a0 a1).bind fun t454 => (some (t454, 0))) else (some (([] : List ByteArray), t453)))) = some (r1, r2) := by first | (rw [hy450]; with_reducible exact H) | (have H2_ := (Option.bind_some _ _).symm.trans H; rw [hy450]; with_reducible exact H2_) | (have H2_ := (Option.bind_some _ _).symm.trans H; with_reducible exact H2_) | with_reducible exact H | (rw [hy450]; exact H) | exact H
 have Ny450 := am_ hy450; clear hy450; replace H := Option.bind_eq_some_iff.mp H; obtain ⟨t453, A50, H⟩ := H; have A5 := am_ A50; clear A50
 by_cases c6 : t453 = 0
 ·rw [if_pos c6] at H
  have c6b0 : (t453 == 0) = true := beq_iff_eq.mpr c6
  have c6b1 : (t453 != 0) = false := bne_eq_false_iff_eq.mpr c6
  clear c6; replace H := Option.bind_eq_some_iff.mp H; obtain ⟨t454, A70, H⟩ := H
  replace H : (some (t454, 0)) = some (r1, r2) := H
  have A7 := am_ A70; clear A70
  simp only [Option.some.injEq, Prod.mk.injEq] at H
  obtain ⟨rfl, rfl⟩ := H
  go_enter Tryz.func44, Tryz.ntmps44
  go_wp2_with (first | ((with_reducible refine gate_callee (f := 83) rfl ?_); refine goesL_ (some 8) rfl rfl Tryz.func83 (by kernel_rfl) rfl #[.string a0] rfl gl_ ?_; (with_reducible refine (Z25.calls a0 t448 _ A3.out).mono ?_); rintro e w' ⟨rfl, ⟨nd, rfl⟩⟩; refine ⟨_, rfl, ?_⟩) | ((with_reducible refine gate_callee (f := 88) rfl ?_); refine goesL_ (some 10) rfl rfl Tryz.func88 (by kernel_rfl) rfl #[.int .i64 a1] rfl gl_ ?_; (with_reducible refine (Z49.calls a1 t449 _ A4.out).mono ?_); rintro e w' ⟨rfl, ⟨nd, rfl⟩⟩; refine ⟨_, rfl, ?_⟩) | ((with_reducible refine gate_dst (N := 11) rfl ?_); refine Kd.R_lit (Kd.int .i64) _ 28 ?hg (N := 11) ?hd (xs := ([t448, t449] : List Int)) (inner := [.int .i64 t448, .int .i64 t449]) (ok := fun _ => True) (okp := fun _ => True) ?hr ?hp (fun _ hk => hk) trivial (Below.refl _ _) (Nat.le_refl _) (by simp) ?_; (case hd => rfl); (case hg => rfl); (case hr => first | (go_simp; done) | (go_simp; rfl)); (case hp => exact (Reps.one (show Kd.M (Kd.int .i64) _ _ _ t448 [.int .i64 t448] from rfl) (Reps.one (show Kd.M (Kd.int .i64) _ _ _ t449 [.int .i64 t449] from rfl) (Reps.none _ _)))); intro v451 w8 ho9 hb hg_ hnew_; clear hg_ hnew_; (first | rw [← Ny450.out] at ho9 | (simp only [Int.reduceToNat] at ho9; rw [← Ny450.out] at ho9)); have n0_ := am_ (Kd.R_lower ho9 (below_size (bw_ HB.out))); have n1_ := am_ (below_step (bw_ HB.out) hb); clear HB; have HO452 := n0_; have HB := n1_; clear n0_ n1_; clear hb ho9; obtain ⟨Ao10, co10, eo10⟩ := Kd.R_slice HO452.out; subst eo10) | ((with_reducible refine gate_callee (f := 54) rfl ?_); refine goesL_ (some 12) rfl rfl Tryz.func54 (by kernel_rfl) rfl #[.slice Ao10 y450.length co10] rfl gl_ ?_; (with_reducible refine (Z21.calls k _ _ y450 t453 _ ?side1 ?side2 A5.out).mono ?_); (case side1 => exact cc_ (Kd.R_reads' HO452.out).2.2); (case side2 => exact (Kd.R_reads' HO452.out).2.1); rintro e w' ⟨rfl, ⟨nd, rfl⟩⟩; refine ⟨_, rfl, ?_⟩) | ((with_reducible refine gate_callee (f := 89) rfl ?_); refine goesL_ (some 18) rfl rfl Tryz.func89 (by kernel_rfl) rfl #[.string a0, .int .i64 a1] rfl gl_ ?_; (with_reducible refine (Z19.calls k a0 a1 t454 _ A7.out).mono ?_); rintro e w11 ⟨v455, rfl, ho0, hb⟩; refine ⟨_, rfl, ?_⟩; have n0_ := am_ (Kd.R_below (rr_ HO452.out) hb); have n1_ := am_ (Kd.R_lower ho0 (below_size (bw_ HB.out))); have n2_ := am_ (below_step (bw_ HB.out) hb); clear HO452; clear HB; have HO452 := n0_; have HO456 := n1_; have HB := n2_; clear n0_ n1_ n2_; (try clear hb); (try clear hb2); (try clear hk); (try clear hi); (try clear ho0)))
  go_ret2
  exact ⟨_, by first | rfl | (simp [errW_none, errW_some] <;> rfl) | (simp [*, errW_none, errW_some] <;> rfl), by (with_reducible repeat (first | apply r1_ | apply r2_ | apply r3_)); exact HO456.out, bw_ HB.out⟩
 ·rw [if_neg c6] at H
  have c6b0 : (t453 == 0) = false := beq_eq_false_iff_ne.mpr c6
  have c6b1 : (t453 != 0) = true := bne_iff_ne.mpr c6
  simp only [Option.some.injEq, Prod.mk.injEq] at H
  obtain ⟨rfl, rfl⟩ := H
  go_enter Tryz.func44, Tryz.ntmps44
  go_wp2_with (first | ((with_reducible refine gate_callee (f := 83) rfl ?_); refine goesL_ (some 8) rfl rfl Tryz.func83 (by kernel_rfl) rfl #[.string a0] rfl gl_ ?_; (with_reducible refine (Z25.calls a0 t448 _ A3.out).mono ?_); rintro e w' ⟨rfl, ⟨nd, rfl⟩⟩; refine ⟨_, rfl, ?_⟩) | ((with_reducible refine gate_callee (f := 88) rfl ?_); refine goesL_ (some 10) rfl rfl Tryz.func88 (by kernel_rfl) rfl #[.int .i64 a1] rfl gl_ ?_; (with_reducible refine (Z49.calls a1 t449 _ A4.out).mono ?_); rintro e w' ⟨rfl, ⟨nd, rfl⟩⟩; refine ⟨_, rfl, ?_⟩) | ((with_reducible refine gate_dst (N := 11) rfl ?_); refine Kd.R_lit (Kd.int .i64) _ 28 ?hg (N := 11) ?hd (xs := ([t448, t449] : List Int)) (inner := [.int .i64 t448, .int .i64 t449]) (ok := fun _ => True) (okp := fun _ => True) ?hr ?hp (fun _ hk => hk) trivial (Below.refl _ _) (Nat.le_refl _) (by simp) ?_; (case hd => rfl); (case hg => rfl); (case hr => first | (go_simp; done) | (go_simp; rfl)); (case hp => exact (Reps.one (show Kd.M (Kd.int .i64) _ _ _ t448 [.int .i64 t448] from rfl) (Reps.one (show Kd.M (Kd.int .i64) _ _ _ t449 [.int .i64 t449] from rfl) (Reps.none _ _)))); intro v451 w12 ho13 hb hg_ hnew_; clear hg_ hnew_; (first | rw [← Ny450.out] at ho13 | (simp only [Int.reduceToNat] at ho13; rw [← Ny450.out] at ho13)); have n0_ := am_ (Kd.R_lower ho13 (below_size (bw_ HB.out))); have n1_ := am_ (below_step (bw_ HB.out) hb); clear HB; have HO452 := n0_; have HB := n1_; clear n0_ n1_; clear hb ho13; obtain ⟨Ao14, co14, eo14⟩ := Kd.R_slice HO452.out; subst eo14) | ((with_reducible refine gate_callee (f := 54) rfl ?_); refine goesL_ (some 12) rfl rfl Tryz.func54 (by kernel_rfl) rfl #[.slice Ao14 y450.length co14] rfl gl_ ?_; (with_reducible refine (Z21.calls k _ _ y450 t453 _ ?side1 ?side2 A5.out).mono ?_); (case side1 => exact cc_ (Kd.R_reads' HO452.out).2.2); (case side2 => exact (Kd.R_reads' HO452.out).2.1); rintro e w' ⟨rfl, ⟨nd, rfl⟩⟩; refine ⟨_, rfl, ?_⟩))
  go_ret2
  exact ⟨_, by first | rfl | (simp [errW_none, errW_some] <;> rfl) | (simp [*, errW_none, errW_some] <;> rfl), by first | exact Kd.R_nil _ _ _ _ _ | exact Kd.N_nil _ _ _ _ _ | exact Kd.V_nil _ _ _ _ _ | exact Kd.Q_nil _ _ _ _ _ | exact Kd.S_nil _ _ _ _ _, bw_ HB.out⟩
def Z23.f (k : Nat)  : Option (Bool) := (Z38.f k (⟨#[97, 32, 98, 32, 99]⟩ : ByteArray) 2).bind fun bt457 => (if bt457.2 = 0 then ((Z10.f k bt457.1 (([(⟨#[97, 32, 98]⟩ : ByteArray), (⟨#[98, 32, 99]⟩ : ByteArray)] : List ByteArray))).bind fun t464 => (some t464)) else (some false))
theorem Z23.mono : ∀ k, LeO (Z23.f k ) (Z23.f (k + 1) ) := by
  intro  k
  unfold Z23.f
  repeat' first
      | (with_reducible exact Z38.mono _ _ _)
      | (with_reducible exact Z10.mono _ _ _)
      | (with_reducible exact LeO.refl _)
      | (with_reducible exact LeO.none _)
      | (with_reducible refine LeO.ite ?_ ?_)
      | (with_reducible refine LeO.bind ?_ (fun _ => ?_))
      | exact LeO.none _
      | refine LeO.ite ?_ ?_
      | refine LeO.bind ?_ (fun _ => ?_)
set_option maxHeartbeats 8000000 in
set_option maxRecDepth 100000 in
theorem Z23.calls (k : Nat)  (r : Bool) (w : World) (h : Z23.f k  = some r) :
  Calls Tryz.prog 20 #[] w fun e w' => e = .returned (.bool r) ∧ Below w.heap.size w w' := by
 have HB := am_ (Below.refl w.heap.size w)
 have H : ((Z38.f k (⟨#[97, 32, 98, 32, 99]⟩ : ByteArray) 2).bind fun bt457 => (if bt457.2 = 0 then ((Z10.f k bt457.1 (([(⟨#[97, 32, 98]⟩ : ByteArray), (⟨#[98, 32, 99]⟩ : ByteArray)] : List ByteArray))).bind fun t464 => (some t464)) else (some false))) = some r := h
 clear h; replace H := Option.bind_eq_some_iff.mp H
 obtain ⟨⟨t457, t458⟩, A10, H⟩ := H
 replace H : (if t458 = 0 then ((Z10.f k t457 (([(⟨#[97, 32, 98]⟩ : ByteArray), (⟨#[98, 32, 99]⟩ : ByteArray)] : List ByteArray))).bind fun t464 => (some t464)) else (some false)) = some r := H
 have A1 := am_ A10; clear A10
 by_cases c2 : t458 = 0
 ·rw [if_pos c2] at H
  have c2b0 : (t458 == 0) = true := beq_iff_eq.mpr c2
  have c2b1 : (t458 != 0) = false := bne_eq_false_iff_eq.mpr c2
  clear c2
  obtain ⟨y461, hy461⟩ : ∃ y_ : List ByteArray, y_ = (([(⟨#[97, 32, 98]⟩ : ByteArray), (⟨#[98, 32, 99]⟩ : ByteArray)] : List ByteArray)) := ⟨_, rfl⟩
  replace H : ((Z10.f k t457 y461).bind fun t464 => (some t464)) = some r := by first | (rw [hy461]; with_reducible exact H) | (have H2_ := (Option.bind_some _ _).symm.trans H; rw [hy461]; with_reducible exact H2_) | (have H2_ := (Option.bind_some _ _).symm.trans H; with_reducible exact H2_) | with_reducible exact H | (rw [hy461]; exact H) | exact H
  have Ny461 := am_ hy461; clear hy461; replace H := Option.bind_eq_some_iff.mp H; obtain ⟨t464, A30, H⟩ := H
  replace H : (some t464) = some r := H
  have A3 := am_ A30; clear A30
  obtain rfl := Option.some.inj H
  go_enter Tryz.func20, Tryz.ntmps20
  go_wp2_with (first | ((with_reducible refine gate_callee (f := 44) rfl ?_); refine goesL_ (some 4) rfl rfl Tryz.func44 (by kernel_rfl) rfl #[.string (⟨#[97, 32, 98, 32, 99]⟩ : ByteArray), .int .i64 2] rfl gl_ ?_; (with_reducible refine (Z38.calls k (⟨#[97, 32, 98, 32, 99]⟩ : ByteArray) 2 t457 t458 _ A1.out).mono ?_); rintro e w4 ⟨v459, rfl, ho0, hb⟩; refine ⟨_, rfl, ?_⟩; have n0_ := am_ (Kd.R_lower ho0 (below_size (bw_ HB.out))); have n1_ := am_ (below_step (bw_ HB.out) hb); clear HB; have HO460 := n0_; have HB := n1_; clear n0_ n1_; (try clear hb); (try clear hb2); (try clear hk); (try clear hi); (try clear ho0)) | ((with_reducible refine gate_dst (N := 11) rfl ?_); (try (refine gate_guard (by rfl) ?_; dsimp only)); refine Kd.R_lit Kd.string _ 9 ?hg (N := 11) ?hd (xs := ([(⟨#[97, 32, 98]⟩ : ByteArray), (⟨#[98, 32, 99]⟩ : ByteArray)] : List ByteArray)) (inner := [.string (⟨#[97, 32, 98]⟩ : ByteArray), .string (⟨#[98, 32, 99]⟩ : ByteArray)]) (ok := fun _ => True) (okp := fun _ => True) ?hr ?hp (fun _ hk => hk) trivial (Below.refl _ _) (Nat.le_refl _) (by simp) ?_; (case hd => rfl); (case hg => rfl); (case hr => first | (go_simp; done) | (go_simp; rfl)); (case hp => exact (Reps.one (show Kd.M Kd.string _ _ _ (⟨#[97, 32, 98]⟩ : ByteArray) [.string (⟨#[97, 32, 98]⟩ : ByteArray)] from rfl) (Reps.one (show Kd.M Kd.string _ _ _ (⟨#[98, 32, 99]⟩ : ByteArray) [.string (⟨#[98, 32, 99]⟩ : ByteArray)] from rfl) (Reps.none _ _)))); intro v462 w5 ho6 hb hg_ hnew_; clear hg_ hnew_; (first | rw [← Ny461.out] at ho6 | (simp only [Int.reduceToNat] at ho6; rw [← Ny461.out] at ho6)); have n0_ := am_ (Kd.R_elder' (rr_ HO460.out) (Kd.R_base ho6) hb); have n1_ := am_ (Kd.R_lower (Kd.R_new' ho6 (Kd.R_lt (rr_ HO460.out))) (below_size (bw_ HB.out))); have n2_ := am_ (below_step (bw_ HB.out) hb); clear HO460; clear HB; have HO460 := n0_; have HO463 := n1_; have HB := n2_; clear n0_ n1_ n2_; clear hb ho6; obtain ⟨Ao7, co7, eo7⟩ := Kd.R_slice HO460.out; subst eo7; obtain ⟨Ao8, co8, eo8⟩ := Kd.R_slice HO463.out; subst eo8) | (go_at_call 10; (with_reducible refine (Z10.calls k _ _ t457 _ _ y461 t464 _ ?side1 ?side2 ?side3 ?side4 A3.out).mono ?_); (case side1 => exact cc_ (Kd.R_reads' HO460.out).2.2); (case side2 => exact (Kd.R_reads' HO460.out).2.1); (case side3 => exact cc_ (Kd.R_reads' HO463.out).2.2); (case side4 => exact (Kd.R_reads' HO463.out).2.1); rintro e w' ⟨rfl, ⟨nd, rfl⟩⟩))
  go_ret
  exact ⟨by first | rfl | (simp [errW_none, errW_some] <;> rfl) | (simp [*, errW_none, errW_some] <;> rfl), bw_ HB.out⟩
 ·rw [if_neg c2] at H
  have c2b0 : (t458 == 0) = false := beq_eq_false_iff_ne.mpr c2
  have c2b1 : (t458 != 0) = true := bne_iff_ne.mpr c2
  obtain rfl := Option.some.inj H
  go_enter Tryz.func20, Tryz.ntmps20
  go_wp2_with (first | ((with_reducible refine gate_callee (f := 44) rfl ?_); refine goesL_ (some 4) rfl rfl Tryz.func44 (by kernel_rfl) rfl #[.string (⟨#[97, 32, 98, 32, 99]⟩ : ByteArray), .int .i64 2] rfl gl_ ?_; (with_reducible refine (Z38.calls k (⟨#[97, 32, 98, 32, 99]⟩ : ByteArray) 2 t457 t458 _ A1.out).mono ?_); rintro e w9 ⟨v459, rfl, ho0, hb⟩; refine ⟨_, rfl, ?_⟩; have n0_ := am_ (Kd.R_lower ho0 (below_size (bw_ HB.out))); have n1_ := am_ (below_step (bw_ HB.out) hb); clear HB; have HO460 := n0_; have HB := n1_; clear n0_ n1_; (try clear hb); (try clear hb2); (try clear hk); (try clear hi); (try clear ho0)))
  go_ret
  exact ⟨by first | rfl | (simp [errW_none, errW_some] <;> rfl) | (simp [*, errW_none, errW_some] <;> rfl), bw_ HB.out⟩
def Z45.f (k : Nat) (a0_0 : Int) (l0_1 : List ByteArray) (l0_2 : List ByteArray) (a1_0 : Int) (l1_1 : List ByteArray) (l1_2 : List ByteArray) : Option (Bool) := if a0_0 = a1_0 then ((Z10.f k l0_1 l1_1).bind fun t467 => (if t467 = true then ((Z10.f k l0_2 l1_2).bind fun t468 => (some t468)) else (some false))) else (some false)
theorem Z45.mono : ∀ a0 a1 a2 a3 a4 a5 k, LeO (Z45.f k a0 a1 a2 a3 a4 a5) (Z45.f (k + 1) a0 a1 a2 a3 a4 a5) := by
  intro a0 a1 a2 a3 a4 a5 k
  unfold Z45.f
  repeat' first
      | (with_reducible exact Z10.mono _ _ _)
      | (with_reducible exact LeO.refl _)
      | (with_reducible exact LeO.none _)
      | (with_reducible refine LeO.ite ?_ ?_)
      | (with_reducible refine LeO.bind ?_ (fun _ => ?_))
      | exact LeO.none _
      | refine LeO.ite ?_ ?_
      | refine LeO.bind ?_ (fun _ => ?_)
set_option maxHeartbeats 8000000 in
set_option maxRecDepth 100000 in
theorem Z45.calls (k : Nat) (a0_0 : Int) (A0_1 : Option Addr) (c0_1 : Nat) (l0_1 : List ByteArray) (A0_2 : Option Addr) (c0_2 : Nat) (l0_2 : List ByteArray) (a1_0 : Int) (A1_1 : Option Addr) (c1_1 : Nat) (l1_1 : List ByteArray) (A1_2 : Option Addr) (c1_2 : Nat) (l1_2 : List ByteArray) (r : Bool) (w : World) (hr0_1 : Kd.C Kd.string w A0_1 l0_1.length l0_1) (hc0_1 : l0_1.length ≤ c0_1) (hr0_2 : Kd.C Kd.string w A0_2 l0_2.length l0_2) (hc0_2 : l0_2.length ≤ c0_2) (hr1_1 : Kd.C Kd.string w A1_1 l1_1.length l1_1) (hc1_1 : l1_1.length ≤ c1_1) (hr1_2 : Kd.C Kd.string w A1_2 l1_2.length l1_2) (hc1_2 : l1_2.length ≤ c1_2) (h : Z45.f k a0_0 l0_1 l0_2 a1_0 l1_1 l1_2 = some r) :
  Calls Tryz.prog 46 #[.agg #[.int .i64 a0_0, .slice A0_1 l0_1.length c0_1, .slice A0_2 l0_2.length c0_2], .agg #[.int .i64 a1_0, .slice A1_1 l1_1.length c1_1, .slice A1_2 l1_2.length c1_2]] w fun e w' => e = .returned (.bool r) ∧ Below w.heap.size w w' := by
 have hu70 := Tryz.underlying70
 have HR0_1 := am_ hr0_1; have HC0_1 := am_ hc0_1; clear hr0_1 hc0_1; have HR0_2 := am_ hr0_2; have HC0_2 := am_ hc0_2; clear hr0_2 hc0_2; have HR1_1 := am_ hr1_1; have HC1_1 := am_ hc1_1; clear hr1_1 hc1_1; have HR1_2 := am_ hr1_2; have HC1_2 := am_ hc1_2; clear hr1_2 hc1_2
 have HB := am_ (Below.refl w.heap.size w)
 have H : (if a0_0 = a1_0 then ((Z10.f k l0_1 l1_1).bind fun t467 => (if t467 = true then ((Z10.f k l0_2 l1_2).bind fun t468 => (some t468)) else (some false))) else (some false)) = some r := h
 clear h
 by_cases c3 : a0_0 = a1_0
 ·rw [if_pos c3] at H
  have c3b0 : (a0_0 == a1_0) = true := beq_iff_eq.mpr c3
  have c3b1 : (a0_0 != a1_0) = false := bne_eq_false_iff_eq.mpr c3
  clear c3; replace H := Option.bind_eq_some_iff.mp H; obtain ⟨t467, A40, H⟩ := H; have A4 := am_ A40; clear A40
  by_cases c5 : t467 = true
  ·subst c5
   have H1 : ((Z10.f k l0_2 l1_2).bind fun t468 => (some t468)) = some r := by rw [if_pos rfl] at H; exact H
   clear H
   have H := H1
   clear H1; replace H := Option.bind_eq_some_iff.mp H; obtain ⟨t468, A60, H⟩ := H
   replace H : (some t468) = some r := H
   have A6 := am_ A60; clear A60
   obtain rfl := Option.some.inj H
   go_enter Tryz.func46, Tryz.ntmps46
   go_wp2_with (first | ((with_reducible refine gate_dst (N := 2) rfl ?_); refine box_event ?hg (N := 2) ?hd (cs := #[.int .i64 a0_0, .slice A0_1 l0_1.length c0_1, .slice A0_2 l0_2.length c0_2]) (t := 70) ?hr ?_; (case hd => rfl); (case hg => rfl); (case hr => first | (go_simp; done) | (go_simp; rfl)); intro gb465 hg w7 hbox hb; have n0_ := am_ (below_step (bw_ HB.out) hb); have n1_ := am_ (hbox); have n2_ := am_ ((by rw [hg]; exact (below_size (bw_ HB.out)) : w.heap.size ≤ gb465)); have n3_ := am_ ((by rw [hg]; exact (below_size (bw_ HB.out)) : w.heap.size ≤ gb465)); clear HB; have HB := n0_; have BK465 := n1_; have GW465 := n2_; have GE465 := n3_; clear n0_ n1_ n2_ n3_; clear hb hbox hg) | ((with_reducible refine gate_dst (N := 3) rfl ?_); refine box_event ?hg (N := 3) ?hd (cs := #[.int .i64 a1_0, .slice A1_1 l1_1.length c1_1, .slice A1_2 l1_2.length c1_2]) (t := 70) ?hr ?_; (case hd => rfl); (case hg => rfl); (case hr => first | (go_simp; done) | (go_simp; rfl)); intro gb466 hg w8 hbox hb; have n0_ := am_ (blk_below (g := gb465) (o := .cells #[.int .i64 a0_0, .slice A0_1 l0_1.length c0_1, .slice A0_2 l0_2.length c0_2] 70 (0, 0)) (bk_ BK465.out) hb); have n1_ := am_ (below_step (bs_ HB.out GE465.out) hb); have n2_ := am_ (hbox); have n3_ := am_ ((by rw [hg]; exact (below_size (bs_ HB.out GE465.out)) : w.heap.size ≤ gb466)); have n4_ := am_ ((by rw [hg]; exact (below_size (bs_ HB.out GE465.out)) : w.heap.size ≤ gb466)); have n5_ := am_ ((by rw [hg]; exact Nat.ne_of_lt (blk_lt (g := gb465) (o := .cells #[.int .i64 a0_0, .slice A0_1 l0_1.length c0_1, .slice A0_2 l0_2.length c0_2] 70 (0, 0)) (bk_ BK465.out)) : gb465 ≠ gb466)); have n6_ := am_ ((by rw [hg]; exact Nat.ne_of_gt (blk_lt (g := gb465) (o := .cells #[.int .i64 a0_0, .slice A0_1 l0_1.length c0_1, .slice A0_2 l0_2.length c0_2] 70 (0, 0)) (bk_ BK465.out)) : gb466 ≠ gb465)); clear BK465; clear HB; have BK465 := n0_; have HB := n1_; have BK466 := n2_; have GW466 := n3_; have GE466 := n4_; have NB465_466 := n5_; have NB466_465 := n6_; clear n0_ n1_ n2_ n3_ n4_ n5_ n6_; clear hb hbox hg; have hnb9 := NB465_466.out; have hnc9 := NB466_465.out; have hcz10_0 : w8.cell? ⟨gb465, 0, none⟩ = some (.int .i64 a0_0) := (blk_cell BK465.out 0).trans rfl; have hcz10_1 : w8.cell? ⟨gb465, 1, none⟩ = some (.slice A0_1 l0_1.length c0_1) := (blk_cell BK465.out 1).trans rfl; have hcz10_2 : w8.cell? ⟨gb465, 2, none⟩ = some (.slice A0_2 l0_2.length c0_2) := (blk_cell BK465.out 2).trans rfl; have hfz10_0 := blk_frozen BK465.out 0; have hfz10_1 := blk_frozen BK465.out 1; have hfz10_2 := blk_frozen BK465.out 2; have hcz11_0 : w8.cell? ⟨gb466, 0, none⟩ = some (.int .i64 a1_0) := (blk_cell BK466.out 0).trans rfl; have hcz11_1 : w8.cell? ⟨gb466, 1, none⟩ = some (.slice A1_1 l1_1.length c1_1) := (blk_cell BK466.out 1).trans rfl; have hcz11_2 : w8.cell? ⟨gb466, 2, none⟩ = some (.slice A1_2 l1_2.length c1_2) := (blk_cell BK466.out 2).trans rfl; have hfz11_0 := blk_frozen BK466.out 0; have hfz11_1 := blk_frozen BK466.out 1; have hfz11_2 := blk_frozen BK466.out 2) | (go_at_call 10; (with_reducible refine (Z10.calls k _ _ l0_1 _ _ l1_1 true _ ?side1 ?side2 ?side3 ?side4 A4.out).mono ?_); (case side1 => repeat (first | exact (Kd.C_below HR0_1.out HB.out) | (with_reducible refine Kd.C_alloc ?_ _) | (with_reducible refine Kd.C_drewN ?_ _) | (with_reducible refine Kd.C_drew ?_))); (case side2 => exact HC0_1.out); (case side3 => repeat (first | exact (Kd.C_below HR1_1.out HB.out) | (with_reducible refine Kd.C_alloc ?_ _) | (with_reducible refine Kd.C_drewN ?_ _) | (with_reducible refine Kd.C_drew ?_))); (case side4 => exact HC1_1.out); rintro e w' ⟨rfl, ⟨nd, rfl⟩⟩) | (go_at_call 10; (with_reducible refine (Z10.calls k _ _ l0_2 _ _ l1_2 t468 _ ?side1 ?side2 ?side3 ?side4 A6.out).mono ?_); (case side1 => repeat (first | exact (Kd.C_below HR0_2.out (by repeat (first | (with_reducible first | exact HB.out | apply b3_ | apply b1_ | apply b2_ | refine below_set ?_ GE465.out | refine below_set ?_ GE466.out) | exact HB.out))) | (with_reducible refine Kd.C_alloc ?_ _) | (with_reducible refine Kd.C_drewN ?_ _) | (with_reducible refine Kd.C_drew ?_))); (case side2 => exact HC0_2.out); (case side3 => repeat (first | exact (Kd.C_below HR1_2.out (by repeat (first | (with_reducible first | exact HB.out | apply b3_ | apply b1_ | apply b2_ | refine below_set ?_ GE465.out | refine below_set ?_ GE466.out) | exact HB.out))) | (with_reducible refine Kd.C_alloc ?_ _) | (with_reducible refine Kd.C_drewN ?_ _) | (with_reducible refine Kd.C_drew ?_))); (case side4 => exact HC1_2.out); rintro e w' ⟨rfl, ⟨nd, rfl⟩⟩))
   go_ret
   exact ⟨by first | rfl | (simp [errW_none, errW_some] <;> rfl) | (simp [*, errW_none, errW_some] <;> rfl), by repeat (first | (with_reducible first | exact HB.out | apply b3_ | apply b1_ | apply b2_ | refine below_set ?_ GE465.out | refine below_set ?_ GE466.out) | exact HB.out)⟩
  ·replace c5 := Bool.eq_false_iff.mpr c5
   subst c5
   have H1 : (some false) = some r := by rw [if_neg (show ¬ (false = true) by decide)] at H; exact H
   clear H
   have H := H1
   clear H1
   obtain rfl := Option.some.inj H
   go_enter Tryz.func46, Tryz.ntmps46
   go_wp2_with (first | ((with_reducible refine gate_dst (N := 2) rfl ?_); refine box_event ?hg (N := 2) ?hd (cs := #[.int .i64 a0_0, .slice A0_1 l0_1.length c0_1, .slice A0_2 l0_2.length c0_2]) (t := 70) ?hr ?_; (case hd => rfl); (case hg => rfl); (case hr => first | (go_simp; done) | (go_simp; rfl)); intro gb465 hg w12 hbox hb; have n0_ := am_ (below_step (bw_ HB.out) hb); have n1_ := am_ (hbox); have n2_ := am_ ((by rw [hg]; exact (below_size (bw_ HB.out)) : w.heap.size ≤ gb465)); have n3_ := am_ ((by rw [hg]; exact (below_size (bw_ HB.out)) : w.heap.size ≤ gb465)); clear HB; have HB := n0_; have BK465 := n1_; have GW465 := n2_; have GE465 := n3_; clear n0_ n1_ n2_ n3_; clear hb hbox hg) | ((with_reducible refine gate_dst (N := 3) rfl ?_); refine box_event ?hg (N := 3) ?hd (cs := #[.int .i64 a1_0, .slice A1_1 l1_1.length c1_1, .slice A1_2 l1_2.length c1_2]) (t := 70) ?hr ?_; (case hd => rfl); (case hg => rfl); (case hr => first | (go_simp; done) | (go_simp; rfl)); intro gb466 hg w13 hbox hb; have n0_ := am_ (blk_below (g := gb465) (o := .cells #[.int .i64 a0_0, .slice A0_1 l0_1.length c0_1, .slice A0_2 l0_2.length c0_2] 70 (0, 0)) (bk_ BK465.out) hb); have n1_ := am_ (below_step (bs_ HB.out GE465.out) hb); have n2_ := am_ (hbox); have n3_ := am_ ((by rw [hg]; exact (below_size (bs_ HB.out GE465.out)) : w.heap.size ≤ gb466)); have n4_ := am_ ((by rw [hg]; exact (below_size (bs_ HB.out GE465.out)) : w.heap.size ≤ gb466)); have n5_ := am_ ((by rw [hg]; exact Nat.ne_of_lt (blk_lt (g := gb465) (o := .cells #[.int .i64 a0_0, .slice A0_1 l0_1.length c0_1, .slice A0_2 l0_2.length c0_2] 70 (0, 0)) (bk_ BK465.out)) : gb465 ≠ gb466)); have n6_ := am_ ((by rw [hg]; exact Nat.ne_of_gt (blk_lt (g := gb465) (o := .cells #[.int .i64 a0_0, .slice A0_1 l0_1.length c0_1, .slice A0_2 l0_2.length c0_2] 70 (0, 0)) (bk_ BK465.out)) : gb466 ≠ gb465)); clear BK465; clear HB; have BK465 := n0_; have HB := n1_; have BK466 := n2_; have GW466 := n3_; have GE466 := n4_; have NB465_466 := n5_; have NB466_465 := n6_; clear n0_ n1_ n2_ n3_ n4_ n5_ n6_; clear hb hbox hg; have hnb14 := NB465_466.out; have hnc14 := NB466_465.out; have hcz15_0 : w13.cell? ⟨gb465, 0, none⟩ = some (.int .i64 a0_0) := (blk_cell BK465.out 0).trans rfl; have hcz15_1 : w13.cell? ⟨gb465, 1, none⟩ = some (.slice A0_1 l0_1.length c0_1) := (blk_cell BK465.out 1).trans rfl; have hcz15_2 : w13.cell? ⟨gb465, 2, none⟩ = some (.slice A0_2 l0_2.length c0_2) := (blk_cell BK465.out 2).trans rfl; have hfz15_0 := blk_frozen BK465.out 0; have hfz15_1 := blk_frozen BK465.out 1; have hfz15_2 := blk_frozen BK465.out 2; have hcz16_0 : w13.cell? ⟨gb466, 0, none⟩ = some (.int .i64 a1_0) := (blk_cell BK466.out 0).trans rfl; have hcz16_1 : w13.cell? ⟨gb466, 1, none⟩ = some (.slice A1_1 l1_1.length c1_1) := (blk_cell BK466.out 1).trans rfl; have hcz16_2 : w13.cell? ⟨gb466, 2, none⟩ = some (.slice A1_2 l1_2.length c1_2) := (blk_cell BK466.out 2).trans rfl; have hfz16_0 := blk_frozen BK466.out 0; have hfz16_1 := blk_frozen BK466.out 1; have hfz16_2 := blk_frozen BK466.out 2) | (go_at_call 10; (with_reducible refine (Z10.calls k _ _ l0_1 _ _ l1_1 false _ ?side1 ?side2 ?side3 ?side4 A4.out).mono ?_); (case side1 => repeat (first | exact (Kd.C_below HR0_1.out HB.out) | (with_reducible refine Kd.C_alloc ?_ _) | (with_reducible refine Kd.C_drewN ?_ _) | (with_reducible refine Kd.C_drew ?_))); (case side2 => exact HC0_1.out); (case side3 => repeat (first | exact (Kd.C_below HR1_1.out HB.out) | (with_reducible refine Kd.C_alloc ?_ _) | (with_reducible refine Kd.C_drewN ?_ _) | (with_reducible refine Kd.C_drew ?_))); (case side4 => exact HC1_1.out); rintro e w' ⟨rfl, ⟨nd, rfl⟩⟩))
   go_ret
   exact ⟨by first | rfl | (simp [errW_none, errW_some] <;> rfl) | (simp [*, errW_none, errW_some] <;> rfl), by repeat (first | (with_reducible first | exact HB.out | apply b3_ | apply b1_ | apply b2_ | refine below_set ?_ GE465.out | refine below_set ?_ GE466.out) | exact HB.out)⟩
 ·rw [if_neg c3] at H
  have c3b0 : (a0_0 == a1_0) = false := beq_eq_false_iff_ne.mpr c3
  have c3b1 : (a0_0 != a1_0) = true := bne_iff_ne.mpr c3
  obtain rfl := Option.some.inj H
  go_enter Tryz.func46, Tryz.ntmps46
  go_wp2_with (first | ((with_reducible refine gate_dst (N := 2) rfl ?_); refine box_event ?hg (N := 2) ?hd (cs := #[.int .i64 a0_0, .slice A0_1 l0_1.length c0_1, .slice A0_2 l0_2.length c0_2]) (t := 70) ?hr ?_; (case hd => rfl); (case hg => rfl); (case hr => first | (go_simp; done) | (go_simp; rfl)); intro gb465 hg w17 hbox hb; have n0_ := am_ (below_step (bw_ HB.out) hb); have n1_ := am_ (hbox); have n2_ := am_ ((by rw [hg]; exact (below_size (bw_ HB.out)) : w.heap.size ≤ gb465)); have n3_ := am_ ((by rw [hg]; exact (below_size (bw_ HB.out)) : w.heap.size ≤ gb465)); clear HB; have HB := n0_; have BK465 := n1_; have GW465 := n2_; have GE465 := n3_; clear n0_ n1_ n2_ n3_; clear hb hbox hg) | ((with_reducible refine gate_dst (N := 3) rfl ?_); refine box_event ?hg (N := 3) ?hd (cs := #[.int .i64 a1_0, .slice A1_1 l1_1.length c1_1, .slice A1_2 l1_2.length c1_2]) (t := 70) ?hr ?_; (case hd => rfl); (case hg => rfl); (case hr => first | (go_simp; done) | (go_simp; rfl)); intro gb466 hg w18 hbox hb; have n0_ := am_ (blk_below (g := gb465) (o := .cells #[.int .i64 a0_0, .slice A0_1 l0_1.length c0_1, .slice A0_2 l0_2.length c0_2] 70 (0, 0)) (bk_ BK465.out) hb); have n1_ := am_ (below_step (bs_ HB.out GE465.out) hb); have n2_ := am_ (hbox); have n3_ := am_ ((by rw [hg]; exact (below_size (bs_ HB.out GE465.out)) : w.heap.size ≤ gb466)); have n4_ := am_ ((by rw [hg]; exact (below_size (bs_ HB.out GE465.out)) : w.heap.size ≤ gb466)); have n5_ := am_ ((by rw [hg]; exact Nat.ne_of_lt (blk_lt (g := gb465) (o := .cells #[.int .i64 a0_0, .slice A0_1 l0_1.length c0_1, .slice A0_2 l0_2.length c0_2] 70 (0, 0)) (bk_ BK465.out)) : gb465 ≠ gb466)); have n6_ := am_ ((by rw [hg]; exact Nat.ne_of_gt (blk_lt (g := gb465) (o := .cells #[.int .i64 a0_0, .slice A0_1 l0_1.length c0_1, .slice A0_2 l0_2.length c0_2] 70 (0, 0)) (bk_ BK465.out)) : gb466 ≠ gb465)); clear BK465; clear HB; have BK465 := n0_; have HB := n1_; have BK466 := n2_; have GW466 := n3_; have GE466 := n4_; have NB465_466 := n5_; have NB466_465 := n6_; clear n0_ n1_ n2_ n3_ n4_ n5_ n6_; clear hb hbox hg; have hnb19 := NB465_466.out; have hnc19 := NB466_465.out; have hcz20_0 : w18.cell? ⟨gb465, 0, none⟩ = some (.int .i64 a0_0) := (blk_cell BK465.out 0).trans rfl; have hcz20_1 : w18.cell? ⟨gb465, 1, none⟩ = some (.slice A0_1 l0_1.length c0_1) := (blk_cell BK465.out 1).trans rfl; have hcz20_2 : w18.cell? ⟨gb465, 2, none⟩ = some (.slice A0_2 l0_2.length c0_2) := (blk_cell BK465.out 2).trans rfl; have hfz20_0 := blk_frozen BK465.out 0; have hfz20_1 := blk_frozen BK465.out 1; have hfz20_2 := blk_frozen BK465.out 2; have hcz21_0 : w18.cell? ⟨gb466, 0, none⟩ = some (.int .i64 a1_0) := (blk_cell BK466.out 0).trans rfl; have hcz21_1 : w18.cell? ⟨gb466, 1, none⟩ = some (.slice A1_1 l1_1.length c1_1) := (blk_cell BK466.out 1).trans rfl; have hcz21_2 : w18.cell? ⟨gb466, 2, none⟩ = some (.slice A1_2 l1_2.length c1_2) := (blk_cell BK466.out 2).trans rfl; have hfz21_0 := blk_frozen BK466.out 0; have hfz21_1 := blk_frozen BK466.out 1; have hfz21_2 := blk_frozen BK466.out 2))
  go_ret
  exact ⟨by first | rfl | (simp [errW_none, errW_some] <;> rfl) | (simp [*, errW_none, errW_some] <;> rfl), by repeat (first | (with_reducible first | exact HB.out | apply b3_ | apply b1_ | apply b2_ | refine below_set ?_ GE465.out | refine below_set ?_ GE466.out) | exact HB.out)⟩
def Z12.eqL : List ByteArray → List ByteArray → Bool
  | [], [] => true
  | x :: a, y :: b => decide (x.toList = y.toList) && Z12.eqL a b
  | _, _ => false
theorem Z12.eqL_ne : ∀ a b : List ByteArray, ¬ a.length = b.length → Z12.eqL a b = false
  | [], [], h => absurd rfl h
  | [], _ :: _, _ => rfl
  | _ :: _, [], _ => rfl
  | x :: a, y :: b, h => by
    simp only [Z12.eqL, Z12.eqL_ne a b (fun e => h (by rw [List.length_cons, List.length_cons, e])), Bool.and_false]
theorem Z12.eqL_loop (a b : List ByteArray) (hl : a.length = b.length) (hm : a.length ≤ 9223372036854775807) (d : Nat) : ∀ j : Nat, a.length - j ≤ d → j ≤ a.length → Ev (fun k => Z10.l0 k a b (a.length : Int) (j : Int)) (Z12.eqL (a.drop j) (b.drop j)) := by
  have stop : ∀ j : Nat, ¬ j < a.length → Ev (fun k => Z10.l0 k a b (a.length : Int) (j : Int)) (Z12.eqL (a.drop j) (b.drop j)) := fun j hj => by
    rw [List.drop_eq_nil_of_le (by omega), List.drop_eq_nil_of_le (by omega)]
    exact Ev.step (fun _ => Z10.l0.eq_2 ..) (ev_neg (by omega) (Ev.now _))
  induction d with
  | zero => exact fun j h1 h2 => stop j (by omega)
  | succ d ih =>
    intro j h1 h2
    by_cases hj : j < a.length
    · have hw : wrap64 ((j : Int) + 1) = ((j + 1 : Nat) : Int) := by rw [wr64 (by omega) (by omega)]; omega
      have e1 : rdOf ByteArray.empty a (j : Int) = a[j] := by simp [rdOf, List.getD, hj]
      have e2 : rdOf ByteArray.empty b (j : Int) = b[j] := by simp [rdOf, List.getD, show j < b.length from hl ▸ hj]
      refine Ev.step (fun _ => Z10.l0.eq_2 ..) (ev_pos (by omega) (ev_pos (by omega) (ev_pos (by omega) (ev_pos (by omega) ?_))))
      rw [e1, e2, hw, List.drop_eq_getElem_cons hj, List.drop_eq_getElem_cons (show j < b.length from hl ▸ hj)]
      simp only [Z12.eqL]
      by_cases e : a[j].toList = b[j].toList
      · rw [decide_eq_true e, Bool.true_and]
        exact ev_pos e (ih (j + 1) (by omega) (by omega))
      · rw [decide_eq_false e, Bool.false_and]
        exact ev_neg e (Ev.now _)
    · exact stop j hj
theorem Z12.eqL_ev (a b : List ByteArray) (hm : a.length ≤ 9223372036854775807) : Ev (fun k => Z10.f k a b) (Z12.eqL a b) := by
  refine Ev.congr (fun _ => Z10.f.eq_1 ..) ?_
  by_cases hl : a.length = b.length
  · refine ev_pos (by omega) ?_
    have := Z12.eqL_loop a b hl hm _ 0 (Nat.le_refl _) (Nat.zero_le _)
    rw [List.drop_zero, List.drop_zero] at this
    exact this
  · rw [Z12.eqL_ne a b hl]
    exact ev_neg (by omega) (Ev.now _)
def Z12.eqW (x y : S70) : Bool := decide (x.f0 = y.f0) && (Z12.eqL x.f1 y.f1 && Z12.eqL x.f2 y.f2)
theorem Z12.same_ev (x y : S70) (h1 : x.f1.length ≤ 9223372036854775807) (h2 : x.f2.length ≤ 9223372036854775807) : Ev (fun k => Z45.f k x.f0 x.f1 x.f2 y.f0 y.f1 y.f2) (Z12.eqW x y) := by
  refine Ev.congr (fun _ => Z45.f.eq_1 ..) ?_
  unfold Z12.eqW
  by_cases e : x.f0 = y.f0
  · rw [decide_eq_true e, Bool.true_and]
    refine ev_pos e (Ev.bind (Z12.eqL_ev _ _ h1) ?_)
    cases Z12.eqL x.f1 y.f1 with
    | false => exact ev_neg (by decide) (Ev.now _)
    | true => exact ev_pos rfl (Ev.bind (Z12.eqL_ev _ _ h2) (Ev.now _))
  · rw [decide_eq_false e, Bool.false_and]
    exact ev_neg e (Ev.now _)
def Z12.eqC : List S70 → List S70 → Bool
  | [], [] => true
  | x :: a, y :: b => Z12.eqW x y && Z12.eqC a b
  | _, _ => false
theorem Z12.eqC_ne : ∀ a b : List S70, ¬ a.length = b.length → Z12.eqC a b = false
  | [], [], h => absurd rfl h
  | [], _ :: _, _ => rfl
  | _ :: _, [], _ => rfl
  | x :: a, y :: b, h => by
    simp only [Z12.eqC, Z12.eqC_ne a b (fun e => h (by rw [List.length_cons, List.length_cons, e])), Bool.and_false]
def Z12.f (l0 : List (S70)) (l1 : List (S70)) (a2 : Nat) : Option (Bool) := if a2 = 46 then (some (Z12.eqC l0 l1)) else (none)
set_option maxHeartbeats 8000000 in
set_option maxRecDepth 100000 in
theorem Z12.calls (A0 : Option Addr) (c0 : Nat) (l0 : List (S70)) (A1 : Option Addr) (c1 : Nat) (l1 : List (S70)) (a2 : Nat) (r : Bool) (w : World) (hr0 : Kd.C k70 w A0 l0.length l0) (hc0 : l0.length ≤ c0) (hr1 : Kd.C k70 w A1 l1.length l1) (hc1 : l1.length ≤ c1) (h : Z12.f l0 l1 a2 = some r) :
    Calls Tryz.prog 45 #[.slice A0 l0.length c0, .slice A1 l1.length c1, .func (.func a2) #[] #[]] w fun e w' => e = .returned (.bool r) ∧ Below w.heap.size w w' := by
  unfold Z12.f at h
  by_cases h1 : a2 = 46
  · rw [if_pos h1] at h
    subst h1
    have hm0 := Kd.C_max hr0
    have hm1 := Kd.C_max hr1
    have HR0 := am_ hr0; have HR1 := am_ hr1
    obtain rfl := Option.some.inj h
    clear hr0 hr1 hc0 hc1 h
    by_cases hl : l0.length = l1.length
    · have H : Aside0 (Z12.eqC (l0.drop 0) (l1.drop 0) = Z12.eqC l0 l1) := ⟨by rw [List.drop_zero, List.drop_zero]⟩
      have HB := am_ (Below.refl w.heap.size w)
      have hne : ((l0.length : Int) != (l1.length : Int)) = false := by rw [hl]; exact bne_self_eq_false _
      have HL := am_ hl; clear hl
      generalize Z12.eqC l0 l1 = r at *
      go_enter Tryz.func45, Tryz.ntmps45
      go_wp2
      go_loopw [17] (fun i wr => ∃ j : Nat, i = .int .i64 j ∧ Aside0 (j ≤ l0.length) ∧ Aside0 (Kd.C k70 wr A0 l0.length l0) ∧ Aside0 (Kd.C k70 wr A1 l1.length l1) ∧ Aside0 (Below w.heap.size w wr) ∧ Aside0 (Z12.eqC (l0.drop j) (l1.drop j) = r)) (fun i _ => l0.length - (intOf i).toNat)
      case atStart => exact ⟨0, rfl, ⟨Nat.zero_le _⟩, HR0, HR1, HB, H⟩
      case round =>
        obtain ⟨j, rfl, HJ, HC0, HC1, HBw, HE⟩ := hrel; clear HR0 HR1 HB H
        by_cases hlt : j < l0.length
        · obtain ⟨ad, A01, c01, A02, c02, eA, hx0, hx1, hx2, hk1, hg1, hk2, hg2⟩ := at_T70 HC0.out (j : Int) (by omega) (by omega)
          cases eA
          simp only [Int.toNat_natCast] at hx0 hx1 hx2
          have HCa := Kd.C_alloc HC1.out (.cells #[.int .i64 (rd_T70 l0 j).f0, .slice A01 (rd_T70 l0 j).f1.length c01, .slice A02 (rd_T70 l0 j).f2.length c02] 70)
          obtain ⟨ad1, A11, c11, A12, c12, eA, hy0, hy1, hy2, hk3, hg3, hk4, hg4⟩ := at_T70 HCa (j : Int) (by omega) (by have := HL.out; omega)
          cases eA
          simp only [Int.toNat_natCast] at hy0 hy1 hy2
          have hd0 : l0.drop j = rd_T70 l0 j :: l0.drop (j + 1) := by
            rw [List.drop_eq_getElem_cons hlt]
            simp [rd_T70, List.getD_eq_getElem?_getD, List.getElem?_eq_getElem hlt]
          have hlt1 : j < l1.length := by have := HL.out; omega
          have hd1 : l1.drop j = rd_T70 l1 j :: l1.drop (j + 1) := by
            rw [List.drop_eq_getElem_cons hlt1]
            simp [rd_T70, List.getD_eq_getElem?_getD, List.getElem?_eq_getElem hlt1]
          have h4 := HE.out
          rw [hd0, hd1] at h4
          simp only [Z12.eqC] at h4
          clear hd0 hd1 HE
          generalize rd_T70 l0 j = x at *
          generalize rd_T70 l1 j = y at *
          obtain ⟨K, hK⟩ := (Z12.same_ev x y (Kd.C_max hg1) (Kd.C_max hg2)).rounds
          have H4 := am_ h4
          have HD1 := fun (o : Obj) => Kd.C_alloc (Kd.C_alloc hg1 (.cells #[.int .i64 x.f0, .slice A01 x.f1.length c01, .slice A02 x.f2.length c02] 70)) o
          have HD2 := fun (o : Obj) => Kd.C_alloc (Kd.C_alloc hg2 (.cells #[.int .i64 x.f0, .slice A01 x.f1.length c01, .slice A02 x.f2.length c02] 70)) o
          have HD3 := fun (o : Obj) => Kd.C_alloc hg3 o
          have HD4 := fun (o : Obj) => Kd.C_alloc hg4 o
          have HK : Aside0 (∀ o, Calls Tryz.prog 46 _ _ _) := ⟨fun o => Z45.calls K x.f0 A01 c01 x.f1 A02 c02 x.f2 y.f0 A11 c11 y.f1 A12 c12 y.f2 (Z12.eqW x y) ((wr.alloc (.cells #[.int .i64 x.f0, .slice A01 x.f1.length c01, .slice A02 x.f2.length c02] 70)).alloc o) (HD1 o) hk1 (HD2 o) hk2 (HD3 o) hk3 (HD4 o) hk4 hK⟩
          have HB2 : Aside0 (∀ o, Below w.heap.size w ((wr.alloc (.cells #[.int .i64 x.f0, .slice A01 x.f1.length c01, .slice A02 x.f2.length c02] 70)).alloc o)) := ⟨fun o => (HBw.out.alloc HBw.out.size _).alloc (HBw.out.alloc HBw.out.size _).size _⟩
          have HCC0 : Aside0 (∀ o w', Below ((wr.alloc (.cells #[.int .i64 x.f0, .slice A01 x.f1.length c01, .slice A02 x.f2.length c02] 70)).alloc o).heap.size ((wr.alloc (.cells #[.int .i64 x.f0, .slice A01 x.f1.length c01, .slice A02 x.f2.length c02] 70)).alloc o) w' → Kd.C k70 w' (some ad) l0.length l0) := ⟨fun o w' hb => Kd.C_below (Kd.C_alloc (Kd.C_alloc HC0.out _) _) hb⟩
          have HCC1 : Aside0 (∀ o w', Below ((wr.alloc (.cells #[.int .i64 x.f0, .slice A01 x.f1.length c01, .slice A02 x.f2.length c02] 70)).alloc o).heap.size ((wr.alloc (.cells #[.int .i64 x.f0, .slice A01 x.f1.length c01, .slice A02 x.f2.length c02] 70)).alloc o) w' → Kd.C k70 w' (some ad1) l1.length l1) := ⟨fun o w' hb => Kd.C_below (Kd.C_alloc (Kd.C_alloc HC1.out _) _) hb⟩
          clear h4 hK hg1 hg2 hg3 hg4 hk1 hk2 hk3 hk4 HCa HD1 HD2 HD3 HD4 HC0 HC1
          have hw : wrap64 ((j : Int) + 1) = ((j + 1 : Nat) : Int) := by unfold wrap64; omega
          cases hq : Z12.eqW x y with
          | true =>
            have H6 := H4.out
            rw [hq, Bool.true_and] at H6
            have H7 := am_ H6
            rw [hq] at HK
            clear H6 hq H4
            go_wp2_with (go_at_call 46; refine (HK.out _).mono ?_; rintro e w1 ⟨rfl, hb1⟩)
            go_roundw
            case rel => exact ⟨j + 1, by go_num, ⟨by omega⟩, ⟨HCC0.out _ _ hb1⟩, ⟨HCC1.out _ _ hb1⟩, ⟨below_step (HB2.out _) hb1⟩, H7⟩
            case measure => simp [intOf]; omega
          | false =>
            have H6 := H4.out
            rw [hq, Bool.false_and] at H6
            subst H6
            rw [hq] at HK
            clear hq H4
            go_wp2_with (go_at_call 46; refine (HK.out _).mono ?_; rintro e w1 ⟨rfl, hb1⟩)
            go_ret
            exact ⟨rfl, below_step (HB2.out _) hb1⟩
        · obtain rfl : j = l0.length := by have := HJ.out; omega
          have h4 := HE.out
          rw [List.drop_eq_nil_of_le (Nat.le_refl _), List.drop_eq_nil_of_le (by have := HL.out; omega)] at h4
          simp only [Z12.eqC] at h4
          subst h4; clear HC0 HC1 HE
          go_wp2
          go_ret
          exact ⟨rfl, HBw.out⟩
    · rw [Z12.eqC_ne _ _ hl]
      have hne : ((l0.length : Int) != (l1.length : Int)) = true := bne_iff_ne.mpr (by omega)
      have HB := Below.refl w.heap.size w
      clear hl HR0 HR1
      go_enter Tryz.func45, Tryz.ntmps45
      go_wp2
      go_ret
      exact ⟨rfl, HB⟩
  · rw [if_neg h1] at h
    exact absurd h (by simp)
def Z36.f (l0 : List (S70)) (l1 : List (S70)) : Option (Bool) := (Z12.f l0 l1 46).bind fun t469 => (some t469)
set_option maxHeartbeats 8000000 in
set_option maxRecDepth 100000 in
theorem Z36.calls (A0 : Option Addr) (c0 : Nat) (l0 : List (S70)) (A1 : Option Addr) (c1 : Nat) (l1 : List (S70)) (r : Bool) (w : World) (hr0 : Kd.C k70 w A0 l0.length l0) (hc0 : l0.length ≤ c0) (hr1 : Kd.C k70 w A1 l1.length l1) (hc1 : l1.length ≤ c1) (h : Z36.f l0 l1 = some r) :
  Calls Tryz.prog 21 #[.slice A0 l0.length c0, .slice A1 l1.length c1] w fun e w' => e = .returned (.bool r) ∧ Below w.heap.size w w' := by
 have HR0 := am_ hr0; have HC0 := am_ hc0; clear hr0 hc0; have HR1 := am_ hr1; have HC1 := am_ hc1; clear hr1 hc1
 have HB := am_ (Below.refl w.heap.size w)
 have H : ((Z12.f l0 l1 46).bind fun t469 => (some t469)) = some r := h
 clear h; replace H := Option.bind_eq_some_iff.mp H; obtain ⟨t469, A30, H⟩ := H
 replace H : (some t469) = some r := H
 have A3 := am_ A30; clear A30
 obtain rfl := Option.some.inj H
 go_enter Tryz.func21, Tryz.ntmps21
 go_wp2_with (first | ((with_reducible refine gate_callee (f := 45) rfl ?_); refine goesL_ (some 7) rfl rfl Tryz.func45 (by kernel_rfl) rfl #[.slice A0 l0.length c0, .slice A1 l1.length c1, .func (.func 46) #[] #[]] rfl gl_ ?_; (with_reducible refine (Z12.calls _ _ l0 _ _ l1 46 t469 _ ?side1 ?side2 ?side3 ?side4 A3.out).mono ?_); (case side1 => exact cc_ HR0.out); (case side2 => exact HC0.out); (case side3 => exact cc_ HR1.out); (case side4 => exact HC1.out); rintro e w4 ⟨rfl, hb⟩; refine ⟨_, rfl, ?_⟩; have n0_ := am_ (below_step (bw_ HB.out) hb); clear HB; have HB := n0_; clear n0_; (try clear hb); (try clear hb2); (try clear hk); (try clear hi)))
 go_ret
 exact ⟨by first | rfl | (simp [errW_none, errW_some] <;> rfl) | (simp [*, errW_none, errW_some] <;> rfl), bw_ HB.out⟩
def Z9.j0 : Nat → Bool → Option (Bool)
  | 0, _ => none
  | k + 1, x2 => some x2
def Z9.f (k : Nat) (l0 : List Int) : Option (Bool) := (Z18.f k l0 0 14).bind fun bt471 => ((Z8.f k l0 bt471.2 bt471.1).bind fun bt473 => ((Z33.f k bt471.1 bt473.1).bind fun bt477 => ((Z7.f k bt471.1 bt473.1).bind fun bt479 => ((Z30.f k bt471.1 bt473.1).bind fun bt483 => ((Z29.f k bt471.1 bt473.1).bind fun bt485 => ((Z23.f k).bind fun t489 => (if t489 = true then (if bt477.2 = bt483.2 then (if bt479.2 = bt485.2 then (if bt477.1.toList = bt483.1.toList then ((Z36.f bt479.1 bt485.1).bind fun t490 => (Z9.j0 k t490)) else (Z9.j0 k false)) else (Z9.j0 k false)) else (Z9.j0 k false)) else (Z9.j0 k false))))))))
theorem Z9.mono_l : ∀ k, (∀ y0, LeO (Z9.j0 k y0) (Z9.j0 (k + 1) y0))
  | 0 => fun _ r h => by simp [Z9.j0] at h
  | k + 1 => by
    have ih0 := Z9.mono_l k
    · intro y0
      unfold Z9.j0
      repeat' first
      | (with_reducible exact ih0 _)
      | (with_reducible exact Z23.mono _)
      | (with_reducible exact Z8.mono _ _ _ _)
      | (with_reducible exact Z18.mono _ _ _ _)
      | (with_reducible exact Z30.mono _ _ _)
      | (with_reducible exact Z29.mono _ _ _)
      | (with_reducible exact Z33.mono _ _ _)
      | (with_reducible exact Z7.mono _ _ _)
      | (with_reducible exact LeO.refl _)
      | (with_reducible exact LeO.none _)
      | (with_reducible refine LeO.ite ?_ ?_)
      | (with_reducible refine LeO.bind ?_ (fun _ => ?_))
      | exact ih0 _
      | exact LeO.none _
      | refine LeO.ite ?_ ?_
      | refine LeO.bind ?_ (fun _ => ?_)
theorem Z9.mono : ∀ a0 k, LeO (Z9.f k a0) (Z9.f (k + 1) a0) := by
  intro a0 k
  have ih0 := Z9.mono_l k
  unfold Z9.f
  repeat' first
      | (with_reducible exact ih0 _)
      | (with_reducible exact Z23.mono _)
      | (with_reducible exact Z8.mono _ _ _ _)
      | (with_reducible exact Z18.mono _ _ _ _)
      | (with_reducible exact Z30.mono _ _ _)
      | (with_reducible exact Z29.mono _ _ _)
      | (with_reducible exact Z33.mono _ _ _)
      | (with_reducible exact Z7.mono _ _ _)
      | (with_reducible exact LeO.refl _)
      | (with_reducible exact LeO.none _)
      | (with_reducible refine LeO.ite ?_ ?_)
      | (with_reducible refine LeO.bind ?_ (fun _ => ?_))
      | exact ih0 _
      | exact LeO.none _
      | refine LeO.ite ?_ ?_
      | refine LeO.bind ?_ (fun _ => ?_)
set_option maxHeartbeats 8000000 in
set_option maxRecDepth 100000 in
theorem Z9.calls (k : Nat) (A0 : Option Addr) (c0 : Nat) (l0 : List Int) (r : Bool) (w : World) (hr0 : Kd.C (Kd.int .i64) w A0 l0.length l0) (hc0 : l0.length ≤ c0) (hGl : Wd w) (h : Z9.f k l0 = some r) :
  Calls Tryz.prog 4 #[.slice A0 l0.length c0] w fun e w' => e = .returned (.bool r) ∧ Below w.heap.size w w' := by
 have hu25 := Tryz.underlying25
 have HGl := am_ hGl; clear hGl; have HR0 := am_ hr0; have HC0 := am_ hc0; clear hr0 hc0
 have HB := am_ (Below.refl w.heap.size w)
 have H : ((Z18.f k l0 0 14).bind fun bt471 => ((Z8.f k l0 bt471.2 bt471.1).bind fun bt473 => ((Z33.f k bt471.1 bt473.1).bind fun bt477 => ((Z7.f k bt471.1 bt473.1).bind fun bt479 => ((Z30.f k bt471.1 bt473.1).bind fun bt483 => ((Z29.f k bt471.1 bt473.1).bind fun bt485 => ((Z23.f k).bind fun t489 => (if t489 = true then (if bt477.2 = bt483.2 then (if bt479.2 = bt485.2 then (if bt477.1.toList = bt483.1.toList then ((Z36.f bt479.1 bt485.1).bind fun t490 => (Z9.j0 k t490)) else (Z9.j0 k false)) else (Z9.j0 k false)) else (Z9.j0 k false)) else (Z9.j0 k false))))))))) = some r := h
 clear h; replace H := Option.bind_eq_some_iff.mp H
 obtain ⟨⟨t471, t472⟩, A20, H⟩ := H
 replace H : ((Z8.f k l0 t472 t471).bind fun bt473 => ((Z33.f k t471 bt473.1).bind fun bt477 => ((Z7.f k t471 bt473.1).bind fun bt479 => ((Z30.f k t471 bt473.1).bind fun bt483 => ((Z29.f k t471 bt473.1).bind fun bt485 => ((Z23.f k).bind fun t489 => (if t489 = true then (if bt477.2 = bt483.2 then (if bt479.2 = bt485.2 then (if bt477.1.toList = bt483.1.toList then ((Z36.f bt479.1 bt485.1).bind fun t490 => (Z9.j0 k t490)) else (Z9.j0 k false)) else (Z9.j0 k false)) else (Z9.j0 k false)) else (Z9.j0 k false)))))))) = some r := H
 have A2 := am_ A20; clear A20; replace H := Option.bind_eq_some_iff.mp H
 obtain ⟨⟨t473, t476⟩, A30, H⟩ := H
 replace H : ((Z33.f k t471 t473).bind fun bt477 => ((Z7.f k t471 t473).bind fun bt479 => ((Z30.f k t471 t473).bind fun bt483 => ((Z29.f k t471 t473).bind fun bt485 => ((Z23.f k).bind fun t489 => (if t489 = true then (if bt477.2 = bt483.2 then (if bt479.2 = bt485.2 then (if bt477.1.toList = bt483.1.toList then ((Z36.f bt479.1 bt485.1).bind fun t490 => (Z9.j0 k t490)) else (Z9.j0 k false)) else (Z9.j0 k false)) else (Z9.j0 k false)) else (Z9.j0 k false))))))) = some r := H
 have A3 := am_ A30; clear A30; replace H := Option.bind_eq_some_iff.mp H
 obtain ⟨⟨t477, t478⟩, A40, H⟩ := H
 replace H : ((Z7.f k t471 t473).bind fun bt479 => ((Z30.f k t471 t473).bind fun bt483 => ((Z29.f k t471 t473).bind fun bt485 => ((Z23.f k).bind fun t489 => (if t489 = true then (if t478 = bt483.2 then (if bt479.2 = bt485.2 then (if t477.toList = bt483.1.toList then ((Z36.f bt479.1 bt485.1).bind fun t490 => (Z9.j0 k t490)) else (Z9.j0 k false)) else (Z9.j0 k false)) else (Z9.j0 k false)) else (Z9.j0 k false)))))) = some r := H
 have A4 := am_ A40; clear A40; replace H := Option.bind_eq_some_iff.mp H
 obtain ⟨⟨t479, t480⟩, A50, H⟩ := H
 replace H : ((Z30.f k t471 t473).bind fun bt483 => ((Z29.f k t471 t473).bind fun bt485 => ((Z23.f k).bind fun t489 => (if t489 = true then (if t478 = bt483.2 then (if t480 = bt485.2 then (if t477.toList = bt483.1.toList then ((Z36.f t479 bt485.1).bind fun t490 => (Z9.j0 k t490)) else (Z9.j0 k false)) else (Z9.j0 k false)) else (Z9.j0 k false)) else (Z9.j0 k false))))) = some r := H
 have A5 := am_ A50; clear A50; replace H := Option.bind_eq_some_iff.mp H
 obtain ⟨⟨t483, t484⟩, A60, H⟩ := H
 replace H : ((Z29.f k t471 t473).bind fun bt485 => ((Z23.f k).bind fun t489 => (if t489 = true then (if t478 = t484 then (if t480 = bt485.2 then (if t477.toList = t483.toList then ((Z36.f t479 bt485.1).bind fun t490 => (Z9.j0 k t490)) else (Z9.j0 k false)) else (Z9.j0 k false)) else (Z9.j0 k false)) else (Z9.j0 k false)))) = some r := H
 have A6 := am_ A60; clear A60; replace H := Option.bind_eq_some_iff.mp H
 obtain ⟨⟨t485, t486⟩, A70, H⟩ := H
 replace H : ((Z23.f k).bind fun t489 => (if t489 = true then (if t478 = t484 then (if t480 = t486 then (if t477.toList = t483.toList then ((Z36.f t479 t485).bind fun t490 => (Z9.j0 k t490)) else (Z9.j0 k false)) else (Z9.j0 k false)) else (Z9.j0 k false)) else (Z9.j0 k false))) = some r := H
 have A7 := am_ A70; clear A70; have HC8 := am_ H; clear H
 go_enter Tryz.func4, Tryz.ntmps4
 go_upto_region 8 with (first | ((with_reducible refine gate_dst (N := 16) rfl ?_); refine box_event ?hg (N := 16) ?hd (cs := #[.slice A0 l0.length c0, .int .i64 0]) (t := 25) ?hr ?_; (case hd => rfl); (case hg => rfl); (case hr => first | (go_simp; done) | (go_simp; rfl)); intro gb470 hg w9 hbox hb; have n0_ := am_ (below_step (bw_ HB.out) hb); have n1_ := am_ ((⟨_, _, hbox, (by rw [hg]; exact (below_size (bw_ HB.out))), HR0.out⟩ : IsS25 w _ gb470 l0 0)); clear HB; have HB := n0_; have HI470 := n1_; clear n0_ n1_; clear hb hbox hg) | ((with_reducible refine gate_callee (f := 14) rfl ?_); refine goesL_ (some 18) rfl rfl Tryz.func14 (by kernel_rfl) rfl #[.pointer (some ⟨gb470, 0, none⟩), .int .i64 14] rfl gl_ ?_; (with_reducible refine (Z18.calls k gb470 l0 0 14 t471 t472 w _ ?side1 ?side2 A2.out).mono ?_); (case side1 => exact is_ HI470.out); (case side2 => exact bs_ HB.out (IsS25.ge HI470.out)); rintro e w10 ⟨rfl, hi, hb, hk⟩; refine ⟨_, rfl, ?_⟩; have n0_ := am_ (hb); have n1_ := am_ (hi); clear HB; clear HI470; have HB := n0_; have HI470 := n1_; clear n0_ n1_; (try clear hb); (try clear hb2); (try clear hk); (try clear hi)) | ((with_reducible refine gate_callee (f := 15) rfl ?_); refine goesL_ (some 21) rfl rfl Tryz.func15 (by kernel_rfl) rfl #[.pointer (some ⟨gb470, 0, none⟩), .string t471] rfl gl_ ?_; (with_reducible refine (Z8.calls k gb470 l0 t472 t471 t473 t476 w _ ?side1 ?side2 ?side3 A3.out).mono ?_); (case side1 => exact is_ HI470.out); (case side2 => exact bs_ HB.out (IsS25.ge HI470.out)); (case side3 => exact HGl.out); rintro e w11 ⟨v474, rfl, ho0, hi, hb, hk⟩; refine ⟨_, rfl, ?_⟩; have n0_ := am_ (Kd.N_lower (Kd.N_mono (ok' := fun k_ => k_ ≠ gb470) ho0 (fun k_ hk_ => (IsS25.fresh (is_ HI470.out) k_ hk_))) (below_size (bs_ HB.out (IsS25.ge HI470.out)))); have n1_ := am_ (hb); have n2_ := am_ (hi); clear HB; clear HI470; have HO475 := n0_; have HB := n1_; have HI470 := n2_; clear n0_ n1_ n2_; (try clear hb); (try clear hb2); (try clear hk); (try clear hi); (try clear ho0); obtain ⟨Ao12, co12, eo12⟩ := Kd.N_slice HO475.out; subst eo12) | ((with_reducible refine gate_callee (f := 16) rfl ?_); refine goesL_ (some 25) rfl rfl Tryz.func16 (by kernel_rfl) rfl #[.string t471, .slice Ao12 t473.length co12] rfl gl_ ?_; (with_reducible refine (Z33.calls k t471 _ _ t473 t477 t478 _ ?side1 ?side2 ?side3 A4.out).mono ?_); (case side1 => repeat (first | exact (Kd.N_reads' HO475.out).2.2 | (with_reducible refine Kd.C_alloc ?_ _) | (with_reducible refine Kd.C_drewN ?_ _) | (with_reducible refine Kd.C_drew ?_))); (case side2 => exact (Kd.N_reads' HO475.out).2.1); (case side3 => exact Wd.below HGl.out (bs_ HB.out (IsS25.ge HI470.out))); rintro e w13 ⟨rfl, hb⟩; refine ⟨_, rfl, ?_⟩; have n0_ := am_ (Kd.N_below (by (with_reducible repeat (first | apply Kd.N_alloc | apply Kd.N_drewN | apply Kd.N_drew)); exact HO475.out) hb); have n1_ := am_ (IsS25.below (is_ HI470.out) hb); have n2_ := am_ (below_step (bs_ HB.out (IsS25.ge HI470.out)) hb); clear HO475; clear HI470; clear HB; have HO475 := n0_; have HI470 := n1_; have HB := n2_; clear n0_ n1_ n2_; (try clear hb); (try clear hb2); (try clear hk); (try clear hi)) | ((with_reducible refine gate_callee (f := 17) rfl ?_); refine goesL_ (some 31) rfl rfl Tryz.func17 (by kernel_rfl) rfl #[.string t471, .slice Ao12 t473.length co12] rfl gl_ ?_; (with_reducible refine (Z7.calls k t471 _ _ t473 t479 t480 _ ?side1 ?side2 ?side3 A5.out).mono ?_); (case side1 => repeat (first | exact (Kd.N_reads' HO475.out).2.2 | (with_reducible refine Kd.C_alloc ?_ _) | (with_reducible refine Kd.C_drewN ?_ _) | (with_reducible refine Kd.C_drew ?_))); (case side2 => exact (Kd.N_reads' HO475.out).2.1); (case side3 => exact Wd.below HGl.out (bs_ HB.out (IsS25.ge HI470.out))); rintro e w14 ⟨v481, rfl, ho0, hb⟩; refine ⟨_, rfl, ?_⟩; have n0_ := am_ (Kd.N_elder' (by (with_reducible repeat (first | apply Kd.N_alloc | apply Kd.N_drewN | apply Kd.N_drew)); exact HO475.out) (by first | exact Kd.N_base ho0 | exact Kd.S_base ho0) hb); have n1_ := am_ (Kd.N_lower (Kd.N_mono (ok' := fun k_ => some k_ ≠ (.slice Ao12 t473.length co12 : Value).ownBlock ∧ k_ ≠ gb470) (Kd.S_N (Kd.S_bound ho0)) (fun k_ hk_ => ⟨(Kd.fresh' (Kd.N_lt (by (with_reducible repeat (first | apply Kd.N_alloc | apply Kd.N_drewN | apply Kd.N_drew)); exact HO475.out)) k_ hk_.2.1), (IsS25.fresh (is_ HI470.out) k_ hk_.2.1)⟩)) (below_size (bs_ HB.out (IsS25.ge HI470.out)))); have n2_ := am_ (IsS25.below (is_ HI470.out) hb); have n3_ := am_ (below_step (bs_ HB.out (IsS25.ge HI470.out)) hb); clear HO475; clear HI470; clear HB; have HO475 := n0_; have HO482 := n1_; have HI470 := n2_; have HB := n3_; clear n0_ n1_ n2_ n3_; (try clear hb); (try clear hb2); (try clear hk); (try clear hi); (try clear ho0)) | ((with_reducible refine gate_callee (f := 18) rfl ?_); refine goesL_ (some 37) rfl rfl Tryz.func18 (by kernel_rfl) rfl #[.string t471, .slice Ao12 t473.length co12] rfl gl_ ?_; (with_reducible refine (Z30.calls k t471 _ _ t473 t483 t484 _ ?side1 ?side2 ?side3 A6.out).mono ?_); (case side1 => repeat (first | exact (Kd.N_reads' HO475.out).2.2 | (with_reducible refine Kd.C_alloc ?_ _) | (with_reducible refine Kd.C_drewN ?_ _) | (with_reducible refine Kd.C_drew ?_))); (case side2 => exact (Kd.N_reads' HO475.out).2.1); (case side3 => exact Wd.below HGl.out (bs_ HB.out (IsS25.ge HI470.out))); rintro e w15 ⟨rfl, hb⟩; refine ⟨_, rfl, ?_⟩; have n0_ := am_ (Kd.N_below (by (with_reducible repeat (first | apply Kd.N_alloc | apply Kd.N_drewN | apply Kd.N_drew)); exact HO475.out) hb); have n1_ := am_ (Kd.N_below (by (with_reducible repeat (first | apply Kd.N_alloc | apply Kd.N_drewN | apply Kd.N_drew)); exact HO482.out) hb); have n2_ := am_ (IsS25.below (is_ HI470.out) hb); have n3_ := am_ (below_step (bs_ HB.out (IsS25.ge HI470.out)) hb); clear HO475; clear HO482; clear HI470; clear HB; have HO475 := n0_; have HO482 := n1_; have HI470 := n2_; have HB := n3_; clear n0_ n1_ n2_ n3_; (try clear hb); (try clear hb2); (try clear hk); (try clear hi)) | ((with_reducible refine gate_callee (f := 19) rfl ?_); refine goesL_ (some 43) rfl rfl Tryz.func19 (by kernel_rfl) rfl #[.string t471, .slice Ao12 t473.length co12] rfl gl_ ?_; (with_reducible refine (Z29.calls k t471 _ _ t473 t485 t486 _ ?side1 ?side2 ?side3 A7.out).mono ?_); (case side1 => repeat (first | exact (Kd.N_reads' HO475.out).2.2 | (with_reducible refine Kd.C_alloc ?_ _) | (with_reducible refine Kd.C_drewN ?_ _) | (with_reducible refine Kd.C_drew ?_))); (case side2 => exact (Kd.N_reads' HO475.out).2.1); (case side3 => exact Wd.below HGl.out (bs_ HB.out (IsS25.ge HI470.out))); rintro e w16 ⟨v487, rfl, ho0, hb⟩; refine ⟨_, rfl, ?_⟩; have n0_ := am_ (Kd.N_elder' (by (with_reducible repeat (first | apply Kd.N_alloc | apply Kd.N_drewN | apply Kd.N_drew)); exact HO475.out) (by first | exact Kd.N_base ho0 | exact Kd.S_base ho0) hb); have n1_ := am_ (Kd.N_elder' (by (with_reducible repeat (first | apply Kd.N_alloc | apply Kd.N_drewN | apply Kd.N_drew)); exact HO482.out) (by first | exact Kd.N_base ho0 | exact Kd.S_base ho0) hb); have n2_ := am_ (Kd.N_lower (Kd.N_mono (ok' := fun k_ => some k_ ≠ (.slice Ao12 t473.length co12 : Value).ownBlock ∧ some k_ ≠ (v481 : Value).ownBlock ∧ k_ ≠ gb470) (Kd.S_N (Kd.S_bound ho0)) (fun k_ hk_ => ⟨(Kd.fresh' (Kd.N_lt (by (with_reducible repeat (first | apply Kd.N_alloc | apply Kd.N_drewN | apply Kd.N_drew)); exact HO475.out)) k_ hk_.2.1), (Kd.fresh' (Kd.N_lt (by (with_reducible repeat (first | apply Kd.N_alloc | apply Kd.N_drewN | apply Kd.N_drew)); exact HO482.out)) k_ hk_.2.1), (IsS25.fresh (is_ HI470.out) k_ hk_.2.1)⟩)) (below_size (bs_ HB.out (IsS25.ge HI470.out)))); have n3_ := am_ (IsS25.below (is_ HI470.out) hb); have n4_ := am_ (below_step (bs_ HB.out (IsS25.ge HI470.out)) hb); clear HO475; clear HO482; clear HI470; clear HB; have HO475 := n0_; have HO482 := n1_; have HO488 := n2_; have HI470 := n3_; have HB := n4_; clear n0_ n1_ n2_ n3_ n4_; (try clear hb); (try clear hb2); (try clear hk); (try clear hi); (try clear ho0)))
 (try simp only [Act.put, s_t, s_z, s_s])
 go_cut [2] (fun v2 wc => ∃ (kq : Nat) (x2_7 : Bool), v2 = .bool x2_7 ∧ Aside0 (Z9.j0 kq x2_7 = some r) ∧ Aside0 (kq ≤ k) ∧ Aside0 (Below w.heap.size w wc))
 case first =>
  have H := HC8.out
  clear HC8; replace H := Option.bind_eq_some_iff.mp H; obtain ⟨t489, A170, H⟩ := H; have A17 := am_ A170; clear A170
  by_cases c18 : t489 = true
  ·subst c18
   have H1 : (if t478 = t484 then (if t480 = t486 then (if t477.toList = t483.toList then ((Z36.f t479 t485).bind fun t490 => (Z9.j0 k t490)) else (Z9.j0 k false)) else (Z9.j0 k false)) else (Z9.j0 k false)) = some r := by rw [if_pos rfl] at H; exact H
   clear H
   have H := H1
   clear H1
   by_cases c19 : t478 = t484
   ·rw [if_pos c19] at H
    have c19b0 : (t478 == t484) = true := beq_iff_eq.mpr c19
    have c19b1 : (t478 != t484) = false := bne_eq_false_iff_eq.mpr c19
    clear c19
    (first | rw [c19b0] | (simp only [i64_w, i32_w]; rw [c19b0]) | skip)
    by_cases c20 : t480 = t486
    ·rw [if_pos c20] at H
     have c20b0 : (t480 == t486) = true := beq_iff_eq.mpr c20
     have c20b1 : (t480 != t486) = false := bne_eq_false_iff_eq.mpr c20
     clear c20
     by_cases c21 : t477.toList = t483.toList
     ·rw [if_pos c21] at H
      have c21b0 : (t477.toList == t483.toList) = true := beq_iff_eq.mpr c21
      have c21b1 : (t477.toList != t483.toList) = false := bne_eq_false_iff_eq.mpr c21
      clear c21; replace H := Option.bind_eq_some_iff.mp H; obtain ⟨t490, A220, H⟩ := H
      replace H : (Z9.j0 k t490) = some r := H
      have A22 := am_ A220; clear A220
      have H' := am_ H
      clear H
      go_wp2_with (first | ((with_reducible refine gate_callee (f := 20) rfl ?_); refine goesL_ (some 46) rfl rfl Tryz.func20 (by kernel_rfl) rfl #[] rfl gl_ ?_; (with_reducible refine (Z23.calls k  true _ A17.out).mono ?_); rintro e w23 ⟨rfl, hb⟩; refine ⟨_, rfl, ?_⟩; have n0_ := am_ (Kd.N_below (by (with_reducible repeat (first | apply Kd.N_alloc | apply Kd.N_drewN | apply Kd.N_drew)); exact HO475.out) hb); have n1_ := am_ (Kd.N_below (by (with_reducible repeat (first | apply Kd.N_alloc | apply Kd.N_drewN | apply Kd.N_drew)); exact HO482.out) hb); have n2_ := am_ (Kd.N_below (by (with_reducible repeat (first | apply Kd.N_alloc | apply Kd.N_drewN | apply Kd.N_drew)); exact HO488.out) hb); have n3_ := am_ (IsS25.below (is_ HI470.out) hb); have n4_ := am_ (below_step (bs_ HB.out (IsS25.ge HI470.out)) hb); clear HO475; clear HO482; clear HO488; clear HI470; clear HB; have HO475 := n0_; have HO482 := n1_; have HO488 := n2_; have HI470 := n3_; have HB := n4_; clear n0_ n1_ n2_ n3_ n4_; (try clear hb); (try clear hb2); (try clear hk); (try clear hi); obtain ⟨Ao24, co24, eo24⟩ := Kd.N_slice HO482.out; subst eo24; obtain ⟨Ao25, co25, eo25⟩ := Kd.N_slice HO488.out; subst eo25) | (go_at_call 21; (with_reducible refine (Z36.calls _ _ t479 _ _ t485 t490 _ ?side1 ?side2 ?side3 ?side4 A22.out).mono ?_); (case side1 => repeat (first | exact (Kd.N_reads' HO482.out).2.2 | (with_reducible refine Kd.C_alloc ?_ _) | (with_reducible refine Kd.C_drewN ?_ _) | (with_reducible refine Kd.C_drew ?_))); (case side2 => exact (Kd.N_reads' HO482.out).2.1); (case side3 => repeat (first | exact (Kd.N_reads' HO488.out).2.2 | (with_reducible refine Kd.C_alloc ?_ _) | (with_reducible refine Kd.C_drewN ?_ _) | (with_reducible refine Kd.C_drew ?_))); (case side4 => exact (Kd.N_reads' HO488.out).2.1); rintro e w26 ⟨rfl, hb⟩; have n0_ := am_ (Kd.N_below (by (with_reducible repeat (first | apply Kd.N_alloc | apply Kd.N_drewN | apply Kd.N_drew)); exact HO475.out) hb); have n1_ := am_ (Kd.N_below (by (with_reducible repeat (first | apply Kd.N_alloc | apply Kd.N_drewN | apply Kd.N_drew)); exact HO482.out) hb); have n2_ := am_ (Kd.N_below (by (with_reducible repeat (first | apply Kd.N_alloc | apply Kd.N_drewN | apply Kd.N_drew)); exact HO488.out) hb); have n3_ := am_ (IsS25.below (is_ HI470.out) hb); have n4_ := am_ (below_step (bs_ HB.out (IsS25.ge HI470.out)) hb); clear HO475; clear HO482; clear HO488; clear HI470; clear HB; have HO475 := n0_; have HO482 := n1_; have HO488 := n2_; have HI470 := n3_; have HB := n4_; clear n0_ n1_ n2_ n3_ n4_; (try clear hb); (try clear hb2); (try clear hk); (try clear hi)))
      go_meet
      case rel => exact ⟨_, (t490), tr_, H', ⟨by first | omega | exact Nat.le_refl _⟩, ⟨bs_ HB.out (IsS25.ge HI470.out)⟩⟩
     ·rw [if_neg c21] at H
      have c21b0 : (t477.toList == t483.toList) = false := beq_eq_false_iff_ne.mpr c21
      have c21b1 : (t477.toList != t483.toList) = true := bne_iff_ne.mpr c21
      have H' := am_ H
      clear H
      go_wp2_with (first | ((with_reducible refine gate_callee (f := 20) rfl ?_); refine goesL_ (some 46) rfl rfl Tryz.func20 (by kernel_rfl) rfl #[] rfl gl_ ?_; (with_reducible refine (Z23.calls k  true _ A17.out).mono ?_); rintro e w27 ⟨rfl, hb⟩; refine ⟨_, rfl, ?_⟩; have n0_ := am_ (Kd.N_below (by (with_reducible repeat (first | apply Kd.N_alloc | apply Kd.N_drewN | apply Kd.N_drew)); exact HO475.out) hb); have n1_ := am_ (Kd.N_below (by (with_reducible repeat (first | apply Kd.N_alloc | apply Kd.N_drewN | apply Kd.N_drew)); exact HO482.out) hb); have n2_ := am_ (Kd.N_below (by (with_reducible repeat (first | apply Kd.N_alloc | apply Kd.N_drewN | apply Kd.N_drew)); exact HO488.out) hb); have n3_ := am_ (IsS25.below (is_ HI470.out) hb); have n4_ := am_ (below_step (bs_ HB.out (IsS25.ge HI470.out)) hb); clear HO475; clear HO482; clear HO488; clear HI470; clear HB; have HO475 := n0_; have HO482 := n1_; have HO488 := n2_; have HI470 := n3_; have HB := n4_; clear n0_ n1_ n2_ n3_ n4_; (try clear hb); (try clear hb2); (try clear hk); (try clear hi)))
      go_meet
      case rel => exact ⟨_, (false), tr_, H', ⟨by first | omega | exact Nat.le_refl _⟩, ⟨bs_ HB.out (IsS25.ge HI470.out)⟩⟩
    ·rw [if_neg c20] at H
     have c20b0 : (t480 == t486) = false := beq_eq_false_iff_ne.mpr c20
     have c20b1 : (t480 != t486) = true := bne_iff_ne.mpr c20
     have H' := am_ H
     clear H
     go_wp2_with (first | ((with_reducible refine gate_callee (f := 20) rfl ?_); refine goesL_ (some 46) rfl rfl Tryz.func20 (by kernel_rfl) rfl #[] rfl gl_ ?_; (with_reducible refine (Z23.calls k  true _ A17.out).mono ?_); rintro e w28 ⟨rfl, hb⟩; refine ⟨_, rfl, ?_⟩; have n0_ := am_ (Kd.N_below (by (with_reducible repeat (first | apply Kd.N_alloc | apply Kd.N_drewN | apply Kd.N_drew)); exact HO475.out) hb); have n1_ := am_ (Kd.N_below (by (with_reducible repeat (first | apply Kd.N_alloc | apply Kd.N_drewN | apply Kd.N_drew)); exact HO482.out) hb); have n2_ := am_ (Kd.N_below (by (with_reducible repeat (first | apply Kd.N_alloc | apply Kd.N_drewN | apply Kd.N_drew)); exact HO488.out) hb); have n3_ := am_ (IsS25.below (is_ HI470.out) hb); have n4_ := am_ (below_step (bs_ HB.out (IsS25.ge HI470.out)) hb); clear HO475; clear HO482; clear HO488; clear HI470; clear HB; have HO475 := n0_; have HO482 := n1_; have HO488 := n2_; have HI470 := n3_; have HB := n4_; clear n0_ n1_ n2_ n3_ n4_; (try clear hb); (try clear hb2); (try clear hk); (try clear hi)))
     go_meet
     case rel => exact ⟨_, (false), tr_, H', ⟨by first | omega | exact Nat.le_refl _⟩, ⟨bs_ HB.out (IsS25.ge HI470.out)⟩⟩
   ·rw [if_neg c19] at H
    have c19b0 : (t478 == t484) = false := beq_eq_false_iff_ne.mpr c19
    have c19b1 : (t478 != t484) = true := bne_iff_ne.mpr c19
    (first | rw [c19b0] | (simp only [i64_w, i32_w]; rw [c19b0]) | skip)
    have H' := am_ H
    clear H
    go_wp2_with (first | ((with_reducible refine gate_callee (f := 20) rfl ?_); refine goesL_ (some 46) rfl rfl Tryz.func20 (by kernel_rfl) rfl #[] rfl gl_ ?_; (with_reducible refine (Z23.calls k  true _ A17.out).mono ?_); rintro e w29 ⟨rfl, hb⟩; refine ⟨_, rfl, ?_⟩; have n0_ := am_ (Kd.N_below (by (with_reducible repeat (first | apply Kd.N_alloc | apply Kd.N_drewN | apply Kd.N_drew)); exact HO475.out) hb); have n1_ := am_ (Kd.N_below (by (with_reducible repeat (first | apply Kd.N_alloc | apply Kd.N_drewN | apply Kd.N_drew)); exact HO482.out) hb); have n2_ := am_ (Kd.N_below (by (with_reducible repeat (first | apply Kd.N_alloc | apply Kd.N_drewN | apply Kd.N_drew)); exact HO488.out) hb); have n3_ := am_ (IsS25.below (is_ HI470.out) hb); have n4_ := am_ (below_step (bs_ HB.out (IsS25.ge HI470.out)) hb); clear HO475; clear HO482; clear HO488; clear HI470; clear HB; have HO475 := n0_; have HO482 := n1_; have HO488 := n2_; have HI470 := n3_; have HB := n4_; clear n0_ n1_ n2_ n3_ n4_; (try clear hb); (try clear hb2); (try clear hk); (try clear hi)))
    go_meet
    case rel => exact ⟨_, (false), tr_, H', ⟨by first | omega | exact Nat.le_refl _⟩, ⟨bs_ HB.out (IsS25.ge HI470.out)⟩⟩
  ·replace c18 := Bool.eq_false_iff.mpr c18
   subst c18
   have H1 : (Z9.j0 k false) = some r := by rw [if_neg (show ¬ (false = true) by decide)] at H; exact H
   clear H
   have H := H1
   clear H1
   have H' := am_ H
   clear H
   go_wp2_with (first | ((with_reducible refine gate_callee (f := 20) rfl ?_); refine goesL_ (some 46) rfl rfl Tryz.func20 (by kernel_rfl) rfl #[] rfl gl_ ?_; (with_reducible refine (Z23.calls k  false _ A17.out).mono ?_); rintro e w30 ⟨rfl, hb⟩; refine ⟨_, rfl, ?_⟩; have n0_ := am_ (Kd.N_below (by (with_reducible repeat (first | apply Kd.N_alloc | apply Kd.N_drewN | apply Kd.N_drew)); exact HO475.out) hb); have n1_ := am_ (Kd.N_below (by (with_reducible repeat (first | apply Kd.N_alloc | apply Kd.N_drewN | apply Kd.N_drew)); exact HO482.out) hb); have n2_ := am_ (Kd.N_below (by (with_reducible repeat (first | apply Kd.N_alloc | apply Kd.N_drewN | apply Kd.N_drew)); exact HO488.out) hb); have n3_ := am_ (IsS25.below (is_ HI470.out) hb); have n4_ := am_ (below_step (bs_ HB.out (IsS25.ge HI470.out)) hb); clear HO475; clear HO482; clear HO488; clear HI470; clear HB; have HO475 := n0_; have HO482 := n1_; have HO488 := n2_; have HI470 := n3_; have HB := n4_; clear n0_ n1_ n2_ n3_ n4_; (try clear hb); (try clear hb2); (try clear hk); (try clear hi)))
   go_meet
   case rel => exact ⟨_, (false), tr_, H', ⟨by first | omega | exact Nat.le_refl _⟩, ⟨bs_ HB.out (IsS25.ge HI470.out)⟩⟩
 case rest =>
  clear HC8; (try clear c1); (try clear c2); (try clear p2); (try clear c4); (try clear c14); (try clear c15); (try clear c16); (try clear c17); (try clear c18); (try clear c19); (try clear c19b0); (try clear c19b1); (try clear c20); (try clear c20b0); (try clear c20b1); (try clear c21); (try clear c21b0); (try clear c21b1); obtain ⟨kq, x2_7, rfl, HA, HJ7, HB⟩ := hcut
  cases kq with
  | zero => exact absurd HA.out (by simp [Z9.j0])
  | succ kj7 =>
   have H := HA.out
   clear HA
   simp only [Z9.j0] at H
   obtain rfl := Option.some.inj H
   go_wp2
   go_ret
   exact ⟨by first | rfl | (simp [errW_none, errW_some] <;> rfl) | (simp [*, errW_none, errW_some] <;> rfl), bw_ HB.out⟩
def Z9.Pure : Prop := ∀ (l0 : List Int), l0.length ≤ maxLen → l0.length * 8 ≤ 140737488351232 → (∀ x ∈ l0, (Lit.int .i64 x).wf = true) → ∃ k, Z9.f k l0 = some true
theorem Z9.walk (P : Z9.Pure) (a0 : Option Addr) (len0 cap0 : Nat) (z0 : List Int) (w : World) (w0 : (a0 = none ∧ len0 = 0 ∧ cap0 = 0 ∧ z0 = []) ∨ ∃ x, a0 = some x ∧ len0 ≤ cap0 ∧ cap0 ≤ maxLen ∧ z0.length = cap0 ∧ (∀ i, i < z0.length → w.cell? (x.add i) = some (.int .i64 (z0.getD i 0))) ∧ ∀ n ∈ z0, (Lit.int .i64 n).wf = true) (y0 : len0 * 8 ≤ 140737488351232) (hGl : Wd w) :
  Calls Tryz.prog 4 #[.slice a0 len0 cap0] w fun e w' => e = .returned (.bool true) ∧ Below w.heap.size w w' := by
 obtain ⟨l0, rfl, hr0, hm0, hw0, hc0⟩ := ReadsInt.ofRowC w0
 obtain ⟨k, h⟩ := P l0 hm0 y0 hw0
 refine (Z9.calls k _ _ l0 true w (Kd.C_of_reads (d := (0 : Int)) (h1 := fun _ => rfl) hr0) hc0 hGl h).mono ?_
 rintro e w' ⟨rfl, hd⟩
 exact ⟨rfl, hd⟩
end Go.Proofs.YtffaggbephnmkaaGreatDoor.Pq
