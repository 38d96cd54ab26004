/- Part of the proof that the law wordsRead is true for every input. No conditions. Laid by a program of this session over the kit's print and words; declarations that nothing names are left out. -/
import Derived.Test.YtbamfhcifpfocaaDoorZwPwx0
import Derived.Test.YtbamfhcifpfocaaDoorZwPwx1
import Derived.Test.YtbamfhcifpfocaaDoorZwPwx2
import Derived.Test.YtbamfhcifpfocaaDoorZwPwx3
namespace Go.Proofs.YtbamfhcifpfocaaDoor.Pw
open Go.RowKit Go.Proofs.YtbamfhcifpfocaaDoor.GBase Go.Proofs.YtbamfhcifpfocaaDoorW.PrintWords Go.Proofs.YtbamfhcifpfocaaDoorW.PrintLast Go.Proofs.YtbamfhcifpfocaaDoorW.PrintMore
attribute [local go_sem] max2_int min2_int max_two min_two max_three min_three max_four min_four
set_option linter.unusedVariables false
set_option linter.unusedSimpArgs false
def slices_Sort_string_string.f (l0 : List ByteArray) : Option (List ByteArray) := if l0.length < 4611686018427387904 then (some (sortS l0)) else (none)
set_option maxHeartbeats 8000000 in
set_option maxRecDepth 100000 in
theorem slices_Sort_string_string.calls (P0_ : Nat → Prop) (u9000_ : Value) (l0 : List ByteArray) (r : List ByteArray) (w0 w : World) (hB : Below w0.heap.size w0 w) (ho0 : Kd.R Kd.string 9 w w0.heap.size P0_ u9000_ l0) (h : slices_Sort_string_string.f l0 = some r) :
    Calls Tryd.prog 178 #[u9000_] w fun e w' => e = .returned (.tuple #[]) ∧ Kd.R Kd.string 9 w' w0.heap.size (fun k_ => (P0_ k_ ∨ w.heap.size ≤ k_)) u9000_ r ∧ Below w0.heap.size w0 w' ∧ Kept w w' (fun k_ => P0_ k_) := by
  unfold slices_Sort_string_string.f at h
  by_cases hc : l0.length < 4611686018427387904
  · rw [if_pos hc] at h
    obtain rfl := Option.some.inj h
    obtain ⟨hP, ho⟩ := R_scalar ho0
    rcases ho.2 with ⟨rfl, hz⟩ | ⟨g, cap, cur, rfl, hg, hb, hn, hcap, hs, ht⟩
    · obtain rfl := List.eq_nil_of_length_eq_zero hz
      refine (Tryd.slices_Sort_string_none none 0 w).mono ?_
      rintro e w' ⟨rfl, rfl⟩
      exact ⟨rfl, by simpa [sortS, toL, ofL] using Kd.R_nil _ _ _ _ _, hB, Kept.refl _ _⟩
    · have hH : Sort.Holds encStr w g 0 (toL l0).toArray := holds_of_row hb (by rw [toL_length, toL_enc]; simpa using ht)
      have hcall := Tryd.slices_Sort_string g 0 cap (toL l0) w hH (Array.getElem?_eq_some_iff.1 hb).1 (by rw [toL_length]; exact hc)
      rw [toL_length] at hcall
      refine hcall.mono ?_
      rintro e w' ⟨rfl, q, os, rfl⟩
      have hl : ((toL l0).mergeSort fun x y => decide (x ≤ y)).length = l0.length := by rw [List.length_mergeSort, toL_length]
      obtain ⟨o1, o2, o3⟩ := put_out (h1 := encStr_one) (n := q) (m := l0.length) (os := os) hB (hP g rfl) hg hb (by rw [hl]; exact hn) hcap hs (by rw [← hl, List.take_length]) hl.symm
      exact ⟨rfl, R_str o1, o2, o3⟩
  · rw [if_neg hc] at h
    exact absurd h (by simp)
def slices_Compact_string_string.f (l0 : List ByteArray) : Option (List ByteArray) := some (compactS l0)
set_option maxHeartbeats 8000000 in
set_option maxRecDepth 100000 in
theorem slices_Compact_string_string.calls (P0_ : Nat → Prop) (u9000_ : Value) (l0 : List ByteArray) (r : List ByteArray) (w0 w : World) (hB : Below w0.heap.size w0 w) (ho0 : Kd.R Kd.string 9 w w0.heap.size P0_ u9000_ l0) (h : slices_Compact_string_string.f l0 = some r) :
    Calls Tryd.prog 179 #[u9000_] w fun e w' => ∃ v0_ : Value, e = .returned (v0_) ∧ Kd.R Kd.string 9 w' w0.heap.size (fun k_ => (P0_ k_ ∨ w.heap.size ≤ k_)) v0_ r ∧ Below w0.heap.size w0 w' ∧ Kept w w' (fun k_ => P0_ k_) := by
  obtain rfl := Option.some.inj h
  obtain ⟨hP, ho⟩ := R_scalar ho0
  rcases ho.2 with ⟨rfl, hz⟩ | ⟨g, cap, cur, rfl, hg, hb, hn, hcap, hs, ht⟩
  · obtain rfl := List.eq_nil_of_length_eq_zero hz
    refine (Tryd.slices_Compact_string_empty none 0 w).mono ?_
    rintro e w' ⟨rfl, rfl⟩
    exact ⟨_, rfl, by simpa [compactS, toL, ofL, Lib.compact, Lib.compactUpTo] using Kd.R_nil _ _ _ _ _, hB, Kept.refl _ _⟩
  · have hm : maxLen = 9223372036854775807 := rfl
    have hH : Sort.Holds encStr w g 0 (toL l0).toArray := holds_of_row hb (by rw [toL_length, toL_enc]; simpa using ht)
    have hcall := Tryd.slices_Compact_string g 0 cap (toL l0) w hH (by rw [toL_length]; omega) (by rw [toL_length]; exact hn)
    rw [toL_length] at hcall
    refine hcall.mono ?_
    rintro e w' ⟨rfl, q, rfl⟩
    have hle := compact_le (toL l0)
    rw [toL_length] at hle
    have hl : (Lib.compact (toL l0) ++ List.replicate (l0.length - (Lib.compact (toL l0)).length) []).length = l0.length := by simp; omega
    obtain ⟨o1, o2, o3⟩ := put_out (h1 := encStr_one) (n := q) (m := (Lib.compact (toL l0)).length) (os := #[]) hB (hP g rfl) hg hb (by rw [hl]; exact hn) hcap hs List.take_left rfl
    rw [Sort.grow_empty] at o1 o2 o3
    exact ⟨_, rfl, R_str o1, o2, o3⟩
def near_shingles.l0 : Nat → Int → List ByteArray → List ByteArray → Int → Int → Option (List ByteArray)
  | 0, _, _, _, _, _ => none
  | k + 1, x1, x5, x6, x21, x22 => if x22 < x21 then (if 0 ≤ x22 then (if x22 ≤ (wrap64 (x22 + x1)) then (if (wrap64 (x22 + x1)) ≤ (x5.length : Int) then ((strings_Join.f ((x5.take ((wrap64 (x22 + x1)) : Int).toNat).drop (x22 : Int).toNat) (⟨#[32]⟩ : ByteArray)).bind fun t192 => (if x6.length < 8796093022208 then (near_shingles.l0 k x1 x5 (x6 ++ [t192]) x21 (wrap64 (x22 + 1))) else (none))) else (none)) else (none)) else (none)) else ((slices_Sort_string_string.f x6).bind fun t196 => ((slices_Compact_string_string.f t196).bind fun t197 => (some t197)))
def near_shingles.f (k : Nat) (a0 : ByteArray) (a1 : Int) : Option (List ByteArray) := (near_Words.f k a0).bind fun t185 => (if (t185.length : Int) = 0 then (some ([] : List ByteArray)) else (near_shingles.l0 k (mn a1 (t185.length : Int)) t185 ([] : List ByteArray) (wrap64 ((wrap64 ((t185.length : Int) - (mn a1 (t185.length : Int)))) + 1)) 0))
theorem near_shingles.mono_l : ∀ k, (∀ y0 y1 y2 y3 y4, LeO (near_shingles.l0 k y0 y1 y2 y3 y4) (near_shingles.l0 (k + 1) y0 y1 y2 y3 y4))
  | 0 => fun _ _ _ _ _ r h => by simp [near_shingles.l0] at h
  | k + 1 => by
    have ih0 := near_shingles.mono_l k
    · intro y0 y1 y2 y3 y4
      unfold near_shingles.l0
      repeat' first
      | (with_reducible exact ih0 _ _ _ _ _)
      | (with_reducible exact near_Words.mono _ _)
      | (with_reducible exact LeO.refl _)
      | (with_reducible exact LeO.none _)
      | (with_reducible refine LeO.ite ?_ ?_)
      | (with_reducible refine LeO.bind ?_ (fun _ => ?_))
      | exact ih0 _ _ _ _ _
      | exact near_Words.mono _ _
      | exact LeO.none _
      | refine LeO.ite ?_ ?_
      | refine LeO.bind ?_ (fun _ => ?_)
theorem near_shingles.mono : ∀ a0 a1 k, LeO (near_shingles.f k a0 a1) (near_shingles.f (k + 1) a0 a1) := by
  intro a0 a1 k
  have ih0 := near_shingles.mono_l k
  unfold near_shingles.f
  repeat' first
      | (with_reducible exact ih0 _ _ _ _ _)
      | (with_reducible exact near_Words.mono _ _)
      | (with_reducible exact LeO.refl _)
      | (with_reducible exact LeO.none _)
      | (with_reducible refine LeO.ite ?_ ?_)
      | (with_reducible refine LeO.bind ?_ (fun _ => ?_))
      | exact ih0 _ _ _ _ _
      | exact near_Words.mono _ _
      | exact LeO.none _
      | refine LeO.ite ?_ ?_
      | refine LeO.bind ?_ (fun _ => ?_)
set_option maxHeartbeats 8000000 in
set_option maxRecDepth 100000 in
theorem near_shingles.calls (k : Nat) (a0 : ByteArray) (a1 : Int) (r : List ByteArray) (w : World) (h : near_shingles.f k a0 a1 = some r) :
    Calls Tryd.prog 152 #[.string a0, .int .i64 a1] w fun e w' => ∃ v0_ : Value, e = .returned (v0_) ∧ Kd.R Kd.string 9 w' w.heap.size (fun _ => True) v0_ r ∧ Below w.heap.size w w' := by
  have HB := Aside0.mk (Below.refl w.heap.size w)
  have H : ((near_Words.f k a0).bind fun t185 => (if (t185.length : Int) = 0 then (some ([] : List ByteArray)) else (near_shingles.l0 k (mn a1 (t185.length : Int)) t185 ([] : List ByteArray) (wrap64 ((wrap64 ((t185.length : Int) - (mn a1 (t185.length : Int)))) + 1)) 0))) = some r := h
  clear h
  replace H := Option.bind_eq_some_iff.mp H
  obtain ⟨t185, A30, H⟩ := H
  replace H : (if (t185.length : Int) = 0 then (some ([] : List ByteArray)) else (near_shingles.l0 k (mn a1 (t185.length : Int)) t185 ([] : List ByteArray) (wrap64 ((wrap64 ((t185.length : Int) - (mn a1 (t185.length : Int)))) + 1)) 0)) = some r := H
  have A3 := Aside0.mk A30
  clear A30
  by_cases c4 : (t185.length : Int) = 0
  · rw [if_pos c4] at H
    have c4b0 : ((t185.length : Int) == 0) = true := beq_iff_eq.mpr c4
    have c4b1 : ((t185.length : Int) != 0) = false := bne_eq_false_iff_eq.mpr c4
    clear c4
    obtain rfl := Option.some.inj H
    go_enter Tryd.func152, Tryd.ntmps152
    go_wp2_with (first | ((with_reducible refine gate_callee (f := 37) rfl ?_); refine goesL_ (some 9) rfl rfl Tryd.func37 (by kernel_rfl) rfl #[.string a0] rfl (by (try simp only [List.map_toArray, List.map_cons, List.map_nil]); first | done | rfl | (simp only [List.length_drop, List.length_take]; rfl)) ?_; (with_reducible refine (near_Words.calls k a0 t185 _ A3.out).mono ?_); rintro e w5 ⟨v186, rfl, ho0, hb⟩; refine ⟨_, rfl, ?_⟩; have n0_ := Aside0.mk (Kd.R_lower ho0 (below_size (by repeat (first | (with_reducible first | exact HB.out | apply below_alloc | apply pw_below_drewN | apply below_drew1) | exact HB.out)))); have n1_ := Aside0.mk (below_step (by repeat (first | (with_reducible first | exact HB.out | apply below_alloc | apply pw_below_drewN | apply below_drew1) | exact HB.out)) hb); clear HB; have HO187 := n0_; have HB := n1_; clear n0_ n1_; (try clear hb); (try clear hb2); (try clear hk); (try clear hi); (try clear ho0); obtain ⟨Ao6, co6, eo6⟩ := Kd.R_slice HO187.out; subst eo6))
    go_ret
    exact ⟨_, by first | rfl | (simp [errW_none, errW_some] <;> rfl) | (simp [*, errW_none, errW_some] <;> rfl), by first | exact Kd.R_nil _ _ _ _ _ | exact Kd.N_nil _ _ _ _ _ | exact Kd.V_nil _ _ _ _ _ | exact Kd.Q_nil _ _ _ _ _ | exact Kd.S_nil _ _ _ _ _, by repeat (first | (with_reducible first | exact HB.out | apply below_alloc | apply pw_below_drewN | apply below_drew1) | exact HB.out)⟩
  · rw [if_neg c4] at H
    have c4b0 : ((t185.length : Int) == 0) = false := beq_eq_false_iff_ne.mpr c4
    have c4b1 : ((t185.length : Int) != 0) = true := bne_iff_ne.mpr c4
    have c4b2 : ¬ (t185 = []) := fun h_ => c4 (by rw [h_]; rfl)
    obtain ⟨ji7, hji7⟩ : ∃ j_ : Int, (mn a1 (t185.length : Int)) = j_ := ⟨_, rfl⟩
    replace H : (near_shingles.l0 k ji7 t185 ([] : List ByteArray) (wrap64 ((wrap64 ((t185.length : Int) - (ji7))) + 1)) 0) = some r := by first | (rw [hji7] at H; exact H) | (simp only [hji7] at H ⊢; exact H)
    (try rw [hji7] at A3)
    have hji7_ : (if (t185.length : Int) < a1 then (t185.length : Int) else a1) = ji7 := hji7
    have H' := Aside0.mk H
    clear H
    go_enter Tryd.func152, Tryd.ntmps152
    go_wp2_with (first | ((with_reducible refine gate_callee (f := 37) rfl ?_); refine goesL_ (some 9) rfl rfl Tryd.func37 (by kernel_rfl) rfl #[.string a0] rfl (by (try simp only [List.map_toArray, List.map_cons, List.map_nil]); first | done | rfl | (simp only [List.length_drop, List.length_take]; rfl)) ?_; (with_reducible refine (near_Words.calls k a0 t185 _ A3.out).mono ?_); rintro e w8 ⟨v186, rfl, ho0, hb⟩; refine ⟨_, rfl, ?_⟩; have n0_ := Aside0.mk (Kd.R_lower ho0 (below_size (by repeat (first | (with_reducible first | exact HB.out | apply below_alloc | apply pw_below_drewN | apply below_drew1) | exact HB.out)))); have n1_ := Aside0.mk (below_step (by repeat (first | (with_reducible first | exact HB.out | apply below_alloc | apply pw_below_drewN | apply below_drew1) | exact HB.out)) hb); clear HB; have HO187 := n0_; have HB := n1_; clear n0_ n1_; (try clear hb); (try clear hb2); (try clear hk); (try clear hi); (try clear ho0); obtain ⟨Ao9, co9, eo9⟩ := Kd.R_slice HO187.out; subst eo9))
    go_loopg [6, 22] k (fun kq v6 v22 w' => ∃ (x6_1 : List ByteArray) (x22_1 : Int), v22 = .int .i64 x22_1 ∧ Aside0 (near_shingles.l0 kq ji7 t185 x6_1 (wrap64 ((wrap64 ((t185.length : Int) - (ji7))) + 1)) x22_1 = some r) ∧ Aside0 (kq ≤ k) ∧ Aside0 (Kd.R Kd.string 9 w' w.heap.size (fun k_ => some k_ ≠ (v6 : Value).ownBlock) (.slice Ao9 t185.length co9) t185) ∧ Aside0 (Kd.R Kd.string 9 w' w.heap.size (fun k_ => some k_ ≠ ((.slice Ao9 t185.length co9) : Value).ownBlock) v6 x6_1) ∧ Aside0 (Below w.heap.size w w'))
    case atStart => exact ⟨(([] : List ByteArray)), (0), (by first | rfl | (simp; done) | (simp [*]; done)), H', ⟨Nat.le_refl _⟩, ⟨by (with_reducible repeat (first | apply Kd.R_alloc | apply Kd.R_drewN | apply Kd.R_drew)); exact Kd.R_mono HO187.out (fun _ hk => (by simp [Value.ownBlock]))⟩, ⟨by first | exact Kd.R_nil _ _ _ _ _ | exact Kd.N_nil _ _ _ _ _ | exact Kd.V_nil _ _ _ _ _ | exact Kd.Q_nil _ _ _ _ _ | exact Kd.S_nil _ _ _ _ _⟩, ⟨by repeat (first | (with_reducible first | exact HB.out | apply below_alloc | apply pw_below_drewN | apply below_drew1) | exact HB.out)⟩⟩
    case round =>
      clear H'
      try clear c1
      try clear p2
      try clear c3
      try clear c4
      try clear c4b0
      try clear c4b1
      try clear c4b2
      try clear p6
      obtain ⟨x6_1, x22_1, rfl, HA, HK1, HO_5, HO_6, HB⟩ := hrel
      cases gk with
      | zero => exact absurd HA.out (by simp [near_shingles.l0])
      | succ k1 =>
        have H := HA.out
        clear HA
        simp only [near_shingles.l0] at H
        by_cases c10 : x22_1 < (wrap64 ((wrap64 ((t185.length : Int) - (ji7))) + 1))
        · rw [if_pos c10] at H
          have c10b0 : decide (x22_1 < (wrap64 ((wrap64 ((t185.length : Int) - (ji7))) + 1))) = true := decide_eq_true c10
          clear c10
          by_cases c11 : 0 ≤ x22_1
          · rw [if_pos c11] at H
            have c11b0 := eq_true c11
            have c11b1 : decide (0 ≤ x22_1) = true := decide_eq_true c11
            clear c11
            by_cases c12 : x22_1 ≤ (wrap64 (x22_1 + ji7))
            · rw [if_pos c12] at H
              have c12b0 := eq_true c12
              have c12b1 : decide (x22_1 ≤ (wrap64 (x22_1 + ji7))) = true := decide_eq_true c12
              by_cases c13 : (wrap64 (x22_1 + ji7)) ≤ (t185.length : Int)
              · rw [if_pos c13] at H
                have c13b0 := eq_true c13
                have c13b1 : decide ((wrap64 (x22_1 + ji7)) ≤ (t185.length : Int)) = true := decide_eq_true c13
                obtain ⟨y188, hy188⟩ : ∃ y_ : List ByteArray, y_ = ((t185.take ((wrap64 (x22_1 + ji7)) : Int).toNat).drop (x22_1 : Int).toNat) := ⟨_, rfl⟩
                replace H : ((strings_Join.f y188 (⟨#[32]⟩ : ByteArray)).bind fun t192 => (if x6_1.length < 8796093022208 then (near_shingles.l0 k1 ji7 t185 (x6_1 ++ [t192]) (wrap64 ((wrap64 ((t185.length : Int) - (ji7))) + 1)) (wrap64 (x22_1 + 1))) else (none))) = some r := by first | (rw [hy188]; with_reducible exact H) | (have H2_ := (Option.bind_some _ _).symm.trans H; rw [hy188]; with_reducible exact H2_) | (have H2_ := (Option.bind_some _ _).symm.trans H; with_reducible exact H2_) | with_reducible exact H | (rw [hy188]; exact H) | exact H
                have Ny188 := Aside0.mk hy188
                clear hy188
                replace H := Option.bind_eq_some_iff.mp H
                obtain ⟨t192, A140, H⟩ := H
                replace H : (if x6_1.length < 8796093022208 then (near_shingles.l0 k1 ji7 t185 (x6_1 ++ [t192]) (wrap64 ((wrap64 ((t185.length : Int) - (ji7))) + 1)) (wrap64 (x22_1 + 1))) else (none)) = some r := H
                have A14 := Aside0.mk A140
                clear A140
                by_cases c15 : x6_1.length < 8796093022208
                · rw [if_pos c15] at H
                  have LMc15 := Aside0.mk c15
                  clear c15
                  obtain ⟨y193, hy193⟩ : ∃ y_ : List ByteArray, y_ = (x6_1 ++ [t192]) := ⟨_, rfl⟩
                  replace H : (near_shingles.l0 k1 ji7 t185 y193 (wrap64 ((wrap64 ((t185.length : Int) - (ji7))) + 1)) (wrap64 (x22_1 + 1))) = some r := by first | (rw [hy193]; with_reducible exact H) | (have H2_ := (Option.bind_some _ _).symm.trans H; rw [hy193]; with_reducible exact H2_) | (have H2_ := (Option.bind_some _ _).symm.trans H; with_reducible exact H2_) | with_reducible exact H | (rw [hy193]; exact H) | exact H
                  have Ny193 := Aside0.mk hy193
                  clear hy193
                  have H' := Aside0.mk H
                  clear H
                  have q16 : ((wrap64 (x22_1 + ji7)) : Int) ≤ ((t185.length : Int) : Int) := of_decide_eq_true (by first | (with_reducible assumption) | assumption)
                  obtain ⟨i016, hi016, _, hsz16, _⟩ := info_parts info9
                  have hroom16 : t185.length ≤ co9 := (Kd.R_reads' HO_5.out).2.1
                  have hC16 : Kd.C Kd.string _ Ao9 t185.length t185 := (Kd.R_reads' HO_5.out).2.2
                  have ql16 : (x22_1 : Int) ≤ ((wrap64 (x22_1 + ji7)) : Int) := of_decide_eq_true (by first | (with_reducible assumption) | assumption)
                  have q016 : (0 : Int) ≤ (x22_1 : Int) := of_decide_eq_true (by first | (with_reducible assumption) | assumption)
                  have hcut16 := cut_mid (P := Tryd.prog) 26 9 .i64 .i64 Tryd.underlying26 hi016 1 hsz16 Ao9 t185.length co9 x22_1 (wrap64 (x22_1 + ji7)) q016 ql16 q16 hroom16
                  have hr16 := Kd.C_mid (lo := (x22_1 : Int).toNat) (hi := ((wrap64 (x22_1 + ji7)) : Int).toNat) (c := co9) hC16 (by omega) (by omega) hroom16
                  obtain ⟨A16, hA16⟩ : ∃ A1, A1 = (if co9 = (x22_1 : Int).toNat then Ao9 else (Ao9 : Option Addr).map (·.add ((x22_1 : Int).toNat * 1))) := ⟨_, rfl⟩
                  obtain ⟨c16, hc16⟩ : ∃ c1, c1 = co9 - (x22_1 : Int).toNat := ⟨_, rfl⟩
                  have hy16 : y188.length = ((wrap64 (x22_1 + ji7)) : Int).toNat - (x22_1 : Int).toNat := (by rw [Ny188.out, List.length_drop, List.length_take] <;> omega)
                  rw [show ((t185).take ((wrap64 (x22_1 + ji7)) : Int).toNat).drop (x22_1 : Int).toNat = y188 from Ny188.out.symm] at hr16
                  replace hr16 : Kd.C Kd.string _ A16 y188.length y188 := (by rw [hA16]; exact hr16)
                  rw [← hy16, ← hA16, ← hc16] at hcut16
                  have HR191 := Aside0.mk hr16
                  have HC191 := Aside0.mk (show y188.length ≤ c16 from by rw [hy16, hc16]; exact Nat.sub_le_sub_right (Nat.le_trans (by omega) hroom16) _)
                  clear hr16 hC16 hroom16 hi016 hsz16 hc16
                  have KY16 := Aside0.mk hy16
                  have KA16 := Aside0.mk hA16
                  clear hy16 hA16
                  have KL16 := Aside0.mk (show ((wrap64 (x22_1 + ji7)) : Int).toNat ≤ t185.length from by omega)
                  have KM16 := Aside0.mk (show (x22_1 : Int).toNat ≤ ((wrap64 (x22_1 + ji7)) : Int).toNat from by omega)
                  replace q16 := eq_true q16
                  go_wp2_with (first | ((with_reducible refine gate_callee (f := 77) rfl ?_); refine goesL_ (some 32) rfl rfl Tryd.func77 (by kernel_rfl) rfl #[.slice A16 y188.length c16, .string (⟨#[32]⟩ : ByteArray)] rfl (by (try simp only [List.map_toArray, List.map_cons, List.map_nil]); first | done | rfl | (simp only [List.length_drop, List.length_take]; rfl)) ?_; (with_reducible refine (strings_Join.calls _ _ y188 (⟨#[32]⟩ : ByteArray) t192 _ ?side1 ?side2 A14.out).mono ?_); (case side1 => repeat (first | exact (by repeat (first | (with_reducible exact HR191.out) | (with_reducible refine Kd.C_alloc ?_ _) | (with_reducible refine Kd.C_drewN ?_ _) | (with_reducible refine Kd.C_drew ?_) | exact HR191.out)) | (with_reducible refine Kd.C_alloc ?_ _) | (with_reducible refine Kd.C_drewN ?_ _) | (with_reducible refine Kd.C_drew ?_))); (case side2 => exact HC191.out); rintro e w17 ⟨rfl, hb⟩; refine ⟨_, rfl, ?_⟩; have n0_ := Aside0.mk (Kd.R_below (by (with_reducible repeat (first | apply Kd.R_alloc | apply Kd.R_drewN | apply Kd.R_drew)); exact HO_5.out) hb); have n1_ := Aside0.mk (Kd.R_below (by (with_reducible repeat (first | apply Kd.R_alloc | apply Kd.R_drewN | apply Kd.R_drew)); exact HO_6.out) hb); have n2_ := Aside0.mk (Kd.C_below (by repeat (first | (with_reducible exact HR191.out) | (with_reducible refine Kd.C_alloc ?_ _) | (with_reducible refine Kd.C_drewN ?_ _) | (with_reducible refine Kd.C_drew ?_) | exact HR191.out)) hb); have n3_ := Aside0.mk (below_step (by repeat (first | (with_reducible first | exact HB.out | apply below_alloc | apply pw_below_drewN | apply below_drew1) | exact HB.out)) hb); clear HO_5; clear HO_6; clear HR191; clear HB; have HO_5 := n0_; have HO_6 := n1_; have HR191 := n2_; have HB := n3_; clear n0_ n1_ n2_ n3_; (try clear hb); (try clear hb2); (try clear hk); (try clear hi)) | ((with_reducible refine gate_builtin (b := .append) (xs := #[.tmp 25, .tmp 33]) rfl ?_); at_builtin; refine Kd.R_append Kd.string (w0 := w) w.heap.size rfl (.tmp 25) (.tmp 33) 26 9 (.string ⟨#[]⟩) 16 rfl Tryd.underlying26 info9 rfl (by decide) (by omega) u6 x6_1 t192 [.string t192] (fun k_ => some k_ ≠ (.slice Ao9 t185.length co9 : Value).ownBlock) (fun _ => False) rfl rfl ?aP (fun _ hk => hk.elim) ?aF ?aO ?aB ?aS ?aL ?_; (case aP => exact rfl); (case aB => exact (by repeat (first | (with_reducible first | exact HB.out | apply below_alloc | apply pw_below_drewN | apply below_drew1) | exact HB.out))); (case aF => exact (fun k_ hk => Kd.fresh' (Kd.R_lt (by (with_reducible repeat (first | apply Kd.R_alloc | apply Kd.R_drewN | apply Kd.R_drew)); exact HO_5.out)) k_ hk)); (case aO => exact (by (with_reducible repeat (first | apply Kd.R_alloc | apply Kd.R_drewN | apply Kd.R_drew)); exact HO_6.out)); (case aS => exact (below_size (by repeat (first | (with_reducible first | exact HB.out | apply below_alloc | apply pw_below_drewN | apply below_drew1) | exact HB.out)))); (case aL => have := LMc15.out; omega); intro v194 w18 ho hb hg hat; rw [← Ny193.out] at ho; have n0_ := Aside0.mk (Kd.R_after (ok := (fun _ => True)) (by (with_reducible repeat (first | apply Kd.R_alloc | apply Kd.R_drewN | apply Kd.R_drew)); exact Kd.R_mono HO_5.out (fun _ hk => ⟨trivial, hk⟩)) hg hat); have n1_ := Aside0.mk (hb); have n2_ := Aside0.mk ((show Kd.C Kd.string w18 A16 y188.length y188 from by rw [Ny188.out, KA16.out]; exact Kd.C_mid (lo := (x22_1 : Int).toNat) (hi := ((wrap64 (x22_1 + ji7)) : Int).toNat) (c := co9) ((Kd.R_reads' (Kd.R_after (ok := (fun _ => True)) (by (with_reducible repeat (first | apply Kd.R_alloc | apply Kd.R_drewN | apply Kd.R_drew)); exact Kd.R_mono HO_5.out (fun _ hk => ⟨trivial, hk⟩)) hg hat)).2.2) KM16.out KL16.out ((Kd.R_reads' (Kd.R_after (ok := (fun _ => True)) (by (with_reducible repeat (first | apply Kd.R_alloc | apply Kd.R_drewN | apply Kd.R_drew)); exact Kd.R_mono HO_5.out (fun _ hk => ⟨trivial, hk⟩)) hg hat)).2.1))); have n3_ := Aside0.mk (ho); clear HO_5; clear HB; clear HR191; clear HO_6; have HO_5 := n0_; have HB := n1_; have HR191 := n2_; have HO195 := n3_; clear n0_ n1_ n2_ n3_; clear ho hb hg hat))
                  go_roundg k1
                  case measure => have := HK1.out; omega
                  case rel => exact ⟨(y193), (wrap64 (x22_1 + 1)), (by first | rfl | (simp; done) | (simp [*]; done)), H', ⟨by have := HK1.out; omega⟩, ⟨by (with_reducible repeat (first | apply Kd.R_alloc | apply Kd.R_drewN | apply Kd.R_drew)); exact Kd.R_mono HO_5.out (fun _ hk => hk.2)⟩, ⟨by (with_reducible repeat (first | apply Kd.R_alloc | apply Kd.R_drewN | apply Kd.R_drew)); exact HO195.out⟩, ⟨by repeat (first | (with_reducible first | exact HB.out | apply below_alloc | apply pw_below_drewN | apply below_drew1) | exact HB.out)⟩⟩
                · rw [if_neg c15] at H
                  exact absurd H (by simp)
              · rw [if_neg c13] at H
                exact absurd H (by simp)
            · rw [if_neg c12] at H
              exact absurd H (by simp)
          · rw [if_neg c11] at H
            exact absurd H (by simp)
        · rw [if_neg c10] at H
          have c10b0 : decide (x22_1 < (wrap64 ((wrap64 ((t185.length : Int) - (ji7))) + 1))) = false := decide_eq_false c10
          clear c10
          replace H := Option.bind_eq_some_iff.mp H
          obtain ⟨t196, A190, H⟩ := H
          replace H : ((slices_Compact_string_string.f t196).bind fun t197 => (some t197)) = some r := H
          have A19 := Aside0.mk A190
          clear A190
          replace H := Option.bind_eq_some_iff.mp H
          obtain ⟨t197, A200, H⟩ := H
          replace H : (some t197) = some r := H
          have A20 := Aside0.mk A200
          clear A200
          obtain rfl := Option.some.inj H
          obtain ⟨Ao21, co21, eo21⟩ := Kd.R_slice HO_6.out
          subst eo21
          go_wp2_with (first | ((with_reducible refine gate_callee (f := 178) rfl ?_); refine goesL_ (some 37) rfl rfl Tryd.func178 (by kernel_rfl) rfl #[.slice Ao21 x6_1.length co21] rfl (by (try simp only [List.map_toArray, List.map_cons, List.map_nil]); first | done | rfl | (simp only [List.length_drop, List.length_take]; rfl)) ?_; (with_reducible refine (slices_Sort_string_string.calls (fun k_ => some k_ = (.slice Ao21 x6_1.length co21 : Value).ownBlock) (.slice Ao21 x6_1.length co21) x6_1 t196 w _ ?side1 ?side2 A19.out).mono ?_); (case side1 => repeat (first | (with_reducible first | exact HB.out | apply below_alloc | apply pw_below_drewN | apply below_drew1) | exact HB.out)); (case side2 => exact Kd.R_tight rfl HO_6.out); rintro e w22 ⟨rfl, hy0, hb, hkp⟩; refine ⟨_, rfl, ?_⟩; have n0_ := Aside0.mk (Kd.R_mono (ok' := fun k_ => some k_ ≠ (.slice Ao21 x6_1.length co21 : Value).ownBlock) (Kd.R_keptB (HO_5.out) hkp (fun k_ hk_ hs_ => (hk_) hs_)) (fun k_ hk_ => hk_.1)); have n1_ := Aside0.mk (Kd.R_reok rfl hy0 (fun k_ e_ => HO_6.out.1 k_ e_)); have n2_ := Aside0.mk (hb); clear HO_5; clear HO_6; clear HB; have HO_5 := n0_; have HO_6 := n1_; have HB := n2_; clear n0_ n1_ n2_; (try clear hb); (try clear hkp); (try clear hy0)) | ((with_reducible refine gate_callee (f := 179) rfl ?_); refine goesL_ (some 39) rfl rfl Tryd.func179 (by kernel_rfl) rfl #[.slice Ao21 x6_1.length co21] rfl (by (try simp only [List.map_toArray, List.map_cons, List.map_nil]); first | done | rfl | (simp only [List.length_drop, List.length_take]; rfl)) ?_; (with_reducible refine (slices_Compact_string_string.calls (fun k_ => some k_ = (.slice Ao21 x6_1.length co21 : Value).ownBlock) (.slice Ao21 x6_1.length co21) t196 t197 w _ ?side1 ?side2 A20.out).mono ?_); (case side1 => repeat (first | (with_reducible first | exact HB.out | apply below_alloc | apply pw_below_drewN | apply below_drew1) | exact HB.out)); (case side2 => exact Kd.R_tight rfl HO_6.out); rintro e w23 ⟨v198, rfl, ho0, hb, hkp⟩; refine ⟨_, rfl, ?_⟩; have n0_ := Aside0.mk (Kd.R_mono (ok' := fun k_ => some k_ ≠ (v198 : Value).ownBlock) (Kd.R_keptB (HO_5.out) hkp (fun k_ hk_ hs_ => (hk_) hs_)) (fun k_ hk_ => fun e_ => Or.elim (ho0.1 k_ e_.symm) (fun hs_ => hk_.2.1 hs_) (fun hn_ => Nat.not_le.2 hk_.2.2 hn_))); have n1_ := Aside0.mk (Kd.R_mono (ok' := fun k_ => some k_ ≠ (.slice Ao9 t185.length co9 : Value).ownBlock) ho0 (fun k_ hk_ => Or.elim hk_ (fun hs_ => fun e_ => (((HO_5.out).1 k_ e_.symm)) hs_) (fun hn_ => (Kd.fresh' (Kd.R_lt (by (with_reducible repeat (first | apply Kd.R_alloc | apply Kd.R_drewN | apply Kd.R_drew)); exact HO_5.out)) k_ hn_)))); have n2_ := Aside0.mk (hb); clear HO_5; clear HB; clear HO_6; have HO_5 := n0_; have HO199 := n1_; have HB := n2_; clear n0_ n1_ n2_; (try clear hb); (try clear hkp); (try clear ho0)))
          go_ret
          exact ⟨_, by first | rfl | (simp [errW_none, errW_some] <;> rfl) | (simp only [← hji7]; first | rfl | (simp [errW_none, errW_some] <;> rfl)) | (simp [*, errW_none, errW_some] <;> rfl), by (with_reducible repeat (first | apply Kd.R_alloc | apply Kd.R_drewN | apply Kd.R_drew)); exact Kd.R_mono HO199.out (fun _ hk => trivial), by repeat (first | (with_reducible first | exact HB.out | apply below_alloc | apply pw_below_drewN | apply below_drew1) | exact HB.out)⟩
def near_Shingles.f (k : Nat) (a0 : ByteArray) (a1 : Int) : Option (List ByteArray × Int) := (near_large.f a0).bind fun t200 => ((near_kError.f a1).bind fun t201 => ((base_First.f k (([t200, t201] : List Int))).bind fun t205 => (if t205 = 0 then ((near_shingles.f k a0 a1).bind fun t206 => (some (t206, 0))) else (some (([] : List ByteArray), t205)))))
theorem near_Shingles.mono : ∀ a0 a1 k, LeO (near_Shingles.f k a0 a1) (near_Shingles.f (k + 1) a0 a1) := by
  intro a0 a1 k
  unfold near_Shingles.f
  repeat' first
      | (with_reducible exact base_First.mono _ _)
      | (with_reducible exact near_shingles.mono _ _ _)
      | (with_reducible exact LeO.refl _)
      | (with_reducible exact LeO.none _)
      | (with_reducible refine LeO.ite ?_ ?_)
      | (with_reducible refine LeO.bind ?_ (fun _ => ?_))
      | exact base_First.mono _ _
      | exact near_shingles.mono _ _ _
      | exact LeO.none _
      | refine LeO.ite ?_ ?_
      | refine LeO.bind ?_ (fun _ => ?_)
set_option maxHeartbeats 8000000 in
set_option maxRecDepth 100000 in
theorem near_Shingles.calls (k : Nat) (a0 : ByteArray) (a1 : Int) (r1 : List ByteArray) (r2 : Int) (w : World) (h : near_Shingles.f k a0 a1 = some (r1, r2)) :
    Calls Tryd.prog 104 #[.string a0, .int .i64 a1] w fun e w' => ∃ v0_ : Value, e = .returned (.tuple #[v0_, .int .i64 r2]) ∧ Kd.R Kd.string 9 w' w.heap.size (fun _ => True) v0_ r1 ∧ Below w.heap.size w w' := by
  have HB := Aside0.mk (Below.refl w.heap.size w)
  have H : ((near_large.f a0).bind fun t200 => ((near_kError.f a1).bind fun t201 => ((base_First.f k (([t200, t201] : List Int))).bind fun t205 => (if t205 = 0 then ((near_shingles.f k a0 a1).bind fun t206 => (some (t206, 0))) else (some (([] : List ByteArray), t205)))))) = some (r1, r2) := h
  clear h
  replace H := Option.bind_eq_some_iff.mp H
  obtain ⟨t200, A30, H⟩ := H
  replace H : ((near_kError.f a1).bind fun t201 => ((base_First.f k (([t200, t201] : List Int))).bind fun t205 => (if t205 = 0 then ((near_shingles.f k a0 a1).bind fun t206 => (some (t206, 0))) else (some (([] : List ByteArray), t205))))) = some (r1, r2) := H
  have A3 := Aside0.mk A30
  clear A30
  replace H := Option.bind_eq_some_iff.mp H
  obtain ⟨t201, A40, H⟩ := H
  replace H : ((base_First.f k (([t200, t201] : List Int))).bind fun t205 => (if t205 = 0 then ((near_shingles.f k a0 a1).bind fun t206 => (some (t206, 0))) else (some (([] : List ByteArray), t205)))) = some (r1, r2) := H
  have A4 := Aside0.mk A40
  clear A40
  obtain ⟨y202, hy202⟩ : ∃ y_ : List Int, y_ = (([t200, t201] : List Int)) := ⟨_, rfl⟩
  replace H : ((base_First.f k y202).bind fun t205 => (if t205 = 0 then ((near_shingles.f k a0 a1).bind fun t206 => (some (t206, 0))) else (some (([] : List ByteArray), t205)))) = some (r1, r2) := by first | (rw [hy202]; with_reducible exact H) | (have H2_ := (Option.bind_some _ _).symm.trans H; rw [hy202]; with_reducible exact H2_) | (have H2_ := (Option.bind_some _ _).symm.trans H; with_reducible exact H2_) | with_reducible exact H | (rw [hy202]; exact H) | exact H
  have Ny202 := Aside0.mk hy202
  clear hy202
  replace H := Option.bind_eq_some_iff.mp H
  obtain ⟨t205, A50, H⟩ := H
  replace H : (if t205 = 0 then ((near_shingles.f k a0 a1).bind fun t206 => (some (t206, 0))) else (some (([] : List ByteArray), t205))) = some (r1, r2) := H
  have A5 := Aside0.mk A50
  clear A50
  by_cases c6 : t205 = 0
  · rw [if_pos c6] at H
    have c6b0 : (t205 == 0) = true := beq_iff_eq.mpr c6
    have c6b1 : (t205 != 0) = false := bne_eq_false_iff_eq.mpr c6
    clear c6
    replace H := Option.bind_eq_some_iff.mp H
    obtain ⟨t206, A70, H⟩ := H
    replace H : (some (t206, 0)) = some (r1, r2) := H
    have A7 := Aside0.mk A70
    clear A70
    simp only [Option.some.injEq, Prod.mk.injEq] at H
    obtain ⟨rfl, rfl⟩ := H
    go_enter Tryd.func104, Tryd.ntmps104
    go_wp2_with (first | ((with_reducible refine gate_callee (f := 150) rfl ?_); refine goesL_ (some 8) rfl rfl Tryd.func150 (by kernel_rfl) rfl #[.string a0] rfl (by (try simp only [List.map_toArray, List.map_cons, List.map_nil]); first | done | rfl | (simp only [List.length_drop, List.length_take]; rfl)) ?_; (with_reducible refine (near_large.calls a0 t200 _ A3.out).mono ?_); rintro e w' ⟨rfl, ⟨nd, rfl⟩⟩; refine ⟨_, rfl, ?_⟩) | ((with_reducible refine gate_callee (f := 151) rfl ?_); refine goesL_ (some 10) rfl rfl Tryd.func151 (by kernel_rfl) rfl #[.int .i64 a1] rfl (by (try simp only [List.map_toArray, List.map_cons, List.map_nil]); first | done | rfl | (simp only [List.length_drop, List.length_take]; rfl)) ?_; (with_reducible refine (near_kError.calls a1 t201 _ A4.out).mono ?_); rintro e w' ⟨rfl, ⟨nd, rfl⟩⟩; refine ⟨_, rfl, ?_⟩) | ((with_reducible refine gate_dst (N := 11) rfl ?_); refine Kd.R_lit (Kd.int .i64) _ 29 ?hg (N := 11) ?hd (xs := ([t200, t201] : List Int)) (inner := [.int .i64 t200, .int .i64 t201]) (ok := fun _ => True) (okp := fun _ => True) ?hr ?hp (fun _ hk => hk) trivial (Below.refl _ _) (Nat.le_refl _) (by simp) ?_; (case hd => rfl); (case hg => rfl); (case hr => first | (go_simp; done) | (go_simp; rfl)); (case hp => exact (Reps.one (show Kd.M (Kd.int .i64) _ _ _ t200 [.int .i64 t200] from rfl) (Reps.one (show Kd.M (Kd.int .i64) _ _ _ t201 [.int .i64 t201] from rfl) (Reps.none _ _)))); intro v203 w8 ho9 hb hg_ hnew_; clear hg_ hnew_; (first | rw [← Ny202.out] at ho9 | (simp only [Int.reduceToNat] at ho9; rw [← Ny202.out] at ho9)); have n0_ := Aside0.mk (Kd.R_lower ho9 (below_size (by repeat (first | (with_reducible first | exact HB.out | apply below_alloc | apply pw_below_drewN | apply below_drew1) | exact HB.out)))); have n1_ := Aside0.mk (below_step (by repeat (first | (with_reducible first | exact HB.out | apply below_alloc | apply pw_below_drewN | apply below_drew1) | exact HB.out)) hb); clear HB; have HO204 := n0_; have HB := n1_; clear n0_ n1_; clear hb ho9; obtain ⟨Ao10, co10, eo10⟩ := Kd.R_slice HO204.out; subst eo10) | ((with_reducible refine gate_callee (f := 80) rfl ?_); refine goesL_ (some 12) rfl rfl Tryd.func80 (by kernel_rfl) rfl #[.slice Ao10 y202.length co10] rfl (by (try simp only [List.map_toArray, List.map_cons, List.map_nil]); first | done | rfl | (simp only [List.length_drop, List.length_take]; rfl)) ?_; (with_reducible refine (base_First.calls k _ _ y202 t205 _ ?side1 ?side2 A5.out).mono ?_); (case side1 => repeat (first | exact (Kd.R_reads' HO204.out).2.2 | (with_reducible refine Kd.C_alloc ?_ _) | (with_reducible refine Kd.C_drewN ?_ _) | (with_reducible refine Kd.C_drew ?_))); (case side2 => exact (Kd.R_reads' HO204.out).2.1); rintro e w' ⟨rfl, ⟨nd, rfl⟩⟩; refine ⟨_, rfl, ?_⟩) | ((with_reducible refine gate_callee (f := 152) rfl ?_); refine goesL_ (some 18) rfl rfl Tryd.func152 (by kernel_rfl) rfl #[.string a0, .int .i64 a1] rfl (by (try simp only [List.map_toArray, List.map_cons, List.map_nil]); first | done | rfl | (simp only [List.length_drop, List.length_take]; rfl)) ?_; (with_reducible refine (near_shingles.calls k a0 a1 t206 _ A7.out).mono ?_); rintro e w11 ⟨v207, rfl, ho0, hb⟩; refine ⟨_, rfl, ?_⟩; have n0_ := Aside0.mk (Kd.R_below (by (with_reducible repeat (first | apply Kd.R_alloc | apply Kd.R_drewN | apply Kd.R_drew)); exact HO204.out) hb); have n1_ := Aside0.mk (Kd.R_lower ho0 (below_size (by repeat (first | (with_reducible first | exact HB.out | apply below_alloc | apply pw_below_drewN | apply below_drew1) | exact HB.out)))); have n2_ := Aside0.mk (below_step (by repeat (first | (with_reducible first | exact HB.out | apply below_alloc | apply pw_below_drewN | apply below_drew1) | exact HB.out)) hb); clear HO204; clear HB; have HO204 := n0_; have HO208 := n1_; have HB := n2_; clear n0_ n1_ n2_; (try clear hb); (try clear hb2); (try clear hk); (try clear hi); (try clear ho0)))
    go_ret2
    exact ⟨_, by first | rfl | (simp [errW_none, errW_some] <;> rfl) | (simp [*, errW_none, errW_some] <;> rfl), by (with_reducible repeat (first | apply Kd.R_alloc | apply Kd.R_drewN | apply Kd.R_drew)); exact HO208.out, by repeat (first | (with_reducible first | exact HB.out | apply below_alloc | apply pw_below_drewN | apply below_drew1) | exact HB.out)⟩
  · rw [if_neg c6] at H
    have c6b0 : (t205 == 0) = false := beq_eq_false_iff_ne.mpr c6
    have c6b1 : (t205 != 0) = true := bne_iff_ne.mpr c6
    simp only [Option.some.injEq, Prod.mk.injEq] at H
    obtain ⟨rfl, rfl⟩ := H
    go_enter Tryd.func104, Tryd.ntmps104
    go_wp2_with (first | ((with_reducible refine gate_callee (f := 150) rfl ?_); refine goesL_ (some 8) rfl rfl Tryd.func150 (by kernel_rfl) rfl #[.string a0] rfl (by (try simp only [List.map_toArray, List.map_cons, List.map_nil]); first | done | rfl | (simp only [List.length_drop, List.length_take]; rfl)) ?_; (with_reducible refine (near_large.calls a0 t200 _ A3.out).mono ?_); rintro e w' ⟨rfl, ⟨nd, rfl⟩⟩; refine ⟨_, rfl, ?_⟩) | ((with_reducible refine gate_callee (f := 151) rfl ?_); refine goesL_ (some 10) rfl rfl Tryd.func151 (by kernel_rfl) rfl #[.int .i64 a1] rfl (by (try simp only [List.map_toArray, List.map_cons, List.map_nil]); first | done | rfl | (simp only [List.length_drop, List.length_take]; rfl)) ?_; (with_reducible refine (near_kError.calls a1 t201 _ A4.out).mono ?_); rintro e w' ⟨rfl, ⟨nd, rfl⟩⟩; refine ⟨_, rfl, ?_⟩) | ((with_reducible refine gate_dst (N := 11) rfl ?_); refine Kd.R_lit (Kd.int .i64) _ 29 ?hg (N := 11) ?hd (xs := ([t200, t201] : List Int)) (inner := [.int .i64 t200, .int .i64 t201]) (ok := fun _ => True) (okp := fun _ => True) ?hr ?hp (fun _ hk => hk) trivial (Below.refl _ _) (Nat.le_refl _) (by simp) ?_; (case hd => rfl); (case hg => rfl); (case hr => first | (go_simp; done) | (go_simp; rfl)); (case hp => exact (Reps.one (show Kd.M (Kd.int .i64) _ _ _ t200 [.int .i64 t200] from rfl) (Reps.one (show Kd.M (Kd.int .i64) _ _ _ t201 [.int .i64 t201] from rfl) (Reps.none _ _)))); intro v203 w12 ho13 hb hg_ hnew_; clear hg_ hnew_; (first | rw [← Ny202.out] at ho13 | (simp only [Int.reduceToNat] at ho13; rw [← Ny202.out] at ho13)); have n0_ := Aside0.mk (Kd.R_lower ho13 (below_size (by repeat (first | (with_reducible first | exact HB.out | apply below_alloc | apply pw_below_drewN | apply below_drew1) | exact HB.out)))); have n1_ := Aside0.mk (below_step (by repeat (first | (with_reducible first | exact HB.out | apply below_alloc | apply pw_below_drewN | apply below_drew1) | exact HB.out)) hb); clear HB; have HO204 := n0_; have HB := n1_; clear n0_ n1_; clear hb ho13; obtain ⟨Ao14, co14, eo14⟩ := Kd.R_slice HO204.out; subst eo14) | ((with_reducible refine gate_callee (f := 80) rfl ?_); refine goesL_ (some 12) rfl rfl Tryd.func80 (by kernel_rfl) rfl #[.slice Ao14 y202.length co14] rfl (by (try simp only [List.map_toArray, List.map_cons, List.map_nil]); first | done | rfl | (simp only [List.length_drop, List.length_take]; rfl)) ?_; (with_reducible refine (base_First.calls k _ _ y202 t205 _ ?side1 ?side2 A5.out).mono ?_); (case side1 => repeat (first | exact (Kd.R_reads' HO204.out).2.2 | (with_reducible refine Kd.C_alloc ?_ _) | (with_reducible refine Kd.C_drewN ?_ _) | (with_reducible refine Kd.C_drew ?_))); (case side2 => exact (Kd.R_reads' HO204.out).2.1); rintro e w' ⟨rfl, ⟨nd, rfl⟩⟩; refine ⟨_, rfl, ?_⟩))
    go_ret2
    exact ⟨_, by first | rfl | (simp [errW_none, errW_some] <;> rfl) | (simp [*, errW_none, errW_some] <;> rfl), by first | exact Kd.R_nil _ _ _ _ _ | exact Kd.N_nil _ _ _ _ _ | exact Kd.V_nil _ _ _ _ _ | exact Kd.Q_nil _ _ _ _ _ | exact Kd.S_nil _ _ _ _ _, by repeat (first | (with_reducible first | exact HB.out | apply below_alloc | apply pw_below_drewN | apply below_drew1) | exact HB.out)⟩
def chaselaw1_nears.f (k : Nat)  : Option (Bool) := (near_Shingles.f k (⟨#[97, 32, 98, 32, 99]⟩ : ByteArray) 2).bind fun bt209 => (if bt209.2 = 0 then ((slices_Equal_string_string.f k bt209.1 (([(⟨#[97, 32, 98]⟩ : ByteArray), (⟨#[98, 32, 99]⟩ : ByteArray)] : List ByteArray))).bind fun t216 => (some t216)) else (some false))
theorem chaselaw1_nears.mono : ∀ k, LeO (chaselaw1_nears.f k ) (chaselaw1_nears.f (k + 1) ) := by
  intro  k
  unfold chaselaw1_nears.f
  repeat' first
      | (with_reducible exact near_Shingles.mono _ _ _)
      | (with_reducible exact slices_Equal_string_string.mono _ _ _)
      | (with_reducible exact LeO.refl _)
      | (with_reducible exact LeO.none _)
      | (with_reducible refine LeO.ite ?_ ?_)
      | (with_reducible refine LeO.bind ?_ (fun _ => ?_))
      | exact near_Shingles.mono _ _ _
      | exact slices_Equal_string_string.mono _ _ _
      | exact LeO.none _
      | refine LeO.ite ?_ ?_
      | refine LeO.bind ?_ (fun _ => ?_)
set_option maxHeartbeats 8000000 in
set_option maxRecDepth 100000 in
theorem chaselaw1_nears.calls (k : Nat)  (r : Bool) (w : World) (h : chaselaw1_nears.f k  = some r) :
    Calls Tryd.prog 42 #[] w fun e w' => e = .returned (.bool r) ∧ Below w.heap.size w w' := by
  have HB := Aside0.mk (Below.refl w.heap.size w)
  have H : ((near_Shingles.f k (⟨#[97, 32, 98, 32, 99]⟩ : ByteArray) 2).bind fun bt209 => (if bt209.2 = 0 then ((slices_Equal_string_string.f k bt209.1 (([(⟨#[97, 32, 98]⟩ : ByteArray), (⟨#[98, 32, 99]⟩ : ByteArray)] : List ByteArray))).bind fun t216 => (some t216)) else (some false))) = some r := h
  clear h
  replace H := Option.bind_eq_some_iff.mp H
  obtain ⟨⟨t209, t210⟩, A10, H⟩ := H
  replace H : (if t210 = 0 then ((slices_Equal_string_string.f k t209 (([(⟨#[97, 32, 98]⟩ : ByteArray), (⟨#[98, 32, 99]⟩ : ByteArray)] : List ByteArray))).bind fun t216 => (some t216)) else (some false)) = some r := H
  have A1 := Aside0.mk A10
  clear A10
  by_cases c2 : t210 = 0
  · rw [if_pos c2] at H
    have c2b0 : (t210 == 0) = true := beq_iff_eq.mpr c2
    have c2b1 : (t210 != 0) = false := bne_eq_false_iff_eq.mpr c2
    clear c2
    obtain ⟨y213, hy213⟩ : ∃ y_ : List ByteArray, y_ = (([(⟨#[97, 32, 98]⟩ : ByteArray), (⟨#[98, 32, 99]⟩ : ByteArray)] : List ByteArray)) := ⟨_, rfl⟩
    replace H : ((slices_Equal_string_string.f k t209 y213).bind fun t216 => (some t216)) = some r := by first | (rw [hy213]; with_reducible exact H) | (have H2_ := (Option.bind_some _ _).symm.trans H; rw [hy213]; with_reducible exact H2_) | (have H2_ := (Option.bind_some _ _).symm.trans H; with_reducible exact H2_) | with_reducible exact H | (rw [hy213]; exact H) | exact H
    have Ny213 := Aside0.mk hy213
    clear hy213
    replace H := Option.bind_eq_some_iff.mp H
    obtain ⟨t216, A30, H⟩ := H
    replace H : (some t216) = some r := H
    have A3 := Aside0.mk A30
    clear A30
    obtain rfl := Option.some.inj H
    go_enter Tryd.func42, Tryd.ntmps42
    go_wp2_with (first | ((with_reducible refine gate_callee (f := 104) rfl ?_); refine goesL_ (some 4) rfl rfl Tryd.func104 (by kernel_rfl) rfl #[.string (⟨#[97, 32, 98, 32, 99]⟩ : ByteArray), .int .i64 2] rfl (by (try simp only [List.map_toArray, List.map_cons, List.map_nil]); first | done | rfl | (simp only [List.length_drop, List.length_take]; rfl)) ?_; (with_reducible refine (near_Shingles.calls k (⟨#[97, 32, 98, 32, 99]⟩ : ByteArray) 2 t209 t210 _ A1.out).mono ?_); rintro e w4 ⟨v211, rfl, ho0, hb⟩; refine ⟨_, rfl, ?_⟩; have n0_ := Aside0.mk (Kd.R_lower ho0 (below_size (by repeat (first | (with_reducible first | exact HB.out | apply below_alloc | apply pw_below_drewN | apply below_drew1) | exact HB.out)))); have n1_ := Aside0.mk (below_step (by repeat (first | (with_reducible first | exact HB.out | apply below_alloc | apply pw_below_drewN | apply below_drew1) | exact HB.out)) hb); clear HB; have HO212 := n0_; have HB := n1_; clear n0_ n1_; (try clear hb); (try clear hb2); (try clear hk); (try clear hi); (try clear ho0)) | ((with_reducible refine gate_dst (N := 11) rfl ?_); (try (refine gate_guard (by rfl) ?_; dsimp only)); refine Kd.R_lit Kd.string _ 9 ?hg (N := 11) ?hd (xs := ([(⟨#[97, 32, 98]⟩ : ByteArray), (⟨#[98, 32, 99]⟩ : ByteArray)] : List ByteArray)) (inner := [.string (⟨#[97, 32, 98]⟩ : ByteArray), .string (⟨#[98, 32, 99]⟩ : ByteArray)]) (ok := fun _ => True) (okp := fun _ => True) ?hr ?hp (fun _ hk => hk) trivial (Below.refl _ _) (Nat.le_refl _) (by simp) ?_; (case hd => rfl); (case hg => rfl); (case hr => first | (go_simp; done) | (go_simp; rfl)); (case hp => exact (Reps.one (show Kd.M Kd.string _ _ _ (⟨#[97, 32, 98]⟩ : ByteArray) [.string (⟨#[97, 32, 98]⟩ : ByteArray)] from rfl) (Reps.one (show Kd.M Kd.string _ _ _ (⟨#[98, 32, 99]⟩ : ByteArray) [.string (⟨#[98, 32, 99]⟩ : ByteArray)] from rfl) (Reps.none _ _)))); intro v214 w5 ho6 hb hg_ hnew_; clear hg_ hnew_; (first | rw [← Ny213.out] at ho6 | (simp only [Int.reduceToNat] at ho6; rw [← Ny213.out] at ho6)); have n0_ := Aside0.mk (Kd.R_elder' (by (with_reducible repeat (first | apply Kd.R_alloc | apply Kd.R_drewN | apply Kd.R_drew)); exact HO212.out) (Kd.R_base ho6) hb); have n1_ := Aside0.mk (Kd.R_lower (Kd.R_new' ho6 (Kd.R_lt (by (with_reducible repeat (first | apply Kd.R_alloc | apply Kd.R_drewN | apply Kd.R_drew)); exact HO212.out))) (below_size (by repeat (first | (with_reducible first | exact HB.out | apply below_alloc | apply pw_below_drewN | apply below_drew1) | exact HB.out)))); have n2_ := Aside0.mk (below_step (by repeat (first | (with_reducible first | exact HB.out | apply below_alloc | apply pw_below_drewN | apply below_drew1) | exact HB.out)) hb); clear HO212; clear HB; have HO212 := n0_; have HO215 := n1_; have HB := n2_; clear n0_ n1_ n2_; clear hb ho6; obtain ⟨Ao7, co7, eo7⟩ := Kd.R_slice HO212.out; subst eo7; obtain ⟨Ao8, co8, eo8⟩ := Kd.R_slice HO215.out; subst eo8) | (go_at_call 18; (with_reducible refine (slices_Equal_string_string.calls k _ _ t209 _ _ y213 t216 _ ?side1 ?side2 ?side3 ?side4 A3.out).mono ?_); (case side1 => repeat (first | exact (Kd.R_reads' HO212.out).2.2 | (with_reducible refine Kd.C_alloc ?_ _) | (with_reducible refine Kd.C_drewN ?_ _) | (with_reducible refine Kd.C_drew ?_))); (case side2 => exact (Kd.R_reads' HO212.out).2.1); (case side3 => repeat (first | exact (Kd.R_reads' HO215.out).2.2 | (with_reducible refine Kd.C_alloc ?_ _) | (with_reducible refine Kd.C_drewN ?_ _) | (with_reducible refine Kd.C_drew ?_))); (case side4 => exact (Kd.R_reads' HO215.out).2.1); rintro e w' ⟨rfl, ⟨nd, rfl⟩⟩))
    go_ret
    exact ⟨by first | rfl | (simp [errW_none, errW_some] <;> rfl) | (simp [*, errW_none, errW_some] <;> rfl), by repeat (first | (with_reducible first | exact HB.out | apply below_alloc | apply pw_below_drewN | apply below_drew1) | exact HB.out)⟩
  · rw [if_neg c2] at H
    have c2b0 : (t210 == 0) = false := beq_eq_false_iff_ne.mpr c2
    have c2b1 : (t210 != 0) = true := bne_iff_ne.mpr c2
    obtain rfl := Option.some.inj H
    go_enter Tryd.func42, Tryd.ntmps42
    go_wp2_with (first | ((with_reducible refine gate_callee (f := 104) rfl ?_); refine goesL_ (some 4) rfl rfl Tryd.func104 (by kernel_rfl) rfl #[.string (⟨#[97, 32, 98, 32, 99]⟩ : ByteArray), .int .i64 2] rfl (by (try simp only [List.map_toArray, List.map_cons, List.map_nil]); first | done | rfl | (simp only [List.length_drop, List.length_take]; rfl)) ?_; (with_reducible refine (near_Shingles.calls k (⟨#[97, 32, 98, 32, 99]⟩ : ByteArray) 2 t209 t210 _ A1.out).mono ?_); rintro e w9 ⟨v211, rfl, ho0, hb⟩; refine ⟨_, rfl, ?_⟩; have n0_ := Aside0.mk (Kd.R_lower ho0 (below_size (by repeat (first | (with_reducible first | exact HB.out | apply below_alloc | apply pw_below_drewN | apply below_drew1) | exact HB.out)))); have n1_ := Aside0.mk (below_step (by repeat (first | (with_reducible first | exact HB.out | apply below_alloc | apply pw_below_drewN | apply below_drew1) | exact HB.out)) hb); clear HB; have HO212 := n0_; have HB := n1_; clear n0_ n1_; (try clear hb); (try clear hb2); (try clear hk); (try clear hi); (try clear ho0)))
    go_ret
    exact ⟨by first | rfl | (simp [errW_none, errW_some] <;> rfl) | (simp [*, errW_none, errW_some] <;> rfl), by repeat (first | (with_reducible first | exact HB.out | apply below_alloc | apply pw_below_drewN | apply below_drew1) | exact HB.out)⟩
mutual
def chaselaw1_WordsRead.l0 : Nat → List ByteArray → Int → Int → Option (Bool)
  | 0, _, _, _ => none
  | k + 1, x15, x16, x17 => if x17 < x16 then (if 0 ≤ x17 then (if x17 < (x15.length : Int) then ((near_Tokens.f k (rdOf ByteArray.empty x15 x17)).bind fun t224 => ((near_Words.f k (rdOf ByteArray.empty x15 x17)).bind fun t227 => ((chaseref1_WordsOf.f k (rdOf ByteArray.empty x15 x17)).bind fun t230 => ((slices_Equal_string_string.f k t227 t230).bind fun t233 => (if t233 = true then ((chaseref1_TokensOf.f k (rdOf ByteArray.empty x15 x17)).bind fun t234 => ((slices_Equal_string_string.f k t224 t234).bind fun t237 => (if t237 = true then ((near_Join.f t224).bind fun t238 => ((chaseref1_TokensOf.f k (rdOf ByteArray.empty x15 x17)).bind fun t239 => ((chaseref1_JoinOf.f t239).bind fun t242 => (chaselaw1_WordsRead.j1 k x15 x16 x17 (t238.toList != t242.toList))))) else (chaselaw1_WordsRead.j1 k x15 x16 x17 true)))) else (chaselaw1_WordsRead.j1 k x15 x16 x17 true)))))) else (none)) else (none)) else ((chaselaw1_nears.f k).bind fun t243 => (some t243))
def chaselaw1_WordsRead.j1 : Nat → List ByteArray → Int → Int → Bool → Option (Bool)
  | 0, _, _, _, _ => none
  | k + 1, x15, x16, x17, x43 => if x43 = true then (some false) else (chaselaw1_WordsRead.l0 k x15 x16 (wrap64 (x17 + 1)))
end
def chaselaw1_WordsRead.f (k : Nat) (l0 : List Int) (a1 : ByteArray) : Option (Bool) := (chasemake_Stream_Prose.f k l0 0 15).bind fun bt218 => ((some (([bt218.1, a1] : List ByteArray) : List ByteArray)).bind fun y220 => (chaselaw1_WordsRead.l0 k y220 (y220.length : Int) 0))
theorem chaselaw1_WordsRead.mono_l : ∀ k, (∀ y0 y1 y2, LeO (chaselaw1_WordsRead.l0 k y0 y1 y2) (chaselaw1_WordsRead.l0 (k + 1) y0 y1 y2)) ∧ (∀ y0 y1 y2 y3, LeO (chaselaw1_WordsRead.j1 k y0 y1 y2 y3) (chaselaw1_WordsRead.j1 (k + 1) y0 y1 y2 y3))
  | 0 => ⟨fun _ _ _ r h => by simp [chaselaw1_WordsRead.l0] at h, fun _ _ _ _ r h => by simp [chaselaw1_WordsRead.j1] at h⟩
  | k + 1 => by
    obtain ⟨ih0, ih1⟩ := chaselaw1_WordsRead.mono_l k
    refine ⟨?_, ?_⟩
    · intro y0 y1 y2
      unfold chaselaw1_WordsRead.l0
      repeat' first
      | (with_reducible exact ih0 _ _ _)
      | (with_reducible exact ih1 _ _ _ _)
      | (with_reducible exact chaselaw1_nears.mono _)
      | (with_reducible exact chasemake_Stream_Prose.mono _ _ _ _)
      | (with_reducible exact chaseref1_TokensOf.mono _ _)
      | (with_reducible exact chaseref1_WordsOf.mono _ _)
      | (with_reducible exact near_Tokens.mono _ _)
      | (with_reducible exact near_Words.mono _ _)
      | (with_reducible exact slices_Equal_string_string.mono _ _ _)
      | (with_reducible exact LeO.refl _)
      | (with_reducible exact LeO.none _)
      | (with_reducible refine LeO.ite ?_ ?_)
      | (with_reducible refine LeO.bind ?_ (fun _ => ?_))
      | exact ih0 _ _ _
      | exact ih1 _ _ _ _
      | exact chaselaw1_nears.mono _
      | exact chasemake_Stream_Prose.mono _ _ _ _
      | exact chaseref1_TokensOf.mono _ _
      | exact chaseref1_WordsOf.mono _ _
      | exact near_Tokens.mono _ _
      | exact near_Words.mono _ _
      | exact slices_Equal_string_string.mono _ _ _
      | exact LeO.none _
      | refine LeO.ite ?_ ?_
      | refine LeO.bind ?_ (fun _ => ?_)
    · intro y0 y1 y2 y3
      unfold chaselaw1_WordsRead.j1
      repeat' first
      | (with_reducible exact ih0 _ _ _)
      | (with_reducible exact ih1 _ _ _ _)
      | (with_reducible exact chaselaw1_nears.mono _)
      | (with_reducible exact chasemake_Stream_Prose.mono _ _ _ _)
      | (with_reducible exact chaseref1_TokensOf.mono _ _)
      | (with_reducible exact chaseref1_WordsOf.mono _ _)
      | (with_reducible exact near_Tokens.mono _ _)
      | (with_reducible exact near_Words.mono _ _)
      | (with_reducible exact slices_Equal_string_string.mono _ _ _)
      | (with_reducible exact LeO.refl _)
      | (with_reducible exact LeO.none _)
      | (with_reducible refine LeO.ite ?_ ?_)
      | (with_reducible refine LeO.bind ?_ (fun _ => ?_))
      | exact ih0 _ _ _
      | exact ih1 _ _ _ _
      | exact chaselaw1_nears.mono _
      | exact chasemake_Stream_Prose.mono _ _ _ _
      | exact chaseref1_TokensOf.mono _ _
      | exact chaseref1_WordsOf.mono _ _
      | exact near_Tokens.mono _ _
      | exact near_Words.mono _ _
      | exact slices_Equal_string_string.mono _ _ _
      | exact LeO.none _
      | refine LeO.ite ?_ ?_
      | refine LeO.bind ?_ (fun _ => ?_)
theorem chaselaw1_WordsRead.mono : ∀ a0 a1 k, LeO (chaselaw1_WordsRead.f k a0 a1) (chaselaw1_WordsRead.f (k + 1) a0 a1) := by
  intro a0 a1 k
  obtain ⟨ih0, ih1⟩ := chaselaw1_WordsRead.mono_l k
  unfold chaselaw1_WordsRead.f
  repeat' first
      | (with_reducible exact ih0 _ _ _)
      | (with_reducible exact ih1 _ _ _ _)
      | (with_reducible exact chaselaw1_nears.mono _)
      | (with_reducible exact chasemake_Stream_Prose.mono _ _ _ _)
      | (with_reducible exact chaseref1_TokensOf.mono _ _)
      | (with_reducible exact chaseref1_WordsOf.mono _ _)
      | (with_reducible exact near_Tokens.mono _ _)
      | (with_reducible exact near_Words.mono _ _)
      | (with_reducible exact slices_Equal_string_string.mono _ _ _)
      | (with_reducible exact LeO.refl _)
      | (with_reducible exact LeO.none _)
      | (with_reducible refine LeO.ite ?_ ?_)
      | (with_reducible refine LeO.bind ?_ (fun _ => ?_))
      | exact ih0 _ _ _
      | exact ih1 _ _ _ _
      | exact chaselaw1_nears.mono _
      | exact chasemake_Stream_Prose.mono _ _ _ _
      | exact chaseref1_TokensOf.mono _ _
      | exact chaseref1_WordsOf.mono _ _
      | exact near_Tokens.mono _ _
      | exact near_Words.mono _ _
      | exact slices_Equal_string_string.mono _ _ _
      | exact LeO.none _
      | refine LeO.ite ?_ ?_
      | refine LeO.bind ?_ (fun _ => ?_)
set_option maxHeartbeats 8000000 in
set_option maxRecDepth 100000 in
theorem chaselaw1_WordsRead.calls (k : Nat) (A0 : Option Addr) (c0 : Nat) (l0 : List Int) (a1 : ByteArray) (r : Bool) (w : World) (hr0 : Kd.C (Kd.int .i64) w A0 l0.length l0) (hc0 : l0.length ≤ c0) (hGl : Wd w) (h : chaselaw1_WordsRead.f k l0 a1 = some r) :
    Calls Tryd.prog 6 #[.slice A0 l0.length c0, .string a1] w fun e w' => e = .returned (.bool r) ∧ Below w.heap.size w w' := by
  have hu25 := Tryd.underlying25
  have HGl := Aside0.mk hGl
  clear hGl
  have HR0 := Aside0.mk hr0
  have HC0 := Aside0.mk hc0
  clear hr0 hc0
  have HB := Aside0.mk (Below.refl w.heap.size w)
  have H : ((chasemake_Stream_Prose.f k l0 0 15).bind fun bt218 => ((some (([bt218.1, a1] : List ByteArray) : List ByteArray)).bind fun y220 => (chaselaw1_WordsRead.l0 k y220 (y220.length : Int) 0))) = some r := h
  clear h
  replace H := Option.bind_eq_some_iff.mp H
  obtain ⟨⟨t218, t219⟩, A30, H⟩ := H
  replace H : ((some (([t218, a1] : List ByteArray) : List ByteArray)).bind fun y220 => (chaselaw1_WordsRead.l0 k y220 (y220.length : Int) 0)) = some r := H
  have A3 := Aside0.mk A30
  clear A30
  obtain ⟨y220, hy220⟩ : ∃ y_ : List ByteArray, y_ = (([t218, a1] : List ByteArray)) := ⟨_, rfl⟩
  replace H : (chaselaw1_WordsRead.l0 k y220 (y220.length : Int) 0) = some r := by first | (rw [hy220]; with_reducible exact H) | (have H2_ := (Option.bind_some _ _).symm.trans H; rw [hy220]; with_reducible exact H2_) | (have H2_ := (Option.bind_some _ _).symm.trans H; with_reducible exact H2_) | with_reducible exact H | (rw [hy220]; exact H) | exact H
  have Ny220 := Aside0.mk hy220
  clear hy220
  have H' := Aside0.mk H
  clear H
  go_enter Tryd.func6, Tryd.ntmps6
  go_wp2_with (first | ((with_reducible refine gate_dst (N := 11) rfl ?_); refine box_event ?hg (N := 11) ?hd (cs := #[.slice A0 l0.length c0, .int .i64 0]) (t := 25) ?hr ?_; (case hd => rfl); (case hg => rfl); (case hr => first | (go_simp; done) | (go_simp; rfl)); intro gb217 hg w4 hbox hb; have n0_ := Aside0.mk (below_step (by repeat (first | (with_reducible first | exact HB.out | apply below_alloc | apply pw_below_drewN | apply below_drew1) | exact HB.out)) hb); have n1_ := Aside0.mk ((⟨_, _, hbox, (by rw [hg]; exact (below_size (by repeat (first | (with_reducible first | exact HB.out | apply below_alloc | apply pw_below_drewN | apply below_drew1) | exact HB.out)))), HR0.out⟩ : IsS25 w _ gb217 l0 0)); clear HB; have HB := n0_; have HI217 := n1_; clear n0_ n1_; clear hb hbox hg) | ((with_reducible refine gate_callee (f := 35) rfl ?_); refine goesL_ (some 13) rfl rfl Tryd.func35 (by kernel_rfl) rfl #[.pointer (some ⟨gb217, 0, none⟩), .int .i64 15] rfl (by (try simp only [List.map_toArray, List.map_cons, List.map_nil]); first | done | rfl | (simp only [List.length_drop, List.length_take]; rfl)) ?_; (with_reducible refine (chasemake_Stream_Prose.calls k gb217 l0 0 15 t218 t219 w _ ?side1 ?side2 A3.out).mono ?_); (case side1 => repeat (first | (with_reducible first | exact HI217.out | apply IsS25.alloc | apply IsS25.drewN | apply IsS25.drew | apply IsS25.set_1) | exact HI217.out)); (case side2 => repeat (first | (with_reducible first | exact HB.out | apply below_alloc | apply pw_below_drewN | apply below_drew1 | refine below_set ?_ (IsS25.ge HI217.out)) | exact HB.out)); rintro e w5 ⟨rfl, hi, hb, hk⟩; refine ⟨_, rfl, ?_⟩; have n0_ := Aside0.mk (hb); have n1_ := Aside0.mk (hi); clear HB; clear HI217; have HB := n0_; have HI217 := n1_; clear n0_ n1_; (try clear hb); (try clear hb2); (try clear hk); (try clear hi)) | ((with_reducible refine gate_dst (N := 15) rfl ?_); refine Kd.R_lit Kd.string _ 9 ?hg (N := 15) ?hd (xs := ([t218, a1] : List ByteArray)) (inner := [.string t218, .string a1]) (ok := fun _ => True) (okp := fun _ => True) ?hr ?hp (fun _ hk => hk) trivial (Below.refl _ _) (Nat.le_refl _) (by simp) ?_; (case hd => rfl); (case hg => rfl); (case hr => first | (go_simp; done) | (go_simp; rfl)); (case hp => exact (Reps.one (show Kd.M Kd.string _ _ _ t218 [.string t218] from rfl) (Reps.one (show Kd.M Kd.string _ _ _ a1 [.string a1] from rfl) (Reps.none _ _)))); intro v221 w6 ho7 hb hg_ hnew_; clear hg_ hnew_; (first | rw [← Ny220.out] at ho7 | (simp only [Int.reduceToNat] at ho7; rw [← Ny220.out] at ho7)); have n0_ := Aside0.mk (Kd.R_lower ho7 (below_size (by repeat (first | (with_reducible first | exact HB.out | apply below_alloc | apply pw_below_drewN | apply below_drew1 | refine below_set ?_ (IsS25.ge HI217.out)) | exact HB.out)))); have n1_ := Aside0.mk (IsS25.below (by repeat (first | (with_reducible first | exact HI217.out | apply IsS25.alloc | apply IsS25.drewN | apply IsS25.drew | apply IsS25.set_1) | exact HI217.out)) hb); have n2_ := Aside0.mk (below_step (by repeat (first | (with_reducible first | exact HB.out | apply below_alloc | apply pw_below_drewN | apply below_drew1 | refine below_set ?_ (IsS25.ge HI217.out)) | exact HB.out)) hb); clear HI217; clear HB; have HO222 := n0_; have HI217 := n1_; have HB := n2_; clear n0_ n1_ n2_; clear hb ho7; obtain ⟨Ao8, co8, eo8⟩ := Kd.R_slice HO222.out; subst eo8))
  go_loopg [17] k (fun kq v17 w' => ∃ (x17_1 : Int), v17 = .int .i64 x17_1 ∧ Aside0 (chaselaw1_WordsRead.l0 kq y220 (y220.length : Int) x17_1 = some r) ∧ Aside0 (kq ≤ k) ∧ Aside0 (Kd.R Kd.string 9 w' w.heap.size (fun _ => True) (.slice Ao8 y220.length co8) y220) ∧ Aside0 (Below w.heap.size w w'))
  case atStart => exact ⟨(0), (by first | rfl | (simp; done) | (simp [*]; done)), H', ⟨Nat.le_refl _⟩, ⟨by (with_reducible repeat (first | apply Kd.R_alloc | apply Kd.R_drewN | apply Kd.R_drew)); exact HO222.out⟩, ⟨by repeat (first | (with_reducible first | exact HB.out | apply below_alloc | apply pw_below_drewN | apply below_drew1 | refine below_set ?_ (IsS25.ge HI217.out)) | exact HB.out)⟩⟩
  case round =>
    clear H'
    try clear p2
    try clear c3
    try clear c6
    obtain ⟨x17_1, rfl, HA, HK1, HO_15, HB⟩ := hrel
    cases gk with
    | zero => exact absurd HA.out (by simp [chaselaw1_WordsRead.l0])
    | succ k1 =>
      have H := HA.out
      clear HA
      simp only [chaselaw1_WordsRead.l0] at H
      by_cases c9 : x17_1 < (y220.length : Int)
      · rw [if_pos c9] at H
        have c9b0 : decide (x17_1 < (y220.length : Int)) = true := decide_eq_true c9
        clear c9
        by_cases c10 : 0 ≤ x17_1
        · rw [if_pos c10] at H
          have c10b0 : decide (0 ≤ x17_1) = true := decide_eq_true c10
          clear c10
          by_cases c11 : x17_1 < (y220.length : Int)
          · rw [if_pos c11] at H
            have c11b0 : decide (x17_1 < (y220.length : Int)) = true := decide_eq_true c11
            clear c11
            replace H := Option.bind_eq_some_iff.mp H
            obtain ⟨t224, A120, H⟩ := H
            replace H : ((near_Words.f k1 (rdOf ByteArray.empty y220 x17_1)).bind fun t227 => ((chaseref1_WordsOf.f k1 (rdOf ByteArray.empty y220 x17_1)).bind fun t230 => ((slices_Equal_string_string.f k1 t227 t230).bind fun t233 => (if t233 = true then ((chaseref1_TokensOf.f k1 (rdOf ByteArray.empty y220 x17_1)).bind fun t234 => ((slices_Equal_string_string.f k1 t224 t234).bind fun t237 => (if t237 = true then ((near_Join.f t224).bind fun t238 => ((chaseref1_TokensOf.f k1 (rdOf ByteArray.empty y220 x17_1)).bind fun t239 => ((chaseref1_JoinOf.f t239).bind fun t242 => (chaselaw1_WordsRead.j1 k1 y220 (y220.length : Int) x17_1 (t238.toList != t242.toList))))) else (chaselaw1_WordsRead.j1 k1 y220 (y220.length : Int) x17_1 true)))) else (chaselaw1_WordsRead.j1 k1 y220 (y220.length : Int) x17_1 true))))) = some r := H
            have A12 := Aside0.mk A120
            clear A120
            have HC13 := Aside0.mk H
            clear H
            have p223 : 0 ≤ (x17_1 : Int) := of_decide_eq_true (by first | (with_reducible assumption) | assumption)
            have q223 : x17_1 < (y220.length : Int) := of_decide_eq_true (by first | (with_reducible assumption) | assumption)
            obtain ⟨ad223, e223, hx223_0⟩ := Kd.at_string (Kd.R_reads' HO_15.out).2.2 x17_1 p223 q223
            cases e223
            replace p223 := eq_true p223
            replace q223 := eq_true q223
            go_upto_region 6 with (first | ((with_reducible refine gate_callee (f := 36) rfl ?_); refine goesL_ (some 22) rfl rfl Tryd.func36 (by kernel_rfl) rfl #[.string (rdOf ByteArray.empty y220 x17_1)] rfl (by (try simp only [List.map_toArray, List.map_cons, List.map_nil]); first | done | rfl | (simp only [List.length_drop, List.length_take]; rfl)) ?_; (with_reducible refine (near_Tokens.calls k1 (rdOf ByteArray.empty y220 x17_1) t224 _ ?side1 A12.out).mono ?_); (case side1 => exact Wd.below HGl.out (by repeat (first | (with_reducible first | exact HB.out | apply below_alloc | apply pw_below_drewN | apply below_drew1) | exact HB.out))); rintro e w14 ⟨v225, rfl, ho0, hb⟩; refine ⟨_, rfl, ?_⟩; have n0_ := Aside0.mk (Kd.R_elder' (by (with_reducible repeat (first | apply Kd.R_alloc | apply Kd.R_drewN | apply Kd.R_drew)); exact HO_15.out) (Kd.R_base ho0) hb); have n1_ := Aside0.mk (Kd.R_lower (Kd.R_new' ho0 (Kd.R_lt (by (with_reducible repeat (first | apply Kd.R_alloc | apply Kd.R_drewN | apply Kd.R_drew)); exact HO_15.out))) (below_size (by repeat (first | (with_reducible first | exact HB.out | apply below_alloc | apply pw_below_drewN | apply below_drew1) | exact HB.out)))); have n2_ := Aside0.mk (below_step (by repeat (first | (with_reducible first | exact HB.out | apply below_alloc | apply pw_below_drewN | apply below_drew1) | exact HB.out)) hb); clear HO_15; clear HB; have HO_15 := n0_; have HO226 := n1_; have HB := n2_; clear n0_ n1_ n2_; (try clear hb); (try clear hb2); (try clear hk); (try clear hi); (try clear ho0)))
            (try simp only [Act.put, List.setIfInBounds_toArray, List.set_cons_zero, List.set_cons_succ])
            go_cut [43] (fun v43 wc => ∃ (kq : Nat) (x43_12 : Bool), v43 = .bool x43_12 ∧ Aside0 (chaselaw1_WordsRead.j1 kq y220 (y220.length : Int) x17_1 x43_12 = some r) ∧ Aside0 (kq ≤ k1) ∧ Aside0 (Kd.R Kd.string 9 wc w.heap.size (fun _ => True) (.slice (some ad223) y220.length co8) y220) ∧ Aside0 (Below w.heap.size w wc))
            case first =>
              have H := HC13.out
              clear HC13
              replace H := Option.bind_eq_some_iff.mp H
              obtain ⟨t227, A150, H⟩ := H
              replace H : ((chaseref1_WordsOf.f k1 (rdOf ByteArray.empty y220 x17_1)).bind fun t230 => ((slices_Equal_string_string.f k1 t227 t230).bind fun t233 => (if t233 = true then ((chaseref1_TokensOf.f k1 (rdOf ByteArray.empty y220 x17_1)).bind fun t234 => ((slices_Equal_string_string.f k1 t224 t234).bind fun t237 => (if t237 = true then ((near_Join.f t224).bind fun t238 => ((chaseref1_TokensOf.f k1 (rdOf ByteArray.empty y220 x17_1)).bind fun t239 => ((chaseref1_JoinOf.f t239).bind fun t242 => (chaselaw1_WordsRead.j1 k1 y220 (y220.length : Int) x17_1 (t238.toList != t242.toList))))) else (chaselaw1_WordsRead.j1 k1 y220 (y220.length : Int) x17_1 true)))) else (chaselaw1_WordsRead.j1 k1 y220 (y220.length : Int) x17_1 true)))) = some r := H
              have A15 := Aside0.mk A150
              clear A150
              replace H := Option.bind_eq_some_iff.mp H
              obtain ⟨t230, A160, H⟩ := H
              replace H : ((slices_Equal_string_string.f k1 t227 t230).bind fun t233 => (if t233 = true then ((chaseref1_TokensOf.f k1 (rdOf ByteArray.empty y220 x17_1)).bind fun t234 => ((slices_Equal_string_string.f k1 t224 t234).bind fun t237 => (if t237 = true then ((near_Join.f t224).bind fun t238 => ((chaseref1_TokensOf.f k1 (rdOf ByteArray.empty y220 x17_1)).bind fun t239 => ((chaseref1_JoinOf.f t239).bind fun t242 => (chaselaw1_WordsRead.j1 k1 y220 (y220.length : Int) x17_1 (t238.toList != t242.toList))))) else (chaselaw1_WordsRead.j1 k1 y220 (y220.length : Int) x17_1 true)))) else (chaselaw1_WordsRead.j1 k1 y220 (y220.length : Int) x17_1 true))) = some r := H
              have A16 := Aside0.mk A160
              clear A160
              replace H := Option.bind_eq_some_iff.mp H
              obtain ⟨t233, A170, H⟩ := H
              replace H : (if t233 = true then ((chaseref1_TokensOf.f k1 (rdOf ByteArray.empty y220 x17_1)).bind fun t234 => ((slices_Equal_string_string.f k1 t224 t234).bind fun t237 => (if t237 = true then ((near_Join.f t224).bind fun t238 => ((chaseref1_TokensOf.f k1 (rdOf ByteArray.empty y220 x17_1)).bind fun t239 => ((chaseref1_JoinOf.f t239).bind fun t242 => (chaselaw1_WordsRead.j1 k1 y220 (y220.length : Int) x17_1 (t238.toList != t242.toList))))) else (chaselaw1_WordsRead.j1 k1 y220 (y220.length : Int) x17_1 true)))) else (chaselaw1_WordsRead.j1 k1 y220 (y220.length : Int) x17_1 true)) = some r := H
              have A17 := Aside0.mk A170
              clear A170
              by_cases c18 : t233 = true
              · subst c18
                have H1 : ((chaseref1_TokensOf.f k1 (rdOf ByteArray.empty y220 x17_1)).bind fun t234 => ((slices_Equal_string_string.f k1 t224 t234).bind fun t237 => (if t237 = true then ((near_Join.f t224).bind fun t238 => ((chaseref1_TokensOf.f k1 (rdOf ByteArray.empty y220 x17_1)).bind fun t239 => ((chaseref1_JoinOf.f t239).bind fun t242 => (chaselaw1_WordsRead.j1 k1 y220 (y220.length : Int) x17_1 (t238.toList != t242.toList))))) else (chaselaw1_WordsRead.j1 k1 y220 (y220.length : Int) x17_1 true)))) = some r := by rw [if_pos rfl] at H; exact H
                clear H
                have H := H1
                clear H1
                replace H := Option.bind_eq_some_iff.mp H
                obtain ⟨t234, A190, H⟩ := H
                replace H : ((slices_Equal_string_string.f k1 t224 t234).bind fun t237 => (if t237 = true then ((near_Join.f t224).bind fun t238 => ((chaseref1_TokensOf.f k1 (rdOf ByteArray.empty y220 x17_1)).bind fun t239 => ((chaseref1_JoinOf.f t239).bind fun t242 => (chaselaw1_WordsRead.j1 k1 y220 (y220.length : Int) x17_1 (t238.toList != t242.toList))))) else (chaselaw1_WordsRead.j1 k1 y220 (y220.length : Int) x17_1 true))) = some r := H
                have A19 := Aside0.mk A190
                clear A190
                replace H := Option.bind_eq_some_iff.mp H
                obtain ⟨t237, A200, H⟩ := H
                replace H : (if t237 = true then ((near_Join.f t224).bind fun t238 => ((chaseref1_TokensOf.f k1 (rdOf ByteArray.empty y220 x17_1)).bind fun t239 => ((chaseref1_JoinOf.f t239).bind fun t242 => (chaselaw1_WordsRead.j1 k1 y220 (y220.length : Int) x17_1 (t238.toList != t242.toList))))) else (chaselaw1_WordsRead.j1 k1 y220 (y220.length : Int) x17_1 true)) = some r := H
                have A20 := Aside0.mk A200
                clear A200
                by_cases c21 : t237 = true
                · subst c21
                  have H1 : ((near_Join.f t224).bind fun t238 => ((chaseref1_TokensOf.f k1 (rdOf ByteArray.empty y220 x17_1)).bind fun t239 => ((chaseref1_JoinOf.f t239).bind fun t242 => (chaselaw1_WordsRead.j1 k1 y220 (y220.length : Int) x17_1 (t238.toList != t242.toList))))) = some r := by rw [if_pos rfl] at H; exact H
                  clear H
                  have H := H1
                  clear H1
                  replace H := Option.bind_eq_some_iff.mp H
                  obtain ⟨t238, A220, H⟩ := H
                  replace H : ((chaseref1_TokensOf.f k1 (rdOf ByteArray.empty y220 x17_1)).bind fun t239 => ((chaseref1_JoinOf.f t239).bind fun t242 => (chaselaw1_WordsRead.j1 k1 y220 (y220.length : Int) x17_1 (t238.toList != t242.toList)))) = some r := H
                  have A22 := Aside0.mk A220
                  clear A220
                  replace H := Option.bind_eq_some_iff.mp H
                  obtain ⟨t239, A230, H⟩ := H
                  replace H : ((chaseref1_JoinOf.f t239).bind fun t242 => (chaselaw1_WordsRead.j1 k1 y220 (y220.length : Int) x17_1 (t238.toList != t242.toList))) = some r := H
                  have A23 := Aside0.mk A230
                  clear A230
                  replace H := Option.bind_eq_some_iff.mp H
                  obtain ⟨t242, A240, H⟩ := H
                  replace H : (chaselaw1_WordsRead.j1 k1 y220 (y220.length : Int) x17_1 (t238.toList != t242.toList)) = some r := H
                  have A24 := Aside0.mk A240
                  clear A240
                  have H' := Aside0.mk H
                  clear H
                  go_wp2_with (first | ((with_reducible refine gate_callee (f := 37) rfl ?_); refine goesL_ (some 24) rfl rfl Tryd.func37 (by kernel_rfl) rfl #[.string (rdOf ByteArray.empty y220 x17_1)] rfl (by (try simp only [List.map_toArray, List.map_cons, List.map_nil]); first | done | rfl | (simp only [List.length_drop, List.length_take]; rfl)) ?_; (with_reducible refine (near_Words.calls k1 (rdOf ByteArray.empty y220 x17_1) t227 _ A15.out).mono ?_); rintro e w25 ⟨v228, rfl, ho0, hb⟩; refine ⟨_, rfl, ?_⟩; have n0_ := Aside0.mk (Kd.R_elder' (by (with_reducible repeat (first | apply Kd.R_alloc | apply Kd.R_drewN | apply Kd.R_drew)); exact HO_15.out) (Kd.R_base ho0) hb); have n1_ := Aside0.mk (Kd.R_elder' (by (with_reducible repeat (first | apply Kd.R_alloc | apply Kd.R_drewN | apply Kd.R_drew)); exact HO226.out) (Kd.R_base ho0) hb); have n2_ := Aside0.mk (Kd.R_lower (Kd.R_new' (Kd.R_new' ho0 (Kd.R_lt (by (with_reducible repeat (first | apply Kd.R_alloc | apply Kd.R_drewN | apply Kd.R_drew)); exact HO_15.out))) (Kd.R_lt (by (with_reducible repeat (first | apply Kd.R_alloc | apply Kd.R_drewN | apply Kd.R_drew)); exact HO226.out))) (below_size (by repeat (first | (with_reducible first | exact HB.out | apply below_alloc | apply pw_below_drewN | apply below_drew1) | exact HB.out)))); have n3_ := Aside0.mk (below_step (by repeat (first | (with_reducible first | exact HB.out | apply below_alloc | apply pw_below_drewN | apply below_drew1) | exact HB.out)) hb); clear HO_15; clear HO226; clear HB; have HO_15 := n0_; have HO226 := n1_; have HO229 := n2_; have HB := n3_; clear n0_ n1_ n2_ n3_; (try clear hb); (try clear hb2); (try clear hk); (try clear hi); (try clear ho0)) | ((with_reducible refine gate_callee (f := 38) rfl ?_); refine goesL_ (some 26) rfl rfl Tryd.func38 (by kernel_rfl) rfl #[.string (rdOf ByteArray.empty y220 x17_1)] rfl (by (try simp only [List.map_toArray, List.map_cons, List.map_nil]); first | done | rfl | (simp only [List.length_drop, List.length_take]; rfl)) ?_; (with_reducible refine (chaseref1_WordsOf.calls k1 (rdOf ByteArray.empty y220 x17_1) t230 _ A16.out).mono ?_); rintro e w26 ⟨v231, rfl, ho0, hb⟩; refine ⟨_, rfl, ?_⟩; have n0_ := Aside0.mk (Kd.R_elder' (by (with_reducible repeat (first | apply Kd.R_alloc | apply Kd.R_drewN | apply Kd.R_drew)); exact HO_15.out) (Kd.R_base ho0) hb); have n1_ := Aside0.mk (Kd.R_elder' (by (with_reducible repeat (first | apply Kd.R_alloc | apply Kd.R_drewN | apply Kd.R_drew)); exact HO226.out) (Kd.R_base ho0) hb); have n2_ := Aside0.mk (Kd.R_elder' (by (with_reducible repeat (first | apply Kd.R_alloc | apply Kd.R_drewN | apply Kd.R_drew)); exact HO229.out) (Kd.R_base ho0) hb); have n3_ := Aside0.mk (Kd.R_lower (Kd.R_new' (Kd.R_new' (Kd.R_new' ho0 (Kd.R_lt (by (with_reducible repeat (first | apply Kd.R_alloc | apply Kd.R_drewN | apply Kd.R_drew)); exact HO_15.out))) (Kd.R_lt (by (with_reducible repeat (first | apply Kd.R_alloc | apply Kd.R_drewN | apply Kd.R_drew)); exact HO226.out))) (Kd.R_lt (by (with_reducible repeat (first | apply Kd.R_alloc | apply Kd.R_drewN | apply Kd.R_drew)); exact HO229.out))) (below_size (by repeat (first | (with_reducible first | exact HB.out | apply below_alloc | apply pw_below_drewN | apply below_drew1) | exact HB.out)))); have n4_ := Aside0.mk (below_step (by repeat (first | (with_reducible first | exact HB.out | apply below_alloc | apply pw_below_drewN | apply below_drew1) | exact HB.out)) hb); clear HO_15; clear HO226; clear HO229; clear HB; have HO_15 := n0_; have HO226 := n1_; have HO229 := n2_; have HO232 := n3_; have HB := n4_; clear n0_ n1_ n2_ n3_ n4_; (try clear hb); (try clear hb2); (try clear hk); (try clear hi); (try clear ho0); obtain ⟨Ao27, co27, eo27⟩ := Kd.R_slice HO229.out; subst eo27; obtain ⟨Ao28, co28, eo28⟩ := Kd.R_slice HO232.out; subst eo28) | ((with_reducible refine gate_callee (f := 18) rfl ?_); refine goesL_ (some 27) rfl rfl Tryd.func18 (by kernel_rfl) rfl #[.slice Ao27 t227.length co27, .slice Ao28 t230.length co28] rfl (by (try simp only [List.map_toArray, List.map_cons, List.map_nil]); first | done | rfl | (simp only [List.length_drop, List.length_take]; rfl)) ?_; (with_reducible refine (slices_Equal_string_string.calls k1 _ _ t227 _ _ t230 true _ ?side1 ?side2 ?side3 ?side4 A17.out).mono ?_); (case side1 => repeat (first | exact (Kd.R_reads' HO229.out).2.2 | (with_reducible refine Kd.C_alloc ?_ _) | (with_reducible refine Kd.C_drewN ?_ _) | (with_reducible refine Kd.C_drew ?_))); (case side2 => exact (Kd.R_reads' HO229.out).2.1); (case side3 => repeat (first | exact (Kd.R_reads' HO232.out).2.2 | (with_reducible refine Kd.C_alloc ?_ _) | (with_reducible refine Kd.C_drewN ?_ _) | (with_reducible refine Kd.C_drew ?_))); (case side4 => exact (Kd.R_reads' HO232.out).2.1); rintro e w' ⟨rfl, ⟨nd, rfl⟩⟩; refine ⟨_, rfl, ?_⟩) | (go_at_call 39; (with_reducible refine (chaseref1_TokensOf.calls k1 (rdOf ByteArray.empty y220 x17_1) t234 _ ?side1 A19.out).mono ?_); (case side1 => exact Wd.below HGl.out (by repeat (first | (with_reducible first | exact HB.out | apply below_alloc | apply pw_below_drewN | apply below_drew1) | exact HB.out))); rintro e w29 ⟨v235, rfl, ho0, hb⟩; have n0_ := Aside0.mk (Kd.R_elder' (by (with_reducible repeat (first | apply Kd.R_alloc | apply Kd.R_drewN | apply Kd.R_drew)); exact HO_15.out) (Kd.R_base ho0) hb); have n1_ := Aside0.mk (Kd.R_elder' (by (with_reducible repeat (first | apply Kd.R_alloc | apply Kd.R_drewN | apply Kd.R_drew)); exact HO226.out) (Kd.R_base ho0) hb); have n2_ := Aside0.mk (Kd.R_elder' (by (with_reducible repeat (first | apply Kd.R_alloc | apply Kd.R_drewN | apply Kd.R_drew)); exact HO229.out) (Kd.R_base ho0) hb); have n3_ := Aside0.mk (Kd.R_elder' (by (with_reducible repeat (first | apply Kd.R_alloc | apply Kd.R_drewN | apply Kd.R_drew)); exact HO232.out) (Kd.R_base ho0) hb); have n4_ := Aside0.mk (Kd.R_lower (Kd.R_new' (Kd.R_new' (Kd.R_new' (Kd.R_new' ho0 (Kd.R_lt (by (with_reducible repeat (first | apply Kd.R_alloc | apply Kd.R_drewN | apply Kd.R_drew)); exact HO_15.out))) (Kd.R_lt (by (with_reducible repeat (first | apply Kd.R_alloc | apply Kd.R_drewN | apply Kd.R_drew)); exact HO226.out))) (Kd.R_lt (by (with_reducible repeat (first | apply Kd.R_alloc | apply Kd.R_drewN | apply Kd.R_drew)); exact HO229.out))) (Kd.R_lt (by (with_reducible repeat (first | apply Kd.R_alloc | apply Kd.R_drewN | apply Kd.R_drew)); exact HO232.out))) (below_size (by repeat (first | (with_reducible first | exact HB.out | apply below_alloc | apply pw_below_drewN | apply below_drew1) | exact HB.out)))); have n5_ := Aside0.mk (below_step (by repeat (first | (with_reducible first | exact HB.out | apply below_alloc | apply pw_below_drewN | apply below_drew1) | exact HB.out)) hb); clear HO_15; clear HO226; clear HO229; clear HO232; clear HB; have HO_15 := n0_; have HO226 := n1_; have HO229 := n2_; have HO232 := n3_; have HO236 := n4_; have HB := n5_; clear n0_ n1_ n2_ n3_ n4_ n5_; (try clear hb); (try clear hb2); (try clear hk); (try clear hi); (try clear ho0); obtain ⟨Ao30, co30, eo30⟩ := Kd.R_slice HO226.out; subst eo30; obtain ⟨Ao31, co31, eo31⟩ := Kd.R_slice HO236.out; subst eo31) | (go_at_call 18; (with_reducible refine (slices_Equal_string_string.calls k1 _ _ t224 _ _ t234 true _ ?side1 ?side2 ?side3 ?side4 A20.out).mono ?_); (case side1 => repeat (first | exact (Kd.R_reads' HO226.out).2.2 | (with_reducible refine Kd.C_alloc ?_ _) | (with_reducible refine Kd.C_drewN ?_ _) | (with_reducible refine Kd.C_drew ?_))); (case side2 => exact (Kd.R_reads' HO226.out).2.1); (case side3 => repeat (first | exact (Kd.R_reads' HO236.out).2.2 | (with_reducible refine Kd.C_alloc ?_ _) | (with_reducible refine Kd.C_drewN ?_ _) | (with_reducible refine Kd.C_drew ?_))); (case side4 => exact (Kd.R_reads' HO236.out).2.1); rintro e w' ⟨rfl, ⟨nd, rfl⟩⟩) | (go_at_call 40; (with_reducible refine (near_Join.calls _ _ t224 t238 _ ?side1 ?side2 A22.out).mono ?_); (case side1 => repeat (first | exact (Kd.R_reads' HO226.out).2.2 | (with_reducible refine Kd.C_alloc ?_ _) | (with_reducible refine Kd.C_drewN ?_ _) | (with_reducible refine Kd.C_drew ?_))); (case side2 => exact (Kd.R_reads' HO226.out).2.1); rintro e w32 ⟨rfl, hb⟩; have n0_ := Aside0.mk (Kd.R_below (by (with_reducible repeat (first | apply Kd.R_alloc | apply Kd.R_drewN | apply Kd.R_drew)); exact HO_15.out) hb); have n1_ := Aside0.mk (Kd.R_below (by (with_reducible repeat (first | apply Kd.R_alloc | apply Kd.R_drewN | apply Kd.R_drew)); exact HO226.out) hb); have n2_ := Aside0.mk (Kd.R_below (by (with_reducible repeat (first | apply Kd.R_alloc | apply Kd.R_drewN | apply Kd.R_drew)); exact HO229.out) hb); have n3_ := Aside0.mk (Kd.R_below (by (with_reducible repeat (first | apply Kd.R_alloc | apply Kd.R_drewN | apply Kd.R_drew)); exact HO232.out) hb); have n4_ := Aside0.mk (Kd.R_below (by (with_reducible repeat (first | apply Kd.R_alloc | apply Kd.R_drewN | apply Kd.R_drew)); exact HO236.out) hb); have n5_ := Aside0.mk (below_step (by repeat (first | (with_reducible first | exact HB.out | apply below_alloc | apply pw_below_drewN | apply below_drew1) | exact HB.out)) hb); clear HO_15; clear HO226; clear HO229; clear HO232; clear HO236; clear HB; have HO_15 := n0_; have HO226 := n1_; have HO229 := n2_; have HO232 := n3_; have HO236 := n4_; have HB := n5_; clear n0_ n1_ n2_ n3_ n4_ n5_; (try clear hb); (try clear hb2); (try clear hk); (try clear hi)) | (go_at_call 39; (with_reducible refine (chaseref1_TokensOf.calls k1 (rdOf ByteArray.empty y220 x17_1) t239 _ ?side1 A23.out).mono ?_); (case side1 => exact Wd.below HGl.out (by repeat (first | (with_reducible first | exact HB.out | apply below_alloc | apply pw_below_drewN | apply below_drew1) | exact HB.out))); rintro e w33 ⟨v240, rfl, ho0, hb⟩; have n0_ := Aside0.mk (Kd.R_elder' (by (with_reducible repeat (first | apply Kd.R_alloc | apply Kd.R_drewN | apply Kd.R_drew)); exact HO_15.out) (Kd.R_base ho0) hb); have n1_ := Aside0.mk (Kd.R_elder' (by (with_reducible repeat (first | apply Kd.R_alloc | apply Kd.R_drewN | apply Kd.R_drew)); exact HO226.out) (Kd.R_base ho0) hb); have n2_ := Aside0.mk (Kd.R_elder' (by (with_reducible repeat (first | apply Kd.R_alloc | apply Kd.R_drewN | apply Kd.R_drew)); exact HO229.out) (Kd.R_base ho0) hb); have n3_ := Aside0.mk (Kd.R_elder' (by (with_reducible repeat (first | apply Kd.R_alloc | apply Kd.R_drewN | apply Kd.R_drew)); exact HO232.out) (Kd.R_base ho0) hb); have n4_ := Aside0.mk (Kd.R_elder' (by (with_reducible repeat (first | apply Kd.R_alloc | apply Kd.R_drewN | apply Kd.R_drew)); exact HO236.out) (Kd.R_base ho0) hb); have n5_ := Aside0.mk (Kd.R_lower (Kd.R_new' (Kd.R_new' (Kd.R_new' (Kd.R_new' (Kd.R_new' ho0 (Kd.R_lt (by (with_reducible repeat (first | apply Kd.R_alloc | apply Kd.R_drewN | apply Kd.R_drew)); exact HO_15.out))) (Kd.R_lt (by (with_reducible repeat (first | apply Kd.R_alloc | apply Kd.R_drewN | apply Kd.R_drew)); exact HO226.out))) (Kd.R_lt (by (with_reducible repeat (first | apply Kd.R_alloc | apply Kd.R_drewN | apply Kd.R_drew)); exact HO229.out))) (Kd.R_lt (by (with_reducible repeat (first | apply Kd.R_alloc | apply Kd.R_drewN | apply Kd.R_drew)); exact HO232.out))) (Kd.R_lt (by (with_reducible repeat (first | apply Kd.R_alloc | apply Kd.R_drewN | apply Kd.R_drew)); exact HO236.out))) (below_size (by repeat (first | (with_reducible first | exact HB.out | apply below_alloc | apply pw_below_drewN | apply below_drew1) | exact HB.out)))); have n6_ := Aside0.mk (below_step (by repeat (first | (with_reducible first | exact HB.out | apply below_alloc | apply pw_below_drewN | apply below_drew1) | exact HB.out)) hb); clear HO_15; clear HO226; clear HO229; clear HO232; clear HO236; clear HB; have HO_15 := n0_; have HO226 := n1_; have HO229 := n2_; have HO232 := n3_; have HO236 := n4_; have HO241 := n5_; have HB := n6_; clear n0_ n1_ n2_ n3_ n4_ n5_ n6_; (try clear hb); (try clear hb2); (try clear hk); (try clear hi); (try clear ho0); obtain ⟨Ao34, co34, eo34⟩ := Kd.R_slice HO241.out; subst eo34) | (go_at_call 41; (with_reducible refine (chaseref1_JoinOf.calls _ _ t239 t242 _ ?side1 ?side2 A24.out).mono ?_); (case side1 => repeat (first | exact (Kd.R_reads' HO241.out).2.2 | (with_reducible refine Kd.C_alloc ?_ _) | (with_reducible refine Kd.C_drewN ?_ _) | (with_reducible refine Kd.C_drew ?_))); (case side2 => exact (Kd.R_reads' HO241.out).2.1); rintro e w35 ⟨rfl, hb⟩; have n0_ := Aside0.mk (Kd.R_below (by (with_reducible repeat (first | apply Kd.R_alloc | apply Kd.R_drewN | apply Kd.R_drew)); exact HO_15.out) hb); have n1_ := Aside0.mk (Kd.R_below (by (with_reducible repeat (first | apply Kd.R_alloc | apply Kd.R_drewN | apply Kd.R_drew)); exact HO226.out) hb); have n2_ := Aside0.mk (Kd.R_below (by (with_reducible repeat (first | apply Kd.R_alloc | apply Kd.R_drewN | apply Kd.R_drew)); exact HO229.out) hb); have n3_ := Aside0.mk (Kd.R_below (by (with_reducible repeat (first | apply Kd.R_alloc | apply Kd.R_drewN | apply Kd.R_drew)); exact HO232.out) hb); have n4_ := Aside0.mk (Kd.R_below (by (with_reducible repeat (first | apply Kd.R_alloc | apply Kd.R_drewN | apply Kd.R_drew)); exact HO236.out) hb); have n5_ := Aside0.mk (Kd.R_below (by (with_reducible repeat (first | apply Kd.R_alloc | apply Kd.R_drewN | apply Kd.R_drew)); exact HO241.out) hb); have n6_ := Aside0.mk (below_step (by repeat (first | (with_reducible first | exact HB.out | apply below_alloc | apply pw_below_drewN | apply below_drew1) | exact HB.out)) hb); clear HO_15; clear HO226; clear HO229; clear HO232; clear HO236; clear HO241; clear HB; have HO_15 := n0_; have HO226 := n1_; have HO229 := n2_; have HO232 := n3_; have HO236 := n4_; have HO241 := n5_; have HB := n6_; clear n0_ n1_ n2_ n3_ n4_ n5_ n6_; (try clear hb); (try clear hb2); (try clear hk); (try clear hi)))
                  go_meet
                  case rel => exact ⟨_, ((t238.toList != t242.toList)), (by first | rfl | (simp; done) | (simp [*]; done)), H', ⟨by have := HK1.out; first | omega | exact Nat.le_refl _⟩, ⟨by (with_reducible repeat (first | apply Kd.R_alloc | apply Kd.R_drewN | apply Kd.R_drew)); exact Kd.R_mono HO_15.out (fun _ hk => trivial)⟩, ⟨by repeat (first | (with_reducible first | exact HB.out | apply below_alloc | apply pw_below_drewN | apply below_drew1) | exact HB.out)⟩⟩
                · replace c21 := Bool.eq_false_iff.mpr c21
                  subst c21
                  have H1 : (chaselaw1_WordsRead.j1 k1 y220 (y220.length : Int) x17_1 true) = some r := by rw [if_neg (show ¬ (false = true) by decide)] at H; exact H
                  clear H
                  have H := H1
                  clear H1
                  have H' := Aside0.mk H
                  clear H
                  go_wp2_with (first | ((with_reducible refine gate_callee (f := 37) rfl ?_); refine goesL_ (some 24) rfl rfl Tryd.func37 (by kernel_rfl) rfl #[.string (rdOf ByteArray.empty y220 x17_1)] rfl (by (try simp only [List.map_toArray, List.map_cons, List.map_nil]); first | done | rfl | (simp only [List.length_drop, List.length_take]; rfl)) ?_; (with_reducible refine (near_Words.calls k1 (rdOf ByteArray.empty y220 x17_1) t227 _ A15.out).mono ?_); rintro e w36 ⟨v228, rfl, ho0, hb⟩; refine ⟨_, rfl, ?_⟩; have n0_ := Aside0.mk (Kd.R_elder' (by (with_reducible repeat (first | apply Kd.R_alloc | apply Kd.R_drewN | apply Kd.R_drew)); exact HO_15.out) (Kd.R_base ho0) hb); have n1_ := Aside0.mk (Kd.R_elder' (by (with_reducible repeat (first | apply Kd.R_alloc | apply Kd.R_drewN | apply Kd.R_drew)); exact HO226.out) (Kd.R_base ho0) hb); have n2_ := Aside0.mk (Kd.R_lower (Kd.R_new' (Kd.R_new' ho0 (Kd.R_lt (by (with_reducible repeat (first | apply Kd.R_alloc | apply Kd.R_drewN | apply Kd.R_drew)); exact HO_15.out))) (Kd.R_lt (by (with_reducible repeat (first | apply Kd.R_alloc | apply Kd.R_drewN | apply Kd.R_drew)); exact HO226.out))) (below_size (by repeat (first | (with_reducible first | exact HB.out | apply below_alloc | apply pw_below_drewN | apply below_drew1) | exact HB.out)))); have n3_ := Aside0.mk (below_step (by repeat (first | (with_reducible first | exact HB.out | apply below_alloc | apply pw_below_drewN | apply below_drew1) | exact HB.out)) hb); clear HO_15; clear HO226; clear HB; have HO_15 := n0_; have HO226 := n1_; have HO229 := n2_; have HB := n3_; clear n0_ n1_ n2_ n3_; (try clear hb); (try clear hb2); (try clear hk); (try clear hi); (try clear ho0)) | ((with_reducible refine gate_callee (f := 38) rfl ?_); refine goesL_ (some 26) rfl rfl Tryd.func38 (by kernel_rfl) rfl #[.string (rdOf ByteArray.empty y220 x17_1)] rfl (by (try simp only [List.map_toArray, List.map_cons, List.map_nil]); first | done | rfl | (simp only [List.length_drop, List.length_take]; rfl)) ?_; (with_reducible refine (chaseref1_WordsOf.calls k1 (rdOf ByteArray.empty y220 x17_1) t230 _ A16.out).mono ?_); rintro e w37 ⟨v231, rfl, ho0, hb⟩; refine ⟨_, rfl, ?_⟩; have n0_ := Aside0.mk (Kd.R_elder' (by (with_reducible repeat (first | apply Kd.R_alloc | apply Kd.R_drewN | apply Kd.R_drew)); exact HO_15.out) (Kd.R_base ho0) hb); have n1_ := Aside0.mk (Kd.R_elder' (by (with_reducible repeat (first | apply Kd.R_alloc | apply Kd.R_drewN | apply Kd.R_drew)); exact HO226.out) (Kd.R_base ho0) hb); have n2_ := Aside0.mk (Kd.R_elder' (by (with_reducible repeat (first | apply Kd.R_alloc | apply Kd.R_drewN | apply Kd.R_drew)); exact HO229.out) (Kd.R_base ho0) hb); have n3_ := Aside0.mk (Kd.R_lower (Kd.R_new' (Kd.R_new' (Kd.R_new' ho0 (Kd.R_lt (by (with_reducible repeat (first | apply Kd.R_alloc | apply Kd.R_drewN | apply Kd.R_drew)); exact HO_15.out))) (Kd.R_lt (by (with_reducible repeat (first | apply Kd.R_alloc | apply Kd.R_drewN | apply Kd.R_drew)); exact HO226.out))) (Kd.R_lt (by (with_reducible repeat (first | apply Kd.R_alloc | apply Kd.R_drewN | apply Kd.R_drew)); exact HO229.out))) (below_size (by repeat (first | (with_reducible first | exact HB.out | apply below_alloc | apply pw_below_drewN | apply below_drew1) | exact HB.out)))); have n4_ := Aside0.mk (below_step (by repeat (first | (with_reducible first | exact HB.out | apply below_alloc | apply pw_below_drewN | apply below_drew1) | exact HB.out)) hb); clear HO_15; clear HO226; clear HO229; clear HB; have HO_15 := n0_; have HO226 := n1_; have HO229 := n2_; have HO232 := n3_; have HB := n4_; clear n0_ n1_ n2_ n3_ n4_; (try clear hb); (try clear hb2); (try clear hk); (try clear hi); (try clear ho0); obtain ⟨Ao38, co38, eo38⟩ := Kd.R_slice HO229.out; subst eo38; obtain ⟨Ao39, co39, eo39⟩ := Kd.R_slice HO232.out; subst eo39) | ((with_reducible refine gate_callee (f := 18) rfl ?_); refine goesL_ (some 27) rfl rfl Tryd.func18 (by kernel_rfl) rfl #[.slice Ao38 t227.length co38, .slice Ao39 t230.length co39] rfl (by (try simp only [List.map_toArray, List.map_cons, List.map_nil]); first | done | rfl | (simp only [List.length_drop, List.length_take]; rfl)) ?_; (with_reducible refine (slices_Equal_string_string.calls k1 _ _ t227 _ _ t230 true _ ?side1 ?side2 ?side3 ?side4 A17.out).mono ?_); (case side1 => repeat (first | exact (Kd.R_reads' HO229.out).2.2 | (with_reducible refine Kd.C_alloc ?_ _) | (with_reducible refine Kd.C_drewN ?_ _) | (with_reducible refine Kd.C_drew ?_))); (case side2 => exact (Kd.R_reads' HO229.out).2.1); (case side3 => repeat (first | exact (Kd.R_reads' HO232.out).2.2 | (with_reducible refine Kd.C_alloc ?_ _) | (with_reducible refine Kd.C_drewN ?_ _) | (with_reducible refine Kd.C_drew ?_))); (case side4 => exact (Kd.R_reads' HO232.out).2.1); rintro e w' ⟨rfl, ⟨nd, rfl⟩⟩; refine ⟨_, rfl, ?_⟩) | (go_at_call 39; (with_reducible refine (chaseref1_TokensOf.calls k1 (rdOf ByteArray.empty y220 x17_1) t234 _ ?side1 A19.out).mono ?_); (case side1 => exact Wd.below HGl.out (by repeat (first | (with_reducible first | exact HB.out | apply below_alloc | apply pw_below_drewN | apply below_drew1) | exact HB.out))); rintro e w40 ⟨v235, rfl, ho0, hb⟩; have n0_ := Aside0.mk (Kd.R_elder' (by (with_reducible repeat (first | apply Kd.R_alloc | apply Kd.R_drewN | apply Kd.R_drew)); exact HO_15.out) (Kd.R_base ho0) hb); have n1_ := Aside0.mk (Kd.R_elder' (by (with_reducible repeat (first | apply Kd.R_alloc | apply Kd.R_drewN | apply Kd.R_drew)); exact HO226.out) (Kd.R_base ho0) hb); have n2_ := Aside0.mk (Kd.R_elder' (by (with_reducible repeat (first | apply Kd.R_alloc | apply Kd.R_drewN | apply Kd.R_drew)); exact HO229.out) (Kd.R_base ho0) hb); have n3_ := Aside0.mk (Kd.R_elder' (by (with_reducible repeat (first | apply Kd.R_alloc | apply Kd.R_drewN | apply Kd.R_drew)); exact HO232.out) (Kd.R_base ho0) hb); have n4_ := Aside0.mk (Kd.R_lower (Kd.R_new' (Kd.R_new' (Kd.R_new' (Kd.R_new' ho0 (Kd.R_lt (by (with_reducible repeat (first | apply Kd.R_alloc | apply Kd.R_drewN | apply Kd.R_drew)); exact HO_15.out))) (Kd.R_lt (by (with_reducible repeat (first | apply Kd.R_alloc | apply Kd.R_drewN | apply Kd.R_drew)); exact HO226.out))) (Kd.R_lt (by (with_reducible repeat (first | apply Kd.R_alloc | apply Kd.R_drewN | apply Kd.R_drew)); exact HO229.out))) (Kd.R_lt (by (with_reducible repeat (first | apply Kd.R_alloc | apply Kd.R_drewN | apply Kd.R_drew)); exact HO232.out))) (below_size (by repeat (first | (with_reducible first | exact HB.out | apply below_alloc | apply pw_below_drewN | apply below_drew1) | exact HB.out)))); have n5_ := Aside0.mk (below_step (by repeat (first | (with_reducible first | exact HB.out | apply below_alloc | apply pw_below_drewN | apply below_drew1) | exact HB.out)) hb); clear HO_15; clear HO226; clear HO229; clear HO232; clear HB; have HO_15 := n0_; have HO226 := n1_; have HO229 := n2_; have HO232 := n3_; have HO236 := n4_; have HB := n5_; clear n0_ n1_ n2_ n3_ n4_ n5_; (try clear hb); (try clear hb2); (try clear hk); (try clear hi); (try clear ho0); obtain ⟨Ao41, co41, eo41⟩ := Kd.R_slice HO226.out; subst eo41; obtain ⟨Ao42, co42, eo42⟩ := Kd.R_slice HO236.out; subst eo42) | (go_at_call 18; (with_reducible refine (slices_Equal_string_string.calls k1 _ _ t224 _ _ t234 false _ ?side1 ?side2 ?side3 ?side4 A20.out).mono ?_); (case side1 => repeat (first | exact (Kd.R_reads' HO226.out).2.2 | (with_reducible refine Kd.C_alloc ?_ _) | (with_reducible refine Kd.C_drewN ?_ _) | (with_reducible refine Kd.C_drew ?_))); (case side2 => exact (Kd.R_reads' HO226.out).2.1); (case side3 => repeat (first | exact (Kd.R_reads' HO236.out).2.2 | (with_reducible refine Kd.C_alloc ?_ _) | (with_reducible refine Kd.C_drewN ?_ _) | (with_reducible refine Kd.C_drew ?_))); (case side4 => exact (Kd.R_reads' HO236.out).2.1); rintro e w' ⟨rfl, ⟨nd, rfl⟩⟩))
                  go_meet
                  case rel => exact ⟨_, (true), (by first | rfl | (simp; done) | (simp [*]; done)), H', ⟨by have := HK1.out; first | omega | exact Nat.le_refl _⟩, ⟨by (with_reducible repeat (first | apply Kd.R_alloc | apply Kd.R_drewN | apply Kd.R_drew)); exact Kd.R_mono HO_15.out (fun _ hk => trivial)⟩, ⟨by repeat (first | (with_reducible first | exact HB.out | apply below_alloc | apply pw_below_drewN | apply below_drew1) | exact HB.out)⟩⟩
              · replace c18 := Bool.eq_false_iff.mpr c18
                subst c18
                have H1 : (chaselaw1_WordsRead.j1 k1 y220 (y220.length : Int) x17_1 true) = some r := by rw [if_neg (show ¬ (false = true) by decide)] at H; exact H
                clear H
                have H := H1
                clear H1
                have H' := Aside0.mk H
                clear H
                go_wp2_with (first | ((with_reducible refine gate_callee (f := 37) rfl ?_); refine goesL_ (some 24) rfl rfl Tryd.func37 (by kernel_rfl) rfl #[.string (rdOf ByteArray.empty y220 x17_1)] rfl (by (try simp only [List.map_toArray, List.map_cons, List.map_nil]); first | done | rfl | (simp only [List.length_drop, List.length_take]; rfl)) ?_; (with_reducible refine (near_Words.calls k1 (rdOf ByteArray.empty y220 x17_1) t227 _ A15.out).mono ?_); rintro e w43 ⟨v228, rfl, ho0, hb⟩; refine ⟨_, rfl, ?_⟩; have n0_ := Aside0.mk (Kd.R_elder' (by (with_reducible repeat (first | apply Kd.R_alloc | apply Kd.R_drewN | apply Kd.R_drew)); exact HO_15.out) (Kd.R_base ho0) hb); have n1_ := Aside0.mk (Kd.R_elder' (by (with_reducible repeat (first | apply Kd.R_alloc | apply Kd.R_drewN | apply Kd.R_drew)); exact HO226.out) (Kd.R_base ho0) hb); have n2_ := Aside0.mk (Kd.R_lower (Kd.R_new' (Kd.R_new' ho0 (Kd.R_lt (by (with_reducible repeat (first | apply Kd.R_alloc | apply Kd.R_drewN | apply Kd.R_drew)); exact HO_15.out))) (Kd.R_lt (by (with_reducible repeat (first | apply Kd.R_alloc | apply Kd.R_drewN | apply Kd.R_drew)); exact HO226.out))) (below_size (by repeat (first | (with_reducible first | exact HB.out | apply below_alloc | apply pw_below_drewN | apply below_drew1) | exact HB.out)))); have n3_ := Aside0.mk (below_step (by repeat (first | (with_reducible first | exact HB.out | apply below_alloc | apply pw_below_drewN | apply below_drew1) | exact HB.out)) hb); clear HO_15; clear HO226; clear HB; have HO_15 := n0_; have HO226 := n1_; have HO229 := n2_; have HB := n3_; clear n0_ n1_ n2_ n3_; (try clear hb); (try clear hb2); (try clear hk); (try clear hi); (try clear ho0)) | ((with_reducible refine gate_callee (f := 38) rfl ?_); refine goesL_ (some 26) rfl rfl Tryd.func38 (by kernel_rfl) rfl #[.string (rdOf ByteArray.empty y220 x17_1)] rfl (by (try simp only [List.map_toArray, List.map_cons, List.map_nil]); first | done | rfl | (simp only [List.length_drop, List.length_take]; rfl)) ?_; (with_reducible refine (chaseref1_WordsOf.calls k1 (rdOf ByteArray.empty y220 x17_1) t230 _ A16.out).mono ?_); rintro e w44 ⟨v231, rfl, ho0, hb⟩; refine ⟨_, rfl, ?_⟩; have n0_ := Aside0.mk (Kd.R_elder' (by (with_reducible repeat (first | apply Kd.R_alloc | apply Kd.R_drewN | apply Kd.R_drew)); exact HO_15.out) (Kd.R_base ho0) hb); have n1_ := Aside0.mk (Kd.R_elder' (by (with_reducible repeat (first | apply Kd.R_alloc | apply Kd.R_drewN | apply Kd.R_drew)); exact HO226.out) (Kd.R_base ho0) hb); have n2_ := Aside0.mk (Kd.R_elder' (by (with_reducible repeat (first | apply Kd.R_alloc | apply Kd.R_drewN | apply Kd.R_drew)); exact HO229.out) (Kd.R_base ho0) hb); have n3_ := Aside0.mk (Kd.R_lower (Kd.R_new' (Kd.R_new' (Kd.R_new' ho0 (Kd.R_lt (by (with_reducible repeat (first | apply Kd.R_alloc | apply Kd.R_drewN | apply Kd.R_drew)); exact HO_15.out))) (Kd.R_lt (by (with_reducible repeat (first | apply Kd.R_alloc | apply Kd.R_drewN | apply Kd.R_drew)); exact HO226.out))) (Kd.R_lt (by (with_reducible repeat (first | apply Kd.R_alloc | apply Kd.R_drewN | apply Kd.R_drew)); exact HO229.out))) (below_size (by repeat (first | (with_reducible first | exact HB.out | apply below_alloc | apply pw_below_drewN | apply below_drew1) | exact HB.out)))); have n4_ := Aside0.mk (below_step (by repeat (first | (with_reducible first | exact HB.out | apply below_alloc | apply pw_below_drewN | apply below_drew1) | exact HB.out)) hb); clear HO_15; clear HO226; clear HO229; clear HB; have HO_15 := n0_; have HO226 := n1_; have HO229 := n2_; have HO232 := n3_; have HB := n4_; clear n0_ n1_ n2_ n3_ n4_; (try clear hb); (try clear hb2); (try clear hk); (try clear hi); (try clear ho0); obtain ⟨Ao45, co45, eo45⟩ := Kd.R_slice HO229.out; subst eo45; obtain ⟨Ao46, co46, eo46⟩ := Kd.R_slice HO232.out; subst eo46) | ((with_reducible refine gate_callee (f := 18) rfl ?_); refine goesL_ (some 27) rfl rfl Tryd.func18 (by kernel_rfl) rfl #[.slice Ao45 t227.length co45, .slice Ao46 t230.length co46] rfl (by (try simp only [List.map_toArray, List.map_cons, List.map_nil]); first | done | rfl | (simp only [List.length_drop, List.length_take]; rfl)) ?_; (with_reducible refine (slices_Equal_string_string.calls k1 _ _ t227 _ _ t230 false _ ?side1 ?side2 ?side3 ?side4 A17.out).mono ?_); (case side1 => repeat (first | exact (Kd.R_reads' HO229.out).2.2 | (with_reducible refine Kd.C_alloc ?_ _) | (with_reducible refine Kd.C_drewN ?_ _) | (with_reducible refine Kd.C_drew ?_))); (case side2 => exact (Kd.R_reads' HO229.out).2.1); (case side3 => repeat (first | exact (Kd.R_reads' HO232.out).2.2 | (with_reducible refine Kd.C_alloc ?_ _) | (with_reducible refine Kd.C_drewN ?_ _) | (with_reducible refine Kd.C_drew ?_))); (case side4 => exact (Kd.R_reads' HO232.out).2.1); rintro e w' ⟨rfl, ⟨nd, rfl⟩⟩; refine ⟨_, rfl, ?_⟩))
                go_meet
                case rel => exact ⟨_, (true), (by first | rfl | (simp; done) | (simp [*]; done)), H', ⟨by have := HK1.out; first | omega | exact Nat.le_refl _⟩, ⟨by (with_reducible repeat (first | apply Kd.R_alloc | apply Kd.R_drewN | apply Kd.R_drew)); exact Kd.R_mono HO_15.out (fun _ hk => trivial)⟩, ⟨by repeat (first | (with_reducible first | exact HB.out | apply below_alloc | apply pw_below_drewN | apply below_drew1) | exact HB.out)⟩⟩
            case rest =>
              clear HC13
              try clear c1
              try clear c2
              try clear p2
              try clear q2
              try clear hx2
              try clear c3
              try clear c6
              try clear c9
              try clear c9b0
              try clear c10
              try clear c10b0
              try clear c11
              try clear c11b0
              try clear c18
              try clear c21
              try clear p22
              try clear q22
              try clear hx22
              try clear c35
              try clear c36
              try clear c37
              try clear c38
              try clear hx223_0
              try clear p2
              try clear p223
              try clear q223
              obtain ⟨kq, x43_12, rfl, HA, HJ12, HO_15, HB⟩ := hcut
              cases kq with
              | zero => exact absurd HA.out (by simp [chaselaw1_WordsRead.j1])
              | succ kj12 =>
                have H := HA.out
                clear HA
                simp only [chaselaw1_WordsRead.j1] at H
                by_cases c47 : x43_12 = true
                · subst c47
                  have H1 : (some false) = some r := by rw [if_pos rfl] at H; exact H
                  clear H
                  have H := H1
                  clear H1
                  obtain rfl := Option.some.inj H
                  go_wp2
                  go_ret
                  exact ⟨by first | rfl | (simp [errW_none, errW_some] <;> rfl) | (simp [*, errW_none, errW_some] <;> rfl), by repeat (first | (with_reducible first | exact HB.out | apply below_alloc | apply pw_below_drewN | apply below_drew1) | exact HB.out)⟩
                · replace c47 := Bool.eq_false_iff.mpr c47
                  subst c47
                  have H1 : (chaselaw1_WordsRead.l0 kj12 y220 (y220.length : Int) (wrap64 (x17_1 + 1))) = some r := by rw [if_neg (show ¬ (false = true) by decide)] at H; exact H
                  clear H
                  have H := H1
                  clear H1
                  have H' := Aside0.mk H
                  clear H
                  go_wp2
                  go_roundg kj12
                  case measure => have := HK1.out; have := HJ12.out; omega
                  case rel => exact ⟨(wrap64 (x17_1 + 1)), (by first | rfl | (simp; done) | (simp [*]; done)), H', ⟨by have := HK1.out; have := HJ12.out; omega⟩, ⟨by (with_reducible repeat (first | apply Kd.R_alloc | apply Kd.R_drewN | apply Kd.R_drew)); exact HO_15.out⟩, ⟨by repeat (first | (with_reducible first | exact HB.out | apply below_alloc | apply pw_below_drewN | apply below_drew1) | exact HB.out)⟩⟩
          · rw [if_neg c11] at H
            exact absurd H (by simp)
        · rw [if_neg c10] at H
          exact absurd H (by simp)
      · rw [if_neg c9] at H
        have c9b0 : decide (x17_1 < (y220.length : Int)) = false := decide_eq_false c9
        clear c9
        replace H := Option.bind_eq_some_iff.mp H
        obtain ⟨t243, A480, H⟩ := H
        replace H : (some t243) = some r := H
        have A48 := Aside0.mk A480
        clear A480
        obtain rfl := Option.some.inj H
        go_wp2_with (first | ((with_reducible refine gate_callee (f := 42) rfl ?_); refine goesL_ (some 45) rfl rfl Tryd.func42 (by kernel_rfl) rfl #[] rfl (by (try simp only [List.map_toArray, List.map_cons, List.map_nil]); first | done | rfl | (simp only [List.length_drop, List.length_take]; rfl)) ?_; (with_reducible refine (chaselaw1_nears.calls k1  t243 _ A48.out).mono ?_); rintro e w49 ⟨rfl, hb⟩; refine ⟨_, rfl, ?_⟩; have n0_ := Aside0.mk (Kd.R_below (by (with_reducible repeat (first | apply Kd.R_alloc | apply Kd.R_drewN | apply Kd.R_drew)); exact HO_15.out) hb); have n1_ := Aside0.mk (below_step (by repeat (first | (with_reducible first | exact HB.out | apply below_alloc | apply pw_below_drewN | apply below_drew1) | exact HB.out)) hb); clear HO_15; clear HB; have HO_15 := n0_; have HB := n1_; clear n0_ n1_; (try clear hb); (try clear hb2); (try clear hk); (try clear hi)))
        go_ret
        exact ⟨by first | rfl | (simp [errW_none, errW_some] <;> rfl) | (simp [*, errW_none, errW_some] <;> rfl), by repeat (first | (with_reducible first | exact HB.out | apply below_alloc | apply pw_below_drewN | apply below_drew1) | exact HB.out)⟩
def chaselaw1_WordsRead.Pure : Prop := ∀ (l0 : List Int) (a1 : ByteArray), l0.length ≤ maxLen → l0.length * 8 ≤ 140737488351232 → (∀ x ∈ l0, (Lit.int .i64 x).wf = true) → a1.size ≤ 1048576 → ∃ k, chaselaw1_WordsRead.f k l0 a1 = some true
theorem chaselaw1_WordsRead.walk (P : chaselaw1_WordsRead.Pure) (a0 : Option Addr) (len0 cap0 : Nat) (z0 : List Int) (a1 : ByteArray) (w : World) (w0 : (a0 = none ∧ len0 = 0 ∧ cap0 = 0 ∧ z0 = []) ∨ ∃ x, a0 = some x ∧ len0 ≤ cap0 ∧ cap0 ≤ maxLen ∧ z0.length = cap0 ∧ (∀ i, i < z0.length → w.cell? (x.add i) = some (.int .i64 (z0.getD i 0))) ∧ ∀ n ∈ z0, (Lit.int .i64 n).wf = true) (y0 : len0 * 8 ≤ 140737488351232) (w1 : a1.size ≤ 1048576) (hGl : Wd w) :
    Calls Tryd.prog 6 #[.slice a0 len0 cap0, .string a1] w fun e w' => e = .returned (.bool true) ∧ Below w.heap.size w w' := by
  obtain ⟨l0, rfl, hr0, hm0, hw0, hc0⟩ := ReadsInt.ofRowC w0
  obtain ⟨k, h⟩ := P l0 a1 hm0 y0 hw0 w1
  refine (chaselaw1_WordsRead.calls k _ _ l0 a1 true w (Kd.C_of_reads (d := (0 : Int)) (h1 := fun _ => rfl) hr0) hc0 hGl h).mono ?_
  rintro e w' ⟨rfl, hd⟩
  exact ⟨rfl, hd⟩
end Go.Proofs.YtbamfhcifpfocaaDoor.Pw
