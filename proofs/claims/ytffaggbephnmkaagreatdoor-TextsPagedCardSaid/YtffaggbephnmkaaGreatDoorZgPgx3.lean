/- Part of the proof that the law textsPaged is true for every input. No conditions. Laid by a program of this session over the kit's print and words; declarations that nothing names are left out. -/
import Derived.Test.YtffaggbephnmkaaGreatDoorZgPgx0
import Derived.Test.YtffaggbephnmkaaGreatDoorZgPgx1
import Derived.Test.YtffaggbephnmkaaGreatDoorZgPgx2
namespace Go.Proofs.YtffaggbephnmkaaGreatDoor.Pg
open Go.RowKit Go.Proofs.YtffaggbephnmkaaGreatDoor.GBase Go.Proofs.YtffaggbephnmkaaGreatDoorW.PrintWords Go.Proofs.YtffaggbephnmkaaGreatDoorW.PrintLast Go.Proofs.YtffaggbephnmkaaGreatDoorW.PrintMore
attribute [local go_sem] str_leq max2_int min2_int max_two min_two max_three min_three max_four min_four
set_option linter.unusedVariables false
set_option linter.unusedSimpArgs false
def chasemake_Stream_PaperText.j0 : Nat → List (S55) → Bool → List Int → Int → Option (ByteArray × Int)
  | 0, _, _, _, _ => none
  | k + 1, x3, x12, x1000, x1001 => if x12 = true then ((strings_Repeat.f (⟨#[112]⟩ : ByteArray) 20000).bind fun t188 => (if t188.size + 1 ≤ 9223372036854775807 then ((strings_Repeat.f (⟨#[32]⟩ : ByteArray) 90).bind fun t189 => (if t189.size + 1 ≤ 9223372036854775807 then ((strings_Repeat.f (⟨#[32]⟩ : ByteArray) 81).bind fun t190 => (if t190.size + 2 ≤ 9223372036854775807 then ((strings_Repeat.f (⟨#[195, 169]⟩ : ByteArray) 41).bind fun t191 => (if t191.size + 1 ≤ 9223372036854775807 then ((strings_Repeat.f (⟨#[195, 169]⟩ : ByteArray) 41).bind fun t192 => (if 1 + t192.size ≤ 9223372036854775807 then (if ((⟨#[120]⟩ : ByteArray) ++ t192).size + 3 ≤ 9223372036854775807 then ((strings_Repeat.f (⟨#[98]⟩ : ByteArray) 90).bind fun t193 => (if 2 + t193.size ≤ 9223372036854775807 then (if ((⟨#[97, 32]⟩ : ByteArray) ++ t193).size + 1 ≤ 9223372036854775807 then ((chasemake_Stream_h06one.f x1000 x1001 (([(⟨#[]⟩ : ByteArray), (⟨#[120]⟩ : ByteArray), (⟨#[97, 9, 98, 10]⟩ : ByteArray), t188 ++ (⟨#[10]⟩ : ByteArray), t189 ++ (⟨#[10]⟩ : ByteArray), t190 ++ (⟨#[120, 10]⟩ : ByteArray), t191 ++ (⟨#[10]⟩ : ByteArray), ((⟨#[120]⟩ : ByteArray) ++ t192) ++ (⟨#[32, 121, 10]⟩ : ByteArray), ((⟨#[97, 32]⟩ : ByteArray) ++ t193) ++ (⟨#[10]⟩ : ByteArray)] : List ByteArray))).bind fun bt197 => (some (bt197.1, bt197.2))) else (none)) else (none))) else (none)) else (none))) else (none))) else (none))) else (none))) else (none))) else (if 0 < (x3.length : Int) then (some ((rd_T55 x3 0).f6, x1001)) else (none))
def chasemake_Stream_PaperText.f (k : Nat) (s0_0 : List Int) (s0_1 : Int) : Option (ByteArray × Int) := (chasemake_Stream_Papers.f k s0_0 s0_1 1).bind fun bt182 => (if (bt182.1.length : Int) = 0 then (chasemake_Stream_PaperText.j0 k bt182.1 true s0_0 bt182.2) else ((chasemake_Stream_Flip.f s0_0 bt182.2 12).bind fun bt186 => (chasemake_Stream_PaperText.j0 k bt182.1 bt186.1 s0_0 bt186.2)))
theorem chasemake_Stream_PaperText.mono_l : ∀ k, (∀ y0 y1 y2 y3, LeO (chasemake_Stream_PaperText.j0 k y0 y1 y2 y3) (chasemake_Stream_PaperText.j0 (k + 1) y0 y1 y2 y3))
  | 0 => fun _ _ _ _ r h => by simp [chasemake_Stream_PaperText.j0] at h
  | k + 1 => by
    have ih0 := chasemake_Stream_PaperText.mono_l k
    · intro y0 y1 y2 y3
      unfold chasemake_Stream_PaperText.j0
      repeat' first
      | (with_reducible exact ih0 _ _ _ _)
      | (with_reducible exact chasemake_Stream_Papers.mono _ _ _ _)
      | (with_reducible exact LeO.refl _)
      | (with_reducible exact LeO.none _)
      | (with_reducible refine LeO.ite ?_ ?_)
      | (with_reducible refine LeO.bind ?_ (fun _ => ?_))
      | exact ih0 _ _ _ _
      | exact chasemake_Stream_Papers.mono _ _ _ _
      | exact LeO.none _
      | refine LeO.ite ?_ ?_
      | refine LeO.bind ?_ (fun _ => ?_)
theorem chasemake_Stream_PaperText.mono : ∀ a0 a1 k, LeO (chasemake_Stream_PaperText.f k a0 a1) (chasemake_Stream_PaperText.f (k + 1) a0 a1) := by
  intro a0 a1 k
  have ih0 := chasemake_Stream_PaperText.mono_l k
  unfold chasemake_Stream_PaperText.f
  repeat' first
      | (with_reducible exact ih0 _ _ _ _)
      | (with_reducible exact chasemake_Stream_Papers.mono _ _ _ _)
      | (with_reducible exact LeO.refl _)
      | (with_reducible exact LeO.none _)
      | (with_reducible refine LeO.ite ?_ ?_)
      | (with_reducible refine LeO.bind ?_ (fun _ => ?_))
      | exact ih0 _ _ _ _
      | exact chasemake_Stream_Papers.mono _ _ _ _
      | exact LeO.none _
      | refine LeO.ite ?_ ?_
      | refine LeO.bind ?_ (fun _ => ?_)
set_option maxHeartbeats 8000000 in
set_option maxRecDepth 100000 in
theorem chasemake_Stream_PaperText.calls (k : Nat) (g : Nat) (s0_0 : List Int) (s0_1 : Int) (r1 : ByteArray) (r2 : Int) (w0 w : World) (hI : IsS25 w0 w g s0_0 s0_1) (hB : Below w0.heap.size w0 w) (h : chasemake_Stream_PaperText.f k s0_0 s0_1 = some (r1, r2)) :
    Calls Tryz.prog 5 #[.pointer (some ⟨g, 0, none⟩)] w fun e w' => e = .returned (.string r1) ∧ IsS25 w0 w' g s0_0 r2 ∧ Below w0.heap.size w0 w' ∧ KeepBut w w' g none := by
  have HI0 := Aside0.mk hI
  have HK := Aside0.mk (KeepBut.refl w g none)
  have HL := Aside0.mk hB.size
  clear hI
  have HW0 := Aside0.mk hB.size
  have HB := Aside0.mk hB
  clear hB
  have H : ((chasemake_Stream_Papers.f k s0_0 s0_1 1).bind fun bt182 => (if (bt182.1.length : Int) = 0 then (chasemake_Stream_PaperText.j0 k bt182.1 true s0_0 bt182.2) else ((chasemake_Stream_Flip.f s0_0 bt182.2 12).bind fun bt186 => (chasemake_Stream_PaperText.j0 k bt182.1 bt186.1 s0_0 bt186.2)))) = some (r1, r2) := h
  clear h
  replace H := Option.bind_eq_some_iff.mp H
  obtain ⟨⟨t182, t185⟩, A20, H⟩ := H
  replace H : (if (t182.length : Int) = 0 then (chasemake_Stream_PaperText.j0 k t182 true s0_0 t185) else ((chasemake_Stream_Flip.f s0_0 t185 12).bind fun bt186 => (chasemake_Stream_PaperText.j0 k t182 bt186.1 s0_0 bt186.2))) = some (r1, r2) := H
  have A2 := Aside0.mk A20
  clear A20
  have HC3 := Aside0.mk H
  clear H
  go_enter Tryz.func5, Tryz.ntmps5
  go_upto_region 2 with (first | ((with_reducible refine gate_callee (f := 22) rfl ?_); refine goesL_ (some 5) rfl rfl Tryz.func22 (by kernel_rfl) rfl #[.pointer (some ⟨g, 0, none⟩), .int .i64 1] rfl (by (try simp only [List.map_toArray, List.map_cons, List.map_nil]); first | done | rfl | (simp only [List.length_drop, List.length_take]; rfl)) ?_; (with_reducible refine (chasemake_Stream_Papers.calls k g s0_0 s0_1 1 t182 t185 w0 _ ?side1 ?side2 A2.out).mono ?_); (case side1 => repeat (first | (with_reducible first | exact HI0.out | apply IsS25.alloc | apply IsS25.drewN | apply IsS25.drew | apply IsS25.set_1) | exact HI0.out)); (case side2 => repeat (first | (with_reducible first | exact HB.out | apply below_alloc | apply pw_below_drewN | apply below_drew1 | refine below_set ?_ (IsS25.ge HI0.out)) | exact HB.out)); rintro e w4 ⟨v183, rfl, ho0, hi, hb, hk⟩; refine ⟨_, rfl, ?_⟩; have n0_ := Aside0.mk (Kd.R_lower ho0 (keep_size (w := w) (g := g) (row := none) (by repeat (first | (with_reducible first | exact HK.out | apply KeepBut.set_ | apply keep_drewN | apply keep_drew | apply keep_alloc) | exact HK.out)))); have n1_ := Aside0.mk (KeepBut.trans (by repeat (first | (with_reducible first | exact HK.out | apply KeepBut.set_ | apply keep_drewN | apply keep_drew | apply keep_alloc) | exact HK.out)) hk (.inl rfl)); have n2_ := Aside0.mk (hb); have n3_ := Aside0.mk (hi); clear HK; clear HB; clear HI0; have HO184 := n0_; have HK := n1_; have HB := n2_; have HI0 := n3_; clear n0_ n1_ n2_ n3_; (try clear hb); (try clear hb2); (try clear hk); (try clear hi); (try clear ho0)))
  (try simp only [Act.put, List.setIfInBounds_toArray, List.set_cons_zero, List.set_cons_succ])
  go_cut [12] (fun v12 wc => ∃ (kq : Nat) (x12_2 : Bool) (x1001_2 : Int), v12 = .bool x12_2 ∧ Aside0 (chasemake_Stream_PaperText.j0 kq t182 x12_2 s0_0 x1001_2 = some (r1, r2)) ∧ Aside0 (kq ≤ k) ∧ Aside0 (Kd.R k55 55 wc w.heap.size (fun _ => True) v183 t182) ∧ Aside0 (IsS25 w0 wc g s0_0 x1001_2) ∧ Aside0 (KeepBut w wc g none) ∧ Aside0 (Below w0.heap.size w0 wc))
  case first =>
    have H := HC3.out
    clear HC3
    by_cases c5 : (t182.length : Int) = 0
    · rw [if_pos c5] at H
      have c5b0 : ((t182.length : Int) == 0) = true := beq_iff_eq.mpr c5
      have c5b1 : ((t182.length : Int) != 0) = false := bne_eq_false_iff_eq.mpr c5
      clear c5
      (first | rw [c5b0] | (simp only [i64_w, i32_w]; rw [c5b0]) | skip)
      have H' := Aside0.mk H
      clear H
      obtain ⟨Ao6, co6, eo6⟩ := Kd.R_slice HO184.out
      subst eo6
      go_wp2
      go_meet
      case rel => exact ⟨_, (true), (t185), (by first | rfl | (simp; done) | (simp [*]; done)), H', ⟨by first | omega | exact Nat.le_refl _⟩, ⟨by (with_reducible repeat (first | apply Kd.R_alloc | apply Kd.R_drewN | apply Kd.R_drew)); exact HO184.out⟩, ⟨by repeat (first | (with_reducible first | exact HI0.out | apply IsS25.alloc | apply IsS25.drewN | apply IsS25.drew | apply IsS25.set_1) | exact HI0.out)⟩, ⟨by repeat (first | (with_reducible first | exact HK.out | apply KeepBut.set_ | apply keep_drewN | apply keep_drew | apply keep_alloc) | exact HK.out)⟩, ⟨by repeat (first | (with_reducible first | exact HB.out | apply below_alloc | apply pw_below_drewN | apply below_drew1 | refine below_set ?_ (IsS25.ge HI0.out)) | exact HB.out)⟩⟩
    · rw [if_neg c5] at H
      have c5b0 : ((t182.length : Int) == 0) = false := beq_eq_false_iff_ne.mpr c5
      have c5b1 : ((t182.length : Int) != 0) = true := bne_iff_ne.mpr c5
      have c5b2 : ¬ (t182 = []) := fun h_ => c5 (by rw [h_]; rfl)
      (first | rw [c5b0] | (simp only [i64_w, i32_w]; rw [c5b0]) | skip)
      replace H := Option.bind_eq_some_iff.mp H
      obtain ⟨⟨t186, t187⟩, A70, H⟩ := H
      replace H : (chasemake_Stream_PaperText.j0 k t182 t186 s0_0 t187) = some (r1, r2) := H
      have A7 := Aside0.mk A70
      clear A70
      have H' := Aside0.mk H
      clear H
      obtain ⟨Ao8, co8, eo8⟩ := Kd.R_slice HO184.out
      subst eo8
      go_wp2_with (first | (go_at_call 23; (with_reducible refine (chasemake_Stream_Flip.calls g s0_0 t185 12 t186 t187 w0 _ ?side1 ?side2 A7.out).mono ?_); (case side1 => repeat (first | (with_reducible first | exact HI0.out | apply IsS25.alloc | apply IsS25.drewN | apply IsS25.drew | apply IsS25.set_1) | exact HI0.out)); (case side2 => repeat (first | (with_reducible first | exact HB.out | apply below_alloc | apply pw_below_drewN | apply below_drew1 | refine below_set ?_ (IsS25.ge HI0.out)) | exact HB.out)); rintro e w9 ⟨rfl, hi, hb, hk⟩; have n0_ := Aside0.mk (Kd.R_mono (Kd.R_keep (IsS25.apart (show IsS25 w0 _ g s0_0 t185 from by repeat (first | (with_reducible first | exact HI0.out | apply IsS25.alloc | apply IsS25.drewN | apply IsS25.drew | apply IsS25.set_1) | exact HI0.out)) (by (with_reducible repeat (first | apply Kd.R_alloc | apply Kd.R_drewN | apply Kd.R_drew)); exact HO184.out) (by decide)) hk (fun _ h => h.2)) (fun _ h => h.1)); have n1_ := Aside0.mk (KeepBut.trans (by repeat (first | (with_reducible first | exact HK.out | apply KeepBut.set_ | apply keep_drewN | apply keep_drew | apply keep_alloc) | exact HK.out)) hk (.inl rfl)); have n2_ := Aside0.mk (hb); have n3_ := Aside0.mk (hi); clear HO184; clear HK; clear HB; clear HI0; have HO184 := n0_; have HK := n1_; have HB := n2_; have HI0 := n3_; clear n0_ n1_ n2_ n3_; (try clear hb); (try clear hb2); (try clear hk); (try clear hi)))
      go_meet
      case rel => exact ⟨_, (t186), (t187), (by first | rfl | (simp; done) | (simp [*]; done)), H', ⟨by first | omega | exact Nat.le_refl _⟩, ⟨by (with_reducible repeat (first | apply Kd.R_alloc | apply Kd.R_drewN | apply Kd.R_drew)); exact HO184.out⟩, ⟨by repeat (first | (with_reducible first | exact HI0.out | apply IsS25.alloc | apply IsS25.drewN | apply IsS25.drew | apply IsS25.set_1) | exact HI0.out)⟩, ⟨by repeat (first | (with_reducible first | exact HK.out | apply KeepBut.set_ | apply keep_drewN | apply keep_drew | apply keep_alloc) | exact HK.out)⟩, ⟨by repeat (first | (with_reducible first | exact HB.out | apply below_alloc | apply pw_below_drewN | apply below_drew1 | refine below_set ?_ (IsS25.ge HI0.out)) | exact HB.out)⟩⟩
  case rest =>
    clear HC3
    try clear c2
    try clear p2
    try clear c5
    try clear c5b0
    try clear c5b1
    try clear c5b2
    obtain ⟨kq, x12_2, x1001_2, rfl, HA, HJ2, HO_3, HI0, HK, HB⟩ := hcut
    cases kq with
    | zero => exact absurd HA.out (by simp [chasemake_Stream_PaperText.j0])
    | succ kj2 =>
      have H := HA.out
      clear HA
      simp only [chasemake_Stream_PaperText.j0] at H
      by_cases c10 : x12_2 = true
      · subst c10
        have H1 : ((strings_Repeat.f (⟨#[112]⟩ : ByteArray) 20000).bind fun t188 => (if t188.size + 1 ≤ 9223372036854775807 then ((strings_Repeat.f (⟨#[32]⟩ : ByteArray) 90).bind fun t189 => (if t189.size + 1 ≤ 9223372036854775807 then ((strings_Repeat.f (⟨#[32]⟩ : ByteArray) 81).bind fun t190 => (if t190.size + 2 ≤ 9223372036854775807 then ((strings_Repeat.f (⟨#[195, 169]⟩ : ByteArray) 41).bind fun t191 => (if t191.size + 1 ≤ 9223372036854775807 then ((strings_Repeat.f (⟨#[195, 169]⟩ : ByteArray) 41).bind fun t192 => (if 1 + t192.size ≤ 9223372036854775807 then (if ((⟨#[120]⟩ : ByteArray) ++ t192).size + 3 ≤ 9223372036854775807 then ((strings_Repeat.f (⟨#[98]⟩ : ByteArray) 90).bind fun t193 => (if 2 + t193.size ≤ 9223372036854775807 then (if ((⟨#[97, 32]⟩ : ByteArray) ++ t193).size + 1 ≤ 9223372036854775807 then ((chasemake_Stream_h06one.f s0_0 x1001_2 (([(⟨#[]⟩ : ByteArray), (⟨#[120]⟩ : ByteArray), (⟨#[97, 9, 98, 10]⟩ : ByteArray), t188 ++ (⟨#[10]⟩ : ByteArray), t189 ++ (⟨#[10]⟩ : ByteArray), t190 ++ (⟨#[120, 10]⟩ : ByteArray), t191 ++ (⟨#[10]⟩ : ByteArray), ((⟨#[120]⟩ : ByteArray) ++ t192) ++ (⟨#[32, 121, 10]⟩ : ByteArray), ((⟨#[97, 32]⟩ : ByteArray) ++ t193) ++ (⟨#[10]⟩ : ByteArray)] : List ByteArray))).bind fun bt197 => (some (bt197.1, bt197.2))) else (none)) else (none))) else (none)) else (none))) else (none))) else (none))) else (none))) else (none))) = some (r1, r2) := by rw [if_pos rfl] at H; exact H
        clear H
        have H := H1
        clear H1
        replace H := Option.bind_eq_some_iff.mp H
        obtain ⟨t188, A110, H⟩ := H
        replace H : (if t188.size + 1 ≤ 9223372036854775807 then ((strings_Repeat.f (⟨#[32]⟩ : ByteArray) 90).bind fun t189 => (if t189.size + 1 ≤ 9223372036854775807 then ((strings_Repeat.f (⟨#[32]⟩ : ByteArray) 81).bind fun t190 => (if t190.size + 2 ≤ 9223372036854775807 then ((strings_Repeat.f (⟨#[195, 169]⟩ : ByteArray) 41).bind fun t191 => (if t191.size + 1 ≤ 9223372036854775807 then ((strings_Repeat.f (⟨#[195, 169]⟩ : ByteArray) 41).bind fun t192 => (if 1 + t192.size ≤ 9223372036854775807 then (if ((⟨#[120]⟩ : ByteArray) ++ t192).size + 3 ≤ 9223372036854775807 then ((strings_Repeat.f (⟨#[98]⟩ : ByteArray) 90).bind fun t193 => (if 2 + t193.size ≤ 9223372036854775807 then (if ((⟨#[97, 32]⟩ : ByteArray) ++ t193).size + 1 ≤ 9223372036854775807 then ((chasemake_Stream_h06one.f s0_0 x1001_2 (([(⟨#[]⟩ : ByteArray), (⟨#[120]⟩ : ByteArray), (⟨#[97, 9, 98, 10]⟩ : ByteArray), t188 ++ (⟨#[10]⟩ : ByteArray), t189 ++ (⟨#[10]⟩ : ByteArray), t190 ++ (⟨#[120, 10]⟩ : ByteArray), t191 ++ (⟨#[10]⟩ : ByteArray), ((⟨#[120]⟩ : ByteArray) ++ t192) ++ (⟨#[32, 121, 10]⟩ : ByteArray), ((⟨#[97, 32]⟩ : ByteArray) ++ t193) ++ (⟨#[10]⟩ : ByteArray)] : List ByteArray))).bind fun bt197 => (some (bt197.1, bt197.2))) else (none)) else (none))) else (none)) else (none))) else (none))) else (none))) else (none))) else (none)) = some (r1, r2) := H
        have A11 := Aside0.mk A110
        clear A110
        by_cases c12 : t188.size + 1 ≤ 9223372036854775807
        · rw [if_pos c12] at H
          have c12b0 := eq_true c12
          have c12b1 : decide (t188.size + 1 ≤ 9223372036854775807) = true := decide_eq_true c12
          try have c12b2 : (9223372036854775807 < t188.size + 1) = False := eq_false (Nat.not_lt.2 c12)
          replace H := Option.bind_eq_some_iff.mp H
          obtain ⟨t189, A130, H⟩ := H
          replace H : (if t189.size + 1 ≤ 9223372036854775807 then ((strings_Repeat.f (⟨#[32]⟩ : ByteArray) 81).bind fun t190 => (if t190.size + 2 ≤ 9223372036854775807 then ((strings_Repeat.f (⟨#[195, 169]⟩ : ByteArray) 41).bind fun t191 => (if t191.size + 1 ≤ 9223372036854775807 then ((strings_Repeat.f (⟨#[195, 169]⟩ : ByteArray) 41).bind fun t192 => (if 1 + t192.size ≤ 9223372036854775807 then (if ((⟨#[120]⟩ : ByteArray) ++ t192).size + 3 ≤ 9223372036854775807 then ((strings_Repeat.f (⟨#[98]⟩ : ByteArray) 90).bind fun t193 => (if 2 + t193.size ≤ 9223372036854775807 then (if ((⟨#[97, 32]⟩ : ByteArray) ++ t193).size + 1 ≤ 9223372036854775807 then ((chasemake_Stream_h06one.f s0_0 x1001_2 (([(⟨#[]⟩ : ByteArray), (⟨#[120]⟩ : ByteArray), (⟨#[97, 9, 98, 10]⟩ : ByteArray), t188 ++ (⟨#[10]⟩ : ByteArray), t189 ++ (⟨#[10]⟩ : ByteArray), t190 ++ (⟨#[120, 10]⟩ : ByteArray), t191 ++ (⟨#[10]⟩ : ByteArray), ((⟨#[120]⟩ : ByteArray) ++ t192) ++ (⟨#[32, 121, 10]⟩ : ByteArray), ((⟨#[97, 32]⟩ : ByteArray) ++ t193) ++ (⟨#[10]⟩ : ByteArray)] : List ByteArray))).bind fun bt197 => (some (bt197.1, bt197.2))) else (none)) else (none))) else (none)) else (none))) else (none))) else (none))) else (none)) = some (r1, r2) := H
          have A13 := Aside0.mk A130
          clear A130
          by_cases c14 : t189.size + 1 ≤ 9223372036854775807
          · rw [if_pos c14] at H
            have c14b0 := eq_true c14
            have c14b1 : decide (t189.size + 1 ≤ 9223372036854775807) = true := decide_eq_true c14
            try have c14b2 : (9223372036854775807 < t189.size + 1) = False := eq_false (Nat.not_lt.2 c14)
            replace H := Option.bind_eq_some_iff.mp H
            obtain ⟨t190, A150, H⟩ := H
            replace H : (if t190.size + 2 ≤ 9223372036854775807 then ((strings_Repeat.f (⟨#[195, 169]⟩ : ByteArray) 41).bind fun t191 => (if t191.size + 1 ≤ 9223372036854775807 then ((strings_Repeat.f (⟨#[195, 169]⟩ : ByteArray) 41).bind fun t192 => (if 1 + t192.size ≤ 9223372036854775807 then (if ((⟨#[120]⟩ : ByteArray) ++ t192).size + 3 ≤ 9223372036854775807 then ((strings_Repeat.f (⟨#[98]⟩ : ByteArray) 90).bind fun t193 => (if 2 + t193.size ≤ 9223372036854775807 then (if ((⟨#[97, 32]⟩ : ByteArray) ++ t193).size + 1 ≤ 9223372036854775807 then ((chasemake_Stream_h06one.f s0_0 x1001_2 (([(⟨#[]⟩ : ByteArray), (⟨#[120]⟩ : ByteArray), (⟨#[97, 9, 98, 10]⟩ : ByteArray), t188 ++ (⟨#[10]⟩ : ByteArray), t189 ++ (⟨#[10]⟩ : ByteArray), t190 ++ (⟨#[120, 10]⟩ : ByteArray), t191 ++ (⟨#[10]⟩ : ByteArray), ((⟨#[120]⟩ : ByteArray) ++ t192) ++ (⟨#[32, 121, 10]⟩ : ByteArray), ((⟨#[97, 32]⟩ : ByteArray) ++ t193) ++ (⟨#[10]⟩ : ByteArray)] : List ByteArray))).bind fun bt197 => (some (bt197.1, bt197.2))) else (none)) else (none))) else (none)) else (none))) else (none))) else (none)) = some (r1, r2) := H
            have A15 := Aside0.mk A150
            clear A150
            by_cases c16 : t190.size + 2 ≤ 9223372036854775807
            · rw [if_pos c16] at H
              have c16b0 := eq_true c16
              have c16b1 : decide (t190.size + 2 ≤ 9223372036854775807) = true := decide_eq_true c16
              try have c16b2 : (9223372036854775807 < t190.size + 2) = False := eq_false (Nat.not_lt.2 c16)
              replace H := Option.bind_eq_some_iff.mp H
              obtain ⟨t191, A170, H⟩ := H
              replace H : (if t191.size + 1 ≤ 9223372036854775807 then ((strings_Repeat.f (⟨#[195, 169]⟩ : ByteArray) 41).bind fun t192 => (if 1 + t192.size ≤ 9223372036854775807 then (if ((⟨#[120]⟩ : ByteArray) ++ t192).size + 3 ≤ 9223372036854775807 then ((strings_Repeat.f (⟨#[98]⟩ : ByteArray) 90).bind fun t193 => (if 2 + t193.size ≤ 9223372036854775807 then (if ((⟨#[97, 32]⟩ : ByteArray) ++ t193).size + 1 ≤ 9223372036854775807 then ((chasemake_Stream_h06one.f s0_0 x1001_2 (([(⟨#[]⟩ : ByteArray), (⟨#[120]⟩ : ByteArray), (⟨#[97, 9, 98, 10]⟩ : ByteArray), t188 ++ (⟨#[10]⟩ : ByteArray), t189 ++ (⟨#[10]⟩ : ByteArray), t190 ++ (⟨#[120, 10]⟩ : ByteArray), t191 ++ (⟨#[10]⟩ : ByteArray), ((⟨#[120]⟩ : ByteArray) ++ t192) ++ (⟨#[32, 121, 10]⟩ : ByteArray), ((⟨#[97, 32]⟩ : ByteArray) ++ t193) ++ (⟨#[10]⟩ : ByteArray)] : List ByteArray))).bind fun bt197 => (some (bt197.1, bt197.2))) else (none)) else (none))) else (none)) else (none))) else (none)) = some (r1, r2) := H
              have A17 := Aside0.mk A170
              clear A170
              by_cases c18 : t191.size + 1 ≤ 9223372036854775807
              · rw [if_pos c18] at H
                have c18b0 := eq_true c18
                have c18b1 : decide (t191.size + 1 ≤ 9223372036854775807) = true := decide_eq_true c18
                try have c18b2 : (9223372036854775807 < t191.size + 1) = False := eq_false (Nat.not_lt.2 c18)
                replace H := Option.bind_eq_some_iff.mp H
                obtain ⟨t192, A190, H⟩ := H
                replace H : (if 1 + t192.size ≤ 9223372036854775807 then (if ((⟨#[120]⟩ : ByteArray) ++ t192).size + 3 ≤ 9223372036854775807 then ((strings_Repeat.f (⟨#[98]⟩ : ByteArray) 90).bind fun t193 => (if 2 + t193.size ≤ 9223372036854775807 then (if ((⟨#[97, 32]⟩ : ByteArray) ++ t193).size + 1 ≤ 9223372036854775807 then ((chasemake_Stream_h06one.f s0_0 x1001_2 (([(⟨#[]⟩ : ByteArray), (⟨#[120]⟩ : ByteArray), (⟨#[97, 9, 98, 10]⟩ : ByteArray), t188 ++ (⟨#[10]⟩ : ByteArray), t189 ++ (⟨#[10]⟩ : ByteArray), t190 ++ (⟨#[120, 10]⟩ : ByteArray), t191 ++ (⟨#[10]⟩ : ByteArray), ((⟨#[120]⟩ : ByteArray) ++ t192) ++ (⟨#[32, 121, 10]⟩ : ByteArray), ((⟨#[97, 32]⟩ : ByteArray) ++ t193) ++ (⟨#[10]⟩ : ByteArray)] : List ByteArray))).bind fun bt197 => (some (bt197.1, bt197.2))) else (none)) else (none))) else (none)) else (none)) = some (r1, r2) := H
                have A19 := Aside0.mk A190
                clear A190
                by_cases c20 : 1 + t192.size ≤ 9223372036854775807
                · rw [if_pos c20] at H
                  have c20b0 := eq_true c20
                  have c20b1 : decide (1 + t192.size ≤ 9223372036854775807) = true := decide_eq_true c20
                  try have c20b2 : (9223372036854775807 < 1 + t192.size) = False := eq_false (Nat.not_lt.2 c20)
                  by_cases c21 : ((⟨#[120]⟩ : ByteArray) ++ t192).size + 3 ≤ 9223372036854775807
                  · rw [if_pos c21] at H
                    have c21b0 := eq_true c21
                    have c21b1 : decide (((⟨#[120]⟩ : ByteArray) ++ t192).size + 3 ≤ 9223372036854775807) = true := decide_eq_true c21
                    try have c21b2 : (9223372036854775807 < ((⟨#[120]⟩ : ByteArray) ++ t192).size + 3) = False := eq_false (Nat.not_lt.2 c21)
                    try (have c21b3 := c21b2; simp only [ByteArray.size_append', ByteArray.size_mk', List.size_toArray, List.length_cons, List.length_nil, Nat.zero_add, Nat.reduceAdd] at c21b3)
                    replace H := Option.bind_eq_some_iff.mp H
                    obtain ⟨t193, A220, H⟩ := H
                    replace H : (if 2 + t193.size ≤ 9223372036854775807 then (if ((⟨#[97, 32]⟩ : ByteArray) ++ t193).size + 1 ≤ 9223372036854775807 then ((chasemake_Stream_h06one.f s0_0 x1001_2 (([(⟨#[]⟩ : ByteArray), (⟨#[120]⟩ : ByteArray), (⟨#[97, 9, 98, 10]⟩ : ByteArray), t188 ++ (⟨#[10]⟩ : ByteArray), t189 ++ (⟨#[10]⟩ : ByteArray), t190 ++ (⟨#[120, 10]⟩ : ByteArray), t191 ++ (⟨#[10]⟩ : ByteArray), ((⟨#[120]⟩ : ByteArray) ++ t192) ++ (⟨#[32, 121, 10]⟩ : ByteArray), ((⟨#[97, 32]⟩ : ByteArray) ++ t193) ++ (⟨#[10]⟩ : ByteArray)] : List ByteArray))).bind fun bt197 => (some (bt197.1, bt197.2))) else (none)) else (none)) = some (r1, r2) := H
                    have A22 := Aside0.mk A220
                    clear A220
                    by_cases c23 : 2 + t193.size ≤ 9223372036854775807
                    · rw [if_pos c23] at H
                      have c23b0 := eq_true c23
                      have c23b1 : decide (2 + t193.size ≤ 9223372036854775807) = true := decide_eq_true c23
                      try have c23b2 : (9223372036854775807 < 2 + t193.size) = False := eq_false (Nat.not_lt.2 c23)
                      by_cases c24 : ((⟨#[97, 32]⟩ : ByteArray) ++ t193).size + 1 ≤ 9223372036854775807
                      · rw [if_pos c24] at H
                        have c24b0 := eq_true c24
                        have c24b1 : decide (((⟨#[97, 32]⟩ : ByteArray) ++ t193).size + 1 ≤ 9223372036854775807) = true := decide_eq_true c24
                        try have c24b2 : (9223372036854775807 < ((⟨#[97, 32]⟩ : ByteArray) ++ t193).size + 1) = False := eq_false (Nat.not_lt.2 c24)
                        try (have c24b3 := c24b2; simp only [ByteArray.size_append', ByteArray.size_mk', List.size_toArray, List.length_cons, List.length_nil, Nat.zero_add, Nat.reduceAdd] at c24b3)
                        obtain ⟨y194, hy194⟩ : ∃ y_ : List ByteArray, y_ = (([(⟨#[]⟩ : ByteArray), (⟨#[120]⟩ : ByteArray), (⟨#[97, 9, 98, 10]⟩ : ByteArray), t188 ++ (⟨#[10]⟩ : ByteArray), t189 ++ (⟨#[10]⟩ : ByteArray), t190 ++ (⟨#[120, 10]⟩ : ByteArray), t191 ++ (⟨#[10]⟩ : ByteArray), ((⟨#[120]⟩ : ByteArray) ++ t192) ++ (⟨#[32, 121, 10]⟩ : ByteArray), ((⟨#[97, 32]⟩ : ByteArray) ++ t193) ++ (⟨#[10]⟩ : ByteArray)] : List ByteArray)) := ⟨_, rfl⟩
                        replace H : ((chasemake_Stream_h06one.f s0_0 x1001_2 y194).bind fun bt197 => (some (bt197.1, bt197.2))) = some (r1, r2) := by first | (rw [hy194]; with_reducible exact H) | (have H2_ := (Option.bind_some _ _).symm.trans H; rw [hy194]; with_reducible exact H2_) | (have H2_ := (Option.bind_some _ _).symm.trans H; with_reducible exact H2_) | with_reducible exact H | (rw [hy194]; exact H) | exact H
                        have Ny194 := Aside0.mk hy194
                        clear hy194
                        replace H := Option.bind_eq_some_iff.mp H
                        obtain ⟨⟨t197, t198⟩, A250, H⟩ := H
                        replace H : (some (t197, t198)) = some (r1, r2) := H
                        have A25 := Aside0.mk A250
                        clear A250
                        simp only [Option.some.injEq, Prod.mk.injEq] at H
                        obtain ⟨rfl, rfl⟩ := H
                        go_wp2_with (first | ((with_reducible refine gate_callee (f := 25) rfl ?_); refine goesL_ (some 14) rfl rfl Tryz.func25 (by kernel_rfl) rfl #[.string (⟨#[112]⟩ : ByteArray), .int .i64 20000] rfl (by (try simp only [List.map_toArray, List.map_cons, List.map_nil]); first | done | rfl | (simp only [List.length_drop, List.length_take]; rfl)) ?_; (with_reducible refine (strings_Repeat.calls (⟨#[112]⟩ : ByteArray) 20000 t188 _ A11.out).mono ?_); rintro e w26 ⟨rfl, hb⟩; refine ⟨_, rfl, ?_⟩; have n0_ := Aside0.mk (Kd.R_below (by (with_reducible repeat (first | apply Kd.R_alloc | apply Kd.R_drewN | apply Kd.R_drew)); exact HO_3.out) hb); have n1_ := Aside0.mk (IsS25.below (by repeat (first | (with_reducible first | exact HI0.out | apply IsS25.alloc | apply IsS25.drewN | apply IsS25.drew | apply IsS25.set_1) | exact HI0.out)) hb); have n2_ := Aside0.mk (KeepBut.trans (by repeat (first | (with_reducible first | exact HK.out | apply KeepBut.set_ | apply keep_drewN | apply keep_drew | apply keep_alloc) | exact HK.out)) (KeepBut.of_below hb g none) (.inl rfl)); have n3_ := Aside0.mk (below_step (by repeat (first | (with_reducible first | exact HB.out | apply below_alloc | apply pw_below_drewN | apply below_drew1 | refine below_set ?_ (IsS25.ge HI0.out)) | exact HB.out)) hb); clear HO_3; clear HI0; clear HK; clear HB; have HO_3 := n0_; have HI0 := n1_; have HK := n2_; have HB := n3_; clear n0_ n1_ n2_ n3_; (try clear hb); (try clear hb2); (try clear hk); (try clear hi)) | ((with_reducible refine gate_callee (f := 25) rfl ?_); refine goesL_ (some 16) rfl rfl Tryz.func25 (by kernel_rfl) rfl #[.string (⟨#[32]⟩ : ByteArray), .int .i64 90] rfl (by (try simp only [List.map_toArray, List.map_cons, List.map_nil]); first | done | rfl | (simp only [List.length_drop, List.length_take]; rfl)) ?_; (with_reducible refine (strings_Repeat.calls (⟨#[32]⟩ : ByteArray) 90 t189 _ A13.out).mono ?_); rintro e w27 ⟨rfl, hb⟩; refine ⟨_, rfl, ?_⟩; have n0_ := Aside0.mk (Kd.R_below (by (with_reducible repeat (first | apply Kd.R_alloc | apply Kd.R_drewN | apply Kd.R_drew)); exact HO_3.out) hb); have n1_ := Aside0.mk (IsS25.below (by repeat (first | (with_reducible first | exact HI0.out | apply IsS25.alloc | apply IsS25.drewN | apply IsS25.drew | apply IsS25.set_1) | exact HI0.out)) hb); have n2_ := Aside0.mk (KeepBut.trans (by repeat (first | (with_reducible first | exact HK.out | apply KeepBut.set_ | apply keep_drewN | apply keep_drew | apply keep_alloc) | exact HK.out)) (KeepBut.of_below hb g none) (.inl rfl)); have n3_ := Aside0.mk (below_step (by repeat (first | (with_reducible first | exact HB.out | apply below_alloc | apply pw_below_drewN | apply below_drew1 | refine below_set ?_ (IsS25.ge HI0.out)) | exact HB.out)) hb); clear HO_3; clear HI0; clear HK; clear HB; have HO_3 := n0_; have HI0 := n1_; have HK := n2_; have HB := n3_; clear n0_ n1_ n2_ n3_; (try clear hb); (try clear hb2); (try clear hk); (try clear hi)) | ((with_reducible refine gate_callee (f := 25) rfl ?_); refine goesL_ (some 18) rfl rfl Tryz.func25 (by kernel_rfl) rfl #[.string (⟨#[32]⟩ : ByteArray), .int .i64 81] rfl (by (try simp only [List.map_toArray, List.map_cons, List.map_nil]); first | done | rfl | (simp only [List.length_drop, List.length_take]; rfl)) ?_; (with_reducible refine (strings_Repeat.calls (⟨#[32]⟩ : ByteArray) 81 t190 _ A15.out).mono ?_); rintro e w28 ⟨rfl, hb⟩; refine ⟨_, rfl, ?_⟩; have n0_ := Aside0.mk (Kd.R_below (by (with_reducible repeat (first | apply Kd.R_alloc | apply Kd.R_drewN | apply Kd.R_drew)); exact HO_3.out) hb); have n1_ := Aside0.mk (IsS25.below (by repeat (first | (with_reducible first | exact HI0.out | apply IsS25.alloc | apply IsS25.drewN | apply IsS25.drew | apply IsS25.set_1) | exact HI0.out)) hb); have n2_ := Aside0.mk (KeepBut.trans (by repeat (first | (with_reducible first | exact HK.out | apply KeepBut.set_ | apply keep_drewN | apply keep_drew | apply keep_alloc) | exact HK.out)) (KeepBut.of_below hb g none) (.inl rfl)); have n3_ := Aside0.mk (below_step (by repeat (first | (with_reducible first | exact HB.out | apply below_alloc | apply pw_below_drewN | apply below_drew1 | refine below_set ?_ (IsS25.ge HI0.out)) | exact HB.out)) hb); clear HO_3; clear HI0; clear HK; clear HB; have HO_3 := n0_; have HI0 := n1_; have HK := n2_; have HB := n3_; clear n0_ n1_ n2_ n3_; (try clear hb); (try clear hb2); (try clear hk); (try clear hi)) | ((with_reducible refine gate_callee (f := 25) rfl ?_); refine goesL_ (some 20) rfl rfl Tryz.func25 (by kernel_rfl) rfl #[.string (⟨#[195, 169]⟩ : ByteArray), .int .i64 41] rfl (by (try simp only [List.map_toArray, List.map_cons, List.map_nil]); first | done | rfl | (simp only [List.length_drop, List.length_take]; rfl)) ?_; (with_reducible refine (strings_Repeat.calls (⟨#[195, 169]⟩ : ByteArray) 41 t191 _ A17.out).mono ?_); rintro e w29 ⟨rfl, hb⟩; refine ⟨_, rfl, ?_⟩; have n0_ := Aside0.mk (Kd.R_below (by (with_reducible repeat (first | apply Kd.R_alloc | apply Kd.R_drewN | apply Kd.R_drew)); exact HO_3.out) hb); have n1_ := Aside0.mk (IsS25.below (by repeat (first | (with_reducible first | exact HI0.out | apply IsS25.alloc | apply IsS25.drewN | apply IsS25.drew | apply IsS25.set_1) | exact HI0.out)) hb); have n2_ := Aside0.mk (KeepBut.trans (by repeat (first | (with_reducible first | exact HK.out | apply KeepBut.set_ | apply keep_drewN | apply keep_drew | apply keep_alloc) | exact HK.out)) (KeepBut.of_below hb g none) (.inl rfl)); have n3_ := Aside0.mk (below_step (by repeat (first | (with_reducible first | exact HB.out | apply below_alloc | apply pw_below_drewN | apply below_drew1 | refine below_set ?_ (IsS25.ge HI0.out)) | exact HB.out)) hb); clear HO_3; clear HI0; clear HK; clear HB; have HO_3 := n0_; have HI0 := n1_; have HK := n2_; have HB := n3_; clear n0_ n1_ n2_ n3_; (try clear hb); (try clear hb2); (try clear hk); (try clear hi)) | ((with_reducible refine gate_callee (f := 25) rfl ?_); refine goesL_ (some 22) rfl rfl Tryz.func25 (by kernel_rfl) rfl #[.string (⟨#[195, 169]⟩ : ByteArray), .int .i64 41] rfl (by (try simp only [List.map_toArray, List.map_cons, List.map_nil]); first | done | rfl | (simp only [List.length_drop, List.length_take]; rfl)) ?_; (with_reducible refine (strings_Repeat.calls (⟨#[195, 169]⟩ : ByteArray) 41 t192 _ A19.out).mono ?_); rintro e w30 ⟨rfl, hb⟩; refine ⟨_, rfl, ?_⟩; have n0_ := Aside0.mk (Kd.R_below (by (with_reducible repeat (first | apply Kd.R_alloc | apply Kd.R_drewN | apply Kd.R_drew)); exact HO_3.out) hb); have n1_ := Aside0.mk (IsS25.below (by repeat (first | (with_reducible first | exact HI0.out | apply IsS25.alloc | apply IsS25.drewN | apply IsS25.drew | apply IsS25.set_1) | exact HI0.out)) hb); have n2_ := Aside0.mk (KeepBut.trans (by repeat (first | (with_reducible first | exact HK.out | apply KeepBut.set_ | apply keep_drewN | apply keep_drew | apply keep_alloc) | exact HK.out)) (KeepBut.of_below hb g none) (.inl rfl)); have n3_ := Aside0.mk (below_step (by repeat (first | (with_reducible first | exact HB.out | apply below_alloc | apply pw_below_drewN | apply below_drew1 | refine below_set ?_ (IsS25.ge HI0.out)) | exact HB.out)) hb); clear HO_3; clear HI0; clear HK; clear HB; have HO_3 := n0_; have HI0 := n1_; have HK := n2_; have HB := n3_; clear n0_ n1_ n2_ n3_; (try clear hb); (try clear hb2); (try clear hk); (try clear hi)) | ((with_reducible refine gate_callee (f := 25) rfl ?_); refine goesL_ (some 25) rfl rfl Tryz.func25 (by kernel_rfl) rfl #[.string (⟨#[98]⟩ : ByteArray), .int .i64 90] rfl (by (try simp only [List.map_toArray, List.map_cons, List.map_nil]); first | done | rfl | (simp only [List.length_drop, List.length_take]; rfl)) ?_; (with_reducible refine (strings_Repeat.calls (⟨#[98]⟩ : ByteArray) 90 t193 _ A22.out).mono ?_); rintro e w31 ⟨rfl, hb⟩; refine ⟨_, rfl, ?_⟩; have n0_ := Aside0.mk (Kd.R_below (by (with_reducible repeat (first | apply Kd.R_alloc | apply Kd.R_drewN | apply Kd.R_drew)); exact HO_3.out) hb); have n1_ := Aside0.mk (IsS25.below (by repeat (first | (with_reducible first | exact HI0.out | apply IsS25.alloc | apply IsS25.drewN | apply IsS25.drew | apply IsS25.set_1) | exact HI0.out)) hb); have n2_ := Aside0.mk (KeepBut.trans (by repeat (first | (with_reducible first | exact HK.out | apply KeepBut.set_ | apply keep_drewN | apply keep_drew | apply keep_alloc) | exact HK.out)) (KeepBut.of_below hb g none) (.inl rfl)); have n3_ := Aside0.mk (below_step (by repeat (first | (with_reducible first | exact HB.out | apply below_alloc | apply pw_below_drewN | apply below_drew1 | refine below_set ?_ (IsS25.ge HI0.out)) | exact HB.out)) hb); clear HO_3; clear HI0; clear HK; clear HB; have HO_3 := n0_; have HI0 := n1_; have HK := n2_; have HB := n3_; clear n0_ n1_ n2_ n3_; (try clear hb); (try clear hb2); (try clear hk); (try clear hi)) | ((with_reducible refine gate_dst (N := 28) rfl ?_); refine Kd.R_lit Kd.string _ 9 ?hg (N := 28) ?hd (xs := ([(⟨#[]⟩ : ByteArray), (⟨#[120]⟩ : ByteArray), (⟨#[97, 9, 98, 10]⟩ : ByteArray), t188 ++ (⟨#[10]⟩ : ByteArray), t189 ++ (⟨#[10]⟩ : ByteArray), t190 ++ (⟨#[120, 10]⟩ : ByteArray), t191 ++ (⟨#[10]⟩ : ByteArray), ((⟨#[120]⟩ : ByteArray) ++ t192) ++ (⟨#[32, 121, 10]⟩ : ByteArray), ((⟨#[97, 32]⟩ : ByteArray) ++ t193) ++ (⟨#[10]⟩ : ByteArray)] : List ByteArray)) (inner := [.string (⟨#[]⟩ : ByteArray), .string (⟨#[120]⟩ : ByteArray), .string (⟨#[97, 9, 98, 10]⟩ : ByteArray), .string (t188 ++ (⟨#[10]⟩ : ByteArray)), .string (t189 ++ (⟨#[10]⟩ : ByteArray)), .string (t190 ++ (⟨#[120, 10]⟩ : ByteArray)), .string (t191 ++ (⟨#[10]⟩ : ByteArray)), .string (((⟨#[120]⟩ : ByteArray) ++ t192) ++ (⟨#[32, 121, 10]⟩ : ByteArray)), .string (((⟨#[97, 32]⟩ : ByteArray) ++ t193) ++ (⟨#[10]⟩ : ByteArray))]) (ok := fun _ => True) (okp := fun _ => True) ?hr ?hp (fun _ hk => hk) trivial (Below.refl _ _) (Nat.le_refl _) (by simp) ?_; (case hd => rfl); (case hg => rfl); (case hr => first | (go_simp; done) | (go_simp; rfl)); (case hp => exact (Reps.one (show Kd.M Kd.string _ _ _ (⟨#[]⟩ : ByteArray) [.string (⟨#[]⟩ : ByteArray)] from rfl) (Reps.one (show Kd.M Kd.string _ _ _ (⟨#[120]⟩ : ByteArray) [.string (⟨#[120]⟩ : ByteArray)] from rfl) (Reps.one (show Kd.M Kd.string _ _ _ (⟨#[97, 9, 98, 10]⟩ : ByteArray) [.string (⟨#[97, 9, 98, 10]⟩ : ByteArray)] from rfl) (Reps.one (show Kd.M Kd.string _ _ _ (t188 ++ (⟨#[10]⟩ : ByteArray)) [.string (t188 ++ (⟨#[10]⟩ : ByteArray))] from rfl) (Reps.one (show Kd.M Kd.string _ _ _ (t189 ++ (⟨#[10]⟩ : ByteArray)) [.string (t189 ++ (⟨#[10]⟩ : ByteArray))] from rfl) (Reps.one (show Kd.M Kd.string _ _ _ (t190 ++ (⟨#[120, 10]⟩ : ByteArray)) [.string (t190 ++ (⟨#[120, 10]⟩ : ByteArray))] from rfl) (Reps.one (show Kd.M Kd.string _ _ _ (t191 ++ (⟨#[10]⟩ : ByteArray)) [.string (t191 ++ (⟨#[10]⟩ : ByteArray))] from rfl) (Reps.one (show Kd.M Kd.string _ _ _ (((⟨#[120]⟩ : ByteArray) ++ t192) ++ (⟨#[32, 121, 10]⟩ : ByteArray)) [.string (((⟨#[120]⟩ : ByteArray) ++ t192) ++ (⟨#[32, 121, 10]⟩ : ByteArray))] from rfl) (Reps.one (show Kd.M Kd.string _ _ _ (((⟨#[97, 32]⟩ : ByteArray) ++ t193) ++ (⟨#[10]⟩ : ByteArray)) [.string (((⟨#[97, 32]⟩ : ByteArray) ++ t193) ++ (⟨#[10]⟩ : ByteArray))] from rfl) (Reps.none _ _))))))))))); intro v195 w32 ho33 hb hg_ hnew_; clear hg_ hnew_; (first | rw [← Ny194.out] at ho33 | (simp only [Int.reduceToNat] at ho33; rw [← Ny194.out] at ho33)); have n0_ := Aside0.mk (Kd.R_below (by (with_reducible repeat (first | apply Kd.R_alloc | apply Kd.R_drewN | apply Kd.R_drew)); exact HO_3.out) hb); have n1_ := Aside0.mk (Kd.R_lower ho33 (keep_size (w := w) (g := g) (row := none) (by repeat (first | (with_reducible first | exact HK.out | apply KeepBut.set_ | apply keep_drewN | apply keep_drew | apply keep_alloc) | exact HK.out)))); have n2_ := Aside0.mk (IsS25.below (by repeat (first | (with_reducible first | exact HI0.out | apply IsS25.alloc | apply IsS25.drewN | apply IsS25.drew | apply IsS25.set_1) | exact HI0.out)) hb); have n3_ := Aside0.mk (KeepBut.trans (by repeat (first | (with_reducible first | exact HK.out | apply KeepBut.set_ | apply keep_drewN | apply keep_drew | apply keep_alloc) | exact HK.out)) (KeepBut.of_below hb g none) (.inl rfl)); have n4_ := Aside0.mk (below_step (by repeat (first | (with_reducible first | exact HB.out | apply below_alloc | apply pw_below_drewN | apply below_drew1 | refine below_set ?_ (IsS25.ge HI0.out)) | exact HB.out)) hb); clear HO_3; clear HI0; clear HK; clear HB; have HO_3 := n0_; have HO196 := n1_; have HI0 := n2_; have HK := n3_; have HB := n4_; clear n0_ n1_ n2_ n3_ n4_; clear hb ho33; obtain ⟨Ao34, co34, eo34⟩ := Kd.R_slice HO196.out; subst eo34) | ((with_reducible refine gate_callee (f := 24) rfl ?_); refine goesL_ (some 29) rfl rfl Tryz.func24 (by kernel_rfl) rfl #[.pointer (some ⟨g, 0, none⟩), .slice Ao34 y194.length co34] rfl (by (try simp only [List.map_toArray, List.map_cons, List.map_nil]); first | done | rfl | (simp only [List.length_drop, List.length_take]; rfl)) ?_; (with_reducible refine (chasemake_Stream_h06one.calls g s0_0 x1001_2 _ _ y194 t197 t198 w0 _ ?side1 ?side2 ?side3 ?side4 ?side5 A25.out).mono ?_); (case side1 => repeat (first | (with_reducible first | exact HI0.out | apply IsS25.alloc | apply IsS25.drewN | apply IsS25.drew | apply IsS25.set_1) | exact HI0.out)); (case side2 => repeat (first | (with_reducible first | exact HB.out | apply below_alloc | apply pw_below_drewN | apply below_drew1 | refine below_set ?_ (IsS25.ge HI0.out)) | exact HB.out)); (case side3 => repeat (first | exact (Kd.R_reads' HO196.out).2.2 | (with_reducible refine Kd.C_alloc ?_ _) | (with_reducible refine Kd.C_drewN ?_ _) | (with_reducible refine Kd.C_drew ?_))); (case side4 => exact (Kd.R_reads' HO196.out).2.1); (case side5 => exact far_slice (IsS25.own_ne HI0.out HO196.out (by decide))); rintro e w35 ⟨rfl, hi, hb, hk⟩; refine ⟨_, rfl, ?_⟩; have n0_ := Aside0.mk (Kd.R_mono (Kd.R_keep (IsS25.apart (show IsS25 w0 _ g s0_0 x1001_2 from by repeat (first | (with_reducible first | exact HI0.out | apply IsS25.alloc | apply IsS25.drewN | apply IsS25.drew | apply IsS25.set_1) | exact HI0.out)) (by (with_reducible repeat (first | apply Kd.R_alloc | apply Kd.R_drewN | apply Kd.R_drew)); exact HO_3.out) (by decide)) hk (fun _ h => h.2)) (fun _ h => h.1)); have n1_ := Aside0.mk (Kd.R_mono (Kd.R_keep (IsS25.apart (show IsS25 w0 _ g s0_0 x1001_2 from by repeat (first | (with_reducible first | exact HI0.out | apply IsS25.alloc | apply IsS25.drewN | apply IsS25.drew | apply IsS25.set_1) | exact HI0.out)) (by (with_reducible repeat (first | apply Kd.R_alloc | apply Kd.R_drewN | apply Kd.R_drew)); exact HO196.out) (by decide)) hk (fun _ h => h.2)) (fun _ h => h.1)); have n2_ := Aside0.mk (KeepBut.trans (by repeat (first | (with_reducible first | exact HK.out | apply KeepBut.set_ | apply keep_drewN | apply keep_drew | apply keep_alloc) | exact HK.out)) hk (.inl rfl)); have n3_ := Aside0.mk (hb); have n4_ := Aside0.mk (hi); clear HO_3; clear HO196; clear HK; clear HB; clear HI0; have HO_3 := n0_; have HO196 := n1_; have HK := n2_; have HB := n3_; have HI0 := n4_; clear n0_ n1_ n2_ n3_ n4_; (try clear hb); (try clear hb2); (try clear hk); (try clear hi)))
                        go_ret
                        exact ⟨by first | rfl | (simp [errW_none, errW_some] <;> rfl) | (simp [*, errW_none, errW_some] <;> rfl), by repeat (first | (with_reducible first | exact HI0.out | apply IsS25.alloc | apply IsS25.drewN | apply IsS25.drew | apply IsS25.set_1) | exact HI0.out), by repeat (first | (with_reducible first | exact HB.out | apply below_alloc | apply pw_below_drewN | apply below_drew1 | refine below_set ?_ (IsS25.ge HI0.out)) | exact HB.out), by repeat (first | (with_reducible first | exact HK.out | apply KeepBut.set_ | apply keep_drewN | apply keep_drew | apply keep_alloc) | exact HK.out)⟩
                      · rw [if_neg c24] at H
                        exact absurd H (by simp)
                    · rw [if_neg c23] at H
                      exact absurd H (by simp)
                  · rw [if_neg c21] at H
                    exact absurd H (by simp)
                · rw [if_neg c20] at H
                  exact absurd H (by simp)
              · rw [if_neg c18] at H
                exact absurd H (by simp)
            · rw [if_neg c16] at H
              exact absurd H (by simp)
          · rw [if_neg c14] at H
            exact absurd H (by simp)
        · rw [if_neg c12] at H
          exact absurd H (by simp)
      · replace c10 := Bool.eq_false_iff.mpr c10
        subst c10
        have H1 : (if 0 < (t182.length : Int) then (some ((rd_T55 t182 0).f6, x1001_2)) else (none)) = some (r1, r2) := by rw [if_neg (show ¬ (false = true) by decide)] at H; exact H
        clear H
        have H := H1
        clear H1
        by_cases c36 : 0 < (t182.length : Int)
        · rw [if_pos c36] at H
          have c36b0 : decide (0 < (t182.length : Int)) = true := decide_eq_true c36
          have c36b1 : decide (0 < t182.length) = true := decide_eq_true (by omega)
          clear c36
          simp only [Option.some.injEq, Prod.mk.injEq] at H
          obtain ⟨rfl, rfl⟩ := H
          obtain ⟨Ao37, co37, eo37⟩ := Kd.R_slice HO_3.out
          subst eo37
          have p199 : 0 ≤ (0 : Int) := (by omega)
          have q199 : 0 < (t182.length : Int) := of_decide_eq_true (by first | (with_reducible assumption) | assumption)
          obtain ⟨ad199, e199, hx199_0, hx199_1, hx199_2, hx199_3, hx199_4, hx199_5, hx199_6⟩ := at_T55 (Kd.R_reads' HO_3.out).2.2 0 p199 q199
          cases e199
          have qi199 : (0 < t182.length) = True := eq_true (by omega)
          (try rw [show ((0 : Int)).toNat = 0 from rfl] at hx199_0)
          (try rw [show 0 * 7 = 0 from rfl] at hx199_0)
          (try rw [Addr.add_zero'] at hx199_0)
          (try rw [show ((0 : Int)).toNat = 0 from rfl] at hx199_1)
          (try rw [show 0 * 7 = 0 from rfl] at hx199_1)
          (try rw [Addr.add_zero'] at hx199_1)
          (try rw [show ((0 : Int)).toNat = 0 from rfl] at hx199_2)
          (try rw [show 0 * 7 = 0 from rfl] at hx199_2)
          (try rw [Addr.add_zero'] at hx199_2)
          (try rw [show ((0 : Int)).toNat = 0 from rfl] at hx199_3)
          (try rw [show 0 * 7 = 0 from rfl] at hx199_3)
          (try rw [Addr.add_zero'] at hx199_3)
          (try rw [show ((0 : Int)).toNat = 0 from rfl] at hx199_4)
          (try rw [show 0 * 7 = 0 from rfl] at hx199_4)
          (try rw [Addr.add_zero'] at hx199_4)
          (try rw [show ((0 : Int)).toNat = 0 from rfl] at hx199_5)
          (try rw [show 0 * 7 = 0 from rfl] at hx199_5)
          (try rw [Addr.add_zero'] at hx199_5)
          (try rw [show ((0 : Int)).toNat = 0 from rfl] at hx199_6)
          (try rw [show 0 * 7 = 0 from rfl] at hx199_6)
          (try rw [Addr.add_zero'] at hx199_6)
          replace p199 := eq_true p199
          replace q199 := eq_true q199
          go_wp2
          go_ret
          exact ⟨by first | rfl | (simp [errW_none, errW_some] <;> rfl) | (simp [*, errW_none, errW_some] <;> rfl), by repeat (first | (with_reducible first | exact HI0.out | apply IsS25.alloc | apply IsS25.drewN | apply IsS25.drew | apply IsS25.set_1) | exact HI0.out), by repeat (first | (with_reducible first | exact HB.out | apply below_alloc | apply pw_below_drewN | apply below_drew1 | refine below_set ?_ (IsS25.ge HI0.out)) | exact HB.out), by repeat (first | (with_reducible first | exact HK.out | apply KeepBut.set_ | apply keep_drewN | apply keep_drew | apply keep_alloc) | exact HK.out)⟩
        · rw [if_neg c36] at H
          exact absurd H (by simp)
def base_First.l0 : Nat → List Int → Int → Int → Option (Int)
  | 0, _, _, _ => none
  | k + 1, x5, x6, x7 => if x7 < x6 then (if 0 ≤ x7 then (if x7 < (x5.length : Int) then (if (rd x5 x7) = 0 then (base_First.l0 k x5 x6 (wrap64 (x7 + 1))) else (some (rd x5 x7))) else (none)) else (none)) else (some 0)
def base_First.f (k : Nat) (l0 : List Int) : Option (Int) := base_First.l0 k l0 (l0.length : Int) 0
theorem base_First.mono_l : ∀ k, (∀ y0 y1 y2, LeO (base_First.l0 k y0 y1 y2) (base_First.l0 (k + 1) y0 y1 y2))
  | 0 => fun _ _ _ r h => by simp [base_First.l0] at h
  | k + 1 => by
    have ih0 := base_First.mono_l k
    · intro y0 y1 y2
      unfold base_First.l0
      repeat' first
      | (with_reducible exact ih0 _ _ _)
      | (with_reducible exact LeO.refl _)
      | (with_reducible exact LeO.none _)
      | (with_reducible refine LeO.ite ?_ ?_)
      | (with_reducible refine LeO.bind ?_ (fun _ => ?_))
      | exact ih0 _ _ _
      | exact LeO.none _
      | refine LeO.ite ?_ ?_
      | refine LeO.bind ?_ (fun _ => ?_)
theorem base_First.mono : ∀ a0 k, LeO (base_First.f k a0) (base_First.f (k + 1) a0) := by
  intro a0 k
  have ih0 := base_First.mono_l k
  unfold base_First.f
  repeat' first
      | (with_reducible exact ih0 _ _ _)
      | (with_reducible exact LeO.refl _)
      | (with_reducible exact LeO.none _)
      | (with_reducible refine LeO.ite ?_ ?_)
      | (with_reducible refine LeO.bind ?_ (fun _ => ?_))
      | exact ih0 _ _ _
      | exact LeO.none _
      | refine LeO.ite ?_ ?_
      | refine LeO.bind ?_ (fun _ => ?_)
set_option maxHeartbeats 8000000 in
set_option maxRecDepth 100000 in
theorem base_First.calls (k : Nat) (A0 : Option Addr) (c0 : Nat) (l0 : List Int) (r : Int) (w : World) (hr0 : Kd.C (Kd.int .i64) w A0 l0.length l0) (hc0 : l0.length ≤ c0) (h : base_First.f k l0 = some r) :
    Calls Tryz.prog 54 #[.slice A0 l0.length c0] w fun e w' => e = .returned (.int .i64 r) ∧ Drawn0 w w' := by
  have HR0 := Aside0.mk hr0
  have HC0 := Aside0.mk hc0
  clear hr0 hc0
  have H : (base_First.l0 k l0 (l0.length : Int) 0) = some r := h
  clear h
  have H' := Aside0.mk H
  clear H
  go_enter Tryz.func54, Tryz.ntmps54
  go_wp2
  go_loopg [7] k (fun kq v7 w' => ∃ (x7_1 : Int), v7 = .int .i64 x7_1 ∧ Aside0 (base_First.l0 kq l0 (l0.length : Int) x7_1 = some r) ∧ Aside0 (kq ≤ k) ∧ Drawn0 w w')
  case atStart => exact ⟨(0), (by first | rfl | (simp; done) | (simp [*]; done)), H', ⟨Nat.le_refl _⟩, by repeat (first | exact Drawn0.refl _ | apply Drawn0.step)⟩
  case round =>
    clear H'
    obtain ⟨x7_1, rfl, HA, HK1, ⟨m1, rfl⟩⟩ := hrel
    cases gk with
    | zero => exact absurd HA.out (by simp [base_First.l0])
    | succ k1 =>
      have H := HA.out
      clear HA
      simp only [base_First.l0] at H
      by_cases c2 : x7_1 < (l0.length : Int)
      · rw [if_pos c2] at H
        have c2b0 : decide (x7_1 < (l0.length : Int)) = true := decide_eq_true c2
        clear c2
        by_cases c3 : 0 ≤ x7_1
        · rw [if_pos c3] at H
          have c3b0 : decide (0 ≤ x7_1) = true := decide_eq_true c3
          clear c3
          by_cases c4 : x7_1 < (l0.length : Int)
          · rw [if_pos c4] at H
            have c4b0 : decide (x7_1 < (l0.length : Int)) = true := decide_eq_true c4
            clear c4
            by_cases c5 : (rd l0 x7_1) = 0
            · rw [if_pos c5] at H
              have c5b0 : ((rd l0 x7_1) == 0) = true := beq_iff_eq.mpr c5
              have c5b1 : ((rd l0 x7_1) != 0) = false := bne_eq_false_iff_eq.mpr c5
              clear c5
              have H' := Aside0.mk H
              clear H
              have p200 : 0 ≤ (x7_1 : Int) := of_decide_eq_true (by first | (with_reducible assumption) | assumption)
              have q200 : x7_1 < (l0.length : Int) := of_decide_eq_true (by first | (with_reducible assumption) | assumption)
              obtain ⟨ad200, e200, hx200_0⟩ := Kd.at_int HR0.out x7_1 p200 q200
              cases e200
              replace p200 := eq_true p200
              replace q200 := eq_true q200
              go_wp2
              go_roundg k1
              case measure => have := HK1.out; omega
              case rel => exact ⟨(wrap64 (x7_1 + 1)), (by first | rfl | (simp; done) | (simp [*]; done)), H', ⟨by have := HK1.out; omega⟩, by repeat (first | exact Drawn0.refl _ | apply Drawn0.step)⟩
            · rw [if_neg c5] at H
              have c5b0 : ((rd l0 x7_1) == 0) = false := beq_eq_false_iff_ne.mpr c5
              have c5b1 : ((rd l0 x7_1) != 0) = true := bne_iff_ne.mpr c5
              obtain rfl := Option.some.inj H
              have p200 : 0 ≤ (x7_1 : Int) := of_decide_eq_true (by first | (with_reducible assumption) | assumption)
              have q200 : x7_1 < (l0.length : Int) := of_decide_eq_true (by first | (with_reducible assumption) | assumption)
              obtain ⟨ad200, e200, hx200_0⟩ := Kd.at_int HR0.out x7_1 p200 q200
              cases e200
              replace p200 := eq_true p200
              replace q200 := eq_true q200
              go_wp2
              go_ret
              exact ⟨by first | rfl | (simp; done) | (simp [*]; done), by repeat (first | exact Drawn0.refl _ | apply Drawn0.step)⟩
          · rw [if_neg c4] at H
            exact absurd H (by simp)
        · rw [if_neg c3] at H
          exact absurd H (by simp)
      · rw [if_neg c2] at H
        have c2b0 : decide (x7_1 < (l0.length : Int)) = false := decide_eq_false c2
        clear c2
        obtain rfl := Option.some.inj H
        go_wp2
        go_ret
        exact ⟨by first | rfl | (simp; done) | (simp [*]; done), by repeat (first | exact Drawn0.refl _ | apply Drawn0.step)⟩
def base_When.f (a0 : Bool) (a1 : Int) : Option (Int) := if a0 = true then (some a1) else (some 0)
set_option maxHeartbeats 8000000 in
set_option maxRecDepth 100000 in
theorem base_When.calls (a0 : Bool) (a1 : Int) (r : Int) (w : World) (h : base_When.f a0 a1 = some r) :
    Calls Tryz.prog 55 #[.bool a0, .int .i64 a1] w fun e w' => e = .returned (.int .i64 r) ∧ Drawn0 w w' := by
  have H : (if a0 = true then (some a1) else (some 0)) = some r := h
  clear h
  by_cases c3 : a0 = true
  · subst c3
    have H1 : (some a1) = some r := by rw [if_pos rfl] at H; exact H
    clear H
    have H := H1
    clear H1
    obtain rfl := Option.some.inj H
    go_enter Tryz.func55, Tryz.ntmps55
    go_wp2
    go_ret
    exact ⟨by first | rfl | (simp; done) | (simp [*]; done), by repeat (first | exact Drawn0.refl _ | apply Drawn0.step)⟩
  · replace c3 := Bool.eq_false_iff.mpr c3
    subst c3
    have H1 : (some 0) = some r := by rw [if_neg (show ¬ (false = true) by decide)] at H; exact H
    clear H
    have H := H1
    clear H1
    obtain rfl := Option.some.inj H
    go_enter Tryz.func55, Tryz.ntmps55
    go_wp2
    go_ret
    exact ⟨by first | rfl | (simp; done) | (simp [*]; done), by repeat (first | exact Drawn0.refl _ | apply Drawn0.step)⟩
def stringslite_HasSuffix.f (a0 : ByteArray) (a1 : ByteArray) : Option (Bool) := if (a0.size : Int) ≥ (a1.size : Int) then (if 0 ≤ (wrap64 ((a0.size : Int) - (a1.size : Int))) then (if (wrap64 ((a0.size : Int) - (a1.size : Int))) ≤ (a0.size : Int) then (some ((a0.extract ((wrap64 ((a0.size : Int) - (a1.size : Int))) : Int).toNat a0.size).toList == a1.toList)) else (none)) else (none)) else (some false)
set_option maxHeartbeats 8000000 in
set_option maxRecDepth 100000 in
theorem stringslite_HasSuffix.calls (a0 : ByteArray) (a1 : ByteArray) (r : Bool) (w : World) (h : stringslite_HasSuffix.f a0 a1 = some r) :
    Calls Tryz.prog 99 #[.string a0, .string a1] w fun e w' => e = .returned (.bool r) ∧ Drawn0 w w' := by
  have H : (if (a0.size : Int) ≥ (a1.size : Int) then (if 0 ≤ (wrap64 ((a0.size : Int) - (a1.size : Int))) then (if (wrap64 ((a0.size : Int) - (a1.size : Int))) ≤ (a0.size : Int) then (some ((a0.extract ((wrap64 ((a0.size : Int) - (a1.size : Int))) : Int).toNat a0.size).toList == a1.toList)) else (none)) else (none)) else (some false)) = some r := h
  clear h
  by_cases c3 : (a0.size : Int) ≥ (a1.size : Int)
  · rw [if_pos c3] at H
    have c3b0 : decide ((a1.size : Int) ≤ (a0.size : Int)) = true := decide_eq_true c3
    have c3b1 : decide (a1.size ≤ a0.size) = true := decide_eq_true (Int.ofNat_le.mp c3)
    clear c3
    obtain ⟨ji4, hji4⟩ : ∃ j_ : Int, (wrap64 ((a0.size : Int) - (a1.size : Int))) = j_ := ⟨_, rfl⟩
    replace H : (if 0 ≤ (ji4) then (if (ji4) ≤ (a0.size : Int) then (some ((a0.extract ((ji4) : Int).toNat a0.size).toList == a1.toList)) else (none)) else (none)) = some r := by first | (rw [hji4] at H; exact H) | (simp only [hji4] at H ⊢; exact H)
    have hji4w : (IntKind.i64.wrap ((a0.size : Int) - (a1.size : Int))) = ji4 := (i64_w _).trans hji4
    by_cases c5 : 0 ≤ (ji4)
    · rw [if_pos c5] at H
      have c5b0 := eq_true c5
      have c5b1 : decide (0 ≤ (ji4)) = true := decide_eq_true c5
      clear c5
      by_cases c6 : (ji4) ≤ (a0.size : Int)
      · rw [if_pos c6] at H
        have c6b0 := eq_true c6
        have c6b1 : decide ((ji4) ≤ (a0.size : Int)) = true := decide_eq_true c6
        clear c6
        obtain rfl := Option.some.inj H
        go_enter Tryz.func99, Tryz.ntmps99
        go_wp2
        go_ret
        exact ⟨by first | rfl | (simp; done) | (simp only [← hji4] <;> (first | rfl | simp)) | (simp [*]; done), by repeat (first | exact Drawn0.refl _ | apply Drawn0.step)⟩
      · rw [if_neg c6] at H
        exact absurd H (by simp)
    · rw [if_neg c5] at H
      exact absurd H (by simp)
  · rw [if_neg c3] at H
    have c3b0 : decide ((a1.size : Int) ≤ (a0.size : Int)) = false := decide_eq_false c3
    have c3b1 : decide (a1.size ≤ a0.size) = false := decide_eq_false (fun h => c3 (Int.ofNat_le.mpr h))
    clear c3
    obtain rfl := Option.some.inj H
    go_enter Tryz.func99, Tryz.ntmps99
    go_wp2
    go_ret
    exact ⟨by first | rfl | (simp; done) | (simp [*]; done), by repeat (first | exact Drawn0.refl _ | apply Drawn0.step)⟩
def strings_HasSuffix.f (a0 : ByteArray) (a1 : ByteArray) : Option (Bool) := (stringslite_HasSuffix.f a0 a1).bind fun t201 => (some t201)
set_option maxHeartbeats 8000000 in
set_option maxRecDepth 100000 in
theorem strings_HasSuffix.calls (a0 : ByteArray) (a1 : ByteArray) (r : Bool) (w : World) (h : strings_HasSuffix.f a0 a1 = some r) :
    Calls Tryz.prog 61 #[.string a0, .string a1] w fun e w' => e = .returned (.bool r) ∧ Drawn0 w w' := by
  have H : ((stringslite_HasSuffix.f a0 a1).bind fun t201 => (some t201)) = some r := h
  clear h
  replace H := Option.bind_eq_some_iff.mp H
  obtain ⟨t201, A30, H⟩ := H
  replace H : (some t201) = some r := H
  have A3 := Aside0.mk A30
  clear A30
  obtain rfl := Option.some.inj H
  go_enter Tryz.func61, Tryz.ntmps61
  go_wp2_with (first | ((with_reducible refine gate_callee (f := 99) rfl ?_); refine goesL_ (some 7) rfl rfl Tryz.func99 (by kernel_rfl) rfl #[.string a0, .string a1] rfl (by (try simp only [List.map_toArray, List.map_cons, List.map_nil]); first | done | rfl | (simp only [List.length_drop, List.length_take]; rfl)) ?_; (with_reducible refine (stringslite_HasSuffix.calls a0 a1 t201 _ A3.out).mono ?_); rintro e w' ⟨rfl, ⟨nd, rfl⟩⟩; refine ⟨_, rfl, ?_⟩))
  go_ret
  exact ⟨by first | rfl | (simp; done) | (simp [*]; done), by repeat (first | exact Drawn0.refl _ | apply Drawn0.step)⟩
def utf8_ValidString.f (a0 : ByteArray) : Option (Bool) := if a0.size ≤ 9223372036854775807 then (some (Lib.validD a0.data.toList)) else (none)
set_option maxHeartbeats 8000000 in
set_option maxRecDepth 100000 in
theorem utf8_ValidString.calls (a0 : ByteArray) (r : Bool) (w : World) (hGl : Wd w) (h : utf8_ValidString.f a0 = some r) :
    Calls Tryz.prog 98 #[.string a0] w fun e w' => e = .returned (.bool r) ∧ Below w.heap.size w w' := by
  unfold utf8_ValidString.f at h
  by_cases hs : a0.size ≤ 9223372036854775807
  · rw [if_pos hs] at h
    obtain rfl := Option.some.inj h
    refine (Any.utf8_ValidString Tryz.valid196 a0 w hs hGl.2).mono ?_
    rintro e w' ⟨rfl, hb⟩
    exact ⟨rfl, hb⟩
  · rw [if_neg hs] at h
    exact absurd h (by simp)
def base_Visible.l0 : Nat → ByteArray → Bool → Int → Int → Option (Bool)
  | 0, _, _, _, _ => none
  | k + 1, x0, x1, x8, x9 => if x9 < x8 then (if 0 ≤ x9 then (if x9 < (x0.size : Int) then (if (bt x0 x9) < 32 then (if x1 = true then (if ((bt x0 x9) = 10) then (if (bt x0 x9) = 127 then (some false) else (base_Visible.l0 k x0 x1 x8 (wrap64 (x9 + 1)))) else (some false)) else (some false)) else (if (bt x0 x9) = 127 then (some false) else (base_Visible.l0 k x0 x1 x8 (wrap64 (x9 + 1))))) else (none)) else (none)) else ((utf8_ValidString.f x0).bind fun t202 => (some t202))
def base_Visible.f (k : Nat) (a0 : ByteArray) (a1 : Bool) : Option (Bool) := base_Visible.l0 k a0 a1 (a0.size : Int) 0
theorem base_Visible.mono_l : ∀ k, (∀ y0 y1 y2 y3, LeO (base_Visible.l0 k y0 y1 y2 y3) (base_Visible.l0 (k + 1) y0 y1 y2 y3))
  | 0 => fun _ _ _ _ r h => by simp [base_Visible.l0] at h
  | k + 1 => by
    have ih0 := base_Visible.mono_l k
    · intro y0 y1 y2 y3
      unfold base_Visible.l0
      repeat' first
      | (with_reducible exact ih0 _ _ _ _)
      | (with_reducible exact LeO.refl _)
      | (with_reducible exact LeO.none _)
      | (with_reducible refine LeO.ite ?_ ?_)
      | (with_reducible refine LeO.bind ?_ (fun _ => ?_))
      | exact ih0 _ _ _ _
      | exact LeO.none _
      | refine LeO.ite ?_ ?_
      | refine LeO.bind ?_ (fun _ => ?_)
theorem base_Visible.mono : ∀ a0 a1 k, LeO (base_Visible.f k a0 a1) (base_Visible.f (k + 1) a0 a1) := by
  intro a0 a1 k
  have ih0 := base_Visible.mono_l k
  unfold base_Visible.f
  repeat' first
      | (with_reducible exact ih0 _ _ _ _)
      | (with_reducible exact LeO.refl _)
      | (with_reducible exact LeO.none _)
      | (with_reducible refine LeO.ite ?_ ?_)
      | (with_reducible refine LeO.bind ?_ (fun _ => ?_))
      | exact ih0 _ _ _ _
      | exact LeO.none _
      | refine LeO.ite ?_ ?_
      | refine LeO.bind ?_ (fun _ => ?_)
set_option maxHeartbeats 8000000 in
set_option maxRecDepth 100000 in
theorem base_Visible.calls (k : Nat) (a0 : ByteArray) (a1 : Bool) (r : Bool) (w : World) (hGl : Wd w) (h : base_Visible.f k a0 a1 = some r) :
    Calls Tryz.prog 95 #[.string a0, .bool a1] w fun e w' => e = .returned (.bool r) ∧ Below w.heap.size w w' := by
  have HGl := Aside0.mk hGl
  clear hGl
  have HB := Aside0.mk (Below.refl w.heap.size w)
  have H : (base_Visible.l0 k a0 a1 (a0.size : Int) 0) = some r := h
  clear h
  have H' := Aside0.mk H
  clear H
  go_enter Tryz.func95, Tryz.ntmps95
  go_wp2
  go_loopg [9] k (fun kq v9 w' => ∃ (x9_1 : Int), v9 = .int .i64 x9_1 ∧ Aside0 (base_Visible.l0 kq a0 a1 (a0.size : Int) x9_1 = some r) ∧ Aside0 (kq ≤ k) ∧ Aside0 (Below w.heap.size w w'))
  case atStart => exact ⟨(0), (by first | rfl | (simp; done) | (simp [*]; done)), H', ⟨Nat.le_refl _⟩, ⟨by repeat (first | (with_reducible first | exact HB.out | apply below_alloc | apply pw_below_drewN | apply below_drew1) | exact HB.out)⟩⟩
  case round =>
    clear H'
    try clear p2
    obtain ⟨x9_1, rfl, HA, HK1, HB⟩ := hrel
    cases gk with
    | zero => exact absurd HA.out (by simp [base_Visible.l0])
    | succ k1 =>
      have H := HA.out
      clear HA
      simp only [base_Visible.l0] at H
      by_cases c3 : x9_1 < (a0.size : Int)
      · rw [if_pos c3] at H
        have c3b0 : decide (x9_1 < (a0.size : Int)) = true := decide_eq_true c3
        clear c3
        by_cases c4 : 0 ≤ x9_1
        · rw [if_pos c4] at H
          have c4b0 : decide (0 ≤ x9_1) = true := decide_eq_true c4
          clear c4
          by_cases c5 : x9_1 < (a0.size : Int)
          · rw [if_pos c5] at H
            have c5b0 : decide (x9_1 < (a0.size : Int)) = true := decide_eq_true c5
            clear c5
            by_cases c7 : (bt a0 x9_1) < 32
            · rw [if_pos c7] at H
              have c7b0 : decide ((bt a0 x9_1) < 32) = true := decide_eq_true c7
              clear c7
              by_cases c8 : a1 = true
              · subst c8
                have H1 : (if ((bt a0 x9_1) = 10) then (if (bt a0 x9_1) = 127 then (some false) else (base_Visible.l0 k1 a0 true (a0.size : Int) (wrap64 (x9_1 + 1)))) else (some false)) = some r := by rw [if_pos rfl] at H; exact H
                clear H
                have H := H1
                clear H1
                by_cases c9 : ((bt a0 x9_1) = 10)
                · rw [if_pos c9] at H
                  have c9b0 : ((bt a0 x9_1) == 10) = true := beq_iff_eq.mpr c9
                  have c9b1 : ((bt a0 x9_1) != 10) = false := bne_eq_false_iff_eq.mpr c9
                  clear c9
                  by_cases c10 : (bt a0 x9_1) = 127
                  · rw [if_pos c10] at H
                    have c10b0 : ((bt a0 x9_1) == 127) = true := beq_iff_eq.mpr c10
                    have c10b1 : ((bt a0 x9_1) != 127) = false := bne_eq_false_iff_eq.mpr c10
                    clear c10
                    obtain rfl := Option.some.inj H
                    have p6 : 0 ≤ (x9_1 : Int) := of_decide_eq_true (by first | (with_reducible assumption) | assumption)
                    have q6 : x9_1 < (a0.size : Int) := of_decide_eq_true (by first | (with_reducible assumption) | assumption)
                    have hx6 := bt_at a0 x9_1
                    replace p6 := eq_true p6
                    replace q6 := eq_true q6
                    go_wp2
                    go_ret
                    exact ⟨by first | rfl | (simp [errW_none, errW_some] <;> rfl) | (simp [*, errW_none, errW_some] <;> rfl), by repeat (first | (with_reducible first | exact HB.out | apply below_alloc | apply pw_below_drewN | apply below_drew1) | exact HB.out)⟩
                  · rw [if_neg c10] at H
                    have c10b0 : ((bt a0 x9_1) == 127) = false := beq_eq_false_iff_ne.mpr c10
                    have c10b1 : ((bt a0 x9_1) != 127) = true := bne_iff_ne.mpr c10
                    have H' := Aside0.mk H
                    clear H
                    have p6 : 0 ≤ (x9_1 : Int) := of_decide_eq_true (by first | (with_reducible assumption) | assumption)
                    have q6 : x9_1 < (a0.size : Int) := of_decide_eq_true (by first | (with_reducible assumption) | assumption)
                    have hx6 := bt_at a0 x9_1
                    replace p6 := eq_true p6
                    replace q6 := eq_true q6
                    go_wp2
                    go_roundg k1
                    case measure => have := HK1.out; omega
                    case rel => exact ⟨(wrap64 (x9_1 + 1)), (by first | rfl | (simp; done) | (simp [*]; done)), H', ⟨by have := HK1.out; omega⟩, ⟨by repeat (first | (with_reducible first | exact HB.out | apply below_alloc | apply pw_below_drewN | apply below_drew1) | exact HB.out)⟩⟩
                · rw [if_neg c9] at H
                  have c9b0 : ((bt a0 x9_1) == 10) = false := beq_eq_false_iff_ne.mpr c9
                  have c9b1 : ((bt a0 x9_1) != 10) = true := bne_iff_ne.mpr c9
                  obtain rfl := Option.some.inj H
                  have p6 : 0 ≤ (x9_1 : Int) := of_decide_eq_true (by first | (with_reducible assumption) | assumption)
                  have q6 : x9_1 < (a0.size : Int) := of_decide_eq_true (by first | (with_reducible assumption) | assumption)
                  have hx6 := bt_at a0 x9_1
                  replace p6 := eq_true p6
                  replace q6 := eq_true q6
                  go_wp2
                  go_ret
                  exact ⟨by first | rfl | (simp [errW_none, errW_some] <;> rfl) | (simp [*, errW_none, errW_some] <;> rfl), by repeat (first | (with_reducible first | exact HB.out | apply below_alloc | apply pw_below_drewN | apply below_drew1) | exact HB.out)⟩
              · replace c8 := Bool.eq_false_iff.mpr c8
                subst c8
                have H1 : (some false) = some r := by rw [if_neg (show ¬ (false = true) by decide)] at H; exact H
                clear H
                have H := H1
                clear H1
                obtain rfl := Option.some.inj H
                have p6 : 0 ≤ (x9_1 : Int) := of_decide_eq_true (by first | (with_reducible assumption) | assumption)
                have q6 : x9_1 < (a0.size : Int) := of_decide_eq_true (by first | (with_reducible assumption) | assumption)
                have hx6 := bt_at a0 x9_1
                replace p6 := eq_true p6
                replace q6 := eq_true q6
                go_wp2
                go_ret
                exact ⟨by first | rfl | (simp [errW_none, errW_some] <;> rfl) | (simp [*, errW_none, errW_some] <;> rfl), by repeat (first | (with_reducible first | exact HB.out | apply below_alloc | apply pw_below_drewN | apply below_drew1) | exact HB.out)⟩
            · rw [if_neg c7] at H
              have c7b0 : decide ((bt a0 x9_1) < 32) = false := decide_eq_false c7
              clear c7
              by_cases c11 : (bt a0 x9_1) = 127
              · rw [if_pos c11] at H
                have c11b0 : ((bt a0 x9_1) == 127) = true := beq_iff_eq.mpr c11
                have c11b1 : ((bt a0 x9_1) != 127) = false := bne_eq_false_iff_eq.mpr c11
                clear c11
                obtain rfl := Option.some.inj H
                have p6 : 0 ≤ (x9_1 : Int) := of_decide_eq_true (by first | (with_reducible assumption) | assumption)
                have q6 : x9_1 < (a0.size : Int) := of_decide_eq_true (by first | (with_reducible assumption) | assumption)
                have hx6 := bt_at a0 x9_1
                replace p6 := eq_true p6
                replace q6 := eq_true q6
                go_wp2
                go_ret
                exact ⟨by first | rfl | (simp [errW_none, errW_some] <;> rfl) | (simp [*, errW_none, errW_some] <;> rfl), by repeat (first | (with_reducible first | exact HB.out | apply below_alloc | apply pw_below_drewN | apply below_drew1) | exact HB.out)⟩
              · rw [if_neg c11] at H
                have c11b0 : ((bt a0 x9_1) == 127) = false := beq_eq_false_iff_ne.mpr c11
                have c11b1 : ((bt a0 x9_1) != 127) = true := bne_iff_ne.mpr c11
                have H' := Aside0.mk H
                clear H
                have p6 : 0 ≤ (x9_1 : Int) := of_decide_eq_true (by first | (with_reducible assumption) | assumption)
                have q6 : x9_1 < (a0.size : Int) := of_decide_eq_true (by first | (with_reducible assumption) | assumption)
                have hx6 := bt_at a0 x9_1
                replace p6 := eq_true p6
                replace q6 := eq_true q6
                go_wp2
                go_roundg k1
                case measure => have := HK1.out; omega
                case rel => exact ⟨(wrap64 (x9_1 + 1)), (by first | rfl | (simp; done) | (simp [*]; done)), H', ⟨by have := HK1.out; omega⟩, ⟨by repeat (first | (with_reducible first | exact HB.out | apply below_alloc | apply pw_below_drewN | apply below_drew1) | exact HB.out)⟩⟩
          · rw [if_neg c5] at H
            exact absurd H (by simp)
        · rw [if_neg c4] at H
          exact absurd H (by simp)
      · rw [if_neg c3] at H
        have c3b0 : decide (x9_1 < (a0.size : Int)) = false := decide_eq_false c3
        clear c3
        replace H := Option.bind_eq_some_iff.mp H
        obtain ⟨t202, A120, H⟩ := H
        replace H : (some t202) = some r := H
        have A12 := Aside0.mk A120
        clear A120
        obtain rfl := Option.some.inj H
        go_wp2_with (first | ((with_reducible refine gate_callee (f := 98) rfl ?_); refine goesL_ (some 31) rfl rfl Tryz.func98 (by kernel_rfl) rfl #[.string a0] rfl (by (try simp only [List.map_toArray, List.map_cons, List.map_nil]); first | done | rfl | (simp only [List.length_drop, List.length_take]; rfl)) ?_; (with_reducible refine (utf8_ValidString.calls a0 t202 _ ?side1 A12.out).mono ?_); (case side1 => exact Wd.below HGl.out (by repeat (first | (with_reducible first | exact HB.out | apply below_alloc | apply pw_below_drewN | apply below_drew1) | exact HB.out))); rintro e w13 ⟨rfl, hb⟩; refine ⟨_, rfl, ?_⟩; have n0_ := Aside0.mk (below_step (by repeat (first | (with_reducible first | exact HB.out | apply below_alloc | apply pw_below_drewN | apply below_drew1) | exact HB.out)) hb); clear HB; have HB := n0_; clear n0_; (try clear hb); (try clear hb2); (try clear hk); (try clear hi)))
        go_ret
        exact ⟨by first | rfl | (simp [errW_none, errW_some] <;> rfl) | (simp [*, errW_none, errW_some] <;> rfl), by repeat (first | (with_reducible first | exact HB.out | apply below_alloc | apply pw_below_drewN | apply below_drew1) | exact HB.out)⟩
def base_Text.f (k : Nat) (a0 : ByteArray) : Option (Bool) := (base_Visible.f k a0 true).bind fun t203 => (if t203 = true then (if a0.toList = ([] : List UInt8) then (some true) else ((strings_HasSuffix.f a0 (⟨#[10]⟩ : ByteArray)).bind fun t204 => (some t204))) else (some false))
theorem base_Text.mono : ∀ a0 k, LeO (base_Text.f k a0) (base_Text.f (k + 1) a0) := by
  intro a0 k
  unfold base_Text.f
  repeat' first
      | (with_reducible exact base_Visible.mono _ _ _)
      | (with_reducible exact LeO.refl _)
      | (with_reducible exact LeO.none _)
      | (with_reducible refine LeO.ite ?_ ?_)
      | (with_reducible refine LeO.bind ?_ (fun _ => ?_))
      | exact base_Visible.mono _ _ _
      | exact LeO.none _
      | refine LeO.ite ?_ ?_
      | refine LeO.bind ?_ (fun _ => ?_)
set_option maxHeartbeats 8000000 in
set_option maxRecDepth 100000 in
theorem base_Text.calls (k : Nat) (a0 : ByteArray) (r : Bool) (w : World) (hGl : Wd w) (h : base_Text.f k a0 = some r) :
    Calls Tryz.prog 56 #[.string a0] w fun e w' => e = .returned (.bool r) ∧ Below w.heap.size w w' := by
  have HGl := Aside0.mk hGl
  clear hGl
  have HB := Aside0.mk (Below.refl w.heap.size w)
  have H : ((base_Visible.f k a0 true).bind fun t203 => (if t203 = true then (if a0.toList = ([] : List UInt8) then (some true) else ((strings_HasSuffix.f a0 (⟨#[10]⟩ : ByteArray)).bind fun t204 => (some t204))) else (some false))) = some r := h
  clear h
  replace H := Option.bind_eq_some_iff.mp H
  obtain ⟨t203, A20, H⟩ := H
  replace H : (if t203 = true then (if a0.toList = ([] : List UInt8) then (some true) else ((strings_HasSuffix.f a0 (⟨#[10]⟩ : ByteArray)).bind fun t204 => (some t204))) else (some false)) = some r := H
  have A2 := Aside0.mk A20
  clear A20
  by_cases c3 : t203 = true
  · subst c3
    have H1 : (if a0.toList = ([] : List UInt8) then (some true) else ((strings_HasSuffix.f a0 (⟨#[10]⟩ : ByteArray)).bind fun t204 => (some t204))) = some r := by rw [if_pos rfl] at H; exact H
    clear H
    have H := H1
    clear H1
    by_cases c4 : a0.toList = ([] : List UInt8)
    · rw [if_pos c4] at H
      have c4b0 : (a0.toList == ([] : List UInt8)) = true := beq_iff_eq.mpr c4
      have c4b1 : (a0.toList != ([] : List UInt8)) = false := bne_eq_false_iff_eq.mpr c4
      clear c4
      obtain rfl := Option.some.inj H
      go_enter Tryz.func56, Tryz.ntmps56
      go_wp2_with (first | ((with_reducible refine gate_callee (f := 95) rfl ?_); refine goesL_ (some 4) rfl rfl Tryz.func95 (by kernel_rfl) rfl #[.string a0, .bool true] rfl (by (try simp only [List.map_toArray, List.map_cons, List.map_nil]); first | done | rfl | (simp only [List.length_drop, List.length_take]; rfl)) ?_; (with_reducible refine (base_Visible.calls k a0 true true _ ?side1 A2.out).mono ?_); (case side1 => exact Wd.below HGl.out (by repeat (first | (with_reducible first | exact HB.out | apply below_alloc | apply pw_below_drewN | apply below_drew1) | exact HB.out))); rintro e w5 ⟨rfl, hb⟩; refine ⟨_, rfl, ?_⟩; have n0_ := Aside0.mk (below_step (by repeat (first | (with_reducible first | exact HB.out | apply below_alloc | apply pw_below_drewN | apply below_drew1) | exact HB.out)) hb); clear HB; have HB := n0_; clear n0_; (try clear hb); (try clear hb2); (try clear hk); (try clear hi)))
      go_ret
      exact ⟨by first | rfl | (simp [errW_none, errW_some] <;> rfl) | (simp [*, errW_none, errW_some] <;> rfl), by repeat (first | (with_reducible first | exact HB.out | apply below_alloc | apply pw_below_drewN | apply below_drew1) | exact HB.out)⟩
    · rw [if_neg c4] at H
      have c4b0 : (a0.toList == ([] : List UInt8)) = false := beq_eq_false_iff_ne.mpr c4
      have c4b1 : (a0.toList != ([] : List UInt8)) = true := bne_iff_ne.mpr c4
      replace H := Option.bind_eq_some_iff.mp H
      obtain ⟨t204, A60, H⟩ := H
      replace H : (some t204) = some r := H
      have A6 := Aside0.mk A60
      clear A60
      obtain rfl := Option.some.inj H
      go_enter Tryz.func56, Tryz.ntmps56
      go_wp2_with (first | ((with_reducible refine gate_callee (f := 95) rfl ?_); refine goesL_ (some 4) rfl rfl Tryz.func95 (by kernel_rfl) rfl #[.string a0, .bool true] rfl (by (try simp only [List.map_toArray, List.map_cons, List.map_nil]); first | done | rfl | (simp only [List.length_drop, List.length_take]; rfl)) ?_; (with_reducible refine (base_Visible.calls k a0 true true _ ?side1 A2.out).mono ?_); (case side1 => exact Wd.below HGl.out (by repeat (first | (with_reducible first | exact HB.out | apply below_alloc | apply pw_below_drewN | apply below_drew1) | exact HB.out))); rintro e w7 ⟨rfl, hb⟩; refine ⟨_, rfl, ?_⟩; have n0_ := Aside0.mk (below_step (by repeat (first | (with_reducible first | exact HB.out | apply below_alloc | apply pw_below_drewN | apply below_drew1) | exact HB.out)) hb); clear HB; have HB := n0_; clear n0_; (try clear hb); (try clear hb2); (try clear hk); (try clear hi)) | (go_at_call 61; (with_reducible refine (strings_HasSuffix.calls a0 (⟨#[10]⟩ : ByteArray) t204 _ A6.out).mono ?_); rintro e w' ⟨rfl, ⟨nd, rfl⟩⟩))
      go_ret
      exact ⟨by first | rfl | (simp [errW_none, errW_some] <;> rfl) | (simp [*, errW_none, errW_some] <;> rfl), by repeat (first | (with_reducible first | exact HB.out | apply below_alloc | apply pw_below_drewN | apply below_drew1) | exact HB.out)⟩
  · replace c3 := Bool.eq_false_iff.mpr c3
    subst c3
    have H1 : (some false) = some r := by rw [if_neg (show ¬ (false = true) by decide)] at H; exact H
    clear H
    have H := H1
    clear H1
    obtain rfl := Option.some.inj H
    go_enter Tryz.func56, Tryz.ntmps56
    go_wp2_with (first | ((with_reducible refine gate_callee (f := 95) rfl ?_); refine goesL_ (some 4) rfl rfl Tryz.func95 (by kernel_rfl) rfl #[.string a0, .bool true] rfl (by (try simp only [List.map_toArray, List.map_cons, List.map_nil]); first | done | rfl | (simp only [List.length_drop, List.length_take]; rfl)) ?_; (with_reducible refine (base_Visible.calls k a0 true false _ ?side1 A2.out).mono ?_); (case side1 => exact Wd.below HGl.out (by repeat (first | (with_reducible first | exact HB.out | apply below_alloc | apply pw_below_drewN | apply below_drew1) | exact HB.out))); rintro e w8 ⟨rfl, hb⟩; refine ⟨_, rfl, ?_⟩; have n0_ := Aside0.mk (below_step (by repeat (first | (with_reducible first | exact HB.out | apply below_alloc | apply pw_below_drewN | apply below_drew1) | exact HB.out)) hb); clear HB; have HB := n0_; clear n0_; (try clear hb); (try clear hb2); (try clear hk); (try clear hi)))
    go_ret
    exact ⟨by first | rfl | (simp [errW_none, errW_some] <;> rfl) | (simp [*, errW_none, errW_some] <;> rfl), by repeat (first | (with_reducible first | exact HB.out | apply below_alloc | apply pw_below_drewN | apply below_drew1) | exact HB.out)⟩
def produce_textError.f (k : Nat) (a0 : ByteArray) : Option (Int) := (base_When.f (decide ((a0.size : Int) > 20000)) 2).bind fun t205 => ((base_Text.f k a0).bind fun t206 => ((base_When.f (!t206) 3).bind fun t207 => ((base_First.f k (([t205, t207] : List Int))).bind fun t211 => (some t211))))
theorem produce_textError.mono : ∀ a0 k, LeO (produce_textError.f k a0) (produce_textError.f (k + 1) a0) := by
  intro a0 k
  unfold produce_textError.f
  repeat' first
      | (with_reducible exact base_First.mono _ _)
      | (with_reducible exact base_Text.mono _ _)
      | (with_reducible exact LeO.refl _)
      | (with_reducible exact LeO.none _)
      | (with_reducible refine LeO.ite ?_ ?_)
      | (with_reducible refine LeO.bind ?_ (fun _ => ?_))
      | exact base_First.mono _ _
      | exact base_Text.mono _ _
      | exact LeO.none _
      | refine LeO.ite ?_ ?_
      | refine LeO.bind ?_ (fun _ => ?_)
set_option maxHeartbeats 8000000 in
set_option maxRecDepth 100000 in
theorem produce_textError.calls (k : Nat) (a0 : ByteArray) (r : Int) (w : World) (hGl : Wd w) (h : produce_textError.f k a0 = some r) :
    Calls Tryz.prog 26 #[.string a0] w fun e w' => e = .returned (.int .i64 r) ∧ Below w.heap.size w w' := by
  have HGl := Aside0.mk hGl
  clear hGl
  have HB := Aside0.mk (Below.refl w.heap.size w)
  have H : ((base_When.f (decide ((a0.size : Int) > 20000)) 2).bind fun t205 => ((base_Text.f k a0).bind fun t206 => ((base_When.f (!t206) 3).bind fun t207 => ((base_First.f k (([t205, t207] : List Int))).bind fun t211 => (some t211))))) = some r := h
  clear h
  replace H := Option.bind_eq_some_iff.mp H
  obtain ⟨t205, A20, H⟩ := H
  replace H : ((base_Text.f k a0).bind fun t206 => ((base_When.f (!t206) 3).bind fun t207 => ((base_First.f k (([t205, t207] : List Int))).bind fun t211 => (some t211)))) = some r := H
  have A2 := Aside0.mk A20
  clear A20
  replace H := Option.bind_eq_some_iff.mp H
  obtain ⟨t206, A30, H⟩ := H
  replace H : ((base_When.f (!t206) 3).bind fun t207 => ((base_First.f k (([t205, t207] : List Int))).bind fun t211 => (some t211))) = some r := H
  have A3 := Aside0.mk A30
  clear A30
  replace H := Option.bind_eq_some_iff.mp H
  obtain ⟨t207, A40, H⟩ := H
  replace H : ((base_First.f k (([t205, t207] : List Int))).bind fun t211 => (some t211)) = some r := H
  have A4 := Aside0.mk A40
  clear A40
  obtain ⟨y208, hy208⟩ : ∃ y_ : List Int, y_ = (([t205, t207] : List Int)) := ⟨_, rfl⟩
  replace H : ((base_First.f k y208).bind fun t211 => (some t211)) = some r := by first | (rw [hy208]; with_reducible exact H) | (have H2_ := (Option.bind_some _ _).symm.trans H; rw [hy208]; with_reducible exact H2_) | (have H2_ := (Option.bind_some _ _).symm.trans H; with_reducible exact H2_) | with_reducible exact H | (rw [hy208]; exact H) | exact H
  have Ny208 := Aside0.mk hy208
  clear hy208
  replace H := Option.bind_eq_some_iff.mp H
  obtain ⟨t211, A50, H⟩ := H
  replace H : (some t211) = some r := H
  have A5 := Aside0.mk A50
  clear A50
  obtain rfl := Option.some.inj H
  go_enter Tryz.func26, Tryz.ntmps26
  go_wp2_with (first | ((with_reducible refine gate_callee (f := 55) rfl ?_); refine goesL_ (some 6) rfl rfl Tryz.func55 (by kernel_rfl) rfl #[.bool (decide ((a0.size : Int) > 20000)), .int .i64 2] rfl (by (try simp only [List.map_toArray, List.map_cons, List.map_nil]); first | done | rfl | (simp only [List.length_drop, List.length_take]; rfl)) ?_; (with_reducible refine (base_When.calls (decide ((a0.size : Int) > 20000)) 2 t205 _ A2.out).mono ?_); rintro e w' ⟨rfl, ⟨nd, rfl⟩⟩; refine ⟨_, rfl, ?_⟩) | ((with_reducible refine gate_callee (f := 56) rfl ?_); refine goesL_ (some 8) rfl rfl Tryz.func56 (by kernel_rfl) rfl #[.string a0] rfl (by (try simp only [List.map_toArray, List.map_cons, List.map_nil]); first | done | rfl | (simp only [List.length_drop, List.length_take]; rfl)) ?_; (with_reducible refine (base_Text.calls k a0 t206 _ ?side1 A3.out).mono ?_); (case side1 => exact Wd.below HGl.out (by repeat (first | (with_reducible first | exact HB.out | apply below_alloc | apply pw_below_drewN | apply below_drew1) | exact HB.out))); rintro e w6 ⟨rfl, hb⟩; refine ⟨_, rfl, ?_⟩; have n0_ := Aside0.mk (below_step (by repeat (first | (with_reducible first | exact HB.out | apply below_alloc | apply pw_below_drewN | apply below_drew1) | exact HB.out)) hb); clear HB; have HB := n0_; clear n0_; (try clear hb); (try clear hb2); (try clear hk); (try clear hi)) | ((with_reducible refine gate_callee (f := 55) rfl ?_); refine goesL_ (some 10) rfl rfl Tryz.func55 (by kernel_rfl) rfl #[.bool (!t206), .int .i64 3] rfl (by (try simp only [List.map_toArray, List.map_cons, List.map_nil]); first | done | rfl | (simp only [List.length_drop, List.length_take]; rfl)) ?_; (with_reducible refine (base_When.calls (!t206) 3 t207 _ A4.out).mono ?_); rintro e w' ⟨rfl, ⟨nd, rfl⟩⟩; refine ⟨_, rfl, ?_⟩) | ((with_reducible refine gate_dst (N := 11) rfl ?_); refine Kd.R_lit (Kd.int .i64) _ 28 ?hg (N := 11) ?hd (xs := ([t205, t207] : List Int)) (inner := [.int .i64 t205, .int .i64 t207]) (ok := fun _ => True) (okp := fun _ => True) ?hr ?hp (fun _ hk => hk) trivial (Below.refl _ _) (Nat.le_refl _) (by simp) ?_; (case hd => rfl); (case hg => rfl); (case hr => first | (go_simp; done) | (go_simp; rfl)); (case hp => exact (Reps.one (show Kd.M (Kd.int .i64) _ _ _ t205 [.int .i64 t205] from rfl) (Reps.one (show Kd.M (Kd.int .i64) _ _ _ t207 [.int .i64 t207] from rfl) (Reps.none _ _)))); intro v209 w7 ho8 hb hg_ hnew_; clear hg_ hnew_; (first | rw [← Ny208.out] at ho8 | (simp only [Int.reduceToNat] at ho8; rw [← Ny208.out] at ho8)); have n0_ := Aside0.mk (Kd.R_lower ho8 (below_size (by repeat (first | (with_reducible first | exact HB.out | apply below_alloc | apply pw_below_drewN | apply below_drew1) | exact HB.out)))); have n1_ := Aside0.mk (below_step (by repeat (first | (with_reducible first | exact HB.out | apply below_alloc | apply pw_below_drewN | apply below_drew1) | exact HB.out)) hb); clear HB; have HO210 := n0_; have HB := n1_; clear n0_ n1_; clear hb ho8; obtain ⟨Ao9, co9, eo9⟩ := Kd.R_slice HO210.out; subst eo9) | ((with_reducible refine gate_callee (f := 54) rfl ?_); refine goesL_ (some 12) rfl rfl Tryz.func54 (by kernel_rfl) rfl #[.slice Ao9 y208.length co9] rfl (by (try simp only [List.map_toArray, List.map_cons, List.map_nil]); first | done | rfl | (simp only [List.length_drop, List.length_take]; rfl)) ?_; (with_reducible refine (base_First.calls k _ _ y208 t211 _ ?side1 ?side2 A5.out).mono ?_); (case side1 => repeat (first | exact (Kd.R_reads' HO210.out).2.2 | (with_reducible refine Kd.C_alloc ?_ _) | (with_reducible refine Kd.C_drewN ?_ _) | (with_reducible refine Kd.C_drew ?_))); (case side2 => exact (Kd.R_reads' HO210.out).2.1); rintro e w' ⟨rfl, ⟨nd, rfl⟩⟩; refine ⟨_, rfl, ?_⟩))
  go_ret
  exact ⟨by first | rfl | (simp [errW_none, errW_some] <;> rfl) | (simp [*, errW_none, errW_some] <;> rfl), by repeat (first | (with_reducible first | exact HB.out | apply below_alloc | apply pw_below_drewN | apply below_drew1) | exact HB.out)⟩
def strings_Split.f (a0 : ByteArray) (a1 : ByteArray) : Option (List ByteArray) := if a0.size < 4294967281 ∧ 1 ≤ a1.size then (some (Lib.splitB a1 0 (Lib.countB a0 a1) a0)) else (none)
set_option maxHeartbeats 8000000 in
set_option maxRecDepth 100000 in
theorem strings_Split.calls (a0 : ByteArray) (a1 : ByteArray) (r : List ByteArray) (w : World) (hGl : Wd w) (h : strings_Split.f a0 a1 = some r) :
    Calls Tryz.prog 66 #[.string a0, .string a1] w fun e w' => ∃ v0_ : Value, e = .returned (v0_) ∧ Kd.R Kd.string 9 w' w.heap.size (fun _ => True) v0_ r ∧ Below w.heap.size w w' := by
  unfold strings_Split.f at h
  by_cases hs : a0.size < 4294967281 ∧ 1 ≤ a1.size
  · rw [if_pos hs] at h
    obtain rfl := Option.some.inj h
    obtain ⟨m, hm⟩ := hGl.1
    refine (Tryz.strings_Split a0 a1 m w hs.1 hm hs.2).mono ?_
    rintro e w' ⟨rfl, rfl⟩
    have hl : (Lib.splitB a1 0 (Lib.countB a0 a1) a0).length = Lib.countB a0 a1 + 1 := Lib.splitB_all a1 hs.2 0 _ a0 rfl
    have hle := Lib.countB_le a1 hs.2 a0.size a0 (Nat.le_refl _)
    refine ⟨_, rfl, ?_, (Below.refl _ _).alloc (Nat.le_refl _) _⟩
    rw [← hl]
    refine R_of (fun _ _ => trivial) ⟨by simp, .inr ⟨w.heap.size, (Lib.splitB a1 0 (Lib.countB a0 a1) a0).length, _, rfl, Nat.le_refl _, heap_alloc_new _ _, Nat.le_refl _, by rw [hl]; unfold maxLen; omega, by simp, List.take_of_length_le (by simp)⟩⟩
  · rw [if_neg hs] at h
    exact absurd h (by simp)
def stringslite_CutSuffix.f (a0 : ByteArray) (a1 : ByteArray) : Option (ByteArray × Bool) := (stringslite_HasSuffix.f a0 a1).bind fun t212 => (if t212 = true then (if 0 ≤ (wrap64 ((a0.size : Int) - (a1.size : Int))) then (if (wrap64 ((a0.size : Int) - (a1.size : Int))) ≤ (a0.size : Int) then (some (a0.extract 0 ((wrap64 ((a0.size : Int) - (a1.size : Int))) : Int).toNat, true)) else (none)) else (none)) else (some (a0, false)))
set_option maxHeartbeats 8000000 in
set_option maxRecDepth 100000 in
theorem stringslite_CutSuffix.calls (a0 : ByteArray) (a1 : ByteArray) (r1 : ByteArray) (r2 : Bool) (w : World) (h : stringslite_CutSuffix.f a0 a1 = some (r1, r2)) :
    Calls Tryz.prog 118 #[.string a0, .string a1] w fun e w' => e = .returned (.tuple #[.string r1, .bool r2]) ∧ Drawn0 w w' := by
  have H : ((stringslite_HasSuffix.f a0 a1).bind fun t212 => (if t212 = true then (if 0 ≤ (wrap64 ((a0.size : Int) - (a1.size : Int))) then (if (wrap64 ((a0.size : Int) - (a1.size : Int))) ≤ (a0.size : Int) then (some (a0.extract 0 ((wrap64 ((a0.size : Int) - (a1.size : Int))) : Int).toNat, true)) else (none)) else (none)) else (some (a0, false)))) = some (r1, r2) := h
  clear h
  replace H := Option.bind_eq_some_iff.mp H
  obtain ⟨t212, A30, H⟩ := H
  replace H : (if t212 = true then (if 0 ≤ (wrap64 ((a0.size : Int) - (a1.size : Int))) then (if (wrap64 ((a0.size : Int) - (a1.size : Int))) ≤ (a0.size : Int) then (some (a0.extract 0 ((wrap64 ((a0.size : Int) - (a1.size : Int))) : Int).toNat, true)) else (none)) else (none)) else (some (a0, false))) = some (r1, r2) := H
  have A3 := Aside0.mk A30
  clear A30
  by_cases c4 : t212 = true
  · subst c4
    have H1 : (if 0 ≤ (wrap64 ((a0.size : Int) - (a1.size : Int))) then (if (wrap64 ((a0.size : Int) - (a1.size : Int))) ≤ (a0.size : Int) then (some (a0.extract 0 ((wrap64 ((a0.size : Int) - (a1.size : Int))) : Int).toNat, true)) else (none)) else (none)) = some (r1, r2) := by rw [if_pos rfl] at H; exact H
    clear H
    have H := H1
    clear H1
    obtain ⟨ji5, hji5⟩ : ∃ j_ : Int, (wrap64 ((a0.size : Int) - (a1.size : Int))) = j_ := ⟨_, rfl⟩
    replace H : (if 0 ≤ (ji5) then (if (ji5) ≤ (a0.size : Int) then (some (a0.extract 0 ((ji5) : Int).toNat, true)) else (none)) else (none)) = some (r1, r2) := by first | (rw [hji5] at H; exact H) | (simp only [hji5] at H ⊢; exact H)
    (try rw [hji5] at A3)
    have hji5w : (IntKind.i64.wrap ((a0.size : Int) - (a1.size : Int))) = ji5 := (i64_w _).trans hji5
    by_cases c6 : 0 ≤ (ji5)
    · rw [if_pos c6] at H
      have c6b0 := eq_true c6
      have c6b1 : decide (0 ≤ (ji5)) = true := decide_eq_true c6
      clear c6
      by_cases c7 : (ji5) ≤ (a0.size : Int)
      · rw [if_pos c7] at H
        have c7b0 := eq_true c7
        have c7b1 : decide ((ji5) ≤ (a0.size : Int)) = true := decide_eq_true c7
        clear c7
        simp only [Option.some.injEq, Prod.mk.injEq] at H
        obtain ⟨rfl, rfl⟩ := H
        go_enter Tryz.func118, Tryz.ntmps118
        go_wp2_with (first | ((with_reducible refine gate_callee (f := 99) rfl ?_); refine goesL_ (some 8) rfl rfl Tryz.func99 (by kernel_rfl) rfl #[.string a0, .string a1] rfl (by (try simp only [List.map_toArray, List.map_cons, List.map_nil]); first | done | rfl | (simp only [List.length_drop, List.length_take]; rfl)) ?_; (with_reducible refine (stringslite_HasSuffix.calls a0 a1 true _ A3.out).mono ?_); rintro e w' ⟨rfl, ⟨nd, rfl⟩⟩; refine ⟨_, rfl, ?_⟩))
        go_ret2
        exact ⟨by first | rfl | (simp; done) | (simp only [← hji5] <;> (first | rfl | simp)) | (simp [*]; done), by repeat (first | exact Drawn0.refl _ | apply Drawn0.step)⟩
      · rw [if_neg c7] at H
        exact absurd H (by simp)
    · rw [if_neg c6] at H
      exact absurd H (by simp)
  · replace c4 := Bool.eq_false_iff.mpr c4
    subst c4
    have H1 : (some (a0, false)) = some (r1, r2) := by rw [if_neg (show ¬ (false = true) by decide)] at H; exact H
    clear H
    have H := H1
    clear H1
    simp only [Option.some.injEq, Prod.mk.injEq] at H
    obtain ⟨rfl, rfl⟩ := H
    go_enter Tryz.func118, Tryz.ntmps118
    go_wp2_with (first | ((with_reducible refine gate_callee (f := 99) rfl ?_); refine goesL_ (some 8) rfl rfl Tryz.func99 (by kernel_rfl) rfl #[.string a0, .string a1] rfl (by (try simp only [List.map_toArray, List.map_cons, List.map_nil]); first | done | rfl | (simp only [List.length_drop, List.length_take]; rfl)) ?_; (with_reducible refine (stringslite_HasSuffix.calls a0 a1 false _ A3.out).mono ?_); rintro e w' ⟨rfl, ⟨nd, rfl⟩⟩; refine ⟨_, rfl, ?_⟩))
    go_ret2
    exact ⟨by first | rfl | (simp; done) | (simp [*]; done), by repeat (first | exact Drawn0.refl _ | apply Drawn0.step)⟩
def strings_CutSuffix.f (a0 : ByteArray) (a1 : ByteArray) : Option (ByteArray × Bool) := (stringslite_CutSuffix.f a0 a1).bind fun bt213 => (some (bt213.1, bt213.2))
set_option maxHeartbeats 8000000 in
set_option maxRecDepth 100000 in
theorem strings_CutSuffix.calls (a0 : ByteArray) (a1 : ByteArray) (r1 : ByteArray) (r2 : Bool) (w : World) (h : strings_CutSuffix.f a0 a1 = some (r1, r2)) :
    Calls Tryz.prog 96 #[.string a0, .string a1] w fun e w' => e = .returned (.tuple #[.string r1, .bool r2]) ∧ Drawn0 w w' := by
  have H : ((stringslite_CutSuffix.f a0 a1).bind fun bt213 => (some (bt213.1, bt213.2))) = some (r1, r2) := h
  clear h
  replace H := Option.bind_eq_some_iff.mp H
  obtain ⟨⟨t213, t214⟩, A30, H⟩ := H
  replace H : (some (t213, t214)) = some (r1, r2) := H
  have A3 := Aside0.mk A30
  clear A30
  simp only [Option.some.injEq, Prod.mk.injEq] at H
  obtain ⟨rfl, rfl⟩ := H
  go_enter Tryz.func96, Tryz.ntmps96
  go_wp2_with (first | ((with_reducible refine gate_callee (f := 118) rfl ?_); refine goesL_ (some 8) rfl rfl Tryz.func118 (by kernel_rfl) rfl #[.string a0, .string a1] rfl (by (try simp only [List.map_toArray, List.map_cons, List.map_nil]); first | done | rfl | (simp only [List.length_drop, List.length_take]; rfl)) ?_; (with_reducible refine (stringslite_CutSuffix.calls a0 a1 t213 t214 _ A3.out).mono ?_); rintro e w' ⟨rfl, ⟨nd, rfl⟩⟩; refine ⟨_, rfl, ?_⟩))
  go_ret2
  exact ⟨by first | rfl | (simp; done) | (simp [*]; done), by repeat (first | exact Drawn0.refl _ | apply Drawn0.step)⟩
end Go.Proofs.YtffaggbephnmkaaGreatDoor.Pg
