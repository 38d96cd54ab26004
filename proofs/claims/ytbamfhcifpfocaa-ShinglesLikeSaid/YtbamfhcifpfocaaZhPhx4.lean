/- Part of the proof that the law shinglesLike is true for every input. No conditions. Laid by a program of this session over the kit's print and words; declarations that nothing names are left out. -/
import Derived.Test.YtbamfhcifpfocaaZhPhx0
import Derived.Test.YtbamfhcifpfocaaZhPhx2
import Derived.Test.YtbamfhcifpfocaaZhPhx3
namespace Go.Proofs.Ytbamfhcifpfocaa.Ph
open Go.RowKit Go.Proofs.Ytbamfhcifpfocaa.GBase Go.Proofs.YtbamfhcifpfocaaW.PrintWords Go.Proofs.YtbamfhcifpfocaaW.PrintLast Go.Proofs.YtbamfhcifpfocaaW.PrintMore
attribute [local go_sem] max2_int min2_int max_two min_two max_three min_three max_four min_four
set_option linter.unusedVariables false
set_option linter.unusedSimpArgs false
def chaselaw1_nears.f (k : Nat)  : Option (Bool) := (near_Shingles.f k (⟨#[97, 32, 98, 32, 99]⟩ : ByteArray) 2).bind fun bt176 => (if bt176.2 = 0 then ((slices_Equal_string_string.f k bt176.1 (([(⟨#[97, 32, 98]⟩ : ByteArray), (⟨#[98, 32, 99]⟩ : ByteArray)] : List ByteArray))).bind fun t183 => (some t183)) else (some false))
theorem chaselaw1_nears.mono : ∀ k, LeO (chaselaw1_nears.f k ) (chaselaw1_nears.f (k + 1) ) := by
  intro  k
  unfold chaselaw1_nears.f
  repeat' first
      | (with_reducible exact near_Shingles.mono _ _ _)
      | (with_reducible exact slices_Equal_string_string.mono _ _ _)
      | (with_reducible exact LeO.refl _)
      | (with_reducible exact LeO.none _)
      | (with_reducible refine LeO.ite ?_ ?_)
      | (with_reducible refine LeO.bind ?_ (fun _ => ?_))
      | exact near_Shingles.mono _ _ _
      | exact slices_Equal_string_string.mono _ _ _
      | exact LeO.none _
      | refine LeO.ite ?_ ?_
      | refine LeO.bind ?_ (fun _ => ?_)
set_option maxHeartbeats 8000000 in
set_option maxRecDepth 100000 in
theorem chaselaw1_nears.calls (k : Nat)  (r : Bool) (w : World) (h : chaselaw1_nears.f k  = some r) :
    Calls Try.prog 15 #[] w fun e w' => e = .returned (.bool r) ∧ Below w.heap.size w w' := by
  have HB := Aside0.mk (Below.refl w.heap.size w)
  have H : ((near_Shingles.f k (⟨#[97, 32, 98, 32, 99]⟩ : ByteArray) 2).bind fun bt176 => (if bt176.2 = 0 then ((slices_Equal_string_string.f k bt176.1 (([(⟨#[97, 32, 98]⟩ : ByteArray), (⟨#[98, 32, 99]⟩ : ByteArray)] : List ByteArray))).bind fun t183 => (some t183)) else (some false))) = some r := h
  clear h
  replace H := Option.bind_eq_some_iff.mp H
  obtain ⟨⟨t176, t177⟩, A10, H⟩ := H
  replace H : (if t177 = 0 then ((slices_Equal_string_string.f k t176 (([(⟨#[97, 32, 98]⟩ : ByteArray), (⟨#[98, 32, 99]⟩ : ByteArray)] : List ByteArray))).bind fun t183 => (some t183)) else (some false)) = some r := H
  have A1 := Aside0.mk A10
  clear A10
  by_cases c2 : t177 = 0
  · rw [if_pos c2] at H
    have c2b0 : (t177 == 0) = true := beq_iff_eq.mpr c2
    have c2b1 : (t177 != 0) = false := bne_eq_false_iff_eq.mpr c2
    clear c2
    obtain ⟨y180, hy180⟩ : ∃ y_ : List ByteArray, y_ = (([(⟨#[97, 32, 98]⟩ : ByteArray), (⟨#[98, 32, 99]⟩ : ByteArray)] : List ByteArray)) := ⟨_, rfl⟩
    replace H : ((slices_Equal_string_string.f k t176 y180).bind fun t183 => (some t183)) = some r := by first | (rw [hy180]; with_reducible exact H) | (have H2_ := (Option.bind_some _ _).symm.trans H; rw [hy180]; with_reducible exact H2_) | (have H2_ := (Option.bind_some _ _).symm.trans H; with_reducible exact H2_) | with_reducible exact H | (rw [hy180]; exact H) | exact H
    have Ny180 := Aside0.mk hy180
    clear hy180
    replace H := Option.bind_eq_some_iff.mp H
    obtain ⟨t183, A30, H⟩ := H
    replace H : (some t183) = some r := H
    have A3 := Aside0.mk A30
    clear A30
    obtain rfl := Option.some.inj H
    go_enter Try.func15, Try.ntmps15
    go_wp2_with (first | ((with_reducible refine gate_callee (f := 17) rfl ?_); refine goesL_ (some 4) rfl rfl Try.func17 (by kernel_rfl) rfl #[.string (⟨#[97, 32, 98, 32, 99]⟩ : ByteArray), .int .i64 2] rfl (by (try simp only [List.map_toArray, List.map_cons, List.map_nil]); first | done | rfl | (simp only [List.length_drop, List.length_take]; rfl)) ?_; (with_reducible refine (near_Shingles.calls k (⟨#[97, 32, 98, 32, 99]⟩ : ByteArray) 2 t176 t177 _ A1.out).mono ?_); rintro e w4 ⟨v178, rfl, ho0, hb⟩; refine ⟨_, rfl, ?_⟩; have n0_ := Aside0.mk (Kd.R_lower ho0 (below_size (by repeat (first | (with_reducible first | exact HB.out | apply below_alloc | apply pw_below_drewN | apply below_drew1) | exact HB.out)))); have n1_ := Aside0.mk (below_step (by repeat (first | (with_reducible first | exact HB.out | apply below_alloc | apply pw_below_drewN | apply below_drew1) | exact HB.out)) hb); clear HB; have HO179 := n0_; have HB := n1_; clear n0_ n1_; (try clear hb); (try clear hb2); (try clear hk); (try clear hi); (try clear ho0)) | ((with_reducible refine gate_dst (N := 11) rfl ?_); (try (refine gate_guard (by rfl) ?_; dsimp only)); refine Kd.R_lit Kd.string _ 9 ?hg (N := 11) ?hd (xs := ([(⟨#[97, 32, 98]⟩ : ByteArray), (⟨#[98, 32, 99]⟩ : ByteArray)] : List ByteArray)) (inner := [.string (⟨#[97, 32, 98]⟩ : ByteArray), .string (⟨#[98, 32, 99]⟩ : ByteArray)]) (ok := fun _ => True) (okp := fun _ => True) ?hr ?hp (fun _ hk => hk) trivial (Below.refl _ _) (Nat.le_refl _) (by simp) ?_; (case hd => rfl); (case hg => rfl); (case hr => first | (go_simp; done) | (go_simp; rfl)); (case hp => exact (Reps.one (show Kd.M Kd.string _ _ _ (⟨#[97, 32, 98]⟩ : ByteArray) [.string (⟨#[97, 32, 98]⟩ : ByteArray)] from rfl) (Reps.one (show Kd.M Kd.string _ _ _ (⟨#[98, 32, 99]⟩ : ByteArray) [.string (⟨#[98, 32, 99]⟩ : ByteArray)] from rfl) (Reps.none _ _)))); intro v181 w5 ho6 hb hg_ hnew_; clear hg_ hnew_; (first | rw [← Ny180.out] at ho6 | (simp only [Int.reduceToNat] at ho6; rw [← Ny180.out] at ho6)); have n0_ := Aside0.mk (Kd.R_elder' (by (with_reducible repeat (first | apply Kd.R_alloc | apply Kd.R_drewN | apply Kd.R_drew)); exact HO179.out) (Kd.R_base ho6) hb); have n1_ := Aside0.mk (Kd.R_lower (Kd.R_new' ho6 (Kd.R_lt (by (with_reducible repeat (first | apply Kd.R_alloc | apply Kd.R_drewN | apply Kd.R_drew)); exact HO179.out))) (below_size (by repeat (first | (with_reducible first | exact HB.out | apply below_alloc | apply pw_below_drewN | apply below_drew1) | exact HB.out)))); have n2_ := Aside0.mk (below_step (by repeat (first | (with_reducible first | exact HB.out | apply below_alloc | apply pw_below_drewN | apply below_drew1) | exact HB.out)) hb); clear HO179; clear HB; have HO179 := n0_; have HO182 := n1_; have HB := n2_; clear n0_ n1_ n2_; clear hb ho6; obtain ⟨Ao7, co7, eo7⟩ := Kd.R_slice HO179.out; subst eo7; obtain ⟨Ao8, co8, eo8⟩ := Kd.R_slice HO182.out; subst eo8) | (go_at_call 21; (with_reducible refine (slices_Equal_string_string.calls k _ _ t176 _ _ y180 t183 _ ?side1 ?side2 ?side3 ?side4 A3.out).mono ?_); (case side1 => repeat (first | exact (Kd.R_reads' HO179.out).2.2 | (with_reducible refine Kd.C_alloc ?_ _) | (with_reducible refine Kd.C_drewN ?_ _) | (with_reducible refine Kd.C_drew ?_))); (case side2 => exact (Kd.R_reads' HO179.out).2.1); (case side3 => repeat (first | exact (Kd.R_reads' HO182.out).2.2 | (with_reducible refine Kd.C_alloc ?_ _) | (with_reducible refine Kd.C_drewN ?_ _) | (with_reducible refine Kd.C_drew ?_))); (case side4 => exact (Kd.R_reads' HO182.out).2.1); rintro e w' ⟨rfl, ⟨nd, rfl⟩⟩))
    go_ret
    exact ⟨by first | rfl | (simp [errW_none, errW_some] <;> rfl) | (simp [*, errW_none, errW_some] <;> rfl), by repeat (first | (with_reducible first | exact HB.out | apply below_alloc | apply pw_below_drewN | apply below_drew1) | exact HB.out)⟩
  · rw [if_neg c2] at H
    have c2b0 : (t177 == 0) = false := beq_eq_false_iff_ne.mpr c2
    have c2b1 : (t177 != 0) = true := bne_iff_ne.mpr c2
    obtain rfl := Option.some.inj H
    go_enter Try.func15, Try.ntmps15
    go_wp2_with (first | ((with_reducible refine gate_callee (f := 17) rfl ?_); refine goesL_ (some 4) rfl rfl Try.func17 (by kernel_rfl) rfl #[.string (⟨#[97, 32, 98, 32, 99]⟩ : ByteArray), .int .i64 2] rfl (by (try simp only [List.map_toArray, List.map_cons, List.map_nil]); first | done | rfl | (simp only [List.length_drop, List.length_take]; rfl)) ?_; (with_reducible refine (near_Shingles.calls k (⟨#[97, 32, 98, 32, 99]⟩ : ByteArray) 2 t176 t177 _ A1.out).mono ?_); rintro e w9 ⟨v178, rfl, ho0, hb⟩; refine ⟨_, rfl, ?_⟩; have n0_ := Aside0.mk (Kd.R_lower ho0 (below_size (by repeat (first | (with_reducible first | exact HB.out | apply below_alloc | apply pw_below_drewN | apply below_drew1) | exact HB.out)))); have n1_ := Aside0.mk (below_step (by repeat (first | (with_reducible first | exact HB.out | apply below_alloc | apply pw_below_drewN | apply below_drew1) | exact HB.out)) hb); clear HB; have HO179 := n0_; have HB := n1_; clear n0_ n1_; (try clear hb); (try clear hb2); (try clear hk); (try clear hi); (try clear ho0)))
    go_ret
    exact ⟨by first | rfl | (simp [errW_none, errW_some] <;> rfl) | (simp [*, errW_none, errW_some] <;> rfl), by repeat (first | (with_reducible first | exact HB.out | apply below_alloc | apply pw_below_drewN | apply below_drew1) | exact HB.out)⟩
def chasemake_Stream_Changed.j0 : Nat → ByteArray → ByteArray → Bool → List Int → Int → Option (ByteArray × Int)
  | 0, _, _, _, _, _ => none
  | k + 1, x1, x2, x14, x1000, x1001 => if x14 = true then (some (x2, x1001)) else ((chasemake_Stream_Next.f x1000 x1001 (x1.size : Int)).bind fun bt184 => ((chasemake_Stream_Next.f x1000 bt184.2 (x2.size : Int)).bind fun bt186 => (if 0 ≤ bt186.1 then (if bt186.1 < (x2.size : Int) then ((chasemake_Stream_Next.f x1000 bt186.2 3).bind fun bt188 => (if bt188.1 = 0 then (if 0 ≤ bt184.1 then (if bt184.1 ≤ (x1.size : Int) then (if (x1.extract 0 (bt184.1 : Int).toNat).size + (Utf8.encode (wrap32 (bt x2 bt186.1))).size ≤ 9223372036854775807 then (if 0 ≤ (wrap64 (bt184.1 + 1)) then (if (wrap64 (bt184.1 + 1)) ≤ (x1.size : Int) then (if ((x1.extract 0 (bt184.1 : Int).toNat) ++ (Utf8.encode (wrap32 (bt x2 bt186.1)))).size + (x1.extract ((wrap64 (bt184.1 + 1)) : Int).toNat x1.size).size ≤ 9223372036854775807 then (some (((x1.extract 0 (bt184.1 : Int).toNat) ++ (Utf8.encode (wrap32 (bt x2 bt186.1)))) ++ (x1.extract ((wrap64 (bt184.1 + 1)) : Int).toNat x1.size), bt188.2)) else (none)) else (none)) else (none)) else (none)) else (none)) else (none)) else (if bt188.1 = 1 then (if 0 ≤ bt184.1 then (if bt184.1 ≤ (x1.size : Int) then (if (x1.extract 0 (bt184.1 : Int).toNat).size + (Utf8.encode (wrap32 (bt x2 bt186.1))).size ≤ 9223372036854775807 then (if ((x1.extract 0 (bt184.1 : Int).toNat) ++ (Utf8.encode (wrap32 (bt x2 bt186.1)))).size + (x1.extract (bt184.1 : Int).toNat x1.size).size ≤ 9223372036854775807 then (some (((x1.extract 0 (bt184.1 : Int).toNat) ++ (Utf8.encode (wrap32 (bt x2 bt186.1)))) ++ (x1.extract (bt184.1 : Int).toNat x1.size), bt188.2)) else (none)) else (none)) else (none)) else (none)) else (if 0 ≤ bt184.1 then (if bt184.1 ≤ (x1.size : Int) then (if 0 ≤ (wrap64 (bt184.1 + 1)) then (if (wrap64 (bt184.1 + 1)) ≤ (x1.size : Int) then (if (x1.extract 0 (bt184.1 : Int).toNat).size + (x1.extract ((wrap64 (bt184.1 + 1)) : Int).toNat x1.size).size ≤ 9223372036854775807 then (some ((x1.extract 0 (bt184.1 : Int).toNat) ++ (x1.extract ((wrap64 (bt184.1 + 1)) : Int).toNat x1.size), bt188.2)) else (none)) else (none)) else (none)) else (none)) else (none))))) else (none)) else (none))))
def chasemake_Stream_Changed.f (k : Nat) (s0_0 : List Int) (s0_1 : Int) (a1 : ByteArray) (a2 : ByteArray) : Option (ByteArray × Int) := if a1.toList = ([] : List UInt8) then (chasemake_Stream_Changed.j0 k a1 a2 true s0_0 s0_1) else (chasemake_Stream_Changed.j0 k a1 a2 (a2.toList == ([] : List UInt8)) s0_0 s0_1)
theorem chasemake_Stream_Changed.mono_l : ∀ k, (∀ y0 y1 y2 y3 y4, LeO (chasemake_Stream_Changed.j0 k y0 y1 y2 y3 y4) (chasemake_Stream_Changed.j0 (k + 1) y0 y1 y2 y3 y4))
  | 0 => fun _ _ _ _ _ r h => by simp [chasemake_Stream_Changed.j0] at h
  | k + 1 => by
    have ih0 := chasemake_Stream_Changed.mono_l k
    · intro y0 y1 y2 y3 y4
      unfold chasemake_Stream_Changed.j0
      repeat' first
      | (with_reducible exact ih0 _ _ _ _ _)
      | (with_reducible exact LeO.refl _)
      | (with_reducible exact LeO.none _)
      | (with_reducible refine LeO.ite ?_ ?_)
      | (with_reducible refine LeO.bind ?_ (fun _ => ?_))
      | exact ih0 _ _ _ _ _
      | exact LeO.none _
      | refine LeO.ite ?_ ?_
      | refine LeO.bind ?_ (fun _ => ?_)
theorem chasemake_Stream_Changed.mono : ∀ a0 a1 a2 a3 k, LeO (chasemake_Stream_Changed.f k a0 a1 a2 a3) (chasemake_Stream_Changed.f (k + 1) a0 a1 a2 a3) := by
  intro a0 a1 a2 a3 k
  have ih0 := chasemake_Stream_Changed.mono_l k
  unfold chasemake_Stream_Changed.f
  repeat' first
      | (with_reducible exact ih0 _ _ _ _ _)
      | (with_reducible exact LeO.refl _)
      | (with_reducible exact LeO.none _)
      | (with_reducible refine LeO.ite ?_ ?_)
      | (with_reducible refine LeO.bind ?_ (fun _ => ?_))
      | exact ih0 _ _ _ _ _
      | exact LeO.none _
      | refine LeO.ite ?_ ?_
      | refine LeO.bind ?_ (fun _ => ?_)
set_option maxHeartbeats 8000000 in
set_option maxRecDepth 100000 in
theorem chasemake_Stream_Changed.calls (k : Nat) (g : Nat) (s0_0 : List Int) (s0_1 : Int) (a1 : ByteArray) (a2 : ByteArray) (r1 : ByteArray) (r2 : Int) (w0 w : World) (hI : IsS25 w0 w g s0_0 s0_1) (hB : Below w0.heap.size w0 w) (h : chasemake_Stream_Changed.f k s0_0 s0_1 a1 a2 = some (r1, r2)) :
    Calls Try.prog 16 #[.pointer (some ⟨g, 0, none⟩), .string a1, .string a2] w fun e w' => e = .returned (.string r1) ∧ IsS25 w0 w' g s0_0 r2 ∧ Below w0.heap.size w0 w' ∧ KeepBut w w' g none := by
  have HI0 := Aside0.mk hI
  have HK := Aside0.mk (KeepBut.refl w g none)
  have HL := Aside0.mk hB.size
  clear hI
  have HW0 := Aside0.mk hB.size
  have HB := Aside0.mk hB
  clear hB
  have H : (if a1.toList = ([] : List UInt8) then (chasemake_Stream_Changed.j0 k a1 a2 true s0_0 s0_1) else (chasemake_Stream_Changed.j0 k a1 a2 (a2.toList == ([] : List UInt8)) s0_0 s0_1)) = some (r1, r2) := h
  clear h
  have HC4 := Aside0.mk H
  clear H
  go_enter Try.func16, Try.ntmps16
  go_upto_region 1 with (fail)
  repeat (go_quiet (fail); go_upto_region 1 with (fail))
  go_cut [14] (fun v14 wc => ∃ (kq : Nat) (x14_3 : Bool), v14 = .bool x14_3 ∧ Aside0 (chasemake_Stream_Changed.j0 kq a1 a2 x14_3 s0_0 s0_1 = some (r1, r2)) ∧ Aside0 (kq ≤ k) ∧ Aside0 (IsS25 w0 wc g s0_0 s0_1) ∧ Aside0 (KeepBut w wc g none) ∧ Aside0 (Below w0.heap.size w0 wc))
  case first =>
    have H := HC4.out
    clear HC4
    by_cases c5 : a1.toList = ([] : List UInt8)
    · rw [if_pos c5] at H
      have c5b0 : (a1.toList == ([] : List UInt8)) = true := beq_iff_eq.mpr c5
      have c5b1 : (a1.toList != ([] : List UInt8)) = false := bne_eq_false_iff_eq.mpr c5
      clear c5
      (first | rw [c5b0] | (simp only [i64_w, i32_w]; rw [c5b0]) | skip)
      have H' := Aside0.mk H
      clear H
      go_wp2
      repeat (go_quiet (fail); try go_wp2)
      go_meet
      case rel => exact ⟨_, (true), (by first | rfl | (simp; done) | (simp [*]; done)), H', ⟨by first | omega | exact Nat.le_refl _⟩, ⟨by repeat (first | (with_reducible first | exact HI0.out | apply IsS25.alloc | apply IsS25.drewN | apply IsS25.drew | apply IsS25.set_1) | exact HI0.out)⟩, ⟨by repeat (first | (with_reducible first | exact HK.out | apply KeepBut.set_ | apply keep_drewN | apply keep_drew | apply keep_alloc) | exact HK.out)⟩, ⟨by repeat (first | (with_reducible first | exact HB.out | apply below_alloc | apply pw_below_drewN | apply below_drew1 | refine below_set ?_ (IsS25.ge HI0.out)) | exact HB.out)⟩⟩
    · rw [if_neg c5] at H
      have c5b0 : (a1.toList == ([] : List UInt8)) = false := beq_eq_false_iff_ne.mpr c5
      have c5b1 : (a1.toList != ([] : List UInt8)) = true := bne_iff_ne.mpr c5
      (first | rw [c5b0] | (simp only [i64_w, i32_w]; rw [c5b0]) | skip)
      have H' := Aside0.mk H
      clear H
      go_wp2
      repeat (go_quiet (fail); try go_wp2)
      go_meet
      case rel => exact ⟨_, ((a2.toList == ([] : List UInt8))), (by first | rfl | (simp; done) | (simp [*]; done)), H', ⟨by first | omega | exact Nat.le_refl _⟩, ⟨by repeat (first | (with_reducible first | exact HI0.out | apply IsS25.alloc | apply IsS25.drewN | apply IsS25.drew | apply IsS25.set_1) | exact HI0.out)⟩, ⟨by repeat (first | (with_reducible first | exact HK.out | apply KeepBut.set_ | apply keep_drewN | apply keep_drew | apply keep_alloc) | exact HK.out)⟩, ⟨by repeat (first | (with_reducible first | exact HB.out | apply below_alloc | apply pw_below_drewN | apply below_drew1 | refine below_set ?_ (IsS25.ge HI0.out)) | exact HB.out)⟩⟩
  case rest =>
    clear HC4
    try clear c1
    try clear p2
    try clear c5
    try clear c5b0
    try clear c5b1
    obtain ⟨kq, x14_3, rfl, HA, HJ3, HI0, HK, HB⟩ := hcut
    cases kq with
    | zero => exact absurd HA.out (by simp [chasemake_Stream_Changed.j0])
    | succ kj3 =>
      have H := HA.out
      clear HA
      simp only [chasemake_Stream_Changed.j0] at H
      by_cases c6 : x14_3 = true
      · subst c6
        have H1 : (some (a2, s0_1)) = some (r1, r2) := by rw [if_pos rfl] at H; exact H
        clear H
        have H := H1
        clear H1
        simp only [Option.some.injEq, Prod.mk.injEq] at H
        obtain ⟨rfl, rfl⟩ := H
        go_wp2
        repeat (go_quiet (fail); try go_wp2)
        go_ret
        exact ⟨by first | rfl | (simp [errW_none, errW_some] <;> rfl) | (simp [*, errW_none, errW_some] <;> rfl), by repeat (first | (with_reducible first | exact HI0.out | apply IsS25.alloc | apply IsS25.drewN | apply IsS25.drew | apply IsS25.set_1) | exact HI0.out), by repeat (first | (with_reducible first | exact HB.out | apply below_alloc | apply pw_below_drewN | apply below_drew1 | refine below_set ?_ (IsS25.ge HI0.out)) | exact HB.out), by repeat (first | (with_reducible first | exact HK.out | apply KeepBut.set_ | apply keep_drewN | apply keep_drew | apply keep_alloc) | exact HK.out)⟩
      · replace c6 := Bool.eq_false_iff.mpr c6
        subst c6
        have H1 : ((chasemake_Stream_Next.f s0_0 s0_1 (a1.size : Int)).bind fun bt184 => ((chasemake_Stream_Next.f s0_0 bt184.2 (a2.size : Int)).bind fun bt186 => (if 0 ≤ bt186.1 then (if bt186.1 < (a2.size : Int) then ((chasemake_Stream_Next.f s0_0 bt186.2 3).bind fun bt188 => (if bt188.1 = 0 then (if 0 ≤ bt184.1 then (if bt184.1 ≤ (a1.size : Int) then (if (a1.extract 0 (bt184.1 : Int).toNat).size + (Utf8.encode (wrap32 (bt a2 bt186.1))).size ≤ 9223372036854775807 then (if 0 ≤ (wrap64 (bt184.1 + 1)) then (if (wrap64 (bt184.1 + 1)) ≤ (a1.size : Int) then (if ((a1.extract 0 (bt184.1 : Int).toNat) ++ (Utf8.encode (wrap32 (bt a2 bt186.1)))).size + (a1.extract ((wrap64 (bt184.1 + 1)) : Int).toNat a1.size).size ≤ 9223372036854775807 then (some (((a1.extract 0 (bt184.1 : Int).toNat) ++ (Utf8.encode (wrap32 (bt a2 bt186.1)))) ++ (a1.extract ((wrap64 (bt184.1 + 1)) : Int).toNat a1.size), bt188.2)) else (none)) else (none)) else (none)) else (none)) else (none)) else (none)) else (if bt188.1 = 1 then (if 0 ≤ bt184.1 then (if bt184.1 ≤ (a1.size : Int) then (if (a1.extract 0 (bt184.1 : Int).toNat).size + (Utf8.encode (wrap32 (bt a2 bt186.1))).size ≤ 9223372036854775807 then (if ((a1.extract 0 (bt184.1 : Int).toNat) ++ (Utf8.encode (wrap32 (bt a2 bt186.1)))).size + (a1.extract (bt184.1 : Int).toNat a1.size).size ≤ 9223372036854775807 then (some (((a1.extract 0 (bt184.1 : Int).toNat) ++ (Utf8.encode (wrap32 (bt a2 bt186.1)))) ++ (a1.extract (bt184.1 : Int).toNat a1.size), bt188.2)) else (none)) else (none)) else (none)) else (none)) else (if 0 ≤ bt184.1 then (if bt184.1 ≤ (a1.size : Int) then (if 0 ≤ (wrap64 (bt184.1 + 1)) then (if (wrap64 (bt184.1 + 1)) ≤ (a1.size : Int) then (if (a1.extract 0 (bt184.1 : Int).toNat).size + (a1.extract ((wrap64 (bt184.1 + 1)) : Int).toNat a1.size).size ≤ 9223372036854775807 then (some ((a1.extract 0 (bt184.1 : Int).toNat) ++ (a1.extract ((wrap64 (bt184.1 + 1)) : Int).toNat a1.size), bt188.2)) else (none)) else (none)) else (none)) else (none)) else (none))))) else (none)) else (none)))) = some (r1, r2) := by rw [if_neg (show ¬ (false = true) by decide)] at H; exact H
        clear H
        have H := H1
        clear H1
        replace H := Option.bind_eq_some_iff.mp H
        obtain ⟨⟨t184, t185⟩, A70, H⟩ := H
        replace H : ((chasemake_Stream_Next.f s0_0 t185 (a2.size : Int)).bind fun bt186 => (if 0 ≤ bt186.1 then (if bt186.1 < (a2.size : Int) then ((chasemake_Stream_Next.f s0_0 bt186.2 3).bind fun bt188 => (if bt188.1 = 0 then (if 0 ≤ t184 then (if t184 ≤ (a1.size : Int) then (if (a1.extract 0 (t184 : Int).toNat).size + (Utf8.encode (wrap32 (bt a2 bt186.1))).size ≤ 9223372036854775807 then (if 0 ≤ (wrap64 (t184 + 1)) then (if (wrap64 (t184 + 1)) ≤ (a1.size : Int) then (if ((a1.extract 0 (t184 : Int).toNat) ++ (Utf8.encode (wrap32 (bt a2 bt186.1)))).size + (a1.extract ((wrap64 (t184 + 1)) : Int).toNat a1.size).size ≤ 9223372036854775807 then (some (((a1.extract 0 (t184 : Int).toNat) ++ (Utf8.encode (wrap32 (bt a2 bt186.1)))) ++ (a1.extract ((wrap64 (t184 + 1)) : Int).toNat a1.size), bt188.2)) else (none)) else (none)) else (none)) else (none)) else (none)) else (none)) else (if bt188.1 = 1 then (if 0 ≤ t184 then (if t184 ≤ (a1.size : Int) then (if (a1.extract 0 (t184 : Int).toNat).size + (Utf8.encode (wrap32 (bt a2 bt186.1))).size ≤ 9223372036854775807 then (if ((a1.extract 0 (t184 : Int).toNat) ++ (Utf8.encode (wrap32 (bt a2 bt186.1)))).size + (a1.extract (t184 : Int).toNat a1.size).size ≤ 9223372036854775807 then (some (((a1.extract 0 (t184 : Int).toNat) ++ (Utf8.encode (wrap32 (bt a2 bt186.1)))) ++ (a1.extract (t184 : Int).toNat a1.size), bt188.2)) else (none)) else (none)) else (none)) else (none)) else (if 0 ≤ t184 then (if t184 ≤ (a1.size : Int) then (if 0 ≤ (wrap64 (t184 + 1)) then (if (wrap64 (t184 + 1)) ≤ (a1.size : Int) then (if (a1.extract 0 (t184 : Int).toNat).size + (a1.extract ((wrap64 (t184 + 1)) : Int).toNat a1.size).size ≤ 9223372036854775807 then (some ((a1.extract 0 (t184 : Int).toNat) ++ (a1.extract ((wrap64 (t184 + 1)) : Int).toNat a1.size), bt188.2)) else (none)) else (none)) else (none)) else (none)) else (none))))) else (none)) else (none))) = some (r1, r2) := H
        have A7 := Aside0.mk A70
        clear A70
        replace H := Option.bind_eq_some_iff.mp H
        obtain ⟨⟨t186, t187⟩, A80, H⟩ := H
        replace H : (if 0 ≤ t186 then (if t186 < (a2.size : Int) then ((chasemake_Stream_Next.f s0_0 t187 3).bind fun bt188 => (if bt188.1 = 0 then (if 0 ≤ t184 then (if t184 ≤ (a1.size : Int) then (if (a1.extract 0 (t184 : Int).toNat).size + (Utf8.encode (wrap32 (bt a2 t186))).size ≤ 9223372036854775807 then (if 0 ≤ (wrap64 (t184 + 1)) then (if (wrap64 (t184 + 1)) ≤ (a1.size : Int) then (if ((a1.extract 0 (t184 : Int).toNat) ++ (Utf8.encode (wrap32 (bt a2 t186)))).size + (a1.extract ((wrap64 (t184 + 1)) : Int).toNat a1.size).size ≤ 9223372036854775807 then (some (((a1.extract 0 (t184 : Int).toNat) ++ (Utf8.encode (wrap32 (bt a2 t186)))) ++ (a1.extract ((wrap64 (t184 + 1)) : Int).toNat a1.size), bt188.2)) else (none)) else (none)) else (none)) else (none)) else (none)) else (none)) else (if bt188.1 = 1 then (if 0 ≤ t184 then (if t184 ≤ (a1.size : Int) then (if (a1.extract 0 (t184 : Int).toNat).size + (Utf8.encode (wrap32 (bt a2 t186))).size ≤ 9223372036854775807 then (if ((a1.extract 0 (t184 : Int).toNat) ++ (Utf8.encode (wrap32 (bt a2 t186)))).size + (a1.extract (t184 : Int).toNat a1.size).size ≤ 9223372036854775807 then (some (((a1.extract 0 (t184 : Int).toNat) ++ (Utf8.encode (wrap32 (bt a2 t186)))) ++ (a1.extract (t184 : Int).toNat a1.size), bt188.2)) else (none)) else (none)) else (none)) else (none)) else (if 0 ≤ t184 then (if t184 ≤ (a1.size : Int) then (if 0 ≤ (wrap64 (t184 + 1)) then (if (wrap64 (t184 + 1)) ≤ (a1.size : Int) then (if (a1.extract 0 (t184 : Int).toNat).size + (a1.extract ((wrap64 (t184 + 1)) : Int).toNat a1.size).size ≤ 9223372036854775807 then (some ((a1.extract 0 (t184 : Int).toNat) ++ (a1.extract ((wrap64 (t184 + 1)) : Int).toNat a1.size), bt188.2)) else (none)) else (none)) else (none)) else (none)) else (none))))) else (none)) else (none)) = some (r1, r2) := H
        have A8 := Aside0.mk A80
        clear A80
        by_cases c9 : 0 ≤ t186
        · rw [if_pos c9] at H
          have c9b0 : decide (0 ≤ t186) = true := decide_eq_true c9
          clear c9
          by_cases c10 : t186 < (a2.size : Int)
          · rw [if_pos c10] at H
            have c10b0 : decide (t186 < (a2.size : Int)) = true := decide_eq_true c10
            clear c10
            replace H := Option.bind_eq_some_iff.mp H
            obtain ⟨⟨t188, t189⟩, A120, H⟩ := H
            replace H : (if t188 = 0 then (if 0 ≤ t184 then (if t184 ≤ (a1.size : Int) then (if (a1.extract 0 (t184 : Int).toNat).size + (Utf8.encode (wrap32 (bt a2 t186))).size ≤ 9223372036854775807 then (if 0 ≤ (wrap64 (t184 + 1)) then (if (wrap64 (t184 + 1)) ≤ (a1.size : Int) then (if ((a1.extract 0 (t184 : Int).toNat) ++ (Utf8.encode (wrap32 (bt a2 t186)))).size + (a1.extract ((wrap64 (t184 + 1)) : Int).toNat a1.size).size ≤ 9223372036854775807 then (some (((a1.extract 0 (t184 : Int).toNat) ++ (Utf8.encode (wrap32 (bt a2 t186)))) ++ (a1.extract ((wrap64 (t184 + 1)) : Int).toNat a1.size), t189)) else (none)) else (none)) else (none)) else (none)) else (none)) else (none)) else (if t188 = 1 then (if 0 ≤ t184 then (if t184 ≤ (a1.size : Int) then (if (a1.extract 0 (t184 : Int).toNat).size + (Utf8.encode (wrap32 (bt a2 t186))).size ≤ 9223372036854775807 then (if ((a1.extract 0 (t184 : Int).toNat) ++ (Utf8.encode (wrap32 (bt a2 t186)))).size + (a1.extract (t184 : Int).toNat a1.size).size ≤ 9223372036854775807 then (some (((a1.extract 0 (t184 : Int).toNat) ++ (Utf8.encode (wrap32 (bt a2 t186)))) ++ (a1.extract (t184 : Int).toNat a1.size), t189)) else (none)) else (none)) else (none)) else (none)) else (if 0 ≤ t184 then (if t184 ≤ (a1.size : Int) then (if 0 ≤ (wrap64 (t184 + 1)) then (if (wrap64 (t184 + 1)) ≤ (a1.size : Int) then (if (a1.extract 0 (t184 : Int).toNat).size + (a1.extract ((wrap64 (t184 + 1)) : Int).toNat a1.size).size ≤ 9223372036854775807 then (some ((a1.extract 0 (t184 : Int).toNat) ++ (a1.extract ((wrap64 (t184 + 1)) : Int).toNat a1.size), t189)) else (none)) else (none)) else (none)) else (none)) else (none)))) = some (r1, r2) := H
            have A12 := Aside0.mk A120
            clear A120
            by_cases c13 : t188 = 0
            · rw [if_pos c13] at H
              have c13b0 : (t188 == 0) = true := beq_iff_eq.mpr c13
              have c13b1 : (t188 != 0) = false := bne_eq_false_iff_eq.mpr c13
              clear c13
              by_cases c14 : 0 ≤ t184
              · rw [if_pos c14] at H
                have c14b0 := eq_true c14
                have c14b1 : decide (0 ≤ t184) = true := decide_eq_true c14
                clear c14
                by_cases c15 : t184 ≤ (a1.size : Int)
                · rw [if_pos c15] at H
                  have c15b0 := eq_true c15
                  have c15b1 : decide (t184 ≤ (a1.size : Int)) = true := decide_eq_true c15
                  clear c15
                  by_cases c16 : (a1.extract 0 (t184 : Int).toNat).size + (Utf8.encode (wrap32 (bt a2 t186))).size ≤ 9223372036854775807
                  · rw [if_pos c16] at H
                    have c16b0 := eq_true c16
                    have c16b1 : decide ((a1.extract 0 (t184 : Int).toNat).size + (Utf8.encode (wrap32 (bt a2 t186))).size ≤ 9223372036854775807) = true := decide_eq_true c16
                    try have c16b2 : (9223372036854775807 < (a1.extract 0 (t184 : Int).toNat).size + (Utf8.encode (wrap32 (bt a2 t186))).size) = False := eq_false (Nat.not_lt.2 c16)
                    obtain ⟨ji17, hji17⟩ : ∃ j_ : Int, (wrap64 (t184 + 1)) = j_ := ⟨_, rfl⟩
                    replace H : (if 0 ≤ (ji17) then (if (ji17) ≤ (a1.size : Int) then (if ((a1.extract 0 (t184 : Int).toNat) ++ (Utf8.encode (wrap32 (bt a2 t186)))).size + (a1.extract ((ji17) : Int).toNat a1.size).size ≤ 9223372036854775807 then (some (((a1.extract 0 (t184 : Int).toNat) ++ (Utf8.encode (wrap32 (bt a2 t186)))) ++ (a1.extract ((ji17) : Int).toNat a1.size), t189)) else (none)) else (none)) else (none)) = some (r1, r2) := by first | (rw [hji17] at H; exact H) | (simp only [hji17] at H ⊢; exact H)
                    (try rw [hji17] at A7)
                    (try rw [hji17] at A8)
                    (try rw [hji17] at A12)
                    have hji17w : (IntKind.i64.wrap (t184 + 1)) = ji17 := (i64_w _).trans hji17
                    by_cases c18 : 0 ≤ (ji17)
                    · rw [if_pos c18] at H
                      have c18b0 := eq_true c18
                      have c18b1 : decide (0 ≤ (ji17)) = true := decide_eq_true c18
                      clear c18
                      by_cases c19 : (ji17) ≤ (a1.size : Int)
                      · rw [if_pos c19] at H
                        have c19b0 := eq_true c19
                        have c19b1 : decide ((ji17) ≤ (a1.size : Int)) = true := decide_eq_true c19
                        clear c19
                        by_cases c20 : ((a1.extract 0 (t184 : Int).toNat) ++ (Utf8.encode (wrap32 (bt a2 t186)))).size + (a1.extract ((ji17) : Int).toNat a1.size).size ≤ 9223372036854775807
                        · rw [if_pos c20] at H
                          have c20b0 := eq_true c20
                          have c20b1 : decide (((a1.extract 0 (t184 : Int).toNat) ++ (Utf8.encode (wrap32 (bt a2 t186)))).size + (a1.extract ((ji17) : Int).toNat a1.size).size ≤ 9223372036854775807) = true := decide_eq_true c20
                          try have c20b2 : (9223372036854775807 < ((a1.extract 0 (t184 : Int).toNat) ++ (Utf8.encode (wrap32 (bt a2 t186)))).size + (a1.extract ((ji17) : Int).toNat a1.size).size) = False := eq_false (Nat.not_lt.2 c20)
                          simp only [Option.some.injEq, Prod.mk.injEq] at H
                          obtain ⟨rfl, rfl⟩ := H
                          go_wp2_with (first | (go_at_call 25; (with_reducible refine (chasemake_Stream_Next.calls g s0_0 s0_1 (a1.size : Int) t184 t185 w0 _ ?side1 ?side2 A7.out).mono ?_); (case side1 => repeat (first | (with_reducible first | exact HI0.out | apply IsS25.alloc | apply IsS25.drewN | apply IsS25.drew | apply IsS25.set_1) | exact HI0.out)); (case side2 => repeat (first | (with_reducible first | exact HB.out | apply below_alloc | apply pw_below_drewN | apply below_drew1 | refine below_set ?_ (IsS25.ge HI0.out)) | exact HB.out)); rintro e w21 ⟨rfl, hi, hb, hk⟩; have n0_ := Aside0.mk (KeepBut.trans (by repeat (first | (with_reducible first | exact HK.out | apply KeepBut.set_ | apply keep_drewN | apply keep_drew | apply keep_alloc) | exact HK.out)) hk (.inl rfl)); have n1_ := Aside0.mk (hb); have n2_ := Aside0.mk (hi); clear HK; clear HB; clear HI0; have HK := n0_; have HB := n1_; have HI0 := n2_; clear n0_ n1_ n2_; (try clear hb); (try clear hb2); (try clear hk); (try clear hi)) | (go_at_call 25; (with_reducible refine (chasemake_Stream_Next.calls g s0_0 t185 (a2.size : Int) t186 t187 w0 _ ?side1 ?side2 A8.out).mono ?_); (case side1 => repeat (first | (with_reducible first | exact HI0.out | apply IsS25.alloc | apply IsS25.drewN | apply IsS25.drew | apply IsS25.set_1) | exact HI0.out)); (case side2 => repeat (first | (with_reducible first | exact HB.out | apply below_alloc | apply pw_below_drewN | apply below_drew1 | refine below_set ?_ (IsS25.ge HI0.out)) | exact HB.out)); rintro e w22 ⟨rfl, hi, hb, hk⟩; have n0_ := Aside0.mk (KeepBut.trans (by repeat (first | (with_reducible first | exact HK.out | apply KeepBut.set_ | apply keep_drewN | apply keep_drew | apply keep_alloc) | exact HK.out)) hk (.inl rfl)); have n1_ := Aside0.mk (hb); have n2_ := Aside0.mk (hi); clear HK; clear HB; clear HI0; have HK := n0_; have HB := n1_; have HI0 := n2_; clear n0_ n1_ n2_; (try clear hb); (try clear hb2); (try clear hk); (try clear hi); have p11 : 0 ≤ (t186 : Int) := of_decide_eq_true (by first | (with_reducible assumption) | assumption); have q11 : t186 < (a2.size : Int) := of_decide_eq_true (by first | (with_reducible assumption) | assumption); have hx11 := bt_at a2 t186; replace p11 := eq_true p11; replace q11 := eq_true q11) | (go_at_call 25; (with_reducible refine (chasemake_Stream_Next.calls g s0_0 t187 3 t188 t189 w0 _ ?side1 ?side2 A12.out).mono ?_); (case side1 => repeat (first | (with_reducible first | exact HI0.out | apply IsS25.alloc | apply IsS25.drewN | apply IsS25.drew | apply IsS25.set_1) | exact HI0.out)); (case side2 => repeat (first | (with_reducible first | exact HB.out | apply below_alloc | apply pw_below_drewN | apply below_drew1 | refine below_set ?_ (IsS25.ge HI0.out)) | exact HB.out)); rintro e w23 ⟨rfl, hi, hb, hk⟩; have n0_ := Aside0.mk (KeepBut.trans (by repeat (first | (with_reducible first | exact HK.out | apply KeepBut.set_ | apply keep_drewN | apply keep_drew | apply keep_alloc) | exact HK.out)) hk (.inl rfl)); have n1_ := Aside0.mk (hb); have n2_ := Aside0.mk (hi); clear HK; clear HB; clear HI0; have HK := n0_; have HB := n1_; have HI0 := n2_; clear n0_ n1_ n2_; (try clear hb); (try clear hb2); (try clear hk); (try clear hi)))
                          repeat (go_quiet (first | (go_at_call 25; (with_reducible refine (chasemake_Stream_Next.calls g s0_0 s0_1 (a1.size : Int) t184 t185 w0 _ ?side1 ?side2 A7.out).mono ?_); (case side1 => repeat (first | (with_reducible first | exact HI0.out | apply IsS25.alloc | apply IsS25.drewN | apply IsS25.drew | apply IsS25.set_1) | exact HI0.out)); (case side2 => repeat (first | (with_reducible first | exact HB.out | apply below_alloc | apply pw_below_drewN | apply below_drew1 | refine below_set ?_ (IsS25.ge HI0.out)) | exact HB.out)); rintro e w21 ⟨rfl, hi, hb, hk⟩; have n0_ := Aside0.mk (KeepBut.trans (by repeat (first | (with_reducible first | exact HK.out | apply KeepBut.set_ | apply keep_drewN | apply keep_drew | apply keep_alloc) | exact HK.out)) hk (.inl rfl)); have n1_ := Aside0.mk (hb); have n2_ := Aside0.mk (hi); clear HK; clear HB; clear HI0; have HK := n0_; have HB := n1_; have HI0 := n2_; clear n0_ n1_ n2_; (try clear hb); (try clear hb2); (try clear hk); (try clear hi)) | (go_at_call 25; (with_reducible refine (chasemake_Stream_Next.calls g s0_0 t185 (a2.size : Int) t186 t187 w0 _ ?side1 ?side2 A8.out).mono ?_); (case side1 => repeat (first | (with_reducible first | exact HI0.out | apply IsS25.alloc | apply IsS25.drewN | apply IsS25.drew | apply IsS25.set_1) | exact HI0.out)); (case side2 => repeat (first | (with_reducible first | exact HB.out | apply below_alloc | apply pw_below_drewN | apply below_drew1 | refine below_set ?_ (IsS25.ge HI0.out)) | exact HB.out)); rintro e w22 ⟨rfl, hi, hb, hk⟩; have n0_ := Aside0.mk (KeepBut.trans (by repeat (first | (with_reducible first | exact HK.out | apply KeepBut.set_ | apply keep_drewN | apply keep_drew | apply keep_alloc) | exact HK.out)) hk (.inl rfl)); have n1_ := Aside0.mk (hb); have n2_ := Aside0.mk (hi); clear HK; clear HB; clear HI0; have HK := n0_; have HB := n1_; have HI0 := n2_; clear n0_ n1_ n2_; (try clear hb); (try clear hb2); (try clear hk); (try clear hi); have p11 : 0 ≤ (t186 : Int) := of_decide_eq_true (by first | (with_reducible assumption) | assumption); have q11 : t186 < (a2.size : Int) := of_decide_eq_true (by first | (with_reducible assumption) | assumption); have hx11 := bt_at a2 t186; replace p11 := eq_true p11; replace q11 := eq_true q11) | (go_at_call 25; (with_reducible refine (chasemake_Stream_Next.calls g s0_0 t187 3 t188 t189 w0 _ ?side1 ?side2 A12.out).mono ?_); (case side1 => repeat (first | (with_reducible first | exact HI0.out | apply IsS25.alloc | apply IsS25.drewN | apply IsS25.drew | apply IsS25.set_1) | exact HI0.out)); (case side2 => repeat (first | (with_reducible first | exact HB.out | apply below_alloc | apply pw_below_drewN | apply below_drew1 | refine below_set ?_ (IsS25.ge HI0.out)) | exact HB.out)); rintro e w23 ⟨rfl, hi, hb, hk⟩; have n0_ := Aside0.mk (KeepBut.trans (by repeat (first | (with_reducible first | exact HK.out | apply KeepBut.set_ | apply keep_drewN | apply keep_drew | apply keep_alloc) | exact HK.out)) hk (.inl rfl)); have n1_ := Aside0.mk (hb); have n2_ := Aside0.mk (hi); clear HK; clear HB; clear HI0; have HK := n0_; have HB := n1_; have HI0 := n2_; clear n0_ n1_ n2_; (try clear hb); (try clear hb2); (try clear hk); (try clear hi))); try go_wp2_with (first | (go_at_call 25; (with_reducible refine (chasemake_Stream_Next.calls g s0_0 s0_1 (a1.size : Int) t184 t185 w0 _ ?side1 ?side2 A7.out).mono ?_); (case side1 => repeat (first | (with_reducible first | exact HI0.out | apply IsS25.alloc | apply IsS25.drewN | apply IsS25.drew | apply IsS25.set_1) | exact HI0.out)); (case side2 => repeat (first | (with_reducible first | exact HB.out | apply below_alloc | apply pw_below_drewN | apply below_drew1 | refine below_set ?_ (IsS25.ge HI0.out)) | exact HB.out)); rintro e w21 ⟨rfl, hi, hb, hk⟩; have n0_ := Aside0.mk (KeepBut.trans (by repeat (first | (with_reducible first | exact HK.out | apply KeepBut.set_ | apply keep_drewN | apply keep_drew | apply keep_alloc) | exact HK.out)) hk (.inl rfl)); have n1_ := Aside0.mk (hb); have n2_ := Aside0.mk (hi); clear HK; clear HB; clear HI0; have HK := n0_; have HB := n1_; have HI0 := n2_; clear n0_ n1_ n2_; (try clear hb); (try clear hb2); (try clear hk); (try clear hi)) | (go_at_call 25; (with_reducible refine (chasemake_Stream_Next.calls g s0_0 t185 (a2.size : Int) t186 t187 w0 _ ?side1 ?side2 A8.out).mono ?_); (case side1 => repeat (first | (with_reducible first | exact HI0.out | apply IsS25.alloc | apply IsS25.drewN | apply IsS25.drew | apply IsS25.set_1) | exact HI0.out)); (case side2 => repeat (first | (with_reducible first | exact HB.out | apply below_alloc | apply pw_below_drewN | apply below_drew1 | refine below_set ?_ (IsS25.ge HI0.out)) | exact HB.out)); rintro e w22 ⟨rfl, hi, hb, hk⟩; have n0_ := Aside0.mk (KeepBut.trans (by repeat (first | (with_reducible first | exact HK.out | apply KeepBut.set_ | apply keep_drewN | apply keep_drew | apply keep_alloc) | exact HK.out)) hk (.inl rfl)); have n1_ := Aside0.mk (hb); have n2_ := Aside0.mk (hi); clear HK; clear HB; clear HI0; have HK := n0_; have HB := n1_; have HI0 := n2_; clear n0_ n1_ n2_; (try clear hb); (try clear hb2); (try clear hk); (try clear hi); have p11 : 0 ≤ (t186 : Int) := of_decide_eq_true (by first | (with_reducible assumption) | assumption); have q11 : t186 < (a2.size : Int) := of_decide_eq_true (by first | (with_reducible assumption) | assumption); have hx11 := bt_at a2 t186; replace p11 := eq_true p11; replace q11 := eq_true q11) | (go_at_call 25; (with_reducible refine (chasemake_Stream_Next.calls g s0_0 t187 3 t188 t189 w0 _ ?side1 ?side2 A12.out).mono ?_); (case side1 => repeat (first | (with_reducible first | exact HI0.out | apply IsS25.alloc | apply IsS25.drewN | apply IsS25.drew | apply IsS25.set_1) | exact HI0.out)); (case side2 => repeat (first | (with_reducible first | exact HB.out | apply below_alloc | apply pw_below_drewN | apply below_drew1 | refine below_set ?_ (IsS25.ge HI0.out)) | exact HB.out)); rintro e w23 ⟨rfl, hi, hb, hk⟩; have n0_ := Aside0.mk (KeepBut.trans (by repeat (first | (with_reducible first | exact HK.out | apply KeepBut.set_ | apply keep_drewN | apply keep_drew | apply keep_alloc) | exact HK.out)) hk (.inl rfl)); have n1_ := Aside0.mk (hb); have n2_ := Aside0.mk (hi); clear HK; clear HB; clear HI0; have HK := n0_; have HB := n1_; have HI0 := n2_; clear n0_ n1_ n2_; (try clear hb); (try clear hb2); (try clear hk); (try clear hi))))
                          go_ret
                          exact ⟨by first | rfl | (simp [errW_none, errW_some] <;> rfl) | (simp only [← hji17]; first | rfl | (simp [errW_none, errW_some] <;> rfl)) | (simp [*, errW_none, errW_some] <;> rfl), by repeat (first | (with_reducible first | exact HI0.out | apply IsS25.alloc | apply IsS25.drewN | apply IsS25.drew | apply IsS25.set_1) | exact HI0.out), by repeat (first | (with_reducible first | exact HB.out | apply below_alloc | apply pw_below_drewN | apply below_drew1 | refine below_set ?_ (IsS25.ge HI0.out)) | exact HB.out), by repeat (first | (with_reducible first | exact HK.out | apply KeepBut.set_ | apply keep_drewN | apply keep_drew | apply keep_alloc) | exact HK.out)⟩
                        · rw [if_neg c20] at H
                          exact absurd H (by simp)
                      · rw [if_neg c19] at H
                        exact absurd H (by simp)
                    · rw [if_neg c18] at H
                      exact absurd H (by simp)
                  · rw [if_neg c16] at H
                    exact absurd H (by simp)
                · rw [if_neg c15] at H
                  exact absurd H (by simp)
              · rw [if_neg c14] at H
                exact absurd H (by simp)
            · rw [if_neg c13] at H
              have c13b0 : (t188 == 0) = false := beq_eq_false_iff_ne.mpr c13
              have c13b1 : (t188 != 0) = true := bne_iff_ne.mpr c13
              by_cases c24 : t188 = 1
              · rw [if_pos c24] at H
                have c24b0 : (t188 == 1) = true := beq_iff_eq.mpr c24
                have c24b1 : (t188 != 1) = false := bne_eq_false_iff_eq.mpr c24
                clear c24
                by_cases c25 : 0 ≤ t184
                · rw [if_pos c25] at H
                  have c25b0 := eq_true c25
                  have c25b1 : decide (0 ≤ t184) = true := decide_eq_true c25
                  clear c25
                  by_cases c26 : t184 ≤ (a1.size : Int)
                  · rw [if_pos c26] at H
                    have c26b0 := eq_true c26
                    have c26b1 : decide (t184 ≤ (a1.size : Int)) = true := decide_eq_true c26
                    clear c26
                    by_cases c27 : (a1.extract 0 (t184 : Int).toNat).size + (Utf8.encode (wrap32 (bt a2 t186))).size ≤ 9223372036854775807
                    · rw [if_pos c27] at H
                      have c27b0 := eq_true c27
                      have c27b1 : decide ((a1.extract 0 (t184 : Int).toNat).size + (Utf8.encode (wrap32 (bt a2 t186))).size ≤ 9223372036854775807) = true := decide_eq_true c27
                      try have c27b2 : (9223372036854775807 < (a1.extract 0 (t184 : Int).toNat).size + (Utf8.encode (wrap32 (bt a2 t186))).size) = False := eq_false (Nat.not_lt.2 c27)
                      have c28b0 := eq_true (of_decide_eq_true (by first | (with_reducible assumption) | assumption) : 0 ≤ t184)
                      have c29b0 := eq_true (of_decide_eq_true (by first | (with_reducible assumption) | assumption) : t184 ≤ (a1.size : Int))
                      by_cases c30 : ((a1.extract 0 (t184 : Int).toNat) ++ (Utf8.encode (wrap32 (bt a2 t186)))).size + (a1.extract (t184 : Int).toNat a1.size).size ≤ 9223372036854775807
                      · rw [if_pos c30] at H
                        have c30b0 := eq_true c30
                        have c30b1 : decide (((a1.extract 0 (t184 : Int).toNat) ++ (Utf8.encode (wrap32 (bt a2 t186)))).size + (a1.extract (t184 : Int).toNat a1.size).size ≤ 9223372036854775807) = true := decide_eq_true c30
                        try have c30b2 : (9223372036854775807 < ((a1.extract 0 (t184 : Int).toNat) ++ (Utf8.encode (wrap32 (bt a2 t186)))).size + (a1.extract (t184 : Int).toNat a1.size).size) = False := eq_false (Nat.not_lt.2 c30)
                        simp only [Option.some.injEq, Prod.mk.injEq] at H
                        obtain ⟨rfl, rfl⟩ := H
                        go_wp2_with (first | (go_at_call 25; (with_reducible refine (chasemake_Stream_Next.calls g s0_0 s0_1 (a1.size : Int) t184 t185 w0 _ ?side1 ?side2 A7.out).mono ?_); (case side1 => repeat (first | (with_reducible first | exact HI0.out | apply IsS25.alloc | apply IsS25.drewN | apply IsS25.drew | apply IsS25.set_1) | exact HI0.out)); (case side2 => repeat (first | (with_reducible first | exact HB.out | apply below_alloc | apply pw_below_drewN | apply below_drew1 | refine below_set ?_ (IsS25.ge HI0.out)) | exact HB.out)); rintro e w31 ⟨rfl, hi, hb, hk⟩; have n0_ := Aside0.mk (KeepBut.trans (by repeat (first | (with_reducible first | exact HK.out | apply KeepBut.set_ | apply keep_drewN | apply keep_drew | apply keep_alloc) | exact HK.out)) hk (.inl rfl)); have n1_ := Aside0.mk (hb); have n2_ := Aside0.mk (hi); clear HK; clear HB; clear HI0; have HK := n0_; have HB := n1_; have HI0 := n2_; clear n0_ n1_ n2_; (try clear hb); (try clear hb2); (try clear hk); (try clear hi)) | (go_at_call 25; (with_reducible refine (chasemake_Stream_Next.calls g s0_0 t185 (a2.size : Int) t186 t187 w0 _ ?side1 ?side2 A8.out).mono ?_); (case side1 => repeat (first | (with_reducible first | exact HI0.out | apply IsS25.alloc | apply IsS25.drewN | apply IsS25.drew | apply IsS25.set_1) | exact HI0.out)); (case side2 => repeat (first | (with_reducible first | exact HB.out | apply below_alloc | apply pw_below_drewN | apply below_drew1 | refine below_set ?_ (IsS25.ge HI0.out)) | exact HB.out)); rintro e w32 ⟨rfl, hi, hb, hk⟩; have n0_ := Aside0.mk (KeepBut.trans (by repeat (first | (with_reducible first | exact HK.out | apply KeepBut.set_ | apply keep_drewN | apply keep_drew | apply keep_alloc) | exact HK.out)) hk (.inl rfl)); have n1_ := Aside0.mk (hb); have n2_ := Aside0.mk (hi); clear HK; clear HB; clear HI0; have HK := n0_; have HB := n1_; have HI0 := n2_; clear n0_ n1_ n2_; (try clear hb); (try clear hb2); (try clear hk); (try clear hi); have p11 : 0 ≤ (t186 : Int) := of_decide_eq_true (by first | (with_reducible assumption) | assumption); have q11 : t186 < (a2.size : Int) := of_decide_eq_true (by first | (with_reducible assumption) | assumption); have hx11 := bt_at a2 t186; replace p11 := eq_true p11; replace q11 := eq_true q11) | (go_at_call 25; (with_reducible refine (chasemake_Stream_Next.calls g s0_0 t187 3 t188 t189 w0 _ ?side1 ?side2 A12.out).mono ?_); (case side1 => repeat (first | (with_reducible first | exact HI0.out | apply IsS25.alloc | apply IsS25.drewN | apply IsS25.drew | apply IsS25.set_1) | exact HI0.out)); (case side2 => repeat (first | (with_reducible first | exact HB.out | apply below_alloc | apply pw_below_drewN | apply below_drew1 | refine below_set ?_ (IsS25.ge HI0.out)) | exact HB.out)); rintro e w33 ⟨rfl, hi, hb, hk⟩; have n0_ := Aside0.mk (KeepBut.trans (by repeat (first | (with_reducible first | exact HK.out | apply KeepBut.set_ | apply keep_drewN | apply keep_drew | apply keep_alloc) | exact HK.out)) hk (.inl rfl)); have n1_ := Aside0.mk (hb); have n2_ := Aside0.mk (hi); clear HK; clear HB; clear HI0; have HK := n0_; have HB := n1_; have HI0 := n2_; clear n0_ n1_ n2_; (try clear hb); (try clear hb2); (try clear hk); (try clear hi)))
                        repeat (go_quiet (first | (go_at_call 25; (with_reducible refine (chasemake_Stream_Next.calls g s0_0 s0_1 (a1.size : Int) t184 t185 w0 _ ?side1 ?side2 A7.out).mono ?_); (case side1 => repeat (first | (with_reducible first | exact HI0.out | apply IsS25.alloc | apply IsS25.drewN | apply IsS25.drew | apply IsS25.set_1) | exact HI0.out)); (case side2 => repeat (first | (with_reducible first | exact HB.out | apply below_alloc | apply pw_below_drewN | apply below_drew1 | refine below_set ?_ (IsS25.ge HI0.out)) | exact HB.out)); rintro e w31 ⟨rfl, hi, hb, hk⟩; have n0_ := Aside0.mk (KeepBut.trans (by repeat (first | (with_reducible first | exact HK.out | apply KeepBut.set_ | apply keep_drewN | apply keep_drew | apply keep_alloc) | exact HK.out)) hk (.inl rfl)); have n1_ := Aside0.mk (hb); have n2_ := Aside0.mk (hi); clear HK; clear HB; clear HI0; have HK := n0_; have HB := n1_; have HI0 := n2_; clear n0_ n1_ n2_; (try clear hb); (try clear hb2); (try clear hk); (try clear hi)) | (go_at_call 25; (with_reducible refine (chasemake_Stream_Next.calls g s0_0 t185 (a2.size : Int) t186 t187 w0 _ ?side1 ?side2 A8.out).mono ?_); (case side1 => repeat (first | (with_reducible first | exact HI0.out | apply IsS25.alloc | apply IsS25.drewN | apply IsS25.drew | apply IsS25.set_1) | exact HI0.out)); (case side2 => repeat (first | (with_reducible first | exact HB.out | apply below_alloc | apply pw_below_drewN | apply below_drew1 | refine below_set ?_ (IsS25.ge HI0.out)) | exact HB.out)); rintro e w32 ⟨rfl, hi, hb, hk⟩; have n0_ := Aside0.mk (KeepBut.trans (by repeat (first | (with_reducible first | exact HK.out | apply KeepBut.set_ | apply keep_drewN | apply keep_drew | apply keep_alloc) | exact HK.out)) hk (.inl rfl)); have n1_ := Aside0.mk (hb); have n2_ := Aside0.mk (hi); clear HK; clear HB; clear HI0; have HK := n0_; have HB := n1_; have HI0 := n2_; clear n0_ n1_ n2_; (try clear hb); (try clear hb2); (try clear hk); (try clear hi); have p11 : 0 ≤ (t186 : Int) := of_decide_eq_true (by first | (with_reducible assumption) | assumption); have q11 : t186 < (a2.size : Int) := of_decide_eq_true (by first | (with_reducible assumption) | assumption); have hx11 := bt_at a2 t186; replace p11 := eq_true p11; replace q11 := eq_true q11) | (go_at_call 25; (with_reducible refine (chasemake_Stream_Next.calls g s0_0 t187 3 t188 t189 w0 _ ?side1 ?side2 A12.out).mono ?_); (case side1 => repeat (first | (with_reducible first | exact HI0.out | apply IsS25.alloc | apply IsS25.drewN | apply IsS25.drew | apply IsS25.set_1) | exact HI0.out)); (case side2 => repeat (first | (with_reducible first | exact HB.out | apply below_alloc | apply pw_below_drewN | apply below_drew1 | refine below_set ?_ (IsS25.ge HI0.out)) | exact HB.out)); rintro e w33 ⟨rfl, hi, hb, hk⟩; have n0_ := Aside0.mk (KeepBut.trans (by repeat (first | (with_reducible first | exact HK.out | apply KeepBut.set_ | apply keep_drewN | apply keep_drew | apply keep_alloc) | exact HK.out)) hk (.inl rfl)); have n1_ := Aside0.mk (hb); have n2_ := Aside0.mk (hi); clear HK; clear HB; clear HI0; have HK := n0_; have HB := n1_; have HI0 := n2_; clear n0_ n1_ n2_; (try clear hb); (try clear hb2); (try clear hk); (try clear hi))); try go_wp2_with (first | (go_at_call 25; (with_reducible refine (chasemake_Stream_Next.calls g s0_0 s0_1 (a1.size : Int) t184 t185 w0 _ ?side1 ?side2 A7.out).mono ?_); (case side1 => repeat (first | (with_reducible first | exact HI0.out | apply IsS25.alloc | apply IsS25.drewN | apply IsS25.drew | apply IsS25.set_1) | exact HI0.out)); (case side2 => repeat (first | (with_reducible first | exact HB.out | apply below_alloc | apply pw_below_drewN | apply below_drew1 | refine below_set ?_ (IsS25.ge HI0.out)) | exact HB.out)); rintro e w31 ⟨rfl, hi, hb, hk⟩; have n0_ := Aside0.mk (KeepBut.trans (by repeat (first | (with_reducible first | exact HK.out | apply KeepBut.set_ | apply keep_drewN | apply keep_drew | apply keep_alloc) | exact HK.out)) hk (.inl rfl)); have n1_ := Aside0.mk (hb); have n2_ := Aside0.mk (hi); clear HK; clear HB; clear HI0; have HK := n0_; have HB := n1_; have HI0 := n2_; clear n0_ n1_ n2_; (try clear hb); (try clear hb2); (try clear hk); (try clear hi)) | (go_at_call 25; (with_reducible refine (chasemake_Stream_Next.calls g s0_0 t185 (a2.size : Int) t186 t187 w0 _ ?side1 ?side2 A8.out).mono ?_); (case side1 => repeat (first | (with_reducible first | exact HI0.out | apply IsS25.alloc | apply IsS25.drewN | apply IsS25.drew | apply IsS25.set_1) | exact HI0.out)); (case side2 => repeat (first | (with_reducible first | exact HB.out | apply below_alloc | apply pw_below_drewN | apply below_drew1 | refine below_set ?_ (IsS25.ge HI0.out)) | exact HB.out)); rintro e w32 ⟨rfl, hi, hb, hk⟩; have n0_ := Aside0.mk (KeepBut.trans (by repeat (first | (with_reducible first | exact HK.out | apply KeepBut.set_ | apply keep_drewN | apply keep_drew | apply keep_alloc) | exact HK.out)) hk (.inl rfl)); have n1_ := Aside0.mk (hb); have n2_ := Aside0.mk (hi); clear HK; clear HB; clear HI0; have HK := n0_; have HB := n1_; have HI0 := n2_; clear n0_ n1_ n2_; (try clear hb); (try clear hb2); (try clear hk); (try clear hi); have p11 : 0 ≤ (t186 : Int) := of_decide_eq_true (by first | (with_reducible assumption) | assumption); have q11 : t186 < (a2.size : Int) := of_decide_eq_true (by first | (with_reducible assumption) | assumption); have hx11 := bt_at a2 t186; replace p11 := eq_true p11; replace q11 := eq_true q11) | (go_at_call 25; (with_reducible refine (chasemake_Stream_Next.calls g s0_0 t187 3 t188 t189 w0 _ ?side1 ?side2 A12.out).mono ?_); (case side1 => repeat (first | (with_reducible first | exact HI0.out | apply IsS25.alloc | apply IsS25.drewN | apply IsS25.drew | apply IsS25.set_1) | exact HI0.out)); (case side2 => repeat (first | (with_reducible first | exact HB.out | apply below_alloc | apply pw_below_drewN | apply below_drew1 | refine below_set ?_ (IsS25.ge HI0.out)) | exact HB.out)); rintro e w33 ⟨rfl, hi, hb, hk⟩; have n0_ := Aside0.mk (KeepBut.trans (by repeat (first | (with_reducible first | exact HK.out | apply KeepBut.set_ | apply keep_drewN | apply keep_drew | apply keep_alloc) | exact HK.out)) hk (.inl rfl)); have n1_ := Aside0.mk (hb); have n2_ := Aside0.mk (hi); clear HK; clear HB; clear HI0; have HK := n0_; have HB := n1_; have HI0 := n2_; clear n0_ n1_ n2_; (try clear hb); (try clear hb2); (try clear hk); (try clear hi))))
                        go_ret
                        exact ⟨by first | rfl | (simp [errW_none, errW_some] <;> rfl) | (simp [*, errW_none, errW_some] <;> rfl), by repeat (first | (with_reducible first | exact HI0.out | apply IsS25.alloc | apply IsS25.drewN | apply IsS25.drew | apply IsS25.set_1) | exact HI0.out), by repeat (first | (with_reducible first | exact HB.out | apply below_alloc | apply pw_below_drewN | apply below_drew1 | refine below_set ?_ (IsS25.ge HI0.out)) | exact HB.out), by repeat (first | (with_reducible first | exact HK.out | apply KeepBut.set_ | apply keep_drewN | apply keep_drew | apply keep_alloc) | exact HK.out)⟩
                      · rw [if_neg c30] at H
                        exact absurd H (by simp)
                    · rw [if_neg c27] at H
                      exact absurd H (by simp)
                  · rw [if_neg c26] at H
                    exact absurd H (by simp)
                · rw [if_neg c25] at H
                  exact absurd H (by simp)
              · rw [if_neg c24] at H
                have c24b0 : (t188 == 1) = false := beq_eq_false_iff_ne.mpr c24
                have c24b1 : (t188 != 1) = true := bne_iff_ne.mpr c24
                by_cases c34 : 0 ≤ t184
                · rw [if_pos c34] at H
                  have c34b0 := eq_true c34
                  have c34b1 : decide (0 ≤ t184) = true := decide_eq_true c34
                  clear c34
                  by_cases c35 : t184 ≤ (a1.size : Int)
                  · rw [if_pos c35] at H
                    have c35b0 := eq_true c35
                    have c35b1 : decide (t184 ≤ (a1.size : Int)) = true := decide_eq_true c35
                    clear c35
                    obtain ⟨ji36, hji36⟩ : ∃ j_ : Int, (wrap64 (t184 + 1)) = j_ := ⟨_, rfl⟩
                    replace H : (if 0 ≤ (ji36) then (if (ji36) ≤ (a1.size : Int) then (if (a1.extract 0 (t184 : Int).toNat).size + (a1.extract ((ji36) : Int).toNat a1.size).size ≤ 9223372036854775807 then (some ((a1.extract 0 (t184 : Int).toNat) ++ (a1.extract ((ji36) : Int).toNat a1.size), t189)) else (none)) else (none)) else (none)) = some (r1, r2) := by first | (rw [hji36] at H; exact H) | (simp only [hji36] at H ⊢; exact H)
                    (try rw [hji36] at A7)
                    (try rw [hji36] at A8)
                    (try rw [hji36] at A12)
                    have hji36w : (IntKind.i64.wrap (t184 + 1)) = ji36 := (i64_w _).trans hji36
                    by_cases c37 : 0 ≤ (ji36)
                    · rw [if_pos c37] at H
                      have c37b0 := eq_true c37
                      have c37b1 : decide (0 ≤ (ji36)) = true := decide_eq_true c37
                      clear c37
                      by_cases c38 : (ji36) ≤ (a1.size : Int)
                      · rw [if_pos c38] at H
                        have c38b0 := eq_true c38
                        have c38b1 : decide ((ji36) ≤ (a1.size : Int)) = true := decide_eq_true c38
                        clear c38
                        by_cases c39 : (a1.extract 0 (t184 : Int).toNat).size + (a1.extract ((ji36) : Int).toNat a1.size).size ≤ 9223372036854775807
                        · rw [if_pos c39] at H
                          have c39b0 := eq_true c39
                          have c39b1 : decide ((a1.extract 0 (t184 : Int).toNat).size + (a1.extract ((ji36) : Int).toNat a1.size).size ≤ 9223372036854775807) = true := decide_eq_true c39
                          try have c39b2 : (9223372036854775807 < (a1.extract 0 (t184 : Int).toNat).size + (a1.extract ((ji36) : Int).toNat a1.size).size) = False := eq_false (Nat.not_lt.2 c39)
                          simp only [Option.some.injEq, Prod.mk.injEq] at H
                          obtain ⟨rfl, rfl⟩ := H
                          go_wp2_with (first | (go_at_call 25; (with_reducible refine (chasemake_Stream_Next.calls g s0_0 s0_1 (a1.size : Int) t184 t185 w0 _ ?side1 ?side2 A7.out).mono ?_); (case side1 => repeat (first | (with_reducible first | exact HI0.out | apply IsS25.alloc | apply IsS25.drewN | apply IsS25.drew | apply IsS25.set_1) | exact HI0.out)); (case side2 => repeat (first | (with_reducible first | exact HB.out | apply below_alloc | apply pw_below_drewN | apply below_drew1 | refine below_set ?_ (IsS25.ge HI0.out)) | exact HB.out)); rintro e w40 ⟨rfl, hi, hb, hk⟩; have n0_ := Aside0.mk (KeepBut.trans (by repeat (first | (with_reducible first | exact HK.out | apply KeepBut.set_ | apply keep_drewN | apply keep_drew | apply keep_alloc) | exact HK.out)) hk (.inl rfl)); have n1_ := Aside0.mk (hb); have n2_ := Aside0.mk (hi); clear HK; clear HB; clear HI0; have HK := n0_; have HB := n1_; have HI0 := n2_; clear n0_ n1_ n2_; (try clear hb); (try clear hb2); (try clear hk); (try clear hi)) | (go_at_call 25; (with_reducible refine (chasemake_Stream_Next.calls g s0_0 t185 (a2.size : Int) t186 t187 w0 _ ?side1 ?side2 A8.out).mono ?_); (case side1 => repeat (first | (with_reducible first | exact HI0.out | apply IsS25.alloc | apply IsS25.drewN | apply IsS25.drew | apply IsS25.set_1) | exact HI0.out)); (case side2 => repeat (first | (with_reducible first | exact HB.out | apply below_alloc | apply pw_below_drewN | apply below_drew1 | refine below_set ?_ (IsS25.ge HI0.out)) | exact HB.out)); rintro e w41 ⟨rfl, hi, hb, hk⟩; have n0_ := Aside0.mk (KeepBut.trans (by repeat (first | (with_reducible first | exact HK.out | apply KeepBut.set_ | apply keep_drewN | apply keep_drew | apply keep_alloc) | exact HK.out)) hk (.inl rfl)); have n1_ := Aside0.mk (hb); have n2_ := Aside0.mk (hi); clear HK; clear HB; clear HI0; have HK := n0_; have HB := n1_; have HI0 := n2_; clear n0_ n1_ n2_; (try clear hb); (try clear hb2); (try clear hk); (try clear hi); have p11 : 0 ≤ (t186 : Int) := of_decide_eq_true (by first | (with_reducible assumption) | assumption); have q11 : t186 < (a2.size : Int) := of_decide_eq_true (by first | (with_reducible assumption) | assumption); have hx11 := bt_at a2 t186; replace p11 := eq_true p11; replace q11 := eq_true q11) | (go_at_call 25; (with_reducible refine (chasemake_Stream_Next.calls g s0_0 t187 3 t188 t189 w0 _ ?side1 ?side2 A12.out).mono ?_); (case side1 => repeat (first | (with_reducible first | exact HI0.out | apply IsS25.alloc | apply IsS25.drewN | apply IsS25.drew | apply IsS25.set_1) | exact HI0.out)); (case side2 => repeat (first | (with_reducible first | exact HB.out | apply below_alloc | apply pw_below_drewN | apply below_drew1 | refine below_set ?_ (IsS25.ge HI0.out)) | exact HB.out)); rintro e w42 ⟨rfl, hi, hb, hk⟩; have n0_ := Aside0.mk (KeepBut.trans (by repeat (first | (with_reducible first | exact HK.out | apply KeepBut.set_ | apply keep_drewN | apply keep_drew | apply keep_alloc) | exact HK.out)) hk (.inl rfl)); have n1_ := Aside0.mk (hb); have n2_ := Aside0.mk (hi); clear HK; clear HB; clear HI0; have HK := n0_; have HB := n1_; have HI0 := n2_; clear n0_ n1_ n2_; (try clear hb); (try clear hb2); (try clear hk); (try clear hi)))
                          repeat (go_quiet (first | (go_at_call 25; (with_reducible refine (chasemake_Stream_Next.calls g s0_0 s0_1 (a1.size : Int) t184 t185 w0 _ ?side1 ?side2 A7.out).mono ?_); (case side1 => repeat (first | (with_reducible first | exact HI0.out | apply IsS25.alloc | apply IsS25.drewN | apply IsS25.drew | apply IsS25.set_1) | exact HI0.out)); (case side2 => repeat (first | (with_reducible first | exact HB.out | apply below_alloc | apply pw_below_drewN | apply below_drew1 | refine below_set ?_ (IsS25.ge HI0.out)) | exact HB.out)); rintro e w40 ⟨rfl, hi, hb, hk⟩; have n0_ := Aside0.mk (KeepBut.trans (by repeat (first | (with_reducible first | exact HK.out | apply KeepBut.set_ | apply keep_drewN | apply keep_drew | apply keep_alloc) | exact HK.out)) hk (.inl rfl)); have n1_ := Aside0.mk (hb); have n2_ := Aside0.mk (hi); clear HK; clear HB; clear HI0; have HK := n0_; have HB := n1_; have HI0 := n2_; clear n0_ n1_ n2_; (try clear hb); (try clear hb2); (try clear hk); (try clear hi)) | (go_at_call 25; (with_reducible refine (chasemake_Stream_Next.calls g s0_0 t185 (a2.size : Int) t186 t187 w0 _ ?side1 ?side2 A8.out).mono ?_); (case side1 => repeat (first | (with_reducible first | exact HI0.out | apply IsS25.alloc | apply IsS25.drewN | apply IsS25.drew | apply IsS25.set_1) | exact HI0.out)); (case side2 => repeat (first | (with_reducible first | exact HB.out | apply below_alloc | apply pw_below_drewN | apply below_drew1 | refine below_set ?_ (IsS25.ge HI0.out)) | exact HB.out)); rintro e w41 ⟨rfl, hi, hb, hk⟩; have n0_ := Aside0.mk (KeepBut.trans (by repeat (first | (with_reducible first | exact HK.out | apply KeepBut.set_ | apply keep_drewN | apply keep_drew | apply keep_alloc) | exact HK.out)) hk (.inl rfl)); have n1_ := Aside0.mk (hb); have n2_ := Aside0.mk (hi); clear HK; clear HB; clear HI0; have HK := n0_; have HB := n1_; have HI0 := n2_; clear n0_ n1_ n2_; (try clear hb); (try clear hb2); (try clear hk); (try clear hi); have p11 : 0 ≤ (t186 : Int) := of_decide_eq_true (by first | (with_reducible assumption) | assumption); have q11 : t186 < (a2.size : Int) := of_decide_eq_true (by first | (with_reducible assumption) | assumption); have hx11 := bt_at a2 t186; replace p11 := eq_true p11; replace q11 := eq_true q11) | (go_at_call 25; (with_reducible refine (chasemake_Stream_Next.calls g s0_0 t187 3 t188 t189 w0 _ ?side1 ?side2 A12.out).mono ?_); (case side1 => repeat (first | (with_reducible first | exact HI0.out | apply IsS25.alloc | apply IsS25.drewN | apply IsS25.drew | apply IsS25.set_1) | exact HI0.out)); (case side2 => repeat (first | (with_reducible first | exact HB.out | apply below_alloc | apply pw_below_drewN | apply below_drew1 | refine below_set ?_ (IsS25.ge HI0.out)) | exact HB.out)); rintro e w42 ⟨rfl, hi, hb, hk⟩; have n0_ := Aside0.mk (KeepBut.trans (by repeat (first | (with_reducible first | exact HK.out | apply KeepBut.set_ | apply keep_drewN | apply keep_drew | apply keep_alloc) | exact HK.out)) hk (.inl rfl)); have n1_ := Aside0.mk (hb); have n2_ := Aside0.mk (hi); clear HK; clear HB; clear HI0; have HK := n0_; have HB := n1_; have HI0 := n2_; clear n0_ n1_ n2_; (try clear hb); (try clear hb2); (try clear hk); (try clear hi))); try go_wp2_with (first | (go_at_call 25; (with_reducible refine (chasemake_Stream_Next.calls g s0_0 s0_1 (a1.size : Int) t184 t185 w0 _ ?side1 ?side2 A7.out).mono ?_); (case side1 => repeat (first | (with_reducible first | exact HI0.out | apply IsS25.alloc | apply IsS25.drewN | apply IsS25.drew | apply IsS25.set_1) | exact HI0.out)); (case side2 => repeat (first | (with_reducible first | exact HB.out | apply below_alloc | apply pw_below_drewN | apply below_drew1 | refine below_set ?_ (IsS25.ge HI0.out)) | exact HB.out)); rintro e w40 ⟨rfl, hi, hb, hk⟩; have n0_ := Aside0.mk (KeepBut.trans (by repeat (first | (with_reducible first | exact HK.out | apply KeepBut.set_ | apply keep_drewN | apply keep_drew | apply keep_alloc) | exact HK.out)) hk (.inl rfl)); have n1_ := Aside0.mk (hb); have n2_ := Aside0.mk (hi); clear HK; clear HB; clear HI0; have HK := n0_; have HB := n1_; have HI0 := n2_; clear n0_ n1_ n2_; (try clear hb); (try clear hb2); (try clear hk); (try clear hi)) | (go_at_call 25; (with_reducible refine (chasemake_Stream_Next.calls g s0_0 t185 (a2.size : Int) t186 t187 w0 _ ?side1 ?side2 A8.out).mono ?_); (case side1 => repeat (first | (with_reducible first | exact HI0.out | apply IsS25.alloc | apply IsS25.drewN | apply IsS25.drew | apply IsS25.set_1) | exact HI0.out)); (case side2 => repeat (first | (with_reducible first | exact HB.out | apply below_alloc | apply pw_below_drewN | apply below_drew1 | refine below_set ?_ (IsS25.ge HI0.out)) | exact HB.out)); rintro e w41 ⟨rfl, hi, hb, hk⟩; have n0_ := Aside0.mk (KeepBut.trans (by repeat (first | (with_reducible first | exact HK.out | apply KeepBut.set_ | apply keep_drewN | apply keep_drew | apply keep_alloc) | exact HK.out)) hk (.inl rfl)); have n1_ := Aside0.mk (hb); have n2_ := Aside0.mk (hi); clear HK; clear HB; clear HI0; have HK := n0_; have HB := n1_; have HI0 := n2_; clear n0_ n1_ n2_; (try clear hb); (try clear hb2); (try clear hk); (try clear hi); have p11 : 0 ≤ (t186 : Int) := of_decide_eq_true (by first | (with_reducible assumption) | assumption); have q11 : t186 < (a2.size : Int) := of_decide_eq_true (by first | (with_reducible assumption) | assumption); have hx11 := bt_at a2 t186; replace p11 := eq_true p11; replace q11 := eq_true q11) | (go_at_call 25; (with_reducible refine (chasemake_Stream_Next.calls g s0_0 t187 3 t188 t189 w0 _ ?side1 ?side2 A12.out).mono ?_); (case side1 => repeat (first | (with_reducible first | exact HI0.out | apply IsS25.alloc | apply IsS25.drewN | apply IsS25.drew | apply IsS25.set_1) | exact HI0.out)); (case side2 => repeat (first | (with_reducible first | exact HB.out | apply below_alloc | apply pw_below_drewN | apply below_drew1 | refine below_set ?_ (IsS25.ge HI0.out)) | exact HB.out)); rintro e w42 ⟨rfl, hi, hb, hk⟩; have n0_ := Aside0.mk (KeepBut.trans (by repeat (first | (with_reducible first | exact HK.out | apply KeepBut.set_ | apply keep_drewN | apply keep_drew | apply keep_alloc) | exact HK.out)) hk (.inl rfl)); have n1_ := Aside0.mk (hb); have n2_ := Aside0.mk (hi); clear HK; clear HB; clear HI0; have HK := n0_; have HB := n1_; have HI0 := n2_; clear n0_ n1_ n2_; (try clear hb); (try clear hb2); (try clear hk); (try clear hi))))
                          go_ret
                          exact ⟨by first | rfl | (simp [errW_none, errW_some] <;> rfl) | (simp only [← hji36]; first | rfl | (simp [errW_none, errW_some] <;> rfl)) | (simp [*, errW_none, errW_some] <;> rfl), by repeat (first | (with_reducible first | exact HI0.out | apply IsS25.alloc | apply IsS25.drewN | apply IsS25.drew | apply IsS25.set_1) | exact HI0.out), by repeat (first | (with_reducible first | exact HB.out | apply below_alloc | apply pw_below_drewN | apply below_drew1 | refine below_set ?_ (IsS25.ge HI0.out)) | exact HB.out), by repeat (first | (with_reducible first | exact HK.out | apply KeepBut.set_ | apply keep_drewN | apply keep_drew | apply keep_alloc) | exact HK.out)⟩
                        · rw [if_neg c39] at H
                          exact absurd H (by simp)
                      · rw [if_neg c38] at H
                        exact absurd H (by simp)
                    · rw [if_neg c37] at H
                      exact absurd H (by simp)
                  · rw [if_neg c35] at H
                    exact absurd H (by simp)
                · rw [if_neg c34] at H
                  exact absurd H (by simp)
          · rw [if_neg c10] at H
            exact absurd H (by simp)
        · rw [if_neg c9] at H
          exact absurd H (by simp)
def near_two.f (k : Nat) (a0 : ByteArray) (a1 : ByteArray) (a2 : Int) : Option (Int) := (near_large.f a0).bind fun t190 => ((near_kError.f a2).bind fun t191 => ((near_large.f a1).bind fun t192 => ((base_First.f k (([t190, t191, t192] : List Int))).bind fun t196 => (some t196))))
theorem near_two.mono : ∀ a0 a1 a2 k, LeO (near_two.f k a0 a1 a2) (near_two.f (k + 1) a0 a1 a2) := by
  intro a0 a1 a2 k
  unfold near_two.f
  repeat' first
      | (with_reducible exact base_First.mono _ _)
      | (with_reducible exact LeO.refl _)
      | (with_reducible exact LeO.none _)
      | (with_reducible refine LeO.ite ?_ ?_)
      | (with_reducible refine LeO.bind ?_ (fun _ => ?_))
      | exact base_First.mono _ _
      | exact LeO.none _
      | refine LeO.ite ?_ ?_
      | refine LeO.bind ?_ (fun _ => ?_)
set_option maxHeartbeats 8000000 in
set_option maxRecDepth 100000 in
theorem near_two.calls (k : Nat) (a0 : ByteArray) (a1 : ByteArray) (a2 : Int) (r : Int) (w : World) (h : near_two.f k a0 a1 a2 = some r) :
    Calls Try.prog 49 #[.string a0, .string a1, .int .i64 a2] w fun e w' => e = .returned (.int .i64 r) ∧ Below w.heap.size w w' := by
  have HB := Aside0.mk (Below.refl w.heap.size w)
  have H : ((near_large.f a0).bind fun t190 => ((near_kError.f a2).bind fun t191 => ((near_large.f a1).bind fun t192 => ((base_First.f k (([t190, t191, t192] : List Int))).bind fun t196 => (some t196))))) = some r := h
  clear h
  replace H := Option.bind_eq_some_iff.mp H
  obtain ⟨t190, A40, H⟩ := H
  replace H : ((near_kError.f a2).bind fun t191 => ((near_large.f a1).bind fun t192 => ((base_First.f k (([t190, t191, t192] : List Int))).bind fun t196 => (some t196)))) = some r := H
  have A4 := Aside0.mk A40
  clear A40
  replace H := Option.bind_eq_some_iff.mp H
  obtain ⟨t191, A50, H⟩ := H
  replace H : ((near_large.f a1).bind fun t192 => ((base_First.f k (([t190, t191, t192] : List Int))).bind fun t196 => (some t196))) = some r := H
  have A5 := Aside0.mk A50
  clear A50
  replace H := Option.bind_eq_some_iff.mp H
  obtain ⟨t192, A60, H⟩ := H
  replace H : ((base_First.f k (([t190, t191, t192] : List Int))).bind fun t196 => (some t196)) = some r := H
  have A6 := Aside0.mk A60
  clear A60
  obtain ⟨y193, hy193⟩ : ∃ y_ : List Int, y_ = (([t190, t191, t192] : List Int)) := ⟨_, rfl⟩
  replace H : ((base_First.f k y193).bind fun t196 => (some t196)) = some r := by first | (rw [hy193]; with_reducible exact H) | (have H2_ := (Option.bind_some _ _).symm.trans H; rw [hy193]; with_reducible exact H2_) | (have H2_ := (Option.bind_some _ _).symm.trans H; with_reducible exact H2_) | with_reducible exact H | (rw [hy193]; exact H) | exact H
  have Ny193 := Aside0.mk hy193
  clear hy193
  replace H := Option.bind_eq_some_iff.mp H
  obtain ⟨t196, A70, H⟩ := H
  replace H : (some t196) = some r := H
  have A7 := Aside0.mk A70
  clear A70
  obtain rfl := Option.some.inj H
  go_enter Try.func49, Try.ntmps49
  go_wp2_with (first | ((with_reducible refine gate_callee (f := 35) rfl ?_); refine goesL_ (some 8) rfl rfl Try.func35 (by kernel_rfl) rfl #[.string a0] rfl (by (try simp only [List.map_toArray, List.map_cons, List.map_nil]); first | done | rfl | (simp only [List.length_drop, List.length_take]; rfl)) ?_; (with_reducible refine (near_large.calls a0 t190 _ A4.out).mono ?_); rintro e w' ⟨rfl, ⟨nd, rfl⟩⟩; refine ⟨_, rfl, ?_⟩) | ((with_reducible refine gate_callee (f := 36) rfl ?_); refine goesL_ (some 10) rfl rfl Try.func36 (by kernel_rfl) rfl #[.int .i64 a2] rfl (by (try simp only [List.map_toArray, List.map_cons, List.map_nil]); first | done | rfl | (simp only [List.length_drop, List.length_take]; rfl)) ?_; (with_reducible refine (near_kError.calls a2 t191 _ A5.out).mono ?_); rintro e w' ⟨rfl, ⟨nd, rfl⟩⟩; refine ⟨_, rfl, ?_⟩) | ((with_reducible refine gate_callee (f := 35) rfl ?_); refine goesL_ (some 12) rfl rfl Try.func35 (by kernel_rfl) rfl #[.string a1] rfl (by (try simp only [List.map_toArray, List.map_cons, List.map_nil]); first | done | rfl | (simp only [List.length_drop, List.length_take]; rfl)) ?_; (with_reducible refine (near_large.calls a1 t192 _ A6.out).mono ?_); rintro e w' ⟨rfl, ⟨nd, rfl⟩⟩; refine ⟨_, rfl, ?_⟩) | ((with_reducible refine gate_dst (N := 13) rfl ?_); refine Kd.R_lit (Kd.int .i64) _ 29 ?hg (N := 13) ?hd (xs := ([t190, t191, t192] : List Int)) (inner := [.int .i64 t190, .int .i64 t191, .int .i64 t192]) (ok := fun _ => True) (okp := fun _ => True) ?hr ?hp (fun _ hk => hk) trivial (Below.refl _ _) (Nat.le_refl _) (by simp) ?_; (case hd => rfl); (case hg => rfl); (case hr => first | (go_simp; done) | (go_simp; rfl)); (case hp => exact (Reps.one (show Kd.M (Kd.int .i64) _ _ _ t190 [.int .i64 t190] from rfl) (Reps.one (show Kd.M (Kd.int .i64) _ _ _ t191 [.int .i64 t191] from rfl) (Reps.one (show Kd.M (Kd.int .i64) _ _ _ t192 [.int .i64 t192] from rfl) (Reps.none _ _))))); intro v194 w8 ho9 hb hg_ hnew_; clear hg_ hnew_; (first | rw [← Ny193.out] at ho9 | (simp only [Int.reduceToNat] at ho9; rw [← Ny193.out] at ho9)); have n0_ := Aside0.mk (Kd.R_lower ho9 (below_size (by repeat (first | (with_reducible first | exact HB.out | apply below_alloc | apply pw_below_drewN | apply below_drew1) | exact HB.out)))); have n1_ := Aside0.mk (below_step (by repeat (first | (with_reducible first | exact HB.out | apply below_alloc | apply pw_below_drewN | apply below_drew1) | exact HB.out)) hb); clear HB; have HO195 := n0_; have HB := n1_; clear n0_ n1_; clear hb ho9; obtain ⟨Ao10, co10, eo10⟩ := Kd.R_slice HO195.out; subst eo10) | ((with_reducible refine gate_callee (f := 34) rfl ?_); refine goesL_ (some 14) rfl rfl Try.func34 (by kernel_rfl) rfl #[.slice Ao10 y193.length co10] rfl (by (try simp only [List.map_toArray, List.map_cons, List.map_nil]); first | done | rfl | (simp only [List.length_drop, List.length_take]; rfl)) ?_; (with_reducible refine (base_First.calls k _ _ y193 t196 _ ?side1 ?side2 A7.out).mono ?_); (case side1 => repeat (first | exact (Kd.R_reads' HO195.out).2.2 | (with_reducible refine Kd.C_alloc ?_ _) | (with_reducible refine Kd.C_drewN ?_ _) | (with_reducible refine Kd.C_drew ?_))); (case side2 => exact (Kd.R_reads' HO195.out).2.1); rintro e w' ⟨rfl, ⟨nd, rfl⟩⟩; refine ⟨_, rfl, ?_⟩))
  go_ret
  exact ⟨by first | rfl | (simp [errW_none, errW_some] <;> rfl) | (simp [*, errW_none, errW_some] <;> rfl), by repeat (first | (with_reducible first | exact HB.out | apply below_alloc | apply pw_below_drewN | apply below_drew1) | exact HB.out)⟩
def near_fraction.l0 : Nat → Int → Int → Int → Int → Option (Int × Int)
  | 0, _, _, _, _ => none
  | k + 1, x0, x1, x5, x6 => if x6 > 0 then (if x6 = 0 then (none) else (near_fraction.l0 k x0 x1 x6 (Int.tmod x5 x6))) else (if x5 = 0 then (none) else (some (wrap64 (Int.tdiv x0 x5), wrap64 (Int.tdiv x1 x5))))
def near_fraction.f (k : Nat) (a0 : Int) (a1 : Int) : Option (Int × Int) := if a1 = 0 then (some (1, 1)) else (near_fraction.l0 k a0 a1 a0 a1)
theorem near_fraction.mono_l : ∀ k, (∀ y0 y1 y2 y3, LeO (near_fraction.l0 k y0 y1 y2 y3) (near_fraction.l0 (k + 1) y0 y1 y2 y3))
  | 0 => fun _ _ _ _ r h => by simp [near_fraction.l0] at h
  | k + 1 => by
    have ih0 := near_fraction.mono_l k
    · intro y0 y1 y2 y3
      unfold near_fraction.l0
      repeat' first
      | (with_reducible exact ih0 _ _ _ _)
      | (with_reducible exact LeO.refl _)
      | (with_reducible exact LeO.none _)
      | (with_reducible refine LeO.ite ?_ ?_)
      | (with_reducible refine LeO.bind ?_ (fun _ => ?_))
      | exact ih0 _ _ _ _
      | exact LeO.none _
      | refine LeO.ite ?_ ?_
      | refine LeO.bind ?_ (fun _ => ?_)
theorem near_fraction.mono : ∀ a0 a1 k, LeO (near_fraction.f k a0 a1) (near_fraction.f (k + 1) a0 a1) := by
  intro a0 a1 k
  have ih0 := near_fraction.mono_l k
  unfold near_fraction.f
  repeat' first
      | (with_reducible exact ih0 _ _ _ _)
      | (with_reducible exact LeO.refl _)
      | (with_reducible exact LeO.none _)
      | (with_reducible refine LeO.ite ?_ ?_)
      | (with_reducible refine LeO.bind ?_ (fun _ => ?_))
      | exact ih0 _ _ _ _
      | exact LeO.none _
      | refine LeO.ite ?_ ?_
      | refine LeO.bind ?_ (fun _ => ?_)
def near_fraction.T6 : Bool × List (List Nat × List Nat) := (true, [([], []), ([], []), ([0, 1], [0, 1]), ([], []), ([], []), ([3, 4], [3, 4]), ([2, 5], [2, 5]), ([6, 0, 1, 2, 3, 4, 5, 6], [6])])
def near_fraction.B6 : List Nat := [0, 0, 3, 0, 0, 24, 63, 127]
theorem near_fraction.tab6 : rtab .any (opsOf Try.f46 6) = near_fraction.T6 := by kernel_rfl
theorem near_fraction.bits6 : waitsOk near_fraction.T6.2 near_fraction.B6 = true := by kernel_rfl
set_option maxHeartbeats 8000000 in
set_option maxRecDepth 100000 in
theorem near_fraction.calls (k : Nat) (a0 : Int) (a1 : Int) (r1 : Int) (r2 : Int) (w : World) (h : near_fraction.f k a0 a1 = some (r1, r2)) :
    Calls Try.prog 46 #[.int .i64 a0, .int .i64 a1] w fun e w' => e = .returned (.agg #[.int .i64 r1, .int .i64 r2]) ∧ Below w.heap.size w w' := by
  have hu35 := Try.underlying35
  have HB := Aside0.mk (Below.refl w.heap.size w)
  have H : (if a1 = 0 then (some (1, 1)) else (near_fraction.l0 k a0 a1 a0 a1)) = some (r1, r2) := h
  clear h
  by_cases c3 : a1 = 0
  · rw [if_pos c3] at H
    have c3b0 : (a1 == 0) = true := beq_iff_eq.mpr c3
    have c3b1 : (a1 != 0) = false := bne_eq_false_iff_eq.mpr c3
    clear c3
    simp only [Option.some.injEq, Prod.mk.injEq] at H
    obtain ⟨rfl, rfl⟩ := H
    go_enter Try.func46, Try.ntmps46
    go_wp2_with (first | ((with_reducible refine gate_dst (N := 4) rfl ?_); refine box_event ?hg (N := 4) ?hd (cs := #[.int .i64 0, .int .i64 0]) (t := 35) ?hr ?_; (case hd => rfl); (case hg => rfl); (case hr => first | (go_simp; done) | (go_simp; rfl)); intro gb197 hg w4 hbox hb; have n0_ := Aside0.mk (below_step (by repeat (first | (with_reducible first | exact HB.out | apply below_alloc | apply pw_below_drewN | apply below_drew1) | exact HB.out)) hb); have n1_ := Aside0.mk (hbox); have n2_ := Aside0.mk ((by rw [hg]; exact (below_size (by repeat (first | (with_reducible first | exact HB.out | apply below_alloc | apply pw_below_drewN | apply below_drew1) | exact HB.out))) : w.heap.size ≤ gb197)); have n3_ := Aside0.mk ((by rw [hg]; exact (below_size (by repeat (first | (with_reducible first | exact HB.out | apply below_alloc | apply pw_below_drewN | apply below_drew1) | exact HB.out))) : w.heap.size ≤ gb197)); clear HB; have HB := n0_; have BK197 := n1_; have GW197 := n2_; have GE197 := n3_; clear n0_ n1_ n2_ n3_; clear hb hbox hg; have hcz5_0 : w4.cell? ⟨gb197, 0, none⟩ = some (.int .i64 0) := (blk_cell BK197.out 0).trans rfl; have hcz5_1 : w4.cell? ⟨gb197, 1, none⟩ = some (.int .i64 0) := (blk_cell BK197.out 1).trans rfl; have hfz5_0 := blk_frozen BK197.out 0; have hfz5_1 := blk_frozen BK197.out 1))
    refine bodyPost_ret (results_cell_row rfl _ _ gb197 35 #[.int .i64 1, .int .i64 1] (0, 0) _ rfl (by (with_reducible repeat (first | refine blk_drewN ?_ _ | refine blk_drew ?_ | refine blk_alloc ?_ _)); refine blk_put (cs := #[.int .i64 1, .int .i64 0]) ?_ 1 _ rfl; (with_reducible repeat (first | refine blk_drewN ?_ _ | refine blk_drew ?_ | refine blk_alloc ?_ _)); refine blk_put (cs := #[.int .i64 0, .int .i64 0]) ?_ 0 _ rfl; (with_reducible repeat (first | refine blk_drewN ?_ _ | refine blk_drew ?_ | refine blk_alloc ?_ _)); exact BK197.out) Try.underlying35 rfl (by kernel_rfl)) rfl ?_
    exact ⟨by first | rfl | (simp [errW_none, errW_some] <;> rfl) | (simp [*, errW_none, errW_some] <;> rfl), by repeat (first | (with_reducible first | exact HB.out | apply below_alloc | apply pw_below_drewN | apply below_drew1 | refine below_set ?_ GE197.out) | exact HB.out)⟩
  · rw [if_neg c3] at H
    have c3b0 : (a1 == 0) = false := beq_eq_false_iff_ne.mpr c3
    have c3b1 : (a1 != 0) = true := bne_iff_ne.mpr c3
    have H' := Aside0.mk H
    clear H
    go_enter Try.func46, Try.ntmps46
    go_wp2_with (first | ((with_reducible refine gate_dst (N := 4) rfl ?_); refine box_event ?hg (N := 4) ?hd (cs := #[.int .i64 0, .int .i64 0]) (t := 35) ?hr ?_; (case hd => rfl); (case hg => rfl); (case hr => first | (go_simp; done) | (go_simp; rfl)); intro gb197 hg w6 hbox hb; have n0_ := Aside0.mk (below_step (by repeat (first | (with_reducible first | exact HB.out | apply below_alloc | apply pw_below_drewN | apply below_drew1) | exact HB.out)) hb); have n1_ := Aside0.mk (hbox); have n2_ := Aside0.mk ((by rw [hg]; exact (below_size (by repeat (first | (with_reducible first | exact HB.out | apply below_alloc | apply pw_below_drewN | apply below_drew1) | exact HB.out))) : w.heap.size ≤ gb197)); have n3_ := Aside0.mk ((by rw [hg]; exact (below_size (by repeat (first | (with_reducible first | exact HB.out | apply below_alloc | apply pw_below_drewN | apply below_drew1) | exact HB.out))) : w.heap.size ≤ gb197)); clear HB; have HB := n0_; have BK197 := n1_; have GW197 := n2_; have GE197 := n3_; clear n0_ n1_ n2_ n3_; clear hb hbox hg))
    go_loopg [5, 6] k (fun kq v5 v6 w' => ∃ (x5_1 : Int) (x6_1 : Int), v5 = .int .i64 x5_1 ∧ v6 = .int .i64 x6_1 ∧ Aside0 (near_fraction.l0 kq a0 a1 x5_1 x6_1 = some (r1, r2)) ∧ Aside0 (kq ≤ k) ∧ Aside0 (w'.heap[gb197]? = some (.cells #[.int .i64 0, .int .i64 0] 35 (0, 0))) ∧ Aside0 (Below w.heap.size w w'))
    case atStart => exact ⟨(a0), (a1), (by first | rfl | (simp; done) | (simp [*]; done)), (by first | rfl | (simp; done) | (simp [*]; done)), H', ⟨Nat.le_refl _⟩, ⟨by (with_reducible repeat (first | refine blk_drewN ?_ _ | refine blk_drew ?_ | refine blk_alloc ?_ _)); exact BK197.out⟩, ⟨by repeat (first | (with_reducible first | exact HB.out | apply below_alloc | apply pw_below_drewN | apply below_drew1 | refine below_set ?_ GE197.out) | exact HB.out)⟩⟩
    case round =>
      clear H'
      try clear p2
      try clear c3
      try clear c3b0
      try clear c3b1
      try clear c4
      try clear hcz5_0
      try clear hcz5_1
      try clear hfz5_0
      try clear hfz5_1
      obtain ⟨x5_1, x6_1, rfl, rfl, HA, HK1, BK197, HB⟩ := hrel
      cases gk with
      | zero => exact absurd HA.out (by simp [near_fraction.l0])
      | succ k1 =>
        have H := HA.out
        clear HA
        simp only [near_fraction.l0] at H
        by_cases c7 : x6_1 > 0
        · rw [if_pos c7] at H
          have c7b0 : decide (0 < x6_1) = true := decide_eq_true c7
          clear c7
          by_cases c8 : x6_1 = 0
          · rw [if_pos c8] at H
            exact absurd H (by simp)
          · rw [if_neg c8] at H
            have c8b0 : (x6_1 == 0) = false := beq_eq_false_iff_ne.mpr c8
            have c8b1 : (x6_1 != 0) = true := bne_iff_ne.mpr c8
            have H' := Aside0.mk H
            clear H
            try go_wp2
            have n0_ := Aside0.mk (blk_drew BK197.out)
            have n1_ := Aside0.mk (below_drew1 HB.out)
            clear BK197
            clear HB
            have BK197 := n0_
            have HB := n1_
            clear n0_ n1_
            refine start_ (n := 6) (S := fun w' => True) (ds := []) #[false, false, false, false, false, false] (by kernel_rfl) rfl rfl trivial (fun hHeld => ?_)
            generalize wr.drew = w9 at BK197 HB hHeld ⊢
            refine pure_ (i := 0) (N := some 14) (v := ?_) (a' := ?_) #[true, false, false, false, false, false] rfl rfl (by kernel_rfl) (fun _ _ _ h => h) (Or.inl ⟨by rfl, ?_⟩) ?_ ?_
            rotate_left
            · intro w'
              go_simp
              with_reducible rfl
            rotate_left
            · simp only [Act.put, List.setIfInBounds_toArray, List.set_cons_zero, List.set_cons_succ, i64_w, i32_w]
              rfl
            refine pure_ (i := 1) (N := some 15) (v := ?_) (a' := ?_) #[true, true, false, false, false, false] rfl rfl (by kernel_rfl) (fun _ _ _ h => h) (Or.inl ⟨by rfl, ?_⟩) ?_ ?_
            rotate_left
            · intro w'
              go_simp
              with_reducible rfl
            rotate_left
            · simp only [Act.put, List.setIfInBounds_toArray, List.set_cons_zero, List.set_cons_succ, i64_w, i32_w]
              rfl
            refine pure_ (i := 2) (N := some 16) (v := ?_) (a' := ?_) #[true, true, true, false, false, false] rfl rfl (by kernel_rfl) (fun _ _ _ h => h) (Or.inl ⟨by rfl, ?_⟩) ?_ ?_
            rotate_left
            · intro w'
              go_simp
              with_reducible rfl
            rotate_left
            · simp only [Act.put, List.setIfInBounds_toArray, List.set_cons_zero, List.set_cons_succ, i64_w, i32_w]
              rfl
            refine pure_ (i := 3) (N := some 17) (v := ?_) (a' := ?_) #[true, true, true, true, false, false] rfl rfl (by kernel_rfl) (fun _ _ _ h => h) (Or.inl ⟨by rfl, ?_⟩) ?_ ?_
            rotate_left
            · intro w'
              go_simp
              with_reducible rfl
            rotate_left
            · simp only [Act.put, List.setIfInBounds_toArray, List.set_cons_zero, List.set_cons_succ, i64_w, i32_w]
              rfl
            refine pure_ (i := 4) (N := some 5) (v := ?_) (a' := ?_) #[true, true, true, true, true, false] rfl rfl (by kernel_rfl) (fun _ _ _ h => h) (Or.inl ⟨by rfl, ?_⟩) ?_ ?_
            rotate_left
            · intro w'
              go_simp
              with_reducible rfl
            rotate_left
            · simp only [Act.put, List.setIfInBounds_toArray, List.set_cons_zero, List.set_cons_succ, i64_w, i32_w]
              rfl
            refine pure_ (i := 5) (N := some 6) (v := ?_) (a' := ?_) #[true, true, true, true, true, true] rfl rfl (by kernel_rfl) (fun _ _ _ h => h) (Or.inl ⟨by rfl, ?_⟩) ?_ ?_
            rotate_left
            · intro w'
              go_simp
              with_reducible rfl
            rotate_left
            · simp only [Act.put, List.setIfInBounds_toArray, List.set_cons_zero, List.set_cons_succ, i64_w, i32_w]
              rfl
            refine done_ (by kernel_rfl) ?_
            try go_wp2
            go_roundg k1
            case measure => have := HK1.out; omega
            case rel => exact ⟨(x6_1), (Int.tmod x5_1 x6_1), (by first | rfl | (simp; done) | (simp [*]; done)), (by first | rfl | (simp; done) | (simp [*]; done)), H', ⟨by have := HK1.out; omega⟩, ⟨by (with_reducible repeat (first | refine blk_drewN ?_ _ | refine blk_drew ?_ | refine blk_alloc ?_ _)); exact BK197.out⟩, ⟨by repeat (first | (with_reducible first | exact HB.out | apply below_alloc | apply pw_below_drewN | apply below_drew1 | refine below_set ?_ GE197.out) | exact HB.out)⟩⟩
        · rw [if_neg c7] at H
          have c7b0 : decide (0 < x6_1) = false := decide_eq_false c7
          clear c7
          by_cases c10 : x5_1 = 0
          · rw [if_pos c10] at H
            exact absurd H (by simp)
          · rw [if_neg c10] at H
            have c10b0 : (x5_1 == 0) = false := beq_eq_false_iff_ne.mpr c10
            have c10b1 : (x5_1 != 0) = true := bne_iff_ne.mpr c10
            simp only [Option.some.injEq, Prod.mk.injEq] at H
            obtain ⟨rfl, rfl⟩ := H
            try go_wp2
            have n0_ := Aside0.mk (blk_drew BK197.out)
            have n1_ := Aside0.mk (below_drew1 HB.out)
            clear BK197
            clear HB
            have BK197 := n0_
            have HB := n1_
            clear n0_ n1_
            refine start_ (n := 8) (S := fun w' => True) (ds := []) #[false, false, false, false, false, false, false, false] (by kernel_rfl) rfl rfl trivial (fun hHeld => ?_); refine with_tabW near_fraction.tab6 near_fraction.bits6 (fun HT_ HW_ => ?_)
            generalize wr.drew = w11 at BK197 HB hHeld ⊢
            refine pure_ (i := 0) (N := some 18) (v := ?_) (a' := ?_) #[true, false, false, false, false, false, false, false] rfl rfl (any_of HT_.out (by kernel_rfl)) (fun _ _ _ h => h) (Or.inl ⟨by rfl, ?_⟩) ?_ ?_
            rotate_left
            · intro w'
              go_simp
              with_reducible rfl
            rotate_left
            · simp only [Act.put, List.setIfInBounds_toArray, List.set_cons_zero, List.set_cons_succ, i64_w, i32_w]
              rfl
            refine pure_ (i := 1) (N := some 19) (v := ?_) (a' := ?_) #[true, true, false, false, false, false, false, false] rfl rfl (any_of HT_.out (by kernel_rfl)) (fun _ _ _ h => h) (Or.inl ⟨by rfl, ?_⟩) ?_ ?_
            rotate_left
            · intro w'
              go_simp
              with_reducible rfl
            rotate_left
            · simp only [Act.put, List.setIfInBounds_toArray, List.set_cons_zero, List.set_cons_succ, i64_w, i32_w]
              rfl
            refine pure_ (i := 2) (N := some 20) (v := ?_) (a' := ?_) #[true, true, true, false, false, false, false, false] rfl rfl (any_of HT_.out (by kernel_rfl)) (fun _ _ _ h => h) (Or.inl ⟨by rfl, ?_⟩) ?_ ?_
            rotate_left
            · intro w'
              go_simp
              with_reducible rfl
            rotate_left
            · simp only [Act.put, List.setIfInBounds_toArray, List.set_cons_zero, List.set_cons_succ, i64_w, i32_w]
              rfl
            refine pure_ (i := 3) (N := some 21) (v := ?_) (a' := ?_) #[true, true, true, true, false, false, false, false] rfl rfl (any_of HT_.out (by kernel_rfl)) (fun _ _ _ h => h) (Or.inl ⟨by rfl, ?_⟩) ?_ ?_
            rotate_left
            · intro w'
              go_simp
              with_reducible rfl
            rotate_left
            · simp only [Act.put, List.setIfInBounds_toArray, List.set_cons_zero, List.set_cons_succ, i64_w, i32_w]
              rfl
            refine pure_ (i := 4) (N := some 22) (v := ?_) (a' := ?_) #[true, true, true, true, true, false, false, false] rfl rfl (any_of HT_.out (by kernel_rfl)) (fun _ _ _ h => h) (Or.inl ⟨by rfl, ?_⟩) ?_ ?_
            rotate_left
            · intro w'
              go_simp
              with_reducible rfl
            rotate_left
            · simp only [Act.put, List.setIfInBounds_toArray, List.set_cons_zero, List.set_cons_succ, i64_w, i32_w]
              rfl
            refine pure_ (i := 5) (N := some 23) (v := ?_) (a' := ?_) #[true, true, true, true, true, true, false, false] rfl rfl (any_of HT_.out (by kernel_rfl)) (fun _ _ _ h => h) (Or.inl ⟨by rfl, ?_⟩) ?_ ?_
            rotate_left
            · intro w'
              go_simp
              with_reducible rfl
            rotate_left
            · simp only [Act.put, List.setIfInBounds_toArray, List.set_cons_zero, List.set_cons_succ, i64_w, i32_w]
              rfl
            refine pure_ (i := 6) (N := some 24) (v := ?_) (a' := ?_) #[true, true, true, true, true, true, true, false] rfl rfl (any_of HT_.out (by kernel_rfl)) (fun _ _ _ h => h) (Or.inl ⟨by rfl, ?_⟩) ?_ ?_
            rotate_left
            · intro w'
              go_simp
              with_reducible rfl
            rotate_left
            · simp only [Act.put, List.setIfInBounds_toArray, List.set_cons_zero, List.set_cons_succ, i64_w, i32_w]
              rfl
            refine one_ (i := 7) (N := none) #[true, true, true, true, true, true, true, true] rfl rfl (one_of HT_.out (by kernel_rfl)) (by decide) (fun K hK => ?_)
            have hs12 : w11.cell? ⟨gb197, 0, none⟩ = some (.int .i64 0) := (blk_cell BK197.out 0).trans rfl
            have hfs12 := blk_frozen BK197.out 0
            have hs13 : w11.cell? ⟨gb197, 1, none⟩ = some (.int .i64 0) := (blk_cell BK197.out 1).trans rfl
            have hfs13 := blk_frozen BK197.out 1
            refine skip_ (w1 := ?_) (by rfl) rfl ?_ ?_
            rotate_left
            · go_simp
              rfl
            refine hK.out _ _ trivial (fun hHeld => ?_)
            clear hK K
            refine done_ (done_of HT_.out (by kernel_rfl)) ?_
            try go_wp2
            refine bodyPost_ret (results_cell_row rfl _ _ gb197 35 #[.int .i64 (wrap64 (Int.tdiv a0 x5_1)), .int .i64 (wrap64 (Int.tdiv a1 x5_1))] (0, 0) _ rfl (by (with_reducible repeat (first | refine blk_drewN ?_ _ | refine blk_drew ?_ | refine blk_alloc ?_ _)); refine blk_put (cs := #[.int .i64 (wrap64 (Int.tdiv a0 x5_1)), .int .i64 0]) ?_ 1 _ rfl; (with_reducible repeat (first | refine blk_drewN ?_ _ | refine blk_drew ?_ | refine blk_alloc ?_ _)); refine blk_put (cs := #[.int .i64 0, .int .i64 0]) ?_ 0 _ rfl; (with_reducible repeat (first | refine blk_drewN ?_ _ | refine blk_drew ?_ | refine blk_alloc ?_ _)); exact BK197.out) Try.underlying35 rfl (by kernel_rfl)) rfl ?_
            exact ⟨by first | rfl | (simp [errW_none, errW_some] <;> rfl) | (simp [*, errW_none, errW_some] <;> rfl), by repeat (first | (with_reducible first | exact HB.out | apply below_alloc | apply pw_below_drewN | apply below_drew1 | refine below_set ?_ GE197.out) | exact HB.out)⟩
def cmp_Compare_string.f (a0 : ByteArray) (a1 : ByteArray) : Option (Int) := some (cmpS a0 a1)
set_option maxHeartbeats 8000000 in
set_option maxRecDepth 100000 in
theorem cmp_Compare_string.calls (a0 : ByteArray) (a1 : ByteArray) (r : Int) (w : World) (h : cmp_Compare_string.f a0 a1 = some r) :
    Calls Try.prog 74 #[.string a0, .string a1] w fun e w' => e = .returned (.int .i64 r) ∧ Drawn0 w w' := by
  obtain rfl := Option.some.inj h
  have hg : ∀ t, binOp .gtr t (.string a0) (.string a1) = pure (.bool !(Op.bytesLess a0.toList a1.toList || a0.toList == a1.toList)) := fun t => by simp [binOp, Op.stringOp]
  clear h
  unfold cmpS
  by_cases hl : Op.bytesLess a0.toList a1.toList = true
  · rw [if_pos hl]
    go_enter Try.func74, Try.ntmps74
    go_wp2
    go_ret
    exact ⟨rfl, by repeat (first | exact Drawn0.refl _ | apply Drawn0.step)⟩
  · rw [if_neg hl]
    have hl2 : Op.bytesLess a0.toList a1.toList = false := by simpa using hl
    clear hl
    by_cases he : a0.toList = a1.toList
    · rw [if_pos he]
      have he2 : (a0.toList == a1.toList) = true := beq_iff_eq.mpr he
      clear he
      go_enter Try.func74, Try.ntmps74
      go_wp2
      go_ret
      exact ⟨rfl, by repeat (first | exact Drawn0.refl _ | apply Drawn0.step)⟩
    · rw [if_neg he]
      have he2 : (a0.toList == a1.toList) = false := beq_eq_false_iff_ne.mpr he
      clear he
      go_enter Try.func74, Try.ntmps74
      go_wp2
      go_ret
      exact ⟨rfl, by repeat (first | exact Drawn0.refl _ | apply Drawn0.step)⟩
end Go.Proofs.Ytbamfhcifpfocaa.Ph
