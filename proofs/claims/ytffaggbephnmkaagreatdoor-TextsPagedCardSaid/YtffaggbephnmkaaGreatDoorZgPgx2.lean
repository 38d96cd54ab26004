/- Part of the proof that the law textsPaged is true for every input. No conditions. Laid by a program of this session over the kit's print and words; declarations that nothing names are left out. -/
import Derived.Test.YtffaggbephnmkaaGreatDoorZgPgx0
import Derived.Test.YtffaggbephnmkaaGreatDoorZgPgx1
namespace Go.Proofs.YtffaggbephnmkaaGreatDoor.Pg
open Go.RowKit Go.Proofs.YtffaggbephnmkaaGreatDoor.GBase Go.Proofs.YtffaggbephnmkaaGreatDoorW.PrintWords Go.Proofs.YtffaggbephnmkaaGreatDoorW.PrintLast Go.Proofs.YtffaggbephnmkaaGreatDoorW.PrintMore
attribute [local go_sem] str_leq max2_int min2_int max_two min_two max_three min_three max_four min_four
set_option linter.unusedVariables false
set_option linter.unusedSimpArgs false
set_option maxHeartbeats 8000000 in
set_option maxRecDepth 100000 in
theorem chasemake_Stream_Papers.calls (k : Nat) (g : Nat) (s0_0 : List Int) (s0_1 : Int) (a1 : Int) (r1 : List (S55)) (r2 : Int) (w0 w : World) (hI : IsS25 w0 w g s0_0 s0_1) (hB : Below w0.heap.size w0 w) (h : chasemake_Stream_Papers.f k s0_0 s0_1 a1 = some (r1, r2)) :
  Calls Tryz.prog 22 #[.pointer (some ⟨g, 0, none⟩), .int .i64 a1] w fun e w' => ∃ v0_ : Value, e = .returned (v0_) ∧ Kd.R k55 55 w' w.heap.size (fun _ => True) v0_ r1 ∧ IsS25 w0 w' g s0_0 r2 ∧ Below w0.heap.size w0 w' ∧ KeepBut w w' g none := by
 have hu55 := Tryz.underlying55
 have HI0 := Aside0.mk hI
 have HK := Aside0.mk (KeepBut.refl w g none)
 have HL := Aside0.mk hB.size
 clear hI
 have HW0 := Aside0.mk hB.size
 have HB := Aside0.mk hB
 clear hB
 have H : ((chasemake_Stream_Next.f s0_0 s0_1 (wrap64 (a1 + 1))).bind fun bt113 => (chasemake_Stream_Papers.l0 k ([] : List (S55)) bt113.1 0 s0_0 bt113.2)) = some (r1, r2) := h
 clear h
 replace H := Option.bind_eq_some_iff.mp H
 obtain ⟨⟨t113, t114⟩, A30, H⟩ := H
 replace H : (chasemake_Stream_Papers.l0 k ([] : List (S55)) t113 0 s0_0 t114) = some (r1, r2) := H
 have A3 := Aside0.mk A30
 clear A30
 have H' := Aside0.mk H
 clear H
 go_enter Tryz.func22, Tryz.ntmps22
 go_wp2_with (first | ((with_reducible refine gate_callee (f := 37) rfl ?_); refine goesL_ (some 12) rfl rfl Tryz.func37 (by kernel_rfl) rfl #[.pointer (some ⟨g, 0, none⟩), .int .i64 (wrap64 (a1 + 1))] rfl (by (try simp only [List.map_toArray, List.map_cons, List.map_nil]); first | done | rfl | (simp only [List.length_drop, List.length_take]; rfl)) ?_; (with_reducible refine (chasemake_Stream_Next.calls g s0_0 s0_1 (wrap64 (a1 + 1)) t113 t114 w0 _ ?side1 ?side2 A3.out).mono ?_); (case side1 => repeat (first | (with_reducible first | exact HI0.out | apply IsS25.alloc | apply IsS25.drewN | apply IsS25.drew | apply IsS25.set_1) | exact HI0.out)); (case side2 => repeat (first | (with_reducible first | exact HB.out | apply below_alloc | apply pw_below_drewN | apply below_drew1 | refine below_set ?_ (IsS25.ge HI0.out)) | exact HB.out)); rintro e w4 ⟨rfl, hi, hb, hk⟩; refine ⟨_, rfl, ?_⟩; have n0_ := Aside0.mk (KeepBut.trans (by repeat (first | (with_reducible first | exact HK.out | apply KeepBut.set_ | apply keep_drewN | apply keep_drew | apply keep_alloc) | exact HK.out)) hk (.inl rfl)); have n1_ := Aside0.mk (hb); have n2_ := Aside0.mk (hi); clear HK; clear HB; clear HI0; have HK := n0_; have HB := n1_; have HI0 := n2_; clear n0_ n1_ n2_; (try clear hb); (try clear hb2); (try clear hk); (try clear hi)))
 go_loopg [5, 13] k (fun kq v5 v13 w' => ∃ (x5_1 : List (S55)) (x13_1 : Int) (x1001_1 : Int), v13 = .int .i64 x13_1 ∧ Aside0 (chasemake_Stream_Papers.l0 kq x5_1 t113 x13_1 s0_0 x1001_1 = some (r1, r2)) ∧ Aside0 (kq ≤ k) ∧ Aside0 (Kd.R k55 55 w' w.heap.size (fun _ => True) v5 x5_1) ∧ Aside0 (IsS25 w0 w' g s0_0 x1001_1) ∧ Aside0 (KeepBut w w' g none) ∧ Aside0 (Below w0.heap.size w0 w'))
 case atStart => exact ⟨(([] : List (S55))), (0), (t114), (by first | rfl | (simp; done) | (simp [*]; done)), H', ⟨Nat.le_refl _⟩, ⟨by first | exact Kd.R_nil _ _ _ _ _ | exact Kd.N_nil _ _ _ _ _ | exact Kd.V_nil _ _ _ _ _ | exact Kd.Q_nil _ _ _ _ _ | exact Kd.S_nil _ _ _ _ _⟩, ⟨by repeat (first | (with_reducible first | exact HI0.out | apply IsS25.alloc | apply IsS25.drewN | apply IsS25.drew | apply IsS25.set_1) | exact HI0.out)⟩, ⟨by repeat (first | (with_reducible first | exact HK.out | apply KeepBut.set_ | apply keep_drewN | apply keep_drew | apply keep_alloc) | exact HK.out)⟩, ⟨by repeat (first | (with_reducible first | exact HB.out | apply below_alloc | apply pw_below_drewN | apply below_drew1 | refine below_set ?_ (IsS25.ge HI0.out)) | exact HB.out)⟩⟩
 case round =>
  clear H'
  try clear c2
  try clear p2
  try clear c3
  obtain ⟨x5_1, x13_1, x1001_1, rfl, HA, HK1, HO_5, HI0, HK, HB⟩ := hrel
  cases gk with
  | zero => exact absurd HA.out (by simp [chasemake_Stream_Papers.l0])
  | succ k1 =>
   have H := HA.out
   clear HA
   simp only [chasemake_Stream_Papers.l0] at H
   by_cases c5 : x13_1 < t113
   ·rw [if_pos c5] at H
    have c5b0 : decide (x13_1 < t113) = true := decide_eq_true c5
    clear c5
    by_cases c6 : 1 + (Utf8.encode (wrap32 (wrap64 (97 + x13_1)))).size ≤ 9223372036854775807
    ·rw [if_pos c6] at H
     have c6b0 := eq_true c6
     have c6b1 : decide (1 + (Utf8.encode (wrap32 (wrap64 (97 + x13_1)))).size ≤ 9223372036854775807) = true := decide_eq_true c6
     try have c6b2 : (9223372036854775807 < 1 + (Utf8.encode (wrap32 (wrap64 (97 + x13_1)))).size) = False := eq_false (Nat.not_lt.2 c6)
     obtain ⟨y115, hy115⟩ : ∃ y_ : List ByteArray, y_ = (([(⟨#[97, 110, 110]⟩ : ByteArray), (⟨#[98, 111]⟩ : ByteArray)] : List ByteArray)) := ⟨_, rfl⟩
     replace H : ((chasemake_Stream_h06one.f s0_0 x1001_1 y115).bind fun bt118 => ((chasemake_Stream_Pick.f s0_0 bt118.2 (([1, 3, 2, 4] : List Int))).bind fun bt123 => ((chasemake_Stream_Pick.f s0_0 bt123.2 (([0, 5, 5, 40, 1440] : List Int))).bind fun bt128 => ((chasemake_Stream_h06one.f s0_0 bt128.2 (([(⟨#[]⟩ : ByteArray), (⟨#[120]⟩ : ByteArray)] : List ByteArray))).bind fun bt133 => ((chasemake_Stream_Next.f s0_0 bt133.2 6).bind fun bt136 => (chasemake_Stream_Papers.l1 k1 x5_1 x13_1 t113 x13_1 bt136.1 0 s0_0 bt136.2 ((⟨#[105]⟩ : ByteArray) ++ (Utf8.encode (wrap32 (wrap64 (97 + x13_1))))) bt118.1 bt123.1 bt133.1 bt128.1 (⟨#[]⟩ : ByteArray) (⟨#[]⟩ : ByteArray))))))) = some (r1, r2) := by first | (rw [hy115]; with_reducible exact H) | (have H2_ := (Option.bind_some _ _).symm.trans H; rw [hy115]; with_reducible exact H2_) | (have H2_ := (Option.bind_some _ _).symm.trans H; with_reducible exact H2_) | with_reducible exact H | (rw [hy115]; exact H) | exact H
     have Ny115 := Aside0.mk hy115
     clear hy115
     replace H := Option.bind_eq_some_iff.mp H
     obtain ⟨⟨t118, t119⟩, A70, H⟩ := H
     replace H : ((chasemake_Stream_Pick.f s0_0 t119 (([1, 3, 2, 4] : List Int))).bind fun bt123 => ((chasemake_Stream_Pick.f s0_0 bt123.2 (([0, 5, 5, 40, 1440] : List Int))).bind fun bt128 => ((chasemake_Stream_h06one.f s0_0 bt128.2 (([(⟨#[]⟩ : ByteArray), (⟨#[120]⟩ : ByteArray)] : List ByteArray))).bind fun bt133 => ((chasemake_Stream_Next.f s0_0 bt133.2 6).bind fun bt136 => (chasemake_Stream_Papers.l1 k1 x5_1 x13_1 t113 x13_1 bt136.1 0 s0_0 bt136.2 ((⟨#[105]⟩ : ByteArray) ++ (Utf8.encode (wrap32 (wrap64 (97 + x13_1))))) t118 bt123.1 bt133.1 bt128.1 (⟨#[]⟩ : ByteArray) (⟨#[]⟩ : ByteArray)))))) = some (r1, r2) := H
     have A7 := Aside0.mk A70
     clear A70
     obtain ⟨y120, hy120⟩ : ∃ y_ : List Int, y_ = (([1, 3, 2, 4] : List Int)) := ⟨_, rfl⟩
     replace H : ((chasemake_Stream_Pick.f s0_0 t119 y120).bind fun bt123 => ((chasemake_Stream_Pick.f s0_0 bt123.2 (([0, 5, 5, 40, 1440] : List Int))).bind fun bt128 => ((chasemake_Stream_h06one.f s0_0 bt128.2 (([(⟨#[]⟩ : ByteArray), (⟨#[120]⟩ : ByteArray)] : List ByteArray))).bind fun bt133 => ((chasemake_Stream_Next.f s0_0 bt133.2 6).bind fun bt136 => (chasemake_Stream_Papers.l1 k1 x5_1 x13_1 t113 x13_1 bt136.1 0 s0_0 bt136.2 ((⟨#[105]⟩ : ByteArray) ++ (Utf8.encode (wrap32 (wrap64 (97 + x13_1))))) t118 bt123.1 bt133.1 bt128.1 (⟨#[]⟩ : ByteArray) (⟨#[]⟩ : ByteArray)))))) = some (r1, r2) := by first | (rw [hy120]; with_reducible exact H) | (have H2_ := (Option.bind_some _ _).symm.trans H; rw [hy120]; with_reducible exact H2_) | (have H2_ := (Option.bind_some _ _).symm.trans H; with_reducible exact H2_) | with_reducible exact H | (rw [hy120]; exact H) | exact H
     have Ny120 := Aside0.mk hy120
     clear hy120
     replace H := Option.bind_eq_some_iff.mp H
     obtain ⟨⟨t123, t124⟩, A80, H⟩ := H
     replace H : ((chasemake_Stream_Pick.f s0_0 t124 (([0, 5, 5, 40, 1440] : List Int))).bind fun bt128 => ((chasemake_Stream_h06one.f s0_0 bt128.2 (([(⟨#[]⟩ : ByteArray), (⟨#[120]⟩ : ByteArray)] : List ByteArray))).bind fun bt133 => ((chasemake_Stream_Next.f s0_0 bt133.2 6).bind fun bt136 => (chasemake_Stream_Papers.l1 k1 x5_1 x13_1 t113 x13_1 bt136.1 0 s0_0 bt136.2 ((⟨#[105]⟩ : ByteArray) ++ (Utf8.encode (wrap32 (wrap64 (97 + x13_1))))) t118 t123 bt133.1 bt128.1 (⟨#[]⟩ : ByteArray) (⟨#[]⟩ : ByteArray))))) = some (r1, r2) := H
     have A8 := Aside0.mk A80
     clear A80
     obtain ⟨y125, hy125⟩ : ∃ y_ : List Int, y_ = (([0, 5, 5, 40, 1440] : List Int)) := ⟨_, rfl⟩
     replace H : ((chasemake_Stream_Pick.f s0_0 t124 y125).bind fun bt128 => ((chasemake_Stream_h06one.f s0_0 bt128.2 (([(⟨#[]⟩ : ByteArray), (⟨#[120]⟩ : ByteArray)] : List ByteArray))).bind fun bt133 => ((chasemake_Stream_Next.f s0_0 bt133.2 6).bind fun bt136 => (chasemake_Stream_Papers.l1 k1 x5_1 x13_1 t113 x13_1 bt136.1 0 s0_0 bt136.2 ((⟨#[105]⟩ : ByteArray) ++ (Utf8.encode (wrap32 (wrap64 (97 + x13_1))))) t118 t123 bt133.1 bt128.1 (⟨#[]⟩ : ByteArray) (⟨#[]⟩ : ByteArray))))) = some (r1, r2) := by first | (rw [hy125]; with_reducible exact H) | (have H2_ := (Option.bind_some _ _).symm.trans H; rw [hy125]; with_reducible exact H2_) | (have H2_ := (Option.bind_some _ _).symm.trans H; with_reducible exact H2_) | with_reducible exact H | (rw [hy125]; exact H) | exact H
     have Ny125 := Aside0.mk hy125
     clear hy125
     replace H := Option.bind_eq_some_iff.mp H
     obtain ⟨⟨t128, t129⟩, A90, H⟩ := H
     replace H : ((chasemake_Stream_h06one.f s0_0 t129 (([(⟨#[]⟩ : ByteArray), (⟨#[120]⟩ : ByteArray)] : List ByteArray))).bind fun bt133 => ((chasemake_Stream_Next.f s0_0 bt133.2 6).bind fun bt136 => (chasemake_Stream_Papers.l1 k1 x5_1 x13_1 t113 x13_1 bt136.1 0 s0_0 bt136.2 ((⟨#[105]⟩ : ByteArray) ++ (Utf8.encode (wrap32 (wrap64 (97 + x13_1))))) t118 t123 bt133.1 t128 (⟨#[]⟩ : ByteArray) (⟨#[]⟩ : ByteArray)))) = some (r1, r2) := H
     have A9 := Aside0.mk A90
     clear A90
     obtain ⟨y130, hy130⟩ : ∃ y_ : List ByteArray, y_ = (([(⟨#[]⟩ : ByteArray), (⟨#[120]⟩ : ByteArray)] : List ByteArray)) := ⟨_, rfl⟩
     replace H : ((chasemake_Stream_h06one.f s0_0 t129 y130).bind fun bt133 => ((chasemake_Stream_Next.f s0_0 bt133.2 6).bind fun bt136 => (chasemake_Stream_Papers.l1 k1 x5_1 x13_1 t113 x13_1 bt136.1 0 s0_0 bt136.2 ((⟨#[105]⟩ : ByteArray) ++ (Utf8.encode (wrap32 (wrap64 (97 + x13_1))))) t118 t123 bt133.1 t128 (⟨#[]⟩ : ByteArray) (⟨#[]⟩ : ByteArray)))) = some (r1, r2) := by first | (rw [hy130]; with_reducible exact H) | (have H2_ := (Option.bind_some _ _).symm.trans H; rw [hy130]; with_reducible exact H2_) | (have H2_ := (Option.bind_some _ _).symm.trans H; with_reducible exact H2_) | with_reducible exact H | (rw [hy130]; exact H) | exact H
     have Ny130 := Aside0.mk hy130
     clear hy130
     replace H := Option.bind_eq_some_iff.mp H
     obtain ⟨⟨t133, t134⟩, A100, H⟩ := H
     replace H : ((chasemake_Stream_Next.f s0_0 t134 6).bind fun bt136 => (chasemake_Stream_Papers.l1 k1 x5_1 x13_1 t113 x13_1 bt136.1 0 s0_0 bt136.2 ((⟨#[105]⟩ : ByteArray) ++ (Utf8.encode (wrap32 (wrap64 (97 + x13_1))))) t118 t123 t133 t128 (⟨#[]⟩ : ByteArray) (⟨#[]⟩ : ByteArray))) = some (r1, r2) := H
     have A10 := Aside0.mk A100
     clear A100
     replace H := Option.bind_eq_some_iff.mp H
     obtain ⟨⟨t136, t137⟩, A110, H⟩ := H
     replace H : (chasemake_Stream_Papers.l1 k1 x5_1 x13_1 t113 x13_1 t136 0 s0_0 t137 ((⟨#[105]⟩ : ByteArray) ++ (Utf8.encode (wrap32 (wrap64 (97 + x13_1))))) t118 t123 t133 t128 (⟨#[]⟩ : ByteArray) (⟨#[]⟩ : ByteArray)) = some (r1, r2) := H
     have A11 := Aside0.mk A110
     clear A110
     have H' := Aside0.mk H
     clear H
     go_wp2_with (first | ((with_reducible refine gate_dst (N := 22) rfl ?_); refine Kd.R_lit Kd.string _ 9 ?hg (N := 22) ?hd (xs := ([(⟨#[97, 110, 110]⟩ : ByteArray), (⟨#[98, 111]⟩ : ByteArray)] : List ByteArray)) (inner := [.string (⟨#[97, 110, 110]⟩ : ByteArray), .string (⟨#[98, 111]⟩ : ByteArray)]) (ok := fun _ => True) (okp := fun _ => True) ?hr ?hp (fun _ hk => hk) trivial (Below.refl _ _) (Nat.le_refl _) (by simp) ?_; (case hd => rfl); (case hg => rfl); (case hr => first | (go_simp; done) | (go_simp; rfl)); (case hp => exact (Reps.one (show Kd.M Kd.string _ _ _ (⟨#[97, 110, 110]⟩ : ByteArray) [.string (⟨#[97, 110, 110]⟩ : ByteArray)] from rfl) (Reps.one (show Kd.M Kd.string _ _ _ (⟨#[98, 111]⟩ : ByteArray) [.string (⟨#[98, 111]⟩ : ByteArray)] from rfl) (Reps.none _ _)))); intro v116 w12 ho13 hb hg_ hnew_; clear hg_ hnew_; (first | rw [← Ny115.out] at ho13 | (simp only [Int.reduceToNat] at ho13; rw [← Ny115.out] at ho13)); have n0_ := Aside0.mk (Kd.R_below (by (with_reducible repeat (first | apply Kd.R_alloc | apply Kd.R_drewN | apply Kd.R_drew)); exact HO_5.out) hb); have n1_ := Aside0.mk (Kd.R_lower ho13 (keep_size (w := w) (g := g) (row := none) (by repeat (first | (with_reducible first | exact HK.out | apply KeepBut.set_ | apply keep_drewN | apply keep_drew | apply keep_alloc) | exact HK.out)))); have n2_ := Aside0.mk (IsS25.below (by repeat (first | (with_reducible first | exact HI0.out | apply IsS25.alloc | apply IsS25.drewN | apply IsS25.drew | apply IsS25.set_1) | exact HI0.out)) hb); have n3_ := Aside0.mk (KeepBut.trans (by repeat (first | (with_reducible first | exact HK.out | apply KeepBut.set_ | apply keep_drewN | apply keep_drew | apply keep_alloc) | exact HK.out)) (KeepBut.of_below hb g none) (.inl rfl)); have n4_ := Aside0.mk (below_step (by repeat (first | (with_reducible first | exact HB.out | apply below_alloc | apply pw_below_drewN | apply below_drew1 | refine below_set ?_ (IsS25.ge HI0.out)) | exact HB.out)) hb); clear HO_5; clear HI0; clear HK; clear HB; have HO_5 := n0_; have HO117 := n1_; have HI0 := n2_; have HK := n3_; have HB := n4_; clear n0_ n1_ n2_ n3_ n4_; clear hb ho13; obtain ⟨Ao14, co14, eo14⟩ := Kd.R_slice HO117.out; subst eo14) | ((with_reducible refine gate_callee (f := 24) rfl ?_); refine goesL_ (some 23) rfl rfl Tryz.func24 (by kernel_rfl) rfl #[.pointer (some ⟨g, 0, none⟩), .slice Ao14 y115.length co14] rfl (by (try simp only [List.map_toArray, List.map_cons, List.map_nil]); first | done | rfl | (simp only [List.length_drop, List.length_take]; rfl)) ?_; (with_reducible refine (chasemake_Stream_h06one.calls g s0_0 x1001_1 _ _ y115 t118 t119 w0 _ ?side1 ?side2 ?side3 ?side4 ?side5 A7.out).mono ?_); (case side1 => repeat (first | (with_reducible first | exact HI0.out | apply IsS25.alloc | apply IsS25.drewN | apply IsS25.drew | apply IsS25.set_1) | exact HI0.out)); (case side2 => repeat (first | (with_reducible first | exact HB.out | apply below_alloc | apply pw_below_drewN | apply below_drew1 | refine below_set ?_ (IsS25.ge HI0.out)) | exact HB.out)); (case side3 => repeat (first | exact (Kd.R_reads' HO117.out).2.2 | (with_reducible refine Kd.C_alloc ?_ _) | (with_reducible refine Kd.C_drewN ?_ _) | (with_reducible refine Kd.C_drew ?_))); (case side4 => exact (Kd.R_reads' HO117.out).2.1); (case side5 => exact far_slice (IsS25.own_ne HI0.out HO117.out (by decide))); rintro e w15 ⟨rfl, hi, hb, hk⟩; refine ⟨_, rfl, ?_⟩; have n0_ := Aside0.mk (Kd.R_mono (Kd.R_keep (IsS25.apart (show IsS25 w0 _ g s0_0 x1001_1 from by repeat (first | (with_reducible first | exact HI0.out | apply IsS25.alloc | apply IsS25.drewN | apply IsS25.drew | apply IsS25.set_1) | exact HI0.out)) (by (with_reducible repeat (first | apply Kd.R_alloc | apply Kd.R_drewN | apply Kd.R_drew)); exact HO_5.out) (by decide)) hk (fun _ h => h.2)) (fun _ h => h.1)); have n1_ := Aside0.mk (Kd.R_mono (Kd.R_keep (IsS25.apart (show IsS25 w0 _ g s0_0 x1001_1 from by repeat (first | (with_reducible first | exact HI0.out | apply IsS25.alloc | apply IsS25.drewN | apply IsS25.drew | apply IsS25.set_1) | exact HI0.out)) (by (with_reducible repeat (first | apply Kd.R_alloc | apply Kd.R_drewN | apply Kd.R_drew)); exact HO117.out) (by decide)) hk (fun _ h => h.2)) (fun _ h => h.1)); have n2_ := Aside0.mk (KeepBut.trans (by repeat (first | (with_reducible first | exact HK.out | apply KeepBut.set_ | apply keep_drewN | apply keep_drew | apply keep_alloc) | exact HK.out)) hk (.inl rfl)); have n3_ := Aside0.mk (hb); have n4_ := Aside0.mk (hi); clear HO_5; clear HO117; clear HK; clear HB; clear HI0; have HO_5 := n0_; have HO117 := n1_; have HK := n2_; have HB := n3_; have HI0 := n4_; clear n0_ n1_ n2_ n3_ n4_; (try clear hb); (try clear hb2); (try clear hk); (try clear hi)) | ((with_reducible refine gate_dst (N := 25) rfl ?_); refine Kd.R_lit (Kd.int .i64) _ 3 ?hg (N := 25) ?hd (xs := ([1, 3, 2, 4] : List Int)) (inner := [.int .i64 1, .int .i64 3, .int .i64 2, .int .i64 4]) (ok := fun _ => True) (okp := fun _ => True) ?hr ?hp (fun _ hk => hk) trivial (Below.refl _ _) (Nat.le_refl _) (by simp) ?_; (case hd => rfl); (case hg => rfl); (case hr => first | (go_simp; done) | (go_simp; rfl)); (case hp => exact (Reps.one (show Kd.M (Kd.int .i64) _ _ _ 1 [.int .i64 1] from rfl) (Reps.one (show Kd.M (Kd.int .i64) _ _ _ 3 [.int .i64 3] from rfl) (Reps.one (show Kd.M (Kd.int .i64) _ _ _ 2 [.int .i64 2] from rfl) (Reps.one (show Kd.M (Kd.int .i64) _ _ _ 4 [.int .i64 4] from rfl) (Reps.none _ _)))))); intro v121 w16 ho17 hb hg_ hnew_; clear hg_ hnew_; (first | rw [← Ny120.out] at ho17 | (simp only [Int.reduceToNat] at ho17; rw [← Ny120.out] at ho17)); have n0_ := Aside0.mk (Kd.R_below (by (with_reducible repeat (first | apply Kd.R_alloc | apply Kd.R_drewN | apply Kd.R_drew)); exact HO_5.out) hb); have n1_ := Aside0.mk (Kd.R_below (by (with_reducible repeat (first | apply Kd.R_alloc | apply Kd.R_drewN | apply Kd.R_drew)); exact HO117.out) hb); have n2_ := Aside0.mk (Kd.R_lower ho17 (keep_size (w := w) (g := g) (row := none) (by repeat (first | (with_reducible first | exact HK.out | apply KeepBut.set_ | apply keep_drewN | apply keep_drew | apply keep_alloc) | exact HK.out)))); have n3_ := Aside0.mk (IsS25.below (by repeat (first | (with_reducible first | exact HI0.out | apply IsS25.alloc | apply IsS25.drewN | apply IsS25.drew | apply IsS25.set_1) | exact HI0.out)) hb); have n4_ := Aside0.mk (KeepBut.trans (by repeat (first | (with_reducible first | exact HK.out | apply KeepBut.set_ | apply keep_drewN | apply keep_drew | apply keep_alloc) | exact HK.out)) (KeepBut.of_below hb g none) (.inl rfl)); have n5_ := Aside0.mk (below_step (by repeat (first | (with_reducible first | exact HB.out | apply below_alloc | apply pw_below_drewN | apply below_drew1 | refine below_set ?_ (IsS25.ge HI0.out)) | exact HB.out)) hb); clear HO_5; clear HO117; clear HI0; clear HK; clear HB; have HO_5 := n0_; have HO117 := n1_; have HO122 := n2_; have HI0 := n3_; have HK := n4_; have HB := n5_; clear n0_ n1_ n2_ n3_ n4_ n5_; clear hb ho17; obtain ⟨Ao18, co18, eo18⟩ := Kd.R_slice HO122.out; subst eo18) | ((with_reducible refine gate_callee (f := 47) rfl ?_); refine goesL_ (some 26) rfl rfl Tryz.func47 (by kernel_rfl) rfl #[.pointer (some ⟨g, 0, none⟩), .slice Ao18 y120.length co18] rfl (by (try simp only [List.map_toArray, List.map_cons, List.map_nil]); first | done | rfl | (simp only [List.length_drop, List.length_take]; rfl)) ?_; (with_reducible refine (chasemake_Stream_Pick.calls g s0_0 t119 _ _ y120 t123 t124 w0 _ ?side1 ?side2 ?side3 ?side4 ?side5 A8.out).mono ?_); (case side1 => repeat (first | (with_reducible first | exact HI0.out | apply IsS25.alloc | apply IsS25.drewN | apply IsS25.drew | apply IsS25.set_1) | exact HI0.out)); (case side2 => repeat (first | (with_reducible first | exact HB.out | apply below_alloc | apply pw_below_drewN | apply below_drew1 | refine below_set ?_ (IsS25.ge HI0.out)) | exact HB.out)); (case side3 => repeat (first | exact (Kd.R_reads' HO122.out).2.2 | (with_reducible refine Kd.C_alloc ?_ _) | (with_reducible refine Kd.C_drewN ?_ _) | (with_reducible refine Kd.C_drew ?_))); (case side4 => exact (Kd.R_reads' HO122.out).2.1); (case side5 => exact far_slice (IsS25.own_ne HI0.out HO122.out (by decide))); rintro e w19 ⟨rfl, hi, hb, hk⟩; refine ⟨_, rfl, ?_⟩; have n0_ := Aside0.mk (Kd.R_mono (Kd.R_keep (IsS25.apart (show IsS25 w0 _ g s0_0 t119 from by repeat (first | (with_reducible first | exact HI0.out | apply IsS25.alloc | apply IsS25.drewN | apply IsS25.drew | apply IsS25.set_1) | exact HI0.out)) (by (with_reducible repeat (first | apply Kd.R_alloc | apply Kd.R_drewN | apply Kd.R_drew)); exact HO_5.out) (by decide)) hk (fun _ h => h.2)) (fun _ h => h.1)); have n1_ := Aside0.mk (Kd.R_mono (Kd.R_keep (IsS25.apart (show IsS25 w0 _ g s0_0 t119 from by repeat (first | (with_reducible first | exact HI0.out | apply IsS25.alloc | apply IsS25.drewN | apply IsS25.drew | apply IsS25.set_1) | exact HI0.out)) (by (with_reducible repeat (first | apply Kd.R_alloc | apply Kd.R_drewN | apply Kd.R_drew)); exact HO117.out) (by decide)) hk (fun _ h => h.2)) (fun _ h => h.1)); have n2_ := Aside0.mk (Kd.R_mono (Kd.R_keep (IsS25.apart (show IsS25 w0 _ g s0_0 t119 from by repeat (first | (with_reducible first | exact HI0.out | apply IsS25.alloc | apply IsS25.drewN | apply IsS25.drew | apply IsS25.set_1) | exact HI0.out)) (by (with_reducible repeat (first | apply Kd.R_alloc | apply Kd.R_drewN | apply Kd.R_drew)); exact HO122.out) (by decide)) hk (fun _ h => h.2)) (fun _ h => h.1)); have n3_ := Aside0.mk (KeepBut.trans (by repeat (first | (with_reducible first | exact HK.out | apply KeepBut.set_ | apply keep_drewN | apply keep_drew | apply keep_alloc) | exact HK.out)) hk (.inl rfl)); have n4_ := Aside0.mk (hb); have n5_ := Aside0.mk (hi); clear HO_5; clear HO117; clear HO122; clear HK; clear HB; clear HI0; have HO_5 := n0_; have HO117 := n1_; have HO122 := n2_; have HK := n3_; have HB := n4_; have HI0 := n5_; clear n0_ n1_ n2_ n3_ n4_ n5_; (try clear hb); (try clear hb2); (try clear hk); (try clear hi)) | ((with_reducible refine gate_dst (N := 28) rfl ?_); refine Kd.R_lit (Kd.int .i64) _ 3 ?hg (N := 28) ?hd (xs := ([0, 5, 5, 40, 1440] : List Int)) (inner := [.int .i64 0, .int .i64 5, .int .i64 5, .int .i64 40, .int .i64 1440]) (ok := fun _ => True) (okp := fun _ => True) ?hr ?hp (fun _ hk => hk) trivial (Below.refl _ _) (Nat.le_refl _) (by simp) ?_; (case hd => rfl); (case hg => rfl); (case hr => first | (go_simp; done) | (go_simp; rfl)); (case hp => exact (Reps.one (show Kd.M (Kd.int .i64) _ _ _ 0 [.int .i64 0] from rfl) (Reps.one (show Kd.M (Kd.int .i64) _ _ _ 5 [.int .i64 5] from rfl) (Reps.one (show Kd.M (Kd.int .i64) _ _ _ 5 [.int .i64 5] from rfl) (Reps.one (show Kd.M (Kd.int .i64) _ _ _ 40 [.int .i64 40] from rfl) (Reps.one (show Kd.M (Kd.int .i64) _ _ _ 1440 [.int .i64 1440] from rfl) (Reps.none _ _))))))); intro v126 w20 ho21 hb hg_ hnew_; clear hg_ hnew_; (first | rw [← Ny125.out] at ho21 | (simp only [Int.reduceToNat] at ho21; rw [← Ny125.out] at ho21)); have n0_ := Aside0.mk (Kd.R_below (by (with_reducible repeat (first | apply Kd.R_alloc | apply Kd.R_drewN | apply Kd.R_drew)); exact HO_5.out) hb); have n1_ := Aside0.mk (Kd.R_below (by (with_reducible repeat (first | apply Kd.R_alloc | apply Kd.R_drewN | apply Kd.R_drew)); exact HO117.out) hb); have n2_ := Aside0.mk (Kd.R_elder' (by (with_reducible repeat (first | apply Kd.R_alloc | apply Kd.R_drewN | apply Kd.R_drew)); exact HO122.out) (Kd.R_base ho21) hb); have n3_ := Aside0.mk (Kd.R_lower (Kd.R_new' ho21 (Kd.R_lt (by (with_reducible repeat (first | apply Kd.R_alloc | apply Kd.R_drewN | apply Kd.R_drew)); exact HO122.out))) (keep_size (w := w) (g := g) (row := none) (by repeat (first | (with_reducible first | exact HK.out | apply KeepBut.set_ | apply keep_drewN | apply keep_drew | apply keep_alloc) | exact HK.out)))); have n4_ := Aside0.mk (IsS25.below (by repeat (first | (with_reducible first | exact HI0.out | apply IsS25.alloc | apply IsS25.drewN | apply IsS25.drew | apply IsS25.set_1) | exact HI0.out)) hb); have n5_ := Aside0.mk (KeepBut.trans (by repeat (first | (with_reducible first | exact HK.out | apply KeepBut.set_ | apply keep_drewN | apply keep_drew | apply keep_alloc) | exact HK.out)) (KeepBut.of_below hb g none) (.inl rfl)); have n6_ := Aside0.mk (below_step (by repeat (first | (with_reducible first | exact HB.out | apply below_alloc | apply pw_below_drewN | apply below_drew1 | refine below_set ?_ (IsS25.ge HI0.out)) | exact HB.out)) hb); clear HO_5; clear HO117; clear HO122; clear HI0; clear HK; clear HB; have HO_5 := n0_; have HO117 := n1_; have HO122 := n2_; have HO127 := n3_; have HI0 := n4_; have HK := n5_; have HB := n6_; clear n0_ n1_ n2_ n3_ n4_ n5_ n6_; clear hb ho21; obtain ⟨Ao22, co22, eo22⟩ := Kd.R_slice HO127.out; subst eo22) | ((with_reducible refine gate_callee (f := 47) rfl ?_); refine goesL_ (some 29) rfl rfl Tryz.func47 (by kernel_rfl) rfl #[.pointer (some ⟨g, 0, none⟩), .slice Ao22 y125.length co22] rfl (by (try simp only [List.map_toArray, List.map_cons, List.map_nil]); first | done | rfl | (simp only [List.length_drop, List.length_take]; rfl)) ?_; (with_reducible refine (chasemake_Stream_Pick.calls g s0_0 t124 _ _ y125 t128 t129 w0 _ ?side1 ?side2 ?side3 ?side4 ?side5 A9.out).mono ?_); (case side1 => repeat (first | (with_reducible first | exact HI0.out | apply IsS25.alloc | apply IsS25.drewN | apply IsS25.drew | apply IsS25.set_1) | exact HI0.out)); (case side2 => repeat (first | (with_reducible first | exact HB.out | apply below_alloc | apply pw_below_drewN | apply below_drew1 | refine below_set ?_ (IsS25.ge HI0.out)) | exact HB.out)); (case side3 => repeat (first | exact (Kd.R_reads' HO127.out).2.2 | (with_reducible refine Kd.C_alloc ?_ _) | (with_reducible refine Kd.C_drewN ?_ _) | (with_reducible refine Kd.C_drew ?_))); (case side4 => exact (Kd.R_reads' HO127.out).2.1); (case side5 => exact far_slice (IsS25.own_ne HI0.out HO127.out (by decide))); rintro e w23 ⟨rfl, hi, hb, hk⟩; refine ⟨_, rfl, ?_⟩; have n0_ := Aside0.mk (Kd.R_mono (Kd.R_keep (IsS25.apart (show IsS25 w0 _ g s0_0 t124 from by repeat (first | (with_reducible first | exact HI0.out | apply IsS25.alloc | apply IsS25.drewN | apply IsS25.drew | apply IsS25.set_1) | exact HI0.out)) (by (with_reducible repeat (first | apply Kd.R_alloc | apply Kd.R_drewN | apply Kd.R_drew)); exact HO_5.out) (by decide)) hk (fun _ h => h.2)) (fun _ h => h.1)); have n1_ := Aside0.mk (Kd.R_mono (Kd.R_keep (IsS25.apart (show IsS25 w0 _ g s0_0 t124 from by repeat (first | (with_reducible first | exact HI0.out | apply IsS25.alloc | apply IsS25.drewN | apply IsS25.drew | apply IsS25.set_1) | exact HI0.out)) (by (with_reducible repeat (first | apply Kd.R_alloc | apply Kd.R_drewN | apply Kd.R_drew)); exact HO117.out) (by decide)) hk (fun _ h => h.2)) (fun _ h => h.1)); have n2_ := Aside0.mk (Kd.R_mono (Kd.R_keep (IsS25.apart (show IsS25 w0 _ g s0_0 t124 from by repeat (first | (with_reducible first | exact HI0.out | apply IsS25.alloc | apply IsS25.drewN | apply IsS25.drew | apply IsS25.set_1) | exact HI0.out)) (by (with_reducible repeat (first | apply Kd.R_alloc | apply Kd.R_drewN | apply Kd.R_drew)); exact HO122.out) (by decide)) hk (fun _ h => h.2)) (fun _ h => h.1)); have n3_ := Aside0.mk (Kd.R_mono (Kd.R_keep (IsS25.apart (show IsS25 w0 _ g s0_0 t124 from by repeat (first | (with_reducible first | exact HI0.out | apply IsS25.alloc | apply IsS25.drewN | apply IsS25.drew | apply IsS25.set_1) | exact HI0.out)) (by (with_reducible repeat (first | apply Kd.R_alloc | apply Kd.R_drewN | apply Kd.R_drew)); exact HO127.out) (by decide)) hk (fun _ h => h.2)) (fun _ h => h.1)); have n4_ := Aside0.mk (KeepBut.trans (by repeat (first | (with_reducible first | exact HK.out | apply KeepBut.set_ | apply keep_drewN | apply keep_drew | apply keep_alloc) | exact HK.out)) hk (.inl rfl)); have n5_ := Aside0.mk (hb); have n6_ := Aside0.mk (hi); clear HO_5; clear HO117; clear HO122; clear HO127; clear HK; clear HB; clear HI0; have HO_5 := n0_; have HO117 := n1_; have HO122 := n2_; have HO127 := n3_; have HK := n4_; have HB := n5_; have HI0 := n6_; clear n0_ n1_ n2_ n3_ n4_ n5_ n6_; (try clear hb); (try clear hb2); (try clear hk); (try clear hi)) | ((with_reducible refine gate_dst (N := 31) rfl ?_); refine Kd.R_lit Kd.string _ 9 ?hg (N := 31) ?hd (xs := ([(⟨#[]⟩ : ByteArray), (⟨#[120]⟩ : ByteArray)] : List ByteArray)) (inner := [.string (⟨#[]⟩ : ByteArray), .string (⟨#[120]⟩ : ByteArray)]) (ok := fun _ => True) (okp := fun _ => True) ?hr ?hp (fun _ hk => hk) trivial (Below.refl _ _) (Nat.le_refl _) (by simp) ?_; (case hd => rfl); (case hg => rfl); (case hr => first | (go_simp; done) | (go_simp; rfl)); (case hp => exact (Reps.one (show Kd.M Kd.string _ _ _ (⟨#[]⟩ : ByteArray) [.string (⟨#[]⟩ : ByteArray)] from rfl) (Reps.one (show Kd.M Kd.string _ _ _ (⟨#[120]⟩ : ByteArray) [.string (⟨#[120]⟩ : ByteArray)] from rfl) (Reps.none _ _)))); intro v131 w24 ho25 hb hg_ hnew_; clear hg_ hnew_; (first | rw [← Ny130.out] at ho25 | (simp only [Int.reduceToNat] at ho25; rw [← Ny130.out] at ho25)); have n0_ := Aside0.mk (Kd.R_below (by (with_reducible repeat (first | apply Kd.R_alloc | apply Kd.R_drewN | apply Kd.R_drew)); exact HO_5.out) hb); have n1_ := Aside0.mk (Kd.R_elder' (by (with_reducible repeat (first | apply Kd.R_alloc | apply Kd.R_drewN | apply Kd.R_drew)); exact HO117.out) (Kd.R_base ho25) hb); have n2_ := Aside0.mk (Kd.R_below (by (with_reducible repeat (first | apply Kd.R_alloc | apply Kd.R_drewN | apply Kd.R_drew)); exact HO122.out) hb); have n3_ := Aside0.mk (Kd.R_below (by (with_reducible repeat (first | apply Kd.R_alloc | apply Kd.R_drewN | apply Kd.R_drew)); exact HO127.out) hb); have n4_ := Aside0.mk (Kd.R_lower (Kd.R_new' ho25 (Kd.R_lt (by (with_reducible repeat (first | apply Kd.R_alloc | apply Kd.R_drewN | apply Kd.R_drew)); exact HO117.out))) (keep_size (w := w) (g := g) (row := none) (by repeat (first | (with_reducible first | exact HK.out | apply KeepBut.set_ | apply keep_drewN | apply keep_drew | apply keep_alloc) | exact HK.out)))); have n5_ := Aside0.mk (IsS25.below (by repeat (first | (with_reducible first | exact HI0.out | apply IsS25.alloc | apply IsS25.drewN | apply IsS25.drew | apply IsS25.set_1) | exact HI0.out)) hb); have n6_ := Aside0.mk (KeepBut.trans (by repeat (first | (with_reducible first | exact HK.out | apply KeepBut.set_ | apply keep_drewN | apply keep_drew | apply keep_alloc) | exact HK.out)) (KeepBut.of_below hb g none) (.inl rfl)); have n7_ := Aside0.mk (below_step (by repeat (first | (with_reducible first | exact HB.out | apply below_alloc | apply pw_below_drewN | apply below_drew1 | refine below_set ?_ (IsS25.ge HI0.out)) | exact HB.out)) hb); clear HO_5; clear HO117; clear HO122; clear HO127; clear HI0; clear HK; clear HB; have HO_5 := n0_; have HO117 := n1_; have HO122 := n2_; have HO127 := n3_; have HO132 := n4_; have HI0 := n5_; have HK := n6_; have HB := n7_; clear n0_ n1_ n2_ n3_ n4_ n5_ n6_ n7_; clear hb ho25; obtain ⟨Ao26, co26, eo26⟩ := Kd.R_slice HO132.out; subst eo26) | ((with_reducible refine gate_callee (f := 24) rfl ?_); refine goesL_ (some 32) rfl rfl Tryz.func24 (by kernel_rfl) rfl #[.pointer (some ⟨g, 0, none⟩), .slice Ao26 y130.length co26] rfl (by (try simp only [List.map_toArray, List.map_cons, List.map_nil]); first | done | rfl | (simp only [List.length_drop, List.length_take]; rfl)) ?_; (with_reducible refine (chasemake_Stream_h06one.calls g s0_0 t129 _ _ y130 t133 t134 w0 _ ?side1 ?side2 ?side3 ?side4 ?side5 A10.out).mono ?_); (case side1 => repeat (first | (with_reducible first | exact HI0.out | apply IsS25.alloc | apply IsS25.drewN | apply IsS25.drew | apply IsS25.set_1) | exact HI0.out)); (case side2 => repeat (first | (with_reducible first | exact HB.out | apply below_alloc | apply pw_below_drewN | apply below_drew1 | refine below_set ?_ (IsS25.ge HI0.out)) | exact HB.out)); (case side3 => repeat (first | exact (Kd.R_reads' HO132.out).2.2 | (with_reducible refine Kd.C_alloc ?_ _) | (with_reducible refine Kd.C_drewN ?_ _) | (with_reducible refine Kd.C_drew ?_))); (case side4 => exact (Kd.R_reads' HO132.out).2.1); (case side5 => exact far_slice (IsS25.own_ne HI0.out HO132.out (by decide))); rintro e w27 ⟨rfl, hi, hb, hk⟩; refine ⟨_, rfl, ?_⟩; have n0_ := Aside0.mk (Kd.R_mono (Kd.R_keep (IsS25.apart (show IsS25 w0 _ g s0_0 t129 from by repeat (first | (with_reducible first | exact HI0.out | apply IsS25.alloc | apply IsS25.drewN | apply IsS25.drew | apply IsS25.set_1) | exact HI0.out)) (by (with_reducible repeat (first | apply Kd.R_alloc | apply Kd.R_drewN | apply Kd.R_drew)); exact HO_5.out) (by decide)) hk (fun _ h => h.2)) (fun _ h => h.1)); have n1_ := Aside0.mk (Kd.R_mono (Kd.R_keep (IsS25.apart (show IsS25 w0 _ g s0_0 t129 from by repeat (first | (with_reducible first | exact HI0.out | apply IsS25.alloc | apply IsS25.drewN | apply IsS25.drew | apply IsS25.set_1) | exact HI0.out)) (by (with_reducible repeat (first | apply Kd.R_alloc | apply Kd.R_drewN | apply Kd.R_drew)); exact HO117.out) (by decide)) hk (fun _ h => h.2)) (fun _ h => h.1)); have n2_ := Aside0.mk (Kd.R_mono (Kd.R_keep (IsS25.apart (show IsS25 w0 _ g s0_0 t129 from by repeat (first | (with_reducible first | exact HI0.out | apply IsS25.alloc | apply IsS25.drewN | apply IsS25.drew | apply IsS25.set_1) | exact HI0.out)) (by (with_reducible repeat (first | apply Kd.R_alloc | apply Kd.R_drewN | apply Kd.R_drew)); exact HO122.out) (by decide)) hk (fun _ h => h.2)) (fun _ h => h.1)); have n3_ := Aside0.mk (Kd.R_mono (Kd.R_keep (IsS25.apart (show IsS25 w0 _ g s0_0 t129 from by repeat (first | (with_reducible first | exact HI0.out | apply IsS25.alloc | apply IsS25.drewN | apply IsS25.drew | apply IsS25.set_1) | exact HI0.out)) (by (with_reducible repeat (first | apply Kd.R_alloc | apply Kd.R_drewN | apply Kd.R_drew)); exact HO127.out) (by decide)) hk (fun _ h => h.2)) (fun _ h => h.1)); have n4_ := Aside0.mk (Kd.R_mono (Kd.R_keep (IsS25.apart (show IsS25 w0 _ g s0_0 t129 from by repeat (first | (with_reducible first | exact HI0.out | apply IsS25.alloc | apply IsS25.drewN | apply IsS25.drew | apply IsS25.set_1) | exact HI0.out)) (by (with_reducible repeat (first | apply Kd.R_alloc | apply Kd.R_drewN | apply Kd.R_drew)); exact HO132.out) (by decide)) hk (fun _ h => h.2)) (fun _ h => h.1)); have n5_ := Aside0.mk (KeepBut.trans (by repeat (first | (with_reducible first | exact HK.out | apply KeepBut.set_ | apply keep_drewN | apply keep_drew | apply keep_alloc) | exact HK.out)) hk (.inl rfl)); have n6_ := Aside0.mk (hb); have n7_ := Aside0.mk (hi); clear HO_5; clear HO117; clear HO122; clear HO127; clear HO132; clear HK; clear HB; clear HI0; have HO_5 := n0_; have HO117 := n1_; have HO122 := n2_; have HO127 := n3_; have HO132 := n4_; have HK := n5_; have HB := n6_; have HI0 := n7_; clear n0_ n1_ n2_ n3_ n4_ n5_ n6_ n7_; (try clear hb); (try clear hb2); (try clear hk); (try clear hi)) | ((with_reducible refine gate_dst (N := 7) rfl ?_); refine box_event ?hg (N := 7) ?hd (cs := #[.string (⟨#[]⟩ : ByteArray), .string (⟨#[]⟩ : ByteArray), .int .i64 0, .string (⟨#[]⟩ : ByteArray), .int .i64 0, .string (⟨#[]⟩ : ByteArray), .string (⟨#[]⟩ : ByteArray)]) (t := 55) ?hr ?_; (case hd => rfl); (case hg => rfl); (case hr => first | (go_simp; done) | (go_simp; rfl)); intro gb135 hg w28 hbox hb; have n0_ := Aside0.mk (Kd.R_below (Kd.R_elderB (by (with_reducible repeat (first | apply Kd.R_alloc | apply Kd.R_drewN | apply Kd.R_drew)); exact HO_5.out) gb135 (Nat.le_of_eq hg.symm)) hb); have n1_ := Aside0.mk (Kd.R_below (by (with_reducible repeat (first | apply Kd.R_alloc | apply Kd.R_drewN | apply Kd.R_drew)); exact HO117.out) hb); have n2_ := Aside0.mk (Kd.R_below (by (with_reducible repeat (first | apply Kd.R_alloc | apply Kd.R_drewN | apply Kd.R_drew)); exact HO122.out) hb); have n3_ := Aside0.mk (Kd.R_below (by (with_reducible repeat (first | apply Kd.R_alloc | apply Kd.R_drewN | apply Kd.R_drew)); exact HO127.out) hb); have n4_ := Aside0.mk (Kd.R_below (by (with_reducible repeat (first | apply Kd.R_alloc | apply Kd.R_drewN | apply Kd.R_drew)); exact HO132.out) hb); have n5_ := Aside0.mk (IsS25.below (by repeat (first | (with_reducible first | exact HI0.out | apply IsS25.alloc | apply IsS25.drewN | apply IsS25.drew | apply IsS25.set_1) | exact HI0.out)) hb); have n6_ := Aside0.mk (KeepBut.trans (by repeat (first | (with_reducible first | exact HK.out | apply KeepBut.set_ | apply keep_drewN | apply keep_drew | apply keep_alloc) | exact HK.out)) (KeepBut.of_below hb g none) (.inl rfl)); have n7_ := Aside0.mk (below_step (by repeat (first | (with_reducible first | exact HB.out | apply below_alloc | apply pw_below_drewN | apply below_drew1 | refine below_set ?_ (IsS25.ge HI0.out)) | exact HB.out)) hb); have n8_ := Aside0.mk (hbox); have n9_ := Aside0.mk ((by rw [hg]; exact (keep_size (w := w) (g := g) (row := none) (by repeat (first | (with_reducible first | exact HK.out | apply KeepBut.set_ | apply keep_drewN | apply keep_drew | apply keep_alloc) | exact HK.out))) : w.heap.size ≤ gb135)); have n10_ := Aside0.mk ((Nat.le_trans HW0.out (by rw [hg]; exact (keep_size (w := w) (g := g) (row := none) (by repeat (first | (with_reducible first | exact HK.out | apply KeepBut.set_ | apply keep_drewN | apply keep_drew | apply keep_alloc) | exact HK.out))) : w.heap.size ≤ gb135) : w0.heap.size ≤ gb135)); have n11_ := Aside0.mk ((by rw [hg]; exact Nat.ne_of_lt (IsS25.lt (show IsS25 w0 _ g s0_0 t134 from by repeat (first | (with_reducible first | exact HI0.out | apply IsS25.alloc | apply IsS25.drewN | apply IsS25.drew | apply IsS25.set_1) | exact HI0.out))) : g ≠ gb135)); have n12_ := Aside0.mk ((by rw [hg]; exact Nat.ne_of_gt (IsS25.lt (show IsS25 w0 _ g s0_0 t134 from by repeat (first | (with_reducible first | exact HI0.out | apply IsS25.alloc | apply IsS25.drewN | apply IsS25.drew | apply IsS25.set_1) | exact HI0.out))) : gb135 ≠ g)); clear HO_5; clear HO117; clear HO122; clear HO127; clear HO132; clear HI0; clear HK; clear HB; have HO_5 := n0_; have HO117 := n1_; have HO122 := n2_; have HO127 := n3_; have HO132 := n4_; have HI0 := n5_; have HK := n6_; have HB := n7_; have BK135 := n8_; have GW135 := n9_; have GE135 := n10_; have NB0_135 := n11_; have NB135_0 := n12_; clear n0_ n1_ n2_ n3_ n4_ n5_ n6_ n7_ n8_ n9_ n10_ n11_ n12_; clear hb hbox hg; have hnb29 := NB135_0.out; have hnc29 := NB0_135.out; have hcz30_0 : w28.cell? ⟨gb135, 0, none⟩ = some (.string (⟨#[]⟩ : ByteArray)) := (blk_cell BK135.out 0).trans rfl; have hcz30_1 : w28.cell? ⟨gb135, 1, none⟩ = some (.string (⟨#[]⟩ : ByteArray)) := (blk_cell BK135.out 1).trans rfl; have hcz30_2 : w28.cell? ⟨gb135, 2, none⟩ = some (.int .i64 0) := (blk_cell BK135.out 2).trans rfl; have hcz30_3 : w28.cell? ⟨gb135, 3, none⟩ = some (.string (⟨#[]⟩ : ByteArray)) := (blk_cell BK135.out 3).trans rfl; have hcz30_4 : w28.cell? ⟨gb135, 4, none⟩ = some (.int .i64 0) := (blk_cell BK135.out 4).trans rfl; have hcz30_5 : w28.cell? ⟨gb135, 5, none⟩ = some (.string (⟨#[]⟩ : ByteArray)) := (blk_cell BK135.out 5).trans rfl; have hcz30_6 : w28.cell? ⟨gb135, 6, none⟩ = some (.string (⟨#[]⟩ : ByteArray)) := (blk_cell BK135.out 6).trans rfl; have hfz30_0 := blk_frozen BK135.out 0; have hfz30_1 := blk_frozen BK135.out 1; have hfz30_2 := blk_frozen BK135.out 2; have hfz30_3 := blk_frozen BK135.out 3; have hfz30_4 := blk_frozen BK135.out 4; have hfz30_5 := blk_frozen BK135.out 5; have hfz30_6 := blk_frozen BK135.out 6) | ((with_reducible refine gate_callee (f := 37) rfl ?_); refine goesL_ (some 35) rfl rfl Tryz.func37 (by kernel_rfl) rfl #[.pointer (some ⟨g, 0, none⟩), .int .i64 6] rfl (by (try simp only [List.map_toArray, List.map_cons, List.map_nil]); first | done | rfl | (simp only [List.length_drop, List.length_take]; rfl)) ?_; (with_reducible refine (chasemake_Stream_Next.calls g s0_0 t134 6 t136 t137 w0 _ ?side1 ?side2 A11.out).mono ?_); (case side1 => repeat (first | (with_reducible first | exact HI0.out | apply IsS25.alloc | apply IsS25.drewN | apply IsS25.drew | apply IsS25.set_1 | refine IsS25.far ?_ NB0_135.out _) | exact HI0.out)); (case side2 => repeat (first | (with_reducible first | exact HB.out | apply below_alloc | apply pw_below_drewN | apply below_drew1 | refine below_set ?_ (IsS25.ge HI0.out) | refine below_set ?_ GE135.out) | exact HB.out)); rintro e w31 ⟨rfl, hi, hb, hk⟩; refine ⟨_, rfl, ?_⟩; have n0_ := Aside0.mk (Kd.R_mono (Kd.R_keep (IsS25.apart (show IsS25 w0 _ g s0_0 t134 from by repeat (first | (with_reducible first | exact HI0.out | apply IsS25.alloc | apply IsS25.drewN | apply IsS25.drew | apply IsS25.set_1 | refine IsS25.far ?_ NB0_135.out _) | exact HI0.out)) (by (with_reducible repeat (first | apply Kd.R_alloc | apply Kd.R_drewN | apply Kd.R_drew)); exact (Kd.R_mono (Kd.R_far (p := ⟨gb135, 6, none⟩) (Kd.R_far (p := ⟨gb135, 5, none⟩) (Kd.R_far (p := ⟨gb135, 4, none⟩) (Kd.R_far (p := ⟨gb135, 3, none⟩) (Kd.R_far (p := ⟨gb135, 2, none⟩) (Kd.R_far (p := ⟨gb135, 1, none⟩) (Kd.R_far (p := ⟨gb135, 0, none⟩) (Kd.R_mono HO_5.out (fun k_ hk => (⟨hk, hk.2⟩ : _ ∧ k_ ≠ gb135))) (fun _ hk => hk.2) (.string ((⟨#[105]⟩ : ByteArray) ++ (Utf8.encode (wrap32 (wrap64 (97 + x13_1))))))) (fun _ hk => hk.2) (.string t118)) (fun _ hk => hk.2) (.int .i64 t123)) (fun _ hk => hk.2) (.string t133)) (fun _ hk => hk.2) (.int .i64 t128)) (fun _ hk => hk.2) (.string (⟨#[]⟩ : ByteArray))) (fun _ hk => hk.2) (.string (⟨#[]⟩ : ByteArray))) (fun _ h_ => h_.1))) (by decide)) hk (fun _ h => h.2)) (fun _ h => h.1)); have n1_ := Aside0.mk (Kd.R_mono (Kd.R_keep (IsS25.apart (show IsS25 w0 _ g s0_0 t134 from by repeat (first | (with_reducible first | exact HI0.out | apply IsS25.alloc | apply IsS25.drewN | apply IsS25.drew | apply IsS25.set_1 | refine IsS25.far ?_ NB0_135.out _) | exact HI0.out)) (by (with_reducible repeat (first | apply Kd.R_alloc | apply Kd.R_drewN | apply Kd.R_drew)); exact (Kd.R_mono (Kd.R_far (p := ⟨gb135, 6, none⟩) (Kd.R_far (p := ⟨gb135, 5, none⟩) (Kd.R_far (p := ⟨gb135, 4, none⟩) (Kd.R_far (p := ⟨gb135, 3, none⟩) (Kd.R_far (p := ⟨gb135, 2, none⟩) (Kd.R_far (p := ⟨gb135, 1, none⟩) (Kd.R_far (p := ⟨gb135, 0, none⟩) (Kd.R_types HO117.out BK135.out (by decide)) (fun _ hk => hk.2) (.string ((⟨#[105]⟩ : ByteArray) ++ (Utf8.encode (wrap32 (wrap64 (97 + x13_1))))))) (fun _ hk => hk.2) (.string t118)) (fun _ hk => hk.2) (.int .i64 t123)) (fun _ hk => hk.2) (.string t133)) (fun _ hk => hk.2) (.int .i64 t128)) (fun _ hk => hk.2) (.string (⟨#[]⟩ : ByteArray))) (fun _ hk => hk.2) (.string (⟨#[]⟩ : ByteArray))) (fun _ h_ => h_.1))) (by decide)) hk (fun _ h => h.2)) (fun _ h => h.1)); have n2_ := Aside0.mk (Kd.R_mono (Kd.R_keep (IsS25.apart (show IsS25 w0 _ g s0_0 t134 from by repeat (first | (with_reducible first | exact HI0.out | apply IsS25.alloc | apply IsS25.drewN | apply IsS25.drew | apply IsS25.set_1 | refine IsS25.far ?_ NB0_135.out _) | exact HI0.out)) (by (with_reducible repeat (first | apply Kd.R_alloc | apply Kd.R_drewN | apply Kd.R_drew)); exact (Kd.R_mono (Kd.R_far (p := ⟨gb135, 6, none⟩) (Kd.R_far (p := ⟨gb135, 5, none⟩) (Kd.R_far (p := ⟨gb135, 4, none⟩) (Kd.R_far (p := ⟨gb135, 3, none⟩) (Kd.R_far (p := ⟨gb135, 2, none⟩) (Kd.R_far (p := ⟨gb135, 1, none⟩) (Kd.R_far (p := ⟨gb135, 0, none⟩) (Kd.R_types HO122.out BK135.out (by decide)) (fun _ hk => hk.2) (.string ((⟨#[105]⟩ : ByteArray) ++ (Utf8.encode (wrap32 (wrap64 (97 + x13_1))))))) (fun _ hk => hk.2) (.string t118)) (fun _ hk => hk.2) (.int .i64 t123)) (fun _ hk => hk.2) (.string t133)) (fun _ hk => hk.2) (.int .i64 t128)) (fun _ hk => hk.2) (.string (⟨#[]⟩ : ByteArray))) (fun _ hk => hk.2) (.string (⟨#[]⟩ : ByteArray))) (fun _ h_ => h_.1))) (by decide)) hk (fun _ h => h.2)) (fun _ h => h.1)); have n3_ := Aside0.mk (Kd.R_mono (Kd.R_keep (IsS25.apart (show IsS25 w0 _ g s0_0 t134 from by repeat (first | (with_reducible first | exact HI0.out | apply IsS25.alloc | apply IsS25.drewN | apply IsS25.drew | apply IsS25.set_1 | refine IsS25.far ?_ NB0_135.out _) | exact HI0.out)) (by (with_reducible repeat (first | apply Kd.R_alloc | apply Kd.R_drewN | apply Kd.R_drew)); exact (Kd.R_mono (Kd.R_far (p := ⟨gb135, 6, none⟩) (Kd.R_far (p := ⟨gb135, 5, none⟩) (Kd.R_far (p := ⟨gb135, 4, none⟩) (Kd.R_far (p := ⟨gb135, 3, none⟩) (Kd.R_far (p := ⟨gb135, 2, none⟩) (Kd.R_far (p := ⟨gb135, 1, none⟩) (Kd.R_far (p := ⟨gb135, 0, none⟩) (Kd.R_types HO127.out BK135.out (by decide)) (fun _ hk => hk.2) (.string ((⟨#[105]⟩ : ByteArray) ++ (Utf8.encode (wrap32 (wrap64 (97 + x13_1))))))) (fun _ hk => hk.2) (.string t118)) (fun _ hk => hk.2) (.int .i64 t123)) (fun _ hk => hk.2) (.string t133)) (fun _ hk => hk.2) (.int .i64 t128)) (fun _ hk => hk.2) (.string (⟨#[]⟩ : ByteArray))) (fun _ hk => hk.2) (.string (⟨#[]⟩ : ByteArray))) (fun _ h_ => h_.1))) (by decide)) hk (fun _ h => h.2)) (fun _ h => h.1)); have n4_ := Aside0.mk (Kd.R_mono (Kd.R_keep (IsS25.apart (show IsS25 w0 _ g s0_0 t134 from by repeat (first | (with_reducible first | exact HI0.out | apply IsS25.alloc | apply IsS25.drewN | apply IsS25.drew | apply IsS25.set_1 | refine IsS25.far ?_ NB0_135.out _) | exact HI0.out)) (by (with_reducible repeat (first | apply Kd.R_alloc | apply Kd.R_drewN | apply Kd.R_drew)); exact (Kd.R_mono (Kd.R_far (p := ⟨gb135, 6, none⟩) (Kd.R_far (p := ⟨gb135, 5, none⟩) (Kd.R_far (p := ⟨gb135, 4, none⟩) (Kd.R_far (p := ⟨gb135, 3, none⟩) (Kd.R_far (p := ⟨gb135, 2, none⟩) (Kd.R_far (p := ⟨gb135, 1, none⟩) (Kd.R_far (p := ⟨gb135, 0, none⟩) (Kd.R_types HO132.out BK135.out (by decide)) (fun _ hk => hk.2) (.string ((⟨#[105]⟩ : ByteArray) ++ (Utf8.encode (wrap32 (wrap64 (97 + x13_1))))))) (fun _ hk => hk.2) (.string t118)) (fun _ hk => hk.2) (.int .i64 t123)) (fun _ hk => hk.2) (.string t133)) (fun _ hk => hk.2) (.int .i64 t128)) (fun _ hk => hk.2) (.string (⟨#[]⟩ : ByteArray))) (fun _ hk => hk.2) (.string (⟨#[]⟩ : ByteArray))) (fun _ h_ => h_.1))) (by decide)) hk (fun _ h => h.2)) (fun _ h => h.1)); have n5_ := Aside0.mk (KeepBut.blk hk (g' := gb135) (o := .cells #[.string ((⟨#[105]⟩ : ByteArray) ++ (Utf8.encode (wrap32 (wrap64 (97 + x13_1))))), .string t118, .int .i64 t123, .string t133, .int .i64 t128, .string (⟨#[]⟩ : ByteArray), .string (⟨#[]⟩ : ByteArray)] 55 (0, 0)) (by (with_reducible repeat (first | refine blk_drewN ?_ _ | refine blk_drew ?_ | refine blk_alloc ?_ _)); refine blk_put (cs := #[.string ((⟨#[105]⟩ : ByteArray) ++ (Utf8.encode (wrap32 (wrap64 (97 + x13_1))))), .string t118, .int .i64 t123, .string t133, .int .i64 t128, .string (⟨#[]⟩ : ByteArray), .string (⟨#[]⟩ : ByteArray)]) ?_ 6 _ rfl; (with_reducible repeat (first | refine blk_drewN ?_ _ | refine blk_drew ?_ | refine blk_alloc ?_ _)); refine blk_put (cs := #[.string ((⟨#[105]⟩ : ByteArray) ++ (Utf8.encode (wrap32 (wrap64 (97 + x13_1))))), .string t118, .int .i64 t123, .string t133, .int .i64 t128, .string (⟨#[]⟩ : ByteArray), .string (⟨#[]⟩ : ByteArray)]) ?_ 5 _ rfl; (with_reducible repeat (first | refine blk_drewN ?_ _ | refine blk_drew ?_ | refine blk_alloc ?_ _)); refine blk_put (cs := #[.string ((⟨#[105]⟩ : ByteArray) ++ (Utf8.encode (wrap32 (wrap64 (97 + x13_1))))), .string t118, .int .i64 t123, .string t133, .int .i64 0, .string (⟨#[]⟩ : ByteArray), .string (⟨#[]⟩ : ByteArray)]) ?_ 4 _ rfl; (with_reducible repeat (first | refine blk_drewN ?_ _ | refine blk_drew ?_ | refine blk_alloc ?_ _)); refine blk_put (cs := #[.string ((⟨#[105]⟩ : ByteArray) ++ (Utf8.encode (wrap32 (wrap64 (97 + x13_1))))), .string t118, .int .i64 t123, .string (⟨#[]⟩ : ByteArray), .int .i64 0, .string (⟨#[]⟩ : ByteArray), .string (⟨#[]⟩ : ByteArray)]) ?_ 3 _ rfl; (with_reducible repeat (first | refine blk_drewN ?_ _ | refine blk_drew ?_ | refine blk_alloc ?_ _)); refine blk_put (cs := #[.string ((⟨#[105]⟩ : ByteArray) ++ (Utf8.encode (wrap32 (wrap64 (97 + x13_1))))), .string t118, .int .i64 0, .string (⟨#[]⟩ : ByteArray), .int .i64 0, .string (⟨#[]⟩ : ByteArray), .string (⟨#[]⟩ : ByteArray)]) ?_ 2 _ rfl; (with_reducible repeat (first | refine blk_drewN ?_ _ | refine blk_drew ?_ | refine blk_alloc ?_ _)); refine blk_put (cs := #[.string ((⟨#[105]⟩ : ByteArray) ++ (Utf8.encode (wrap32 (wrap64 (97 + x13_1))))), .string (⟨#[]⟩ : ByteArray), .int .i64 0, .string (⟨#[]⟩ : ByteArray), .int .i64 0, .string (⟨#[]⟩ : ByteArray), .string (⟨#[]⟩ : ByteArray)]) ?_ 1 _ rfl; (with_reducible repeat (first | refine blk_drewN ?_ _ | refine blk_drew ?_ | refine blk_alloc ?_ _)); refine blk_put (cs := #[.string (⟨#[]⟩ : ByteArray), .string (⟨#[]⟩ : ByteArray), .int .i64 0, .string (⟨#[]⟩ : ByteArray), .int .i64 0, .string (⟨#[]⟩ : ByteArray), .string (⟨#[]⟩ : ByteArray)]) ?_ 0 _ rfl; (with_reducible repeat (first | refine blk_drewN ?_ _ | refine blk_drew ?_ | refine blk_alloc ?_ _)); exact BK135.out) NB135_0.out (by simp)); have n6_ := Aside0.mk (KeepBut.trans (by repeat (first | (with_reducible first | exact HK.out | apply KeepBut.set_ | apply keep_drewN | apply keep_drew | apply keep_alloc | refine keep_far ?_ GW135.out _) | exact HK.out)) hk (.inl rfl)); have n7_ := Aside0.mk (hb); have n8_ := Aside0.mk (hi); clear HO_5; clear HO117; clear HO122; clear HO127; clear HO132; clear BK135; clear HK; clear HB; clear HI0; have HO_5 := n0_; have HO117 := n1_; have HO122 := n2_; have HO127 := n3_; have HO132 := n4_; have BK135 := n5_; have HK := n6_; have HB := n7_; have HI0 := n8_; clear n0_ n1_ n2_ n3_ n4_ n5_ n6_ n7_ n8_; (try clear hb); (try clear hb2); (try clear hk); (try clear hi)))
     go_loopg [36] k1 (fun kq v36 w' => ∃ (x36_2 : Int) (x1001_2 : Int) (x136006_2 : ByteArray), v36 = .int .i64 x36_2 ∧ Aside0 (chasemake_Stream_Papers.l1 kq x5_1 x13_1 t113 x13_1 t136 x36_2 s0_0 x1001_2 ((⟨#[105]⟩ : ByteArray) ++ (Utf8.encode (wrap32 (wrap64 (97 + x13_1))))) t118 t123 t133 t128 (⟨#[]⟩ : ByteArray) x136006_2 = some (r1, r2)) ∧ Aside0 (kq ≤ k1) ∧ Aside0 (Kd.R k55 55 w' w.heap.size (fun k_ => k_ ≠ gb135) u5 x5_1) ∧ Aside0 (w'.heap[gb135]? = some (.cells #[.string ((⟨#[105]⟩ : ByteArray) ++ (Utf8.encode (wrap32 (wrap64 (97 + x13_1))))), .string t118, .int .i64 t123, .string t133, .int .i64 t128, .string (⟨#[]⟩ : ByteArray), .string x136006_2] 55 (0, 0))) ∧ Aside0 (IsS25 w0 w' g s0_0 x1001_2) ∧ Aside0 (KeepBut w w' g none) ∧ Aside0 (Below w0.heap.size w0 w'))
     case atStart => exact ⟨(0), (t137), ((⟨#[]⟩ : ByteArray)), (by first | rfl | (simp; done) | (simp [*]; done)), H', ⟨Nat.le_refl _⟩, ⟨by (with_reducible repeat (first | apply Kd.R_alloc | apply Kd.R_drewN | apply Kd.R_drew)); exact Kd.R_mono HO_5.out (fun _ hk => hk.2)⟩, ⟨by (with_reducible repeat (first | refine blk_drewN ?_ _ | refine blk_drew ?_ | refine blk_alloc ?_ _)); exact BK135.out⟩, ⟨by repeat (first | (with_reducible first | exact HI0.out | apply IsS25.alloc | apply IsS25.drewN | apply IsS25.drew | apply IsS25.set_1 | refine IsS25.far ?_ NB0_135.out _) | exact HI0.out)⟩, ⟨by repeat (first | (with_reducible first | exact HK.out | apply KeepBut.set_ | apply keep_drewN | apply keep_drew | apply keep_alloc | refine keep_far ?_ GW135.out _) | exact HK.out)⟩, ⟨by repeat (first | (with_reducible first | exact HB.out | apply below_alloc | apply pw_below_drewN | apply below_drew1 | refine below_set ?_ (IsS25.ge HI0.out) | refine below_set ?_ GE135.out) | exact HB.out)⟩⟩
     case round =>
      clear H'
      try clear c2
      try clear p2
      try clear c3
      try clear p3
      try clear c4
      try clear c5
      try clear c5b0
      try clear c6
      try clear c6b0
      try clear c6b1
      try clear c6b2
      try clear p6
      try clear c22
      try clear c24
      try clear c29
      try clear hcz30_0
      try clear hcz30_1
      try clear hcz30_2
      try clear hcz30_3
      try clear hcz30_4
      try clear hcz30_5
      try clear hcz30_6
      try clear hfz30_0
      try clear hfz30_1
      try clear hfz30_2
      try clear hfz30_3
      try clear hfz30_4
      try clear hfz30_5
      try clear hfz30_6
      try clear p2
      obtain ⟨x36_2, x1001_2, x136006_2, rfl, HA, HK2, HO_5, BK135, HI0, HK, HB⟩ := hrel
      cases gk with
      | zero => exact absurd HA.out (by simp [chasemake_Stream_Papers.l1])
      | succ k2 =>
       have H := HA.out
       clear HA
       simp only [chasemake_Stream_Papers.l1] at H
       by_cases c32 : x36_2 < t136
       ·rw [if_pos c32] at H
        have c32b0 : decide (x36_2 < t136) = true := decide_eq_true c32
        clear c32
        obtain ⟨y138, hy138⟩ : ∃ y_ : List Int, y_ = (([79, 80, 81] : List Int)) := ⟨_, rfl⟩
        replace H : ((chasemake_Stream_Pick.f s0_0 x1001_2 y138).bind fun bt141 => ((strings_Repeat.f (⟨#[119]⟩ : ByteArray) bt141.1).bind fun t143 => ((strings_Repeat.f (⟨#[97, 98, 32]⟩ : ByteArray) 30).bind fun t144 => ((chasemake_Stream_h06one.f s0_0 bt141.2 (([(⟨#[111, 110, 101]⟩ : ByteArray), (⟨#[115, 101, 99, 114, 101, 116, 32, 119, 111, 114, 100, 115]⟩ : ByteArray), (⟨#[]⟩ : ByteArray), (⟨#[195, 169, 116, 195, 169, 32, 120]⟩ : ByteArray), t143, t144] : List ByteArray))).bind fun bt148 => (if bt148.1.size + 1 ≤ 9223372036854775807 then (if x136006_2.size + (bt148.1 ++ (⟨#[10]⟩ : ByteArray)).size ≤ 9223372036854775807 then (chasemake_Stream_Papers.l1 k2 x5_1 x13_1 t113 x13_1 t136 (wrap64 (x36_2 + 1)) s0_0 bt148.2 ((⟨#[105]⟩ : ByteArray) ++ (Utf8.encode (wrap32 (wrap64 (97 + x13_1))))) t118 t123 t133 t128 (⟨#[]⟩ : ByteArray) (x136006_2 ++ (bt148.1 ++ (⟨#[10]⟩ : ByteArray)))) else (none)) else (none)))))) = some (r1, r2) := by first | (rw [hy138]; with_reducible exact H) | (have H2_ := (Option.bind_some _ _).symm.trans H; rw [hy138]; with_reducible exact H2_) | (have H2_ := (Option.bind_some _ _).symm.trans H; with_reducible exact H2_) | with_reducible exact H | (rw [hy138]; exact H) | exact H
        have Ny138 := Aside0.mk hy138
        clear hy138
        replace H := Option.bind_eq_some_iff.mp H
        obtain ⟨⟨t141, t142⟩, A330, H⟩ := H
        replace H : ((strings_Repeat.f (⟨#[119]⟩ : ByteArray) t141).bind fun t143 => ((strings_Repeat.f (⟨#[97, 98, 32]⟩ : ByteArray) 30).bind fun t144 => ((chasemake_Stream_h06one.f s0_0 t142 (([(⟨#[111, 110, 101]⟩ : ByteArray), (⟨#[115, 101, 99, 114, 101, 116, 32, 119, 111, 114, 100, 115]⟩ : ByteArray), (⟨#[]⟩ : ByteArray), (⟨#[195, 169, 116, 195, 169, 32, 120]⟩ : ByteArray), t143, t144] : List ByteArray))).bind fun bt148 => (if bt148.1.size + 1 ≤ 9223372036854775807 then (if x136006_2.size + (bt148.1 ++ (⟨#[10]⟩ : ByteArray)).size ≤ 9223372036854775807 then (chasemake_Stream_Papers.l1 k2 x5_1 x13_1 t113 x13_1 t136 (wrap64 (x36_2 + 1)) s0_0 bt148.2 ((⟨#[105]⟩ : ByteArray) ++ (Utf8.encode (wrap32 (wrap64 (97 + x13_1))))) t118 t123 t133 t128 (⟨#[]⟩ : ByteArray) (x136006_2 ++ (bt148.1 ++ (⟨#[10]⟩ : ByteArray)))) else (none)) else (none))))) = some (r1, r2) := H
        have A33 := Aside0.mk A330
        clear A330
        replace H := Option.bind_eq_some_iff.mp H
        obtain ⟨t143, A340, H⟩ := H
        replace H : ((strings_Repeat.f (⟨#[97, 98, 32]⟩ : ByteArray) 30).bind fun t144 => ((chasemake_Stream_h06one.f s0_0 t142 (([(⟨#[111, 110, 101]⟩ : ByteArray), (⟨#[115, 101, 99, 114, 101, 116, 32, 119, 111, 114, 100, 115]⟩ : ByteArray), (⟨#[]⟩ : ByteArray), (⟨#[195, 169, 116, 195, 169, 32, 120]⟩ : ByteArray), t143, t144] : List ByteArray))).bind fun bt148 => (if bt148.1.size + 1 ≤ 9223372036854775807 then (if x136006_2.size + (bt148.1 ++ (⟨#[10]⟩ : ByteArray)).size ≤ 9223372036854775807 then (chasemake_Stream_Papers.l1 k2 x5_1 x13_1 t113 x13_1 t136 (wrap64 (x36_2 + 1)) s0_0 bt148.2 ((⟨#[105]⟩ : ByteArray) ++ (Utf8.encode (wrap32 (wrap64 (97 + x13_1))))) t118 t123 t133 t128 (⟨#[]⟩ : ByteArray) (x136006_2 ++ (bt148.1 ++ (⟨#[10]⟩ : ByteArray)))) else (none)) else (none)))) = some (r1, r2) := H
        have A34 := Aside0.mk A340
        clear A340
        replace H := Option.bind_eq_some_iff.mp H
        obtain ⟨t144, A350, H⟩ := H
        replace H : ((chasemake_Stream_h06one.f s0_0 t142 (([(⟨#[111, 110, 101]⟩ : ByteArray), (⟨#[115, 101, 99, 114, 101, 116, 32, 119, 111, 114, 100, 115]⟩ : ByteArray), (⟨#[]⟩ : ByteArray), (⟨#[195, 169, 116, 195, 169, 32, 120]⟩ : ByteArray), t143, t144] : List ByteArray))).bind fun bt148 => (if bt148.1.size + 1 ≤ 9223372036854775807 then (if x136006_2.size + (bt148.1 ++ (⟨#[10]⟩ : ByteArray)).size ≤ 9223372036854775807 then (chasemake_Stream_Papers.l1 k2 x5_1 x13_1 t113 x13_1 t136 (wrap64 (x36_2 + 1)) s0_0 bt148.2 ((⟨#[105]⟩ : ByteArray) ++ (Utf8.encode (wrap32 (wrap64 (97 + x13_1))))) t118 t123 t133 t128 (⟨#[]⟩ : ByteArray) (x136006_2 ++ (bt148.1 ++ (⟨#[10]⟩ : ByteArray)))) else (none)) else (none))) = some (r1, r2) := H
        have A35 := Aside0.mk A350
        clear A350
        obtain ⟨y145, hy145⟩ : ∃ y_ : List ByteArray, y_ = (([(⟨#[111, 110, 101]⟩ : ByteArray), (⟨#[115, 101, 99, 114, 101, 116, 32, 119, 111, 114, 100, 115]⟩ : ByteArray), (⟨#[]⟩ : ByteArray), (⟨#[195, 169, 116, 195, 169, 32, 120]⟩ : ByteArray), t143, t144] : List ByteArray)) := ⟨_, rfl⟩
        replace H : ((chasemake_Stream_h06one.f s0_0 t142 y145).bind fun bt148 => (if bt148.1.size + 1 ≤ 9223372036854775807 then (if x136006_2.size + (bt148.1 ++ (⟨#[10]⟩ : ByteArray)).size ≤ 9223372036854775807 then (chasemake_Stream_Papers.l1 k2 x5_1 x13_1 t113 x13_1 t136 (wrap64 (x36_2 + 1)) s0_0 bt148.2 ((⟨#[105]⟩ : ByteArray) ++ (Utf8.encode (wrap32 (wrap64 (97 + x13_1))))) t118 t123 t133 t128 (⟨#[]⟩ : ByteArray) (x136006_2 ++ (bt148.1 ++ (⟨#[10]⟩ : ByteArray)))) else (none)) else (none))) = some (r1, r2) := by first | (rw [hy145]; with_reducible exact H) | (have H2_ := (Option.bind_some _ _).symm.trans H; rw [hy145]; with_reducible exact H2_) | (have H2_ := (Option.bind_some _ _).symm.trans H; with_reducible exact H2_) | with_reducible exact H | (rw [hy145]; exact H) | exact H
        have Ny145 := Aside0.mk hy145
        clear hy145
        replace H := Option.bind_eq_some_iff.mp H
        obtain ⟨⟨t148, t149⟩, A360, H⟩ := H
        replace H : (if t148.size + 1 ≤ 9223372036854775807 then (if x136006_2.size + (t148 ++ (⟨#[10]⟩ : ByteArray)).size ≤ 9223372036854775807 then (chasemake_Stream_Papers.l1 k2 x5_1 x13_1 t113 x13_1 t136 (wrap64 (x36_2 + 1)) s0_0 t149 ((⟨#[105]⟩ : ByteArray) ++ (Utf8.encode (wrap32 (wrap64 (97 + x13_1))))) t118 t123 t133 t128 (⟨#[]⟩ : ByteArray) (x136006_2 ++ (t148 ++ (⟨#[10]⟩ : ByteArray)))) else (none)) else (none)) = some (r1, r2) := H
        have A36 := Aside0.mk A360
        clear A360
        by_cases c37 : t148.size + 1 ≤ 9223372036854775807
        ·rw [if_pos c37] at H
         have c37b0 := eq_true c37
         have c37b1 : decide (t148.size + 1 ≤ 9223372036854775807) = true := decide_eq_true c37
         try have c37b2 : (9223372036854775807 < t148.size + 1) = False := eq_false (Nat.not_lt.2 c37)
         by_cases c38 : x136006_2.size + (t148 ++ (⟨#[10]⟩ : ByteArray)).size ≤ 9223372036854775807
         ·rw [if_pos c38] at H
          have c38b0 := eq_true c38
          have c38b1 : decide (x136006_2.size + (t148 ++ (⟨#[10]⟩ : ByteArray)).size ≤ 9223372036854775807) = true := decide_eq_true c38
          try have c38b2 : (9223372036854775807 < x136006_2.size + (t148 ++ (⟨#[10]⟩ : ByteArray)).size) = False := eq_false (Nat.not_lt.2 c38)
          try (have c38b3 := c38b2; simp only [ByteArray.size_append', ByteArray.size_mk', List.size_toArray, List.length_cons, List.length_nil, Nat.zero_add, Nat.reduceAdd] at c38b3)
          have H' := Aside0.mk H
          clear H
          try go_wp2
          have n0_ := Aside0.mk (Kd.R_drew HO_5.out)
          have n1_ := Aside0.mk (blk_drew BK135.out)
          have n2_ := Aside0.mk (IsS25.drew HI0.out)
          have n3_ := Aside0.mk (keep_drew HK.out)
          have n4_ := Aside0.mk (below_drew1 HB.out)
          clear HO_5
          clear BK135
          clear HI0
          clear HK
          clear HB
          have HO_5 := n0_
          have BK135 := n1_
          have HI0 := n2_
          have HK := n3_
          have HB := n4_
          clear n0_ n1_ n2_ n3_ n4_
          refine start_ (n := 14) (S := fun w' => w'.cell? ⟨gb135, 0, none⟩ = some (.string ((⟨#[105]⟩ : ByteArray) ++ (Utf8.encode (wrap32 (wrap64 (97 + x13_1)))))) ∧ w'.cell? ⟨gb135, 1, none⟩ = some (.string t118) ∧ w'.cell? ⟨gb135, 2, none⟩ = some (.int .i64 t123) ∧ w'.cell? ⟨gb135, 3, none⟩ = some (.string t133) ∧ w'.cell? ⟨gb135, 4, none⟩ = some (.int .i64 t128) ∧ w'.cell? ⟨gb135, 5, none⟩ = some (.string (⟨#[]⟩ : ByteArray)) ∧ w'.cell? ⟨gb135, 6, none⟩ = some (.string x136006_2)) (ds := [13]) chasemake_Stream_Papers.D0 (by kernel_rfl) rfl rfl ⟨(blk_cell BK135.out 0).trans rfl, (blk_cell BK135.out 1).trans rfl, (blk_cell BK135.out 2).trans rfl, (blk_cell BK135.out 3).trans rfl, (blk_cell BK135.out 4).trans rfl, (blk_cell BK135.out 5).trans rfl, (blk_cell BK135.out 6).trans rfl⟩ (fun hHeld => ?_); refine with_tabW chasemake_Stream_Papers.tab8 chasemake_Stream_Papers.bits8 (fun HT_ HW_ => ?_)
          generalize wr.drew = w39 at HO_5 BK135 HI0 HK HB hHeld ⊢
          refine pu_ (i := 0) (N := some 38) (v := ?_) (a' := ?_) chasemake_Stream_Papers.D1 (any_of HT_.out (by kernel_rfl)) ?_ ?_ ?_; rotate_left 2
          ·intro w'; go_simp; with_reducible rfl
          ·simp only [Act.put, s_t, s_z, s_s, i64_w, i32_w]; rfl
          refine pu_ (i := 2) (N := some 40) (v := ?_) (a' := ?_) chasemake_Stream_Papers.D2 (any_of HT_.out (by kernel_rfl)) ?_ ?_ ?_; rotate_left 2
          ·intro w'; go_simp; with_reducible rfl
          ·simp only [Act.put, s_t, s_z, s_s, i64_w, i32_w]; rfl
          refine pu_ (i := 3) (N := some 41) (v := ?_) (a' := ?_) chasemake_Stream_Papers.D3 (any_of HT_.out (by kernel_rfl)) ?_ ?_ ?_; rotate_left 2
          ·intro w'; go_simp; with_reducible rfl
          ·simp only [Act.put, s_t, s_z, s_s, i64_w, i32_w]; rfl
          refine take_ (i := 1) (N := some 39) (v := ?_) (a' := ?_) chasemake_Stream_Papers.D4 rfl rfl (take_ofW HT_.out HW_.out (by kernel_rfl)) (fun _ _ _ h => h) (Or.inl ⟨by rfl, ?_⟩) hHeld ?_ ?_
          rotate_left
          ·rintro w' ⟨s0, s1, s2, s3, s4, s5, s6⟩
           go_simp
           with_reducible rfl
          rotate_left
          ·simp only [Act.put, List.setIfInBounds_toArray, List.set_cons_zero, List.set_cons_succ, i64_w, i32_w]
           rfl
          refine one_ (i := 4) (N := some 42) chasemake_Stream_Papers.D5 rfl rfl (one_of HT_.out (by kernel_rfl)) (by decide) (fun K hK => ?_)
          refine Kd.R_lit_step (Kd.int .i64) _ 3 ?hg (N := 42) ?hd (xs := ([79, 80, 81] : List Int)) (inner := [.int .i64 79, .int .i64 80, .int .i64 81]) (ok := fun _ => True) (okp := fun _ => True) ?hr ?hp (fun _ hk => hk) trivial (Below.refl _ _) (Nat.le_refl _) (by simp) ?_; (case hd => rfl); (case hg => rfl); (case hr => first | (go_simp; done) | (go_simp; rfl)); (case hp => exact (Reps.one (show Kd.M (Kd.int .i64) _ _ _ 79 [.int .i64 79] from rfl) (Reps.one (show Kd.M (Kd.int .i64) _ _ _ 80 [.int .i64 80] from rfl) (Reps.one (show Kd.M (Kd.int .i64) _ _ _ 81 [.int .i64 81] from rfl) (Reps.none _ _)))))
          intro v139 w40 ho41 hb hg_ hnew_
          clear hg_ hnew_
          (first | rw [← Ny138.out] at ho41 | (simp only [Int.reduceToNat] at ho41; rw [← Ny138.out] at ho41))
          have n0_ := Aside0.mk (Kd.R_below (by (with_reducible repeat (first | apply Kd.R_alloc | apply Kd.R_drewN | apply Kd.R_drew)); exact HO_5.out) hb)
          have n1_ := Aside0.mk (Kd.R_lower ho41 (keep_size (w := w) (g := g) (row := none) (by repeat (first | (with_reducible first | exact HK.out | apply KeepBut.set_ | apply keep_drewN | apply keep_drew | apply keep_alloc | refine keep_far ?_ GW135.out _) | exact HK.out))))
          have n2_ := Aside0.mk (blk_below (g := gb135) (o := .cells #[.string ((⟨#[105]⟩ : ByteArray) ++ (Utf8.encode (wrap32 (wrap64 (97 + x13_1))))), .string t118, .int .i64 t123, .string t133, .int .i64 t128, .string (⟨#[]⟩ : ByteArray), .string x136006_2] 55 (0, 0)) (by (with_reducible repeat (first | refine blk_drewN ?_ _ | refine blk_drew ?_ | refine blk_alloc ?_ _)); exact BK135.out) hb)
          have n3_ := Aside0.mk (IsS25.below (by repeat (first | (with_reducible first | exact HI0.out | apply IsS25.alloc | apply IsS25.drewN | apply IsS25.drew | apply IsS25.set_1 | refine IsS25.far ?_ NB0_135.out _) | exact HI0.out)) hb)
          have n4_ := Aside0.mk (KeepBut.trans (by repeat (first | (with_reducible first | exact HK.out | apply KeepBut.set_ | apply keep_drewN | apply keep_drew | apply keep_alloc | refine keep_far ?_ GW135.out _) | exact HK.out)) (KeepBut.of_below hb g none) (.inl rfl))
          have n5_ := Aside0.mk (below_step (by repeat (first | (with_reducible first | exact HB.out | apply below_alloc | apply pw_below_drewN | apply below_drew1 | refine below_set ?_ (IsS25.ge HI0.out) | refine below_set ?_ GE135.out) | exact HB.out)) hb)
          clear HO_5
          clear BK135
          clear HI0
          clear HK
          clear HB
          have HO_5 := n0_
          have HO140 := n1_
          have BK135 := n2_
          have HI0 := n3_
          have HK := n4_
          have HB := n5_
          clear n0_ n1_ n2_ n3_ n4_ n5_
          clear hb ho41
          obtain ⟨Ao42, co42, eo42⟩ := Kd.R_slice HO140.out
          (first | subst eo42 | (injection eo42 with f1_ f2_ f3_; have f4_ := f1_.symm; have f5_ := f3_.symm; clear f1_ f2_ f3_; subst f4_; subst f5_))
          refine hK.out _ _ ⟨(blk_cell BK135.out 0).trans rfl, (blk_cell BK135.out 1).trans rfl, (blk_cell BK135.out 2).trans rfl, (blk_cell BK135.out 3).trans rfl, (blk_cell BK135.out 4).trans rfl, (blk_cell BK135.out 5).trans rfl, (blk_cell BK135.out 6).trans rfl⟩ (fun hHeld => ?_)
          clear hK K
          refine norm_ (a' := ?_) ?_ ?_
          rotate_left
          ·show Act.put _ (some 42) _ = _
           simp only [Act.put, List.setIfInBounds_toArray, List.set_cons_zero, List.set_cons_succ, i64_w, i32_w]
           rfl
          refine one_ (i := 5) (N := some 43) chasemake_Stream_Papers.D6 rfl rfl (one_of HT_.out (by kernel_rfl)) (by decide) (fun K hK => ?_)
          refine goes_ Tryz.func47 (by kernel_rfl) rfl #[.pointer (some ⟨g, 0, none⟩), .slice Ao42 y138.length co42] (by rfl) rfl rfl (by (try simp only [List.map_toArray, List.map_cons, List.map_nil]); first | done | rfl | (simp only [List.length_drop, List.length_take]; rfl)) ?_
          with_reducible refine (chasemake_Stream_Pick.calls g s0_0 x1001_2 _ _ y138 t141 t142 w0 _ ?side1 ?side2 ?side3 ?side4 ?side5 A33.out).mono ?_
          (case side1 => repeat (first | (with_reducible first | exact HI0.out | apply IsS25.alloc | apply IsS25.drewN | apply IsS25.drew | apply IsS25.set_1 | refine IsS25.far ?_ NB0_135.out _) | exact HI0.out))
          (case side2 => repeat (first | (with_reducible first | exact HB.out | apply below_alloc | apply pw_below_drewN | apply below_drew1 | refine below_set ?_ (IsS25.ge HI0.out) | refine below_set ?_ GE135.out) | exact HB.out))
          (case side3 => repeat (first | exact (Kd.R_reads' HO140.out).2.2 | (with_reducible refine Kd.C_alloc ?_ _) | (with_reducible refine Kd.C_drewN ?_ _) | (with_reducible refine Kd.C_drew ?_)))
          (case side4 => exact (Kd.R_reads' HO140.out).2.1)
          (case side5 => exact far_slice (IsS25.own_ne HI0.out HO140.out (by decide)))
          rintro e w43 ⟨rfl, hi, hb, hk⟩
          refine ⟨_, rfl, ?_⟩
          have n0_ := Aside0.mk (Kd.R_mono (Kd.R_keep (IsS25.apart (show IsS25 w0 _ g s0_0 x1001_2 from by repeat (first | (with_reducible first | exact HI0.out | apply IsS25.alloc | apply IsS25.drewN | apply IsS25.drew | apply IsS25.set_1 | refine IsS25.far ?_ NB0_135.out _) | exact HI0.out)) (by (with_reducible repeat (first | apply Kd.R_alloc | apply Kd.R_drewN | apply Kd.R_drew)); exact HO_5.out) (by decide)) hk (fun _ h => h.2)) (fun _ h => h.1))
          have n1_ := Aside0.mk (KeepBut.blk hk (g' := gb135) (o := .cells #[.string ((⟨#[105]⟩ : ByteArray) ++ (Utf8.encode (wrap32 (wrap64 (97 + x13_1))))), .string t118, .int .i64 t123, .string t133, .int .i64 t128, .string (⟨#[]⟩ : ByteArray), .string x136006_2] 55 (0, 0)) (by (with_reducible repeat (first | refine blk_drewN ?_ _ | refine blk_drew ?_ | refine blk_alloc ?_ _)); exact BK135.out) NB135_0.out (by simp))
          have n2_ := Aside0.mk (Kd.R_mono (Kd.R_keep (IsS25.apart (show IsS25 w0 _ g s0_0 x1001_2 from by repeat (first | (with_reducible first | exact HI0.out | apply IsS25.alloc | apply IsS25.drewN | apply IsS25.drew | apply IsS25.set_1 | refine IsS25.far ?_ NB0_135.out _) | exact HI0.out)) (by (with_reducible repeat (first | apply Kd.R_alloc | apply Kd.R_drewN | apply Kd.R_drew)); exact HO140.out) (by decide)) hk (fun _ h => h.2)) (fun _ h => h.1))
          have n3_ := Aside0.mk (KeepBut.trans (by repeat (first | (with_reducible first | exact HK.out | apply KeepBut.set_ | apply keep_drewN | apply keep_drew | apply keep_alloc | refine keep_far ?_ GW135.out _) | exact HK.out)) hk (.inl rfl))
          have n4_ := Aside0.mk (hb)
          have n5_ := Aside0.mk (hi)
          clear HO_5
          clear BK135
          clear HO140
          clear HK
          clear HB
          clear HI0
          have HO_5 := n0_
          have BK135 := n1_
          have HO140 := n2_
          have HK := n3_
          have HB := n4_
          have HI0 := n5_
          clear n0_ n1_ n2_ n3_ n4_ n5_
          (try clear hb)
          (try clear hb2)
          (try clear hk)
          (try clear hi)
          refine hK.out _ _ ⟨(blk_cell BK135.out 0).trans rfl, (blk_cell BK135.out 1).trans rfl, (blk_cell BK135.out 2).trans rfl, (blk_cell BK135.out 3).trans rfl, (blk_cell BK135.out 4).trans rfl, (blk_cell BK135.out 5).trans rfl, (blk_cell BK135.out 6).trans rfl⟩ (fun hHeld => ?_)
          clear hK K
          refine norm_ (a' := ?_) ?_ ?_
          rotate_left
          ·show Act.put _ (some 43) _ = _
           simp only [Act.put, List.setIfInBounds_toArray, List.set_cons_zero, List.set_cons_succ, i64_w, i32_w]
           rfl
          refine one_ (i := 6) (N := some 44) chasemake_Stream_Papers.D7 rfl rfl (one_of HT_.out (by kernel_rfl)) (by decide) (fun K hK => ?_)
          refine goes_ Tryz.func25 (by kernel_rfl) rfl #[.string (⟨#[119]⟩ : ByteArray), .int .i64 t141] (by rfl) rfl rfl (by (try simp only [List.map_toArray, List.map_cons, List.map_nil]); first | done | rfl | (simp only [List.length_drop, List.length_take]; rfl)) ?_
          with_reducible refine (strings_Repeat.calls (⟨#[119]⟩ : ByteArray) t141 t143 _ A34.out).mono ?_
          rintro e w44 ⟨rfl, hb⟩
          refine ⟨_, rfl, ?_⟩
          have n0_ := Aside0.mk (Kd.R_below (by (with_reducible repeat (first | apply Kd.R_alloc | apply Kd.R_drewN | apply Kd.R_drew)); exact HO_5.out) hb)
          have n1_ := Aside0.mk (Kd.R_below (by (with_reducible repeat (first | apply Kd.R_alloc | apply Kd.R_drewN | apply Kd.R_drew)); exact HO140.out) hb)
          have n2_ := Aside0.mk (blk_below (g := gb135) (o := .cells #[.string ((⟨#[105]⟩ : ByteArray) ++ (Utf8.encode (wrap32 (wrap64 (97 + x13_1))))), .string t118, .int .i64 t123, .string t133, .int .i64 t128, .string (⟨#[]⟩ : ByteArray), .string x136006_2] 55 (0, 0)) (by (with_reducible repeat (first | refine blk_drewN ?_ _ | refine blk_drew ?_ | refine blk_alloc ?_ _)); exact BK135.out) hb)
          have n3_ := Aside0.mk (IsS25.below (by repeat (first | (with_reducible first | exact HI0.out | apply IsS25.alloc | apply IsS25.drewN | apply IsS25.drew | apply IsS25.set_1 | refine IsS25.far ?_ NB0_135.out _) | exact HI0.out)) hb)
          have n4_ := Aside0.mk (KeepBut.trans (by repeat (first | (with_reducible first | exact HK.out | apply KeepBut.set_ | apply keep_drewN | apply keep_drew | apply keep_alloc | refine keep_far ?_ GW135.out _) | exact HK.out)) (KeepBut.of_below hb g none) (.inl rfl))
          have n5_ := Aside0.mk (below_step (by repeat (first | (with_reducible first | exact HB.out | apply below_alloc | apply pw_below_drewN | apply below_drew1 | refine below_set ?_ (IsS25.ge HI0.out) | refine below_set ?_ GE135.out) | exact HB.out)) hb)
          clear HO_5
          clear HO140
          clear BK135
          clear HI0
          clear HK
          clear HB
          have HO_5 := n0_
          have HO140 := n1_
          have BK135 := n2_
          have HI0 := n3_
          have HK := n4_
          have HB := n5_
          clear n0_ n1_ n2_ n3_ n4_ n5_
          (try clear hb)
          (try clear hb2)
          (try clear hk)
          (try clear hi)
          refine hK.out _ _ ⟨(blk_cell BK135.out 0).trans rfl, (blk_cell BK135.out 1).trans rfl, (blk_cell BK135.out 2).trans rfl, (blk_cell BK135.out 3).trans rfl, (blk_cell BK135.out 4).trans rfl, (blk_cell BK135.out 5).trans rfl, (blk_cell BK135.out 6).trans rfl⟩ (fun hHeld => ?_)
          clear hK K
          refine norm_ (a' := ?_) ?_ ?_
          rotate_left
          ·show Act.put _ (some 44) _ = _
           simp only [Act.put, List.setIfInBounds_toArray, List.set_cons_zero, List.set_cons_succ, i64_w, i32_w]
           rfl
          refine one_ (i := 7) (N := some 45) chasemake_Stream_Papers.D8 rfl rfl (one_of HT_.out (by kernel_rfl)) (by decide) (fun K hK => ?_)
          refine goes_ Tryz.func25 (by kernel_rfl) rfl #[.string (⟨#[97, 98, 32]⟩ : ByteArray), .int .i64 30] (by rfl) rfl rfl (by (try simp only [List.map_toArray, List.map_cons, List.map_nil]); first | done | rfl | (simp only [List.length_drop, List.length_take]; rfl)) ?_
          with_reducible refine (strings_Repeat.calls (⟨#[97, 98, 32]⟩ : ByteArray) 30 t144 _ A35.out).mono ?_
          rintro e w45 ⟨rfl, hb⟩
          refine ⟨_, rfl, ?_⟩
          have n0_ := Aside0.mk (Kd.R_below (by (with_reducible repeat (first | apply Kd.R_alloc | apply Kd.R_drewN | apply Kd.R_drew)); exact HO_5.out) hb)
          have n1_ := Aside0.mk (Kd.R_below (by (with_reducible repeat (first | apply Kd.R_alloc | apply Kd.R_drewN | apply Kd.R_drew)); exact HO140.out) hb)
          have n2_ := Aside0.mk (blk_below (g := gb135) (o := .cells #[.string ((⟨#[105]⟩ : ByteArray) ++ (Utf8.encode (wrap32 (wrap64 (97 + x13_1))))), .string t118, .int .i64 t123, .string t133, .int .i64 t128, .string (⟨#[]⟩ : ByteArray), .string x136006_2] 55 (0, 0)) (by (with_reducible repeat (first | refine blk_drewN ?_ _ | refine blk_drew ?_ | refine blk_alloc ?_ _)); exact BK135.out) hb)
          have n3_ := Aside0.mk (IsS25.below (by repeat (first | (with_reducible first | exact HI0.out | apply IsS25.alloc | apply IsS25.drewN | apply IsS25.drew | apply IsS25.set_1 | refine IsS25.far ?_ NB0_135.out _) | exact HI0.out)) hb)
          have n4_ := Aside0.mk (KeepBut.trans (by repeat (first | (with_reducible first | exact HK.out | apply KeepBut.set_ | apply keep_drewN | apply keep_drew | apply keep_alloc | refine keep_far ?_ GW135.out _) | exact HK.out)) (KeepBut.of_below hb g none) (.inl rfl))
          have n5_ := Aside0.mk (below_step (by repeat (first | (with_reducible first | exact HB.out | apply below_alloc | apply pw_below_drewN | apply below_drew1 | refine below_set ?_ (IsS25.ge HI0.out) | refine below_set ?_ GE135.out) | exact HB.out)) hb)
          clear HO_5
          clear HO140
          clear BK135
          clear HI0
          clear HK
          clear HB
          have HO_5 := n0_
          have HO140 := n1_
          have BK135 := n2_
          have HI0 := n3_
          have HK := n4_
          have HB := n5_
          clear n0_ n1_ n2_ n3_ n4_ n5_
          (try clear hb)
          (try clear hb2)
          (try clear hk)
          (try clear hi)
          refine hK.out _ _ ⟨(blk_cell BK135.out 0).trans rfl, (blk_cell BK135.out 1).trans rfl, (blk_cell BK135.out 2).trans rfl, (blk_cell BK135.out 3).trans rfl, (blk_cell BK135.out 4).trans rfl, (blk_cell BK135.out 5).trans rfl, (blk_cell BK135.out 6).trans rfl⟩ (fun hHeld => ?_)
          clear hK K
          refine norm_ (a' := ?_) ?_ ?_
          rotate_left
          ·show Act.put _ (some 45) _ = _
           simp only [Act.put, List.setIfInBounds_toArray, List.set_cons_zero, List.set_cons_succ, i64_w, i32_w]
           rfl
          refine one_ (i := 8) (N := some 46) chasemake_Stream_Papers.D9 rfl rfl (one_of HT_.out (by kernel_rfl)) (by decide) (fun K hK => ?_)
          refine Kd.R_lit_step Kd.string _ 9 ?hg (N := 46) ?hd (xs := ([(⟨#[111, 110, 101]⟩ : ByteArray), (⟨#[115, 101, 99, 114, 101, 116, 32, 119, 111, 114, 100, 115]⟩ : ByteArray), (⟨#[]⟩ : ByteArray), (⟨#[195, 169, 116, 195, 169, 32, 120]⟩ : ByteArray), t143, t144] : List ByteArray)) (inner := [.string (⟨#[111, 110, 101]⟩ : ByteArray), .string (⟨#[115, 101, 99, 114, 101, 116, 32, 119, 111, 114, 100, 115]⟩ : ByteArray), .string (⟨#[]⟩ : ByteArray), .string (⟨#[195, 169, 116, 195, 169, 32, 120]⟩ : ByteArray), .string t143, .string t144]) (ok := fun _ => True) (okp := fun _ => True) ?hr ?hp (fun _ hk => hk) trivial (Below.refl _ _) (Nat.le_refl _) (by simp) ?_; (case hd => rfl); (case hg => rfl); (case hr => first | (go_simp; done) | (go_simp; rfl)); (case hp => exact (Reps.one (show Kd.M Kd.string _ _ _ (⟨#[111, 110, 101]⟩ : ByteArray) [.string (⟨#[111, 110, 101]⟩ : ByteArray)] from rfl) (Reps.one (show Kd.M Kd.string _ _ _ (⟨#[115, 101, 99, 114, 101, 116, 32, 119, 111, 114, 100, 115]⟩ : ByteArray) [.string (⟨#[115, 101, 99, 114, 101, 116, 32, 119, 111, 114, 100, 115]⟩ : ByteArray)] from rfl) (Reps.one (show Kd.M Kd.string _ _ _ (⟨#[]⟩ : ByteArray) [.string (⟨#[]⟩ : ByteArray)] from rfl) (Reps.one (show Kd.M Kd.string _ _ _ (⟨#[195, 169, 116, 195, 169, 32, 120]⟩ : ByteArray) [.string (⟨#[195, 169, 116, 195, 169, 32, 120]⟩ : ByteArray)] from rfl) (Reps.one (show Kd.M Kd.string _ _ _ t143 [.string t143] from rfl) (Reps.one (show Kd.M Kd.string _ _ _ t144 [.string t144] from rfl) (Reps.none _ _))))))))
          intro v146 w46 ho47 hb hg_ hnew_
          clear hg_ hnew_
          (first | rw [← Ny145.out] at ho47 | (simp only [Int.reduceToNat] at ho47; rw [← Ny145.out] at ho47))
          have n0_ := Aside0.mk (Kd.R_below (by (with_reducible repeat (first | apply Kd.R_alloc | apply Kd.R_drewN | apply Kd.R_drew)); exact HO_5.out) hb)
          have n1_ := Aside0.mk (Kd.R_below (by (with_reducible repeat (first | apply Kd.R_alloc | apply Kd.R_drewN | apply Kd.R_drew)); exact HO140.out) hb)
          have n2_ := Aside0.mk (Kd.R_lower ho47 (keep_size (w := w) (g := g) (row := none) (by repeat (first | (with_reducible first | exact HK.out | apply KeepBut.set_ | apply keep_drewN | apply keep_drew | apply keep_alloc | refine keep_far ?_ GW135.out _) | exact HK.out))))
          have n3_ := Aside0.mk (blk_below (g := gb135) (o := .cells #[.string ((⟨#[105]⟩ : ByteArray) ++ (Utf8.encode (wrap32 (wrap64 (97 + x13_1))))), .string t118, .int .i64 t123, .string t133, .int .i64 t128, .string (⟨#[]⟩ : ByteArray), .string x136006_2] 55 (0, 0)) (by (with_reducible repeat (first | refine blk_drewN ?_ _ | refine blk_drew ?_ | refine blk_alloc ?_ _)); exact BK135.out) hb)
          have n4_ := Aside0.mk (IsS25.below (by repeat (first | (with_reducible first | exact HI0.out | apply IsS25.alloc | apply IsS25.drewN | apply IsS25.drew | apply IsS25.set_1 | refine IsS25.far ?_ NB0_135.out _) | exact HI0.out)) hb)
          have n5_ := Aside0.mk (KeepBut.trans (by repeat (first | (with_reducible first | exact HK.out | apply KeepBut.set_ | apply keep_drewN | apply keep_drew | apply keep_alloc | refine keep_far ?_ GW135.out _) | exact HK.out)) (KeepBut.of_below hb g none) (.inl rfl))
          have n6_ := Aside0.mk (below_step (by repeat (first | (with_reducible first | exact HB.out | apply below_alloc | apply pw_below_drewN | apply below_drew1 | refine below_set ?_ (IsS25.ge HI0.out) | refine below_set ?_ GE135.out) | exact HB.out)) hb)
          clear HO_5
          clear HO140
          clear BK135
          clear HI0
          clear HK
          clear HB
          have HO_5 := n0_
          have HO140 := n1_
          have HO147 := n2_
          have BK135 := n3_
          have HI0 := n4_
          have HK := n5_
          have HB := n6_
          clear n0_ n1_ n2_ n3_ n4_ n5_ n6_
          clear hb ho47
          obtain ⟨Ao48, co48, eo48⟩ := Kd.R_slice HO147.out
          (first | subst eo48 | (injection eo48 with f1_ f2_ f3_; have f4_ := f1_.symm; have f5_ := f3_.symm; clear f1_ f2_ f3_; subst f4_; subst f5_))
          refine hK.out _ _ ⟨(blk_cell BK135.out 0).trans rfl, (blk_cell BK135.out 1).trans rfl, (blk_cell BK135.out 2).trans rfl, (blk_cell BK135.out 3).trans rfl, (blk_cell BK135.out 4).trans rfl, (blk_cell BK135.out 5).trans rfl, (blk_cell BK135.out 6).trans rfl⟩ (fun hHeld => ?_)
          clear hK K
          refine norm_ (a' := ?_) ?_ ?_
          rotate_left
          ·show Act.put _ (some 46) _ = _
           simp only [Act.put, List.setIfInBounds_toArray, List.set_cons_zero, List.set_cons_succ, i64_w, i32_w]
           rfl
          refine one_ (i := 9) (N := some 47) chasemake_Stream_Papers.D10 rfl rfl (one_of HT_.out (by kernel_rfl)) (by decide) (fun K hK => ?_)
          refine goes_ Tryz.func24 (by kernel_rfl) rfl #[.pointer (some ⟨g, 0, none⟩), .slice Ao48 y145.length co48] (by rfl) rfl rfl (by (try simp only [List.map_toArray, List.map_cons, List.map_nil]); first | done | rfl | (simp only [List.length_drop, List.length_take]; rfl)) ?_
          with_reducible refine (chasemake_Stream_h06one.calls g s0_0 t142 _ _ y145 t148 t149 w0 _ ?side1 ?side2 ?side3 ?side4 ?side5 A36.out).mono ?_
          (case side1 => repeat (first | (with_reducible first | exact HI0.out | apply IsS25.alloc | apply IsS25.drewN | apply IsS25.drew | apply IsS25.set_1 | refine IsS25.far ?_ NB0_135.out _) | exact HI0.out))
          (case side2 => repeat (first | (with_reducible first | exact HB.out | apply below_alloc | apply pw_below_drewN | apply below_drew1 | refine below_set ?_ (IsS25.ge HI0.out) | refine below_set ?_ GE135.out) | exact HB.out))
          (case side3 => repeat (first | exact (Kd.R_reads' HO147.out).2.2 | (with_reducible refine Kd.C_alloc ?_ _) | (with_reducible refine Kd.C_drewN ?_ _) | (with_reducible refine Kd.C_drew ?_)))
          (case side4 => exact (Kd.R_reads' HO147.out).2.1)
          (case side5 => exact far_slice (IsS25.own_ne HI0.out HO147.out (by decide)))
          rintro e w49 ⟨rfl, hi, hb, hk⟩
          refine ⟨_, rfl, ?_⟩
          have n0_ := Aside0.mk (Kd.R_mono (Kd.R_keep (IsS25.apart (show IsS25 w0 _ g s0_0 t142 from by repeat (first | (with_reducible first | exact HI0.out | apply IsS25.alloc | apply IsS25.drewN | apply IsS25.drew | apply IsS25.set_1 | refine IsS25.far ?_ NB0_135.out _) | exact HI0.out)) (by (with_reducible repeat (first | apply Kd.R_alloc | apply Kd.R_drewN | apply Kd.R_drew)); exact HO_5.out) (by decide)) hk (fun _ h => h.2)) (fun _ h => h.1))
          have n1_ := Aside0.mk (KeepBut.blk hk (g' := gb135) (o := .cells #[.string ((⟨#[105]⟩ : ByteArray) ++ (Utf8.encode (wrap32 (wrap64 (97 + x13_1))))), .string t118, .int .i64 t123, .string t133, .int .i64 t128, .string (⟨#[]⟩ : ByteArray), .string x136006_2] 55 (0, 0)) (by (with_reducible repeat (first | refine blk_drewN ?_ _ | refine blk_drew ?_ | refine blk_alloc ?_ _)); exact BK135.out) NB135_0.out (by simp))
          have n2_ := Aside0.mk (Kd.R_mono (Kd.R_keep (IsS25.apart (show IsS25 w0 _ g s0_0 t142 from by repeat (first | (with_reducible first | exact HI0.out | apply IsS25.alloc | apply IsS25.drewN | apply IsS25.drew | apply IsS25.set_1 | refine IsS25.far ?_ NB0_135.out _) | exact HI0.out)) (by (with_reducible repeat (first | apply Kd.R_alloc | apply Kd.R_drewN | apply Kd.R_drew)); exact HO140.out) (by decide)) hk (fun _ h => h.2)) (fun _ h => h.1))
          have n3_ := Aside0.mk (Kd.R_mono (Kd.R_keep (IsS25.apart (show IsS25 w0 _ g s0_0 t142 from by repeat (first | (with_reducible first | exact HI0.out | apply IsS25.alloc | apply IsS25.drewN | apply IsS25.drew | apply IsS25.set_1 | refine IsS25.far ?_ NB0_135.out _) | exact HI0.out)) (by (with_reducible repeat (first | apply Kd.R_alloc | apply Kd.R_drewN | apply Kd.R_drew)); exact HO147.out) (by decide)) hk (fun _ h => h.2)) (fun _ h => h.1))
          have n4_ := Aside0.mk (KeepBut.trans (by repeat (first | (with_reducible first | exact HK.out | apply KeepBut.set_ | apply keep_drewN | apply keep_drew | apply keep_alloc | refine keep_far ?_ GW135.out _) | exact HK.out)) hk (.inl rfl))
          have n5_ := Aside0.mk (hb)
          have n6_ := Aside0.mk (hi)
          clear HO_5
          clear BK135
          clear HO140
          clear HO147
          clear HK
          clear HB
          clear HI0
          have HO_5 := n0_
          have BK135 := n1_
          have HO140 := n2_
          have HO147 := n3_
          have HK := n4_
          have HB := n5_
          have HI0 := n6_
          clear n0_ n1_ n2_ n3_ n4_ n5_ n6_
          (try clear hb)
          (try clear hb2)
          (try clear hk)
          (try clear hi)
          refine hK.out _ _ ⟨(blk_cell BK135.out 0).trans rfl, (blk_cell BK135.out 1).trans rfl, (blk_cell BK135.out 2).trans rfl, (blk_cell BK135.out 3).trans rfl, (blk_cell BK135.out 4).trans rfl, (blk_cell BK135.out 5).trans rfl, (blk_cell BK135.out 6).trans rfl⟩ (fun hHeld => ?_)
          clear hK K
          refine norm_ (a' := ?_) ?_ ?_
          rotate_left
          ·show Act.put _ (some 47) _ = _
           simp only [Act.put, List.setIfInBounds_toArray, List.set_cons_zero, List.set_cons_succ, i64_w, i32_w]
           rfl
          refine pu_ (i := 10) (N := some 48) (v := ?_) (a' := ?_) chasemake_Stream_Papers.D11 (any_of HT_.out (by kernel_rfl)) ?_ ?_ ?_; rotate_left 2
          ·intro w'; go_simp; with_reducible rfl
          ·simp only [Act.put, s_t, s_z, s_s, i64_w, i32_w]; rfl
          refine pu_ (i := 11) (N := some 49) (v := ?_) (a' := ?_) chasemake_Stream_Papers.D12 (any_of HT_.out (by kernel_rfl)) ?_ ?_ ?_; rotate_left 2
          ·intro w'; go_simp; with_reducible rfl
          ·simp only [Act.put, s_t, s_z, s_s, i64_w, i32_w]; rfl
          refine pu_ (i := 12) (N := some 50) (v := ?_) (a' := ?_) chasemake_Stream_Papers.D13 (any_of HT_.out (by kernel_rfl)) ?_ ?_ ?_; rotate_left 2
          ·intro w'; go_simp; with_reducible rfl
          ·simp only [Act.put, s_t, s_z, s_s, i64_w, i32_w]; rfl
          refine last_ (i := 13) (N := none) chasemake_Stream_Papers.D14 rfl rfl (one_of HT_.out (by kernel_rfl)) (by decide) (fun K hK => ?_)
          have hs50 : w49.cell? ⟨gb135, 6, none⟩ = some (.string x136006_2) := (blk_cell BK135.out 6).trans rfl
          have hfs50 := blk_frozen BK135.out 6
          refine skip_ (w1 := ?_) (by rfl) rfl ?_ ?_
          rotate_left
          ·go_simp
           rfl
          refine hK.out _ _ ?_
          clear hK K
          refine done_ (done_of HT_.out (by kernel_rfl)) ?_
          try go_wp2
          go_roundg k2
          case measure => have := HK1.out; have := HK2.out; omega
          case rel => exact ⟨(wrap64 (x36_2 + 1)), (t149), (x136006_2 ++ (t148 ++ (⟨#[10]⟩ : ByteArray))), (by first | rfl | (simp; done) | (simp [*]; done)), H', ⟨by have := HK1.out; have := HK2.out; omega⟩, ⟨by (with_reducible repeat (first | apply Kd.R_alloc | apply Kd.R_drewN | apply Kd.R_drew)); exact Kd.R_mono (Kd.R_far (p := ⟨gb135, 6, none⟩) (Kd.R_mono HO_5.out (fun k_ hk => (⟨hk, hk⟩ : _ ∧ k_ ≠ gb135))) (fun _ hk => hk.2) (.string (x136006_2 ++ (t148 ++ (⟨#[10]⟩ : ByteArray))))) (fun _ hk => hk.1)⟩, ⟨by (with_reducible repeat (first | refine blk_drewN ?_ _ | refine blk_drew ?_ | refine blk_alloc ?_ _)); refine blk_put (cs := #[.string ((⟨#[105]⟩ : ByteArray) ++ (Utf8.encode (wrap32 (wrap64 (97 + x13_1))))), .string t118, .int .i64 t123, .string t133, .int .i64 t128, .string (⟨#[]⟩ : ByteArray), .string x136006_2]) ?_ 6 _ rfl; (with_reducible repeat (first | refine blk_drewN ?_ _ | refine blk_drew ?_ | refine blk_alloc ?_ _)); exact BK135.out⟩, ⟨by repeat (first | (with_reducible first | exact HI0.out | apply IsS25.alloc | apply IsS25.drewN | apply IsS25.drew | apply IsS25.set_1 | refine IsS25.far ?_ NB0_135.out _) | exact HI0.out)⟩, ⟨by repeat (first | (with_reducible first | exact HK.out | apply KeepBut.set_ | apply keep_drewN | apply keep_drew | apply keep_alloc | refine keep_far ?_ GW135.out _) | exact HK.out)⟩, ⟨by repeat (first | (with_reducible first | exact HB.out | apply below_alloc | apply pw_below_drewN | apply below_drew1 | refine below_set ?_ (IsS25.ge HI0.out) | refine below_set ?_ GE135.out) | exact HB.out)⟩⟩
         ·rw [if_neg c38] at H
          exact absurd H (by simp)
        ·rw [if_neg c37] at H
         exact absurd H (by simp)
       ·rw [if_neg c32] at H
        have c32b0 : decide (x36_2 < t136) = false := decide_eq_false c32
        clear c32
        replace H := Option.bind_eq_some_iff.mp H
        obtain ⟨⟨t150, t151⟩, A510, H⟩ := H
        replace H : (if t150 = true then ((chasemake_Stream_Pick.f s0_0 t151 (([49, 50, 51, 101] : List Int))).bind fun bt155 => ((strings_Repeat.f (⟨#[108, 105, 110, 101, 10]⟩ : ByteArray) bt155.1).bind fun t157 => (chasemake_Stream_Papers.j2 k2 x5_1 x13_1 t113 x13_1 s0_0 bt155.2 ((⟨#[105]⟩ : ByteArray) ++ (Utf8.encode (wrap32 (wrap64 (97 + x13_1))))) t118 t123 t133 t128 (⟨#[]⟩ : ByteArray) t157))) else (chasemake_Stream_Papers.j2 k2 x5_1 x13_1 t113 x13_1 s0_0 t151 ((⟨#[105]⟩ : ByteArray) ++ (Utf8.encode (wrap32 (wrap64 (97 + x13_1))))) t118 t123 t133 t128 (⟨#[]⟩ : ByteArray) x136006_2)) = some (r1, r2) := H
        have A51 := Aside0.mk A510
        clear A510
        have HC52 := Aside0.mk H
        clear H
        go_upto_if 53 with (first | ((with_reducible refine gate_callee (f := 23) rfl ?_); refine goesL_ (some 53) rfl rfl Tryz.func23 (by kernel_rfl) rfl #[.pointer (some ⟨g, 0, none⟩), .int .i64 8] rfl (by (try simp only [List.map_toArray, List.map_cons, List.map_nil]); first | done | rfl | (simp only [List.length_drop, List.length_take]; rfl)) ?_; (with_reducible refine (chasemake_Stream_Flip.calls g s0_0 x1001_2 8 t150 t151 w0 _ ?side1 ?side2 A51.out).mono ?_); (case side1 => repeat (first | (with_reducible first | exact HI0.out | apply IsS25.alloc | apply IsS25.drewN | apply IsS25.drew | apply IsS25.set_1 | refine IsS25.far ?_ NB0_135.out _) | exact HI0.out)); (case side2 => repeat (first | (with_reducible first | exact HB.out | apply below_alloc | apply pw_below_drewN | apply below_drew1 | refine below_set ?_ (IsS25.ge HI0.out) | refine below_set ?_ GE135.out) | exact HB.out)); rintro e w53 ⟨rfl, hi, hb, hk⟩; refine ⟨_, rfl, ?_⟩; have n0_ := Aside0.mk (Kd.R_mono (Kd.R_keep (IsS25.apart (show IsS25 w0 _ g s0_0 x1001_2 from by repeat (first | (with_reducible first | exact HI0.out | apply IsS25.alloc | apply IsS25.drewN | apply IsS25.drew | apply IsS25.set_1 | refine IsS25.far ?_ NB0_135.out _) | exact HI0.out)) (by (with_reducible repeat (first | apply Kd.R_alloc | apply Kd.R_drewN | apply Kd.R_drew)); exact HO_5.out) (by decide)) hk (fun _ h => h.2)) (fun _ h => h.1)); have n1_ := Aside0.mk (KeepBut.blk hk (g' := gb135) (o := .cells #[.string ((⟨#[105]⟩ : ByteArray) ++ (Utf8.encode (wrap32 (wrap64 (97 + x13_1))))), .string t118, .int .i64 t123, .string t133, .int .i64 t128, .string (⟨#[]⟩ : ByteArray), .string x136006_2] 55 (0, 0)) (by (with_reducible repeat (first | refine blk_drewN ?_ _ | refine blk_drew ?_ | refine blk_alloc ?_ _)); exact BK135.out) NB135_0.out (by simp)); have n2_ := Aside0.mk (KeepBut.trans (by repeat (first | (with_reducible first | exact HK.out | apply KeepBut.set_ | apply keep_drewN | apply keep_drew | apply keep_alloc | refine keep_far ?_ GW135.out _) | exact HK.out)) hk (.inl rfl)); have n3_ := Aside0.mk (hb); have n4_ := Aside0.mk (hi); clear HO_5; clear BK135; clear HK; clear HB; clear HI0; have HO_5 := n0_; have BK135 := n1_; have HK := n2_; have HB := n3_; have HI0 := n4_; clear n0_ n1_ n2_ n3_ n4_; (try clear hb); (try clear hb2); (try clear hk); (try clear hi)))
        (try simp only [Act.put, List.setIfInBounds_toArray, List.set_cons_zero, List.set_cons_succ])
        go_cut [] (fun wc => ∃ (kq : Nat) (x1001_51 : Int) (x136006_51 : ByteArray), Aside0 (chasemake_Stream_Papers.j2 kq x5_1 x13_1 t113 x13_1 s0_0 x1001_51 ((⟨#[105]⟩ : ByteArray) ++ (Utf8.encode (wrap32 (wrap64 (97 + x13_1))))) t118 t123 t133 t128 (⟨#[]⟩ : ByteArray) x136006_51 = some (r1, r2)) ∧ Aside0 (kq ≤ k2) ∧ Aside0 (Kd.R k55 55 wc w.heap.size (fun k_ => k_ ≠ gb135) u5 x5_1) ∧ Aside0 (wc.heap[gb135]? = some (.cells #[.string ((⟨#[105]⟩ : ByteArray) ++ (Utf8.encode (wrap32 (wrap64 (97 + x13_1))))), .string t118, .int .i64 t123, .string t133, .int .i64 t128, .string (⟨#[]⟩ : ByteArray), .string x136006_51] 55 (0, 0))) ∧ Aside0 (IsS25 w0 wc g s0_0 x1001_51) ∧ Aside0 (KeepBut w wc g none) ∧ Aside0 (Below w0.heap.size w0 wc))
        case first =>
         have H := HC52.out
         clear HC52
         by_cases c54 : t150 = true
         ·subst c54
          have H1 : ((chasemake_Stream_Pick.f s0_0 t151 (([49, 50, 51, 101] : List Int))).bind fun bt155 => ((strings_Repeat.f (⟨#[108, 105, 110, 101, 10]⟩ : ByteArray) bt155.1).bind fun t157 => (chasemake_Stream_Papers.j2 k2 x5_1 x13_1 t113 x13_1 s0_0 bt155.2 ((⟨#[105]⟩ : ByteArray) ++ (Utf8.encode (wrap32 (wrap64 (97 + x13_1))))) t118 t123 t133 t128 (⟨#[]⟩ : ByteArray) t157))) = some (r1, r2) := by rw [if_pos rfl] at H; exact H
          clear H
          have H := H1
          clear H1
          obtain ⟨y152, hy152⟩ : ∃ y_ : List Int, y_ = (([49, 50, 51, 101] : List Int)) := ⟨_, rfl⟩
          replace H : ((chasemake_Stream_Pick.f s0_0 t151 y152).bind fun bt155 => ((strings_Repeat.f (⟨#[108, 105, 110, 101, 10]⟩ : ByteArray) bt155.1).bind fun t157 => (chasemake_Stream_Papers.j2 k2 x5_1 x13_1 t113 x13_1 s0_0 bt155.2 ((⟨#[105]⟩ : ByteArray) ++ (Utf8.encode (wrap32 (wrap64 (97 + x13_1))))) t118 t123 t133 t128 (⟨#[]⟩ : ByteArray) t157))) = some (r1, r2) := by first | (rw [hy152]; with_reducible exact H) | (have H2_ := (Option.bind_some _ _).symm.trans H; rw [hy152]; with_reducible exact H2_) | (have H2_ := (Option.bind_some _ _).symm.trans H; with_reducible exact H2_) | with_reducible exact H | (rw [hy152]; exact H) | exact H
          have Ny152 := Aside0.mk hy152
          clear hy152
          replace H := Option.bind_eq_some_iff.mp H
          obtain ⟨⟨t155, t156⟩, A550, H⟩ := H
          replace H : ((strings_Repeat.f (⟨#[108, 105, 110, 101, 10]⟩ : ByteArray) t155).bind fun t157 => (chasemake_Stream_Papers.j2 k2 x5_1 x13_1 t113 x13_1 s0_0 t156 ((⟨#[105]⟩ : ByteArray) ++ (Utf8.encode (wrap32 (wrap64 (97 + x13_1))))) t118 t123 t133 t128 (⟨#[]⟩ : ByteArray) t157)) = some (r1, r2) := H
          have A55 := Aside0.mk A550
          clear A550
          replace H := Option.bind_eq_some_iff.mp H
          obtain ⟨t157, A560, H⟩ := H
          replace H : (chasemake_Stream_Papers.j2 k2 x5_1 x13_1 t113 x13_1 s0_0 t156 ((⟨#[105]⟩ : ByteArray) ++ (Utf8.encode (wrap32 (wrap64 (97 + x13_1))))) t118 t123 t133 t128 (⟨#[]⟩ : ByteArray) t157) = some (r1, r2) := H
          have A56 := Aside0.mk A560
          clear A560
          have H' := Aside0.mk H
          clear H
          go_wp2_with (first | ((with_reducible refine gate_dst (N := 55) rfl ?_); refine Kd.R_lit (Kd.int .i64) _ 3 ?hg (N := 55) ?hd (xs := ([49, 50, 51, 101] : List Int)) (inner := [.int .i64 49, .int .i64 50, .int .i64 51, .int .i64 101]) (ok := fun _ => True) (okp := fun _ => True) ?hr ?hp (fun _ hk => hk) trivial (Below.refl _ _) (Nat.le_refl _) (by simp) ?_; (case hd => rfl); (case hg => rfl); (case hr => first | (go_simp; done) | (go_simp; rfl)); (case hp => exact (Reps.one (show Kd.M (Kd.int .i64) _ _ _ 49 [.int .i64 49] from rfl) (Reps.one (show Kd.M (Kd.int .i64) _ _ _ 50 [.int .i64 50] from rfl) (Reps.one (show Kd.M (Kd.int .i64) _ _ _ 51 [.int .i64 51] from rfl) (Reps.one (show Kd.M (Kd.int .i64) _ _ _ 101 [.int .i64 101] from rfl) (Reps.none _ _)))))); intro v153 w57 ho58 hb hg_ hnew_; clear hg_ hnew_; (first | rw [← Ny152.out] at ho58 | (simp only [Int.reduceToNat] at ho58; rw [← Ny152.out] at ho58)); have n0_ := Aside0.mk (Kd.R_below (by (with_reducible repeat (first | apply Kd.R_alloc | apply Kd.R_drewN | apply Kd.R_drew)); exact HO_5.out) hb); have n1_ := Aside0.mk (Kd.R_lower ho58 (keep_size (w := w) (g := g) (row := none) (by repeat (first | (with_reducible first | exact HK.out | apply KeepBut.set_ | apply keep_drewN | apply keep_drew | apply keep_alloc | refine keep_far ?_ GW135.out _) | exact HK.out)))); have n2_ := Aside0.mk (blk_below (g := gb135) (o := .cells #[.string ((⟨#[105]⟩ : ByteArray) ++ (Utf8.encode (wrap32 (wrap64 (97 + x13_1))))), .string t118, .int .i64 t123, .string t133, .int .i64 t128, .string (⟨#[]⟩ : ByteArray), .string x136006_2] 55 (0, 0)) (by (with_reducible repeat (first | refine blk_drewN ?_ _ | refine blk_drew ?_ | refine blk_alloc ?_ _)); exact BK135.out) hb); have n3_ := Aside0.mk (IsS25.below (by repeat (first | (with_reducible first | exact HI0.out | apply IsS25.alloc | apply IsS25.drewN | apply IsS25.drew | apply IsS25.set_1 | refine IsS25.far ?_ NB0_135.out _) | exact HI0.out)) hb); have n4_ := Aside0.mk (KeepBut.trans (by repeat (first | (with_reducible first | exact HK.out | apply KeepBut.set_ | apply keep_drewN | apply keep_drew | apply keep_alloc | refine keep_far ?_ GW135.out _) | exact HK.out)) (KeepBut.of_below hb g none) (.inl rfl)); have n5_ := Aside0.mk (below_step (by repeat (first | (with_reducible first | exact HB.out | apply below_alloc | apply pw_below_drewN | apply below_drew1 | refine below_set ?_ (IsS25.ge HI0.out) | refine below_set ?_ GE135.out) | exact HB.out)) hb); clear HO_5; clear BK135; clear HI0; clear HK; clear HB; have HO_5 := n0_; have HO154 := n1_; have BK135 := n2_; have HI0 := n3_; have HK := n4_; have HB := n5_; clear n0_ n1_ n2_ n3_ n4_ n5_; clear hb ho58; obtain ⟨Ao59, co59, eo59⟩ := Kd.R_slice HO154.out; subst eo59) | ((with_reducible refine gate_callee (f := 47) rfl ?_); refine goesL_ (some 56) rfl rfl Tryz.func47 (by kernel_rfl) rfl #[.pointer (some ⟨g, 0, none⟩), .slice Ao59 y152.length co59] rfl (by (try simp only [List.map_toArray, List.map_cons, List.map_nil]); first | done | rfl | (simp only [List.length_drop, List.length_take]; rfl)) ?_; (with_reducible refine (chasemake_Stream_Pick.calls g s0_0 t151 _ _ y152 t155 t156 w0 _ ?side1 ?side2 ?side3 ?side4 ?side5 A55.out).mono ?_); (case side1 => repeat (first | (with_reducible first | exact HI0.out | apply IsS25.alloc | apply IsS25.drewN | apply IsS25.drew | apply IsS25.set_1 | refine IsS25.far ?_ NB0_135.out _) | exact HI0.out)); (case side2 => repeat (first | (with_reducible first | exact HB.out | apply below_alloc | apply pw_below_drewN | apply below_drew1 | refine below_set ?_ (IsS25.ge HI0.out) | refine below_set ?_ GE135.out) | exact HB.out)); (case side3 => repeat (first | exact (Kd.R_reads' HO154.out).2.2 | (with_reducible refine Kd.C_alloc ?_ _) | (with_reducible refine Kd.C_drewN ?_ _) | (with_reducible refine Kd.C_drew ?_))); (case side4 => exact (Kd.R_reads' HO154.out).2.1); (case side5 => exact far_slice (IsS25.own_ne HI0.out HO154.out (by decide))); rintro e w60 ⟨rfl, hi, hb, hk⟩; refine ⟨_, rfl, ?_⟩; have n0_ := Aside0.mk (Kd.R_mono (Kd.R_keep (IsS25.apart (show IsS25 w0 _ g s0_0 t151 from by repeat (first | (with_reducible first | exact HI0.out | apply IsS25.alloc | apply IsS25.drewN | apply IsS25.drew | apply IsS25.set_1 | refine IsS25.far ?_ NB0_135.out _) | exact HI0.out)) (by (with_reducible repeat (first | apply Kd.R_alloc | apply Kd.R_drewN | apply Kd.R_drew)); exact HO_5.out) (by decide)) hk (fun _ h => h.2)) (fun _ h => h.1)); have n1_ := Aside0.mk (KeepBut.blk hk (g' := gb135) (o := .cells #[.string ((⟨#[105]⟩ : ByteArray) ++ (Utf8.encode (wrap32 (wrap64 (97 + x13_1))))), .string t118, .int .i64 t123, .string t133, .int .i64 t128, .string (⟨#[]⟩ : ByteArray), .string x136006_2] 55 (0, 0)) (by (with_reducible repeat (first | refine blk_drewN ?_ _ | refine blk_drew ?_ | refine blk_alloc ?_ _)); exact BK135.out) NB135_0.out (by simp)); have n2_ := Aside0.mk (Kd.R_mono (Kd.R_keep (IsS25.apart (show IsS25 w0 _ g s0_0 t151 from by repeat (first | (with_reducible first | exact HI0.out | apply IsS25.alloc | apply IsS25.drewN | apply IsS25.drew | apply IsS25.set_1 | refine IsS25.far ?_ NB0_135.out _) | exact HI0.out)) (by (with_reducible repeat (first | apply Kd.R_alloc | apply Kd.R_drewN | apply Kd.R_drew)); exact HO154.out) (by decide)) hk (fun _ h => h.2)) (fun _ h => h.1)); have n3_ := Aside0.mk (KeepBut.trans (by repeat (first | (with_reducible first | exact HK.out | apply KeepBut.set_ | apply keep_drewN | apply keep_drew | apply keep_alloc | refine keep_far ?_ GW135.out _) | exact HK.out)) hk (.inl rfl)); have n4_ := Aside0.mk (hb); have n5_ := Aside0.mk (hi); clear HO_5; clear BK135; clear HO154; clear HK; clear HB; clear HI0; have HO_5 := n0_; have BK135 := n1_; have HO154 := n2_; have HK := n3_; have HB := n4_; have HI0 := n5_; clear n0_ n1_ n2_ n3_ n4_ n5_; (try clear hb); (try clear hb2); (try clear hk); (try clear hi)) | ((with_reducible refine gate_callee (f := 25) rfl ?_); refine goesL_ (some 57) rfl rfl Tryz.func25 (by kernel_rfl) rfl #[.string (⟨#[108, 105, 110, 101, 10]⟩ : ByteArray), .int .i64 t155] rfl (by (try simp only [List.map_toArray, List.map_cons, List.map_nil]); first | done | rfl | (simp only [List.length_drop, List.length_take]; rfl)) ?_; (with_reducible refine (strings_Repeat.calls (⟨#[108, 105, 110, 101, 10]⟩ : ByteArray) t155 t157 _ A56.out).mono ?_); rintro e w61 ⟨rfl, hb⟩; refine ⟨_, rfl, ?_⟩; have n0_ := Aside0.mk (Kd.R_below (by (with_reducible repeat (first | apply Kd.R_alloc | apply Kd.R_drewN | apply Kd.R_drew)); exact HO_5.out) hb); have n1_ := Aside0.mk (Kd.R_below (by (with_reducible repeat (first | apply Kd.R_alloc | apply Kd.R_drewN | apply Kd.R_drew)); exact HO154.out) hb); have n2_ := Aside0.mk (blk_below (g := gb135) (o := .cells #[.string ((⟨#[105]⟩ : ByteArray) ++ (Utf8.encode (wrap32 (wrap64 (97 + x13_1))))), .string t118, .int .i64 t123, .string t133, .int .i64 t128, .string (⟨#[]⟩ : ByteArray), .string x136006_2] 55 (0, 0)) (by (with_reducible repeat (first | refine blk_drewN ?_ _ | refine blk_drew ?_ | refine blk_alloc ?_ _)); exact BK135.out) hb); have n3_ := Aside0.mk (IsS25.below (by repeat (first | (with_reducible first | exact HI0.out | apply IsS25.alloc | apply IsS25.drewN | apply IsS25.drew | apply IsS25.set_1 | refine IsS25.far ?_ NB0_135.out _) | exact HI0.out)) hb); have n4_ := Aside0.mk (KeepBut.trans (by repeat (first | (with_reducible first | exact HK.out | apply KeepBut.set_ | apply keep_drewN | apply keep_drew | apply keep_alloc | refine keep_far ?_ GW135.out _) | exact HK.out)) (KeepBut.of_below hb g none) (.inl rfl)); have n5_ := Aside0.mk (below_step (by repeat (first | (with_reducible first | exact HB.out | apply below_alloc | apply pw_below_drewN | apply below_drew1 | refine below_set ?_ (IsS25.ge HI0.out) | refine below_set ?_ GE135.out) | exact HB.out)) hb); clear HO_5; clear HO154; clear BK135; clear HI0; clear HK; clear HB; have HO_5 := n0_; have HO154 := n1_; have BK135 := n2_; have HI0 := n3_; have HK := n4_; have HB := n5_; clear n0_ n1_ n2_ n3_ n4_ n5_; (try clear hb); (try clear hb2); (try clear hk); (try clear hi); have hnb62 := NB135_0.out; have hnc62 := NB0_135.out; have hcz63_0 : w61.cell? ⟨gb135, 0, none⟩ = some (.string ((⟨#[105]⟩ : ByteArray) ++ (Utf8.encode (wrap32 (wrap64 (97 + x13_1)))))) := (blk_cell BK135.out 0).trans rfl; have hcz63_1 : w61.cell? ⟨gb135, 1, none⟩ = some (.string t118) := (blk_cell BK135.out 1).trans rfl; have hcz63_2 : w61.cell? ⟨gb135, 2, none⟩ = some (.int .i64 t123) := (blk_cell BK135.out 2).trans rfl; have hcz63_3 : w61.cell? ⟨gb135, 3, none⟩ = some (.string t133) := (blk_cell BK135.out 3).trans rfl; have hcz63_4 : w61.cell? ⟨gb135, 4, none⟩ = some (.int .i64 t128) := (blk_cell BK135.out 4).trans rfl; have hcz63_5 : w61.cell? ⟨gb135, 5, none⟩ = some (.string (⟨#[]⟩ : ByteArray)) := (blk_cell BK135.out 5).trans rfl; have hcz63_6 : w61.cell? ⟨gb135, 6, none⟩ = some (.string x136006_2) := (blk_cell BK135.out 6).trans rfl; have hfz63_0 := blk_frozen BK135.out 0; have hfz63_1 := blk_frozen BK135.out 1; have hfz63_2 := blk_frozen BK135.out 2; have hfz63_3 := blk_frozen BK135.out 3; have hfz63_4 := blk_frozen BK135.out 4; have hfz63_5 := blk_frozen BK135.out 5; have hfz63_6 := blk_frozen BK135.out 6))
          go_meet
          case rel => exact ⟨_, (t156), (t157), H', ⟨by have := HK1.out; have := HK2.out; first | omega | exact Nat.le_refl _⟩, ⟨by (with_reducible repeat (first | apply Kd.R_alloc | apply Kd.R_drewN | apply Kd.R_drew)); exact Kd.R_mono (Kd.R_far (p := ⟨gb135, 6, none⟩) (Kd.R_mono HO_5.out (fun k_ hk => (⟨hk, hk⟩ : _ ∧ k_ ≠ gb135))) (fun _ hk => hk.2) (.string t157)) (fun _ hk => hk.1)⟩, ⟨by (with_reducible repeat (first | refine blk_drewN ?_ _ | refine blk_drew ?_ | refine blk_alloc ?_ _)); refine blk_put (cs := #[.string ((⟨#[105]⟩ : ByteArray) ++ (Utf8.encode (wrap32 (wrap64 (97 + x13_1))))), .string t118, .int .i64 t123, .string t133, .int .i64 t128, .string (⟨#[]⟩ : ByteArray), .string x136006_2]) ?_ 6 _ rfl; (with_reducible repeat (first | refine blk_drewN ?_ _ | refine blk_drew ?_ | refine blk_alloc ?_ _)); exact BK135.out⟩, ⟨by repeat (first | (with_reducible first | exact HI0.out | apply IsS25.alloc | apply IsS25.drewN | apply IsS25.drew | apply IsS25.set_1 | refine IsS25.far ?_ NB0_135.out _) | exact HI0.out)⟩, ⟨by repeat (first | (with_reducible first | exact HK.out | apply KeepBut.set_ | apply keep_drewN | apply keep_drew | apply keep_alloc | refine keep_far ?_ GW135.out _) | exact HK.out)⟩, ⟨by repeat (first | (with_reducible first | exact HB.out | apply below_alloc | apply pw_below_drewN | apply below_drew1 | refine below_set ?_ (IsS25.ge HI0.out) | refine below_set ?_ GE135.out) | exact HB.out)⟩⟩
         ·replace c54 := Bool.eq_false_iff.mpr c54
          subst c54
          have H1 : (chasemake_Stream_Papers.j2 k2 x5_1 x13_1 t113 x13_1 s0_0 t151 ((⟨#[105]⟩ : ByteArray) ++ (Utf8.encode (wrap32 (wrap64 (97 + x13_1))))) t118 t123 t133 t128 (⟨#[]⟩ : ByteArray) x136006_2) = some (r1, r2) := by rw [if_neg (show ¬ (false = true) by decide)] at H; exact H
          clear H
          have H := H1
          clear H1
          have H' := Aside0.mk H
          clear H
          go_wp2
          go_meet
          case rel => exact ⟨_, (t151), (x136006_2), H', ⟨by have := HK1.out; have := HK2.out; first | omega | exact Nat.le_refl _⟩, ⟨by (with_reducible repeat (first | apply Kd.R_alloc | apply Kd.R_drewN | apply Kd.R_drew)); exact HO_5.out⟩, ⟨by (with_reducible repeat (first | refine blk_drewN ?_ _ | refine blk_drew ?_ | refine blk_alloc ?_ _)); exact BK135.out⟩, ⟨by repeat (first | (with_reducible first | exact HI0.out | apply IsS25.alloc | apply IsS25.drewN | apply IsS25.drew | apply IsS25.set_1 | refine IsS25.far ?_ NB0_135.out _) | exact HI0.out)⟩, ⟨by repeat (first | (with_reducible first | exact HK.out | apply KeepBut.set_ | apply keep_drewN | apply keep_drew | apply keep_alloc | refine keep_far ?_ GW135.out _) | exact HK.out)⟩, ⟨by repeat (first | (with_reducible first | exact HB.out | apply below_alloc | apply pw_below_drewN | apply below_drew1 | refine below_set ?_ (IsS25.ge HI0.out) | refine below_set ?_ GE135.out) | exact HB.out)⟩⟩
        case rest =>
         clear HC52
         try clear c2
         try clear p2
         try clear c3
         try clear p3
         try clear c4
         try clear c5
         try clear c5b0
         try clear c6
         try clear c6b0
         try clear c6b1
         try clear c6b2
         try clear p6
         try clear c22
         try clear c23
         try clear c24
         try clear c25
         try clear c29
         try clear c32
         try clear c32b0
         try clear p32
         try clear c37
         try clear c37b0
         try clear c37b1
         try clear c37b2
         try clear c38
         try clear c38b0
         try clear c38b1
         try clear c38b2
         try clear c47
         try clear c54
         try clear c62
         try clear hcz30_0
         try clear hcz30_1
         try clear hcz30_2
         try clear hcz30_3
         try clear hcz30_4
         try clear hcz30_5
         try clear hcz30_6
         try clear hcz63_0
         try clear hcz63_1
         try clear hcz63_2
         try clear hcz63_3
         try clear hcz63_4
         try clear hcz63_5
         try clear hcz63_6
         try clear hfz30_0
         try clear hfz30_1
         try clear hfz30_2
         try clear hfz30_3
         try clear hfz30_4
         try clear hfz30_5
         try clear hfz30_6
         try clear hfz63_0
         try clear hfz63_1
         try clear hfz63_2
         try clear hfz63_3
         try clear hfz63_4
         try clear hfz63_5
         try clear hfz63_6
         try clear p2
         try clear p3
         try clear p6
         obtain ⟨kq, x1001_51, x136006_51, HA, HJ51, HO_5, BK135, HI0, HK, HB⟩ := hcut
         cases kq with
         | zero => exact absurd HA.out (by simp [chasemake_Stream_Papers.j2])
         | succ kj51 =>
          have H := HA.out
          clear HA
          simp only [chasemake_Stream_Papers.j2] at H
          by_cases c64 : x13_1 > 0
          ·rw [if_pos c64] at H
           exact absurd H (by simp)
          ·rw [if_neg c64] at H
           have c64b0 : decide (0 < x13_1) = false := decide_eq_false c64
           clear c64
           by_cases c122 : x5_1.length < 1466015503701
           ·rw [if_pos c122] at H
            have LMc122 := Aside0.mk c122
            clear c122
            obtain ⟨y179, hy179⟩ : ∃ y_ : List (S55), y_ = (x5_1 ++ [(⟨((⟨#[105]⟩ : ByteArray) ++ (Utf8.encode (wrap32 (wrap64 (97 + x13_1))))), t118, t123, t133, t128, (⟨#[]⟩ : ByteArray), x136006_51⟩ : S55)]) := ⟨_, rfl⟩
            replace H : (chasemake_Stream_Papers.l0 kj51 y179 t113 (wrap64 (x13_1 + 1)) s0_0 x1001_51) = some (r1, r2) := by first | (rw [hy179]; with_reducible exact H) | (have H2_ := (Option.bind_some _ _).symm.trans H; rw [hy179]; with_reducible exact H2_) | (have H2_ := (Option.bind_some _ _).symm.trans H; with_reducible exact H2_) | with_reducible exact H | (rw [hy179]; exact H) | exact H
            have Ny179 := Aside0.mk hy179
            clear hy179
            have H' := Aside0.mk H
            clear H
            have hnb123 := NB135_0.out
            have hnc123 := NB0_135.out
            have hcz124_0 : wc.cell? ⟨gb135, 0, none⟩ = some (.string ((⟨#[105]⟩ : ByteArray) ++ (Utf8.encode (wrap32 (wrap64 (97 + x13_1)))))) := (blk_cell BK135.out 0).trans rfl
            have hcz124_1 : wc.cell? ⟨gb135, 1, none⟩ = some (.string t118) := (blk_cell BK135.out 1).trans rfl
            have hcz124_2 : wc.cell? ⟨gb135, 2, none⟩ = some (.int .i64 t123) := (blk_cell BK135.out 2).trans rfl
            have hcz124_3 : wc.cell? ⟨gb135, 3, none⟩ = some (.string t133) := (blk_cell BK135.out 3).trans rfl
            have hcz124_4 : wc.cell? ⟨gb135, 4, none⟩ = some (.int .i64 t128) := (blk_cell BK135.out 4).trans rfl
            have hcz124_5 : wc.cell? ⟨gb135, 5, none⟩ = some (.string (⟨#[]⟩ : ByteArray)) := (blk_cell BK135.out 5).trans rfl
            have hcz124_6 : wc.cell? ⟨gb135, 6, none⟩ = some (.string x136006_51) := (blk_cell BK135.out 6).trans rfl
            have hfz124_0 := blk_frozen BK135.out 0
            have hfz124_1 := blk_frozen BK135.out 1
            have hfz124_2 := blk_frozen BK135.out 2
            have hfz124_3 := blk_frozen BK135.out 3
            have hfz124_4 := blk_frozen BK135.out 4
            have hfz124_5 := blk_frozen BK135.out 5
            have hfz124_6 := blk_frozen BK135.out 6
            go_wp2_with (first | ((with_reducible refine gate_builtin (b := .append) (xs := #[.tmp 88, .tmp 90]) rfl ?_); at_builtin; refine Kd.R_append k55 w.heap.size rfl (.tmp 88) (.tmp 90) 49 55 (.agg #[(.string ⟨#[]⟩), (.string ⟨#[]⟩), (.int .i64 0), (.string ⟨#[]⟩), (.int .i64 0), (.string ⟨#[]⟩), (.string ⟨#[]⟩)]) 96 rfl Tryz.underlying49 info55 rfl (by decide) (by omega) u5 x5_1 (⟨((⟨#[105]⟩ : ByteArray) ++ (Utf8.encode (wrap32 (wrap64 (97 + x13_1))))), t118, t123, t133, t128, (⟨#[]⟩ : ByteArray), x136006_51⟩ : S55) [.string ((⟨#[105]⟩ : ByteArray) ++ (Utf8.encode (wrap32 (wrap64 (97 + x13_1))))), .string t118, .int .i64 t123, .string t133, .int .i64 t128, .string (⟨#[]⟩ : ByteArray), .string x136006_51] (fun k_ => k_ ≠ gb135) (fun _ => False) rfl rfl ?aP (fun _ hk => hk.elim) ?aF ?aO (Below.refl _ _) ?aS ?aL ?_; (case aP => exact k55_mkM _ _ _ (⟨((⟨#[105]⟩ : ByteArray) ++ (Utf8.encode (wrap32 (wrap64 (97 + x13_1))))), t118, t123, t133, t128, (⟨#[]⟩ : ByteArray), x136006_51⟩ : S55)); (case aF => exact (fun k_ hk => Kd.freshB (g := gb135) (o := .cells #[.string ((⟨#[105]⟩ : ByteArray) ++ (Utf8.encode (wrap32 (wrap64 (97 + x13_1))))), .string t118, .int .i64 t123, .string t133, .int .i64 t128, .string (⟨#[]⟩ : ByteArray), .string x136006_51] 55 (0, 0)) (by (with_reducible repeat (first | refine blk_drewN ?_ _ | refine blk_drew ?_ | refine blk_alloc ?_ _)); exact BK135.out) k_ hk)); (case aO => exact (by (with_reducible repeat (first | apply Kd.R_alloc | apply Kd.R_drewN | apply Kd.R_drew)); exact HO_5.out)); (case aS => exact (keep_size (w := w) (g := g) (row := none) (by repeat (first | (with_reducible first | exact HK.out | apply KeepBut.set_ | apply keep_drewN | apply keep_drew | apply keep_alloc | refine keep_far ?_ GW135.out _) | exact HK.out)))); (case aL => have := LMc122.out; omega); intro v180 w125 ho hb hg hat; rw [← Ny179.out] at ho; have n0_ := Aside0.mk (blk_grown (g := gb135) (o := .cells #[.string ((⟨#[105]⟩ : ByteArray) ++ (Utf8.encode (wrap32 (wrap64 (97 + x13_1))))), .string t118, .int .i64 t123, .string t133, .int .i64 t128, .string (⟨#[]⟩ : ByteArray), .string x136006_51] 55 (0, 0)) (by (with_reducible repeat (first | refine blk_drewN ?_ _ | refine blk_drew ?_ | refine blk_alloc ?_ _)); exact BK135.out) hg (Kd.R_away HO_5.out (fun _ hk => hk))); have n1_ := Aside0.mk (IsS25.grown (by repeat (first | (with_reducible first | exact HI0.out | apply IsS25.alloc | apply IsS25.drewN | apply IsS25.drew | apply IsS25.set_1 | refine IsS25.far ?_ NB0_135.out _) | exact HI0.out)) hg (IsS25.own_ne HI0.out HO_5.out (by decide))); have n2_ := Aside0.mk (below_weaken (by repeat (first | (with_reducible first | exact HB.out | apply below_alloc | apply pw_below_drewN | apply below_drew1 | refine below_set ?_ (IsS25.ge HI0.out) | refine below_set ?_ GE135.out) | exact HB.out)) HL.out hb); have n3_ := Aside0.mk (KeepBut.trans (by repeat (first | (with_reducible first | exact HK.out | apply KeepBut.set_ | apply keep_drewN | apply keep_drew | apply keep_alloc | refine keep_far ?_ GW135.out _) | exact HK.out)) (KeepBut.of_grown hg g) (Kd.R_base2 HO_5.out)); have n4_ := Aside0.mk (ho); clear BK135; clear HI0; clear HB; clear HK; clear HO_5; have BK135 := n0_; have HI0 := n1_; have HB := n2_; have HK := n3_; have HO181 := n4_; clear n0_ n1_ n2_ n3_ n4_; clear ho hb hg hat))
            go_roundg kj51
            case measure => have := HK1.out; have := HK2.out; have := HJ51.out; omega
            case rel => exact ⟨(y179), (wrap64 (x13_1 + 1)), (x1001_51), (by first | rfl | (simp; done) | (simp [*]; done)), H', ⟨by have := HK1.out; have := HK2.out; have := HJ51.out; omega⟩, ⟨by (with_reducible repeat (first | apply Kd.R_alloc | apply Kd.R_drewN | apply Kd.R_drew)); exact Kd.R_mono HO181.out (fun _ hk => trivial)⟩, ⟨by repeat (first | (with_reducible first | exact HI0.out | apply IsS25.alloc | apply IsS25.drewN | apply IsS25.drew | apply IsS25.set_1 | refine IsS25.far ?_ NB0_135.out _) | exact HI0.out)⟩, ⟨by repeat (first | (with_reducible first | exact HK.out | apply KeepBut.set_ | apply keep_drewN | apply keep_drew | apply keep_alloc | refine keep_far ?_ GW135.out _) | exact HK.out)⟩, ⟨by repeat (first | (with_reducible first | exact HB.out | apply below_alloc | apply pw_below_drewN | apply below_drew1 | refine below_set ?_ (IsS25.ge HI0.out) | refine below_set ?_ GE135.out) | exact HB.out)⟩⟩
           ·rw [if_neg c122] at H
            exact absurd H (by simp)
    ·rw [if_neg c6] at H
     exact absurd H (by simp)
   ·rw [if_neg c5] at H
    have c5b0 : decide (x13_1 < t113) = false := decide_eq_false c5
    clear c5
    simp only [Option.some.injEq, Prod.mk.injEq] at H
    obtain ⟨rfl, rfl⟩ := H
    go_wp2
    go_ret
    exact ⟨_, by first | rfl | (simp [errW_none, errW_some] <;> rfl) | (simp [*, errW_none, errW_some] <;> rfl), by (with_reducible repeat (first | apply Kd.R_alloc | apply Kd.R_drewN | apply Kd.R_drew)); exact HO_5.out, by repeat (first | (with_reducible first | exact HI0.out | apply IsS25.alloc | apply IsS25.drewN | apply IsS25.drew | apply IsS25.set_1) | exact HI0.out), by repeat (first | (with_reducible first | exact HB.out | apply below_alloc | apply pw_below_drewN | apply below_drew1 | refine below_set ?_ (IsS25.ge HI0.out)) | exact HB.out), by repeat (first | (with_reducible first | exact HK.out | apply KeepBut.set_ | apply keep_drewN | apply keep_drew | apply keep_alloc) | exact HK.out)⟩
end Go.Proofs.YtffaggbephnmkaaGreatDoor.Pg
