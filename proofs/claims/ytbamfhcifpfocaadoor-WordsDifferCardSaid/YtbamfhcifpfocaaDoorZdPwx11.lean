/- A part of the proof of wordsDiffer. No conditions. Laid by program over the kit's print and words. -/
import Derived.Test.YtbamfhcifpfocaaDoorZdPwx0
import Derived.Test.YtbamfhcifpfocaaDoorZdPwx6
import Derived.Test.YtbamfhcifpfocaaDoorZdPwx7
import Derived.Test.YtbamfhcifpfocaaDoorZdPwx8
import Derived.Test.YtbamfhcifpfocaaDoorZdPwx9
import Derived.Test.YtbamfhcifpfocaaDoorZdPwx10
namespace Go.Proofs.YtbamfhcifpfocaaDoor.Pw
open Go.RowKit Go.Proofs.YtbamfhcifpfocaaDoor.GBase Go.Proofs.YtbamfhcifpfocaaDoorW.PrintWords Go.Proofs.YtbamfhcifpfocaaDoorW.PrintLast Go.Proofs.YtbamfhcifpfocaaDoorW.PrintMore
attribute [local go_sem] str_leq max2_int min2_int max_two min_two max_three min_three max_four min_four
set_option linter.unusedVariables false
set_option linter.unusedSimpArgs false
set_option maxHeartbeats 8000000 in
set_option maxRecDepth 100000 in
theorem chaseref1_DifferOf.calls (k : Nat) (a0 : ByteArray) (a1 : ByteArray) (r : List (S129)) (w : World) (hGl : Wd w) (h : chaseref1_DifferOf.f k a0 a1 = some r) :
  Calls Tryd.prog 64 #[.string a0, .string a1] w fun e w' => ∃ v0_ : Value, e = .returned (v0_) ∧ Kd.S k129 129 w' w.heap.size (fun _ => True) v0_ r ∧ Below w.heap.size w w' := by
 have hu132 := Tryd.underlying132
 have hu129 := Tryd.underlying129
 have HGl := am_ hGl; clear hGl
 have HB := am_ (Below.refl w.heap.size w)
 have H : ((chaseref1_TokensOf.f k a0).bind fun t370 => ((chaseref1_TokensOf.f k a1).bind fun t373 => ((chaseref1_keptOf.f k t370 t373).bind fun t376 => (if t376.length < 8796093022208 then ((some (t376 ++ [(⟨(t370.length : Int), (t373.length : Int)⟩ : S132)] : List (S132))).bind fun y379 => (chaseref1_DifferOf.l0 k t370 t373 ([] : List (S129)) 0 0 y379 (y379.length : Int) 0)) else (none))))) = some r := h
 clear h; replace H := Option.bind_eq_some_iff.mp H; obtain ⟨t370, A30, H⟩ := H; have A3 := am_ A30; clear A30; replace H := Option.bind_eq_some_iff.mp H; obtain ⟨t373, A40, H⟩ := H; have A4 := am_ A40; clear A40; replace H := Option.bind_eq_some_iff.mp H; obtain ⟨t376, A50, H⟩ := H; have A5 := am_ A50; clear A50
 by_cases c6 : t376.length < 8796093022208
 case neg => exact (nn_ c6 H).elim
 rw [if_pos c6] at H; have LMc6 := am_ c6; clear c6
 obtain ⟨y379, hy379⟩ : ∃ y_ : List (S132), y_ = (t376 ++ [(⟨(t370.length : Int), (t373.length : Int)⟩ : S132)]) := ⟨_, rfl⟩
 replace H : (chaseref1_DifferOf.l0 k t370 t373 ([] : List (S129)) 0 0 y379 (y379.length : Int) 0) = some r := by first | (rw [hy379]; with_reducible exact H) | (have H2_ := (Option.bind_some _ _).symm.trans H; rw [hy379]; with_reducible exact H2_) | (have H2_ := (Option.bind_some _ _).symm.trans H; with_reducible exact H2_) | with_reducible exact H | (rw [hy379]; exact H) | exact H
 have Ny379 := am_ hy379; clear hy379
 have H' := am_ H
 clear H
 go_enter Tryd.func64, Tryd.ntmps64
 go_wp2_with (first | ((with_reducible refine gate_callee (f := 39) rfl ?_); refine goesL_ (some 13) rfl rfl Tryd.func39 (by kernel_rfl) rfl #[.string a0] rfl (by (try simp only [m1_, m2_, m3_]); first | done | rfl | (simp only [List.length_drop, List.length_take]; rfl)) ?_; (with_reducible refine (chaseref1_TokensOf.calls k a0 t370 _ ?side1 A3.out).mono ?_); (case side1 => exact Wd.below HGl.out (by repeat (first | (with_reducible first | exact HB.out | apply b3_ | apply b1_ | apply b2_) | exact HB.out))); rintro e w7 ⟨v371, rfl, ho0, hb⟩; refine ⟨_, rfl, ?_⟩; have n0_ := am_ (Kd.R_lower ho0 (below_size (by repeat (first | (with_reducible first | exact HB.out | apply b3_ | apply b1_ | apply b2_) | exact HB.out)))); have n1_ := am_ (below_step (by repeat (first | (with_reducible first | exact HB.out | apply b3_ | apply b1_ | apply b2_) | exact HB.out)) hb); clear HB; have HO372 := n0_; have HB := n1_; clear n0_ n1_; (try clear hb); (try clear hb2); (try clear hk); (try clear hi); (try clear ho0)) | ((with_reducible refine gate_callee (f := 39) rfl ?_); refine goesL_ (some 15) rfl rfl Tryd.func39 (by kernel_rfl) rfl #[.string a1] rfl (by (try simp only [m1_, m2_, m3_]); first | done | rfl | (simp only [List.length_drop, List.length_take]; rfl)) ?_; (with_reducible refine (chaseref1_TokensOf.calls k a1 t373 _ ?side1 A4.out).mono ?_); (case side1 => exact Wd.below HGl.out (by repeat (first | (with_reducible first | exact HB.out | apply b3_ | apply b1_ | apply b2_) | exact HB.out))); rintro e w8 ⟨v374, rfl, ho0, hb⟩; refine ⟨_, rfl, ?_⟩; have n0_ := am_ (Kd.R_elder' (by (with_reducible repeat (first | apply r1_ | apply r2_ | apply r3_)); exact HO372.out) (Kd.R_base ho0) hb); have n1_ := am_ (Kd.R_lower (Kd.R_new' ho0 (Kd.R_lt (by (with_reducible repeat (first | apply r1_ | apply r2_ | apply r3_)); exact HO372.out))) (below_size (by repeat (first | (with_reducible first | exact HB.out | apply b3_ | apply b1_ | apply b2_) | exact HB.out)))); have n2_ := am_ (below_step (by repeat (first | (with_reducible first | exact HB.out | apply b3_ | apply b1_ | apply b2_) | exact HB.out)) hb); clear HO372; clear HB; have HO372 := n0_; have HO375 := n1_; have HB := n2_; clear n0_ n1_ n2_; (try clear hb); (try clear hb2); (try clear hk); (try clear hi); (try clear ho0); obtain ⟨Ao9, co9, eo9⟩ := Kd.R_slice HO372.out; subst eo9; obtain ⟨Ao10, co10, eo10⟩ := Kd.R_slice HO375.out; subst eo10) | ((with_reducible refine gate_callee (f := 121) rfl ?_); refine goesL_ (some 18) rfl rfl Tryd.func121 (by kernel_rfl) rfl #[.slice Ao9 t370.length co9, .slice Ao10 t373.length co10] rfl (by (try simp only [m1_, m2_, m3_]); first | done | rfl | (simp only [List.length_drop, List.length_take]; rfl)) ?_; (with_reducible refine (chaseref1_keptOf.calls k _ _ t370 _ _ t373 t376 _ ?side1 ?side2 ?side3 ?side4 A5.out).mono ?_); (case side1 => repeat (first | exact (Kd.R_reads' HO372.out).2.2 | (with_reducible refine Kd.C_alloc ?_ _) | (with_reducible refine Kd.C_drewN ?_ _) | (with_reducible refine Kd.C_drew ?_))); (case side2 => exact (Kd.R_reads' HO372.out).2.1); (case side3 => repeat (first | exact (Kd.R_reads' HO375.out).2.2 | (with_reducible refine Kd.C_alloc ?_ _) | (with_reducible refine Kd.C_drewN ?_ _) | (with_reducible refine Kd.C_drew ?_))); (case side4 => exact (Kd.R_reads' HO375.out).2.1); rintro e w11 ⟨v377, rfl, ho0, hb⟩; refine ⟨_, rfl, ?_⟩; have n0_ := am_ (Kd.R_below (by (with_reducible repeat (first | apply r1_ | apply r2_ | apply r3_)); exact HO372.out) hb); have n1_ := am_ (Kd.R_below (by (with_reducible repeat (first | apply r1_ | apply r2_ | apply r3_)); exact HO375.out) hb); have n2_ := am_ (Kd.R_lower ho0 (below_size (by repeat (first | (with_reducible first | exact HB.out | apply b3_ | apply b1_ | apply b2_) | exact HB.out)))); have n3_ := am_ (below_step (by repeat (first | (with_reducible first | exact HB.out | apply b3_ | apply b1_ | apply b2_) | exact HB.out)) hb); clear HO372; clear HO375; clear HB; have HO372 := n0_; have HO375 := n1_; have HO378 := n2_; have HB := n3_; clear n0_ n1_ n2_ n3_; (try clear hb); (try clear hb2); (try clear hk); (try clear hi); (try clear ho0)) | ((with_reducible refine gate_builtin (b := .append) (xs := #[.tmp 18, .tmp 24]) rfl ?_); at_builtin; refine Kd.R_append k132 (w0 := w) w.heap.size rfl (.tmp 18) (.tmp 24) 125 132 (.agg #[(.int .i64 0), (.int .i64 0)]) 16 rfl Tryd.underlying125 info132 rfl (by decide) (by omega) v377 t376 (⟨(t370.length : Int), (t373.length : Int)⟩ : S132) [.int .i64 (t370.length : Int), .int .i64 (t373.length : Int)] (fun _ => True) (fun _ => False) rfl rfl ?aP (fun _ hk => hk.elim) ?aF ?aO ?aB ?aS ?aL ?_; (case aP => exact k132_mkM _ _ _ (⟨(t370.length : Int), (t373.length : Int)⟩ : S132)); (case aB => exact (by repeat (first | (with_reducible first | exact HB.out | apply b3_ | apply b1_ | apply b2_) | exact HB.out))); (case aF => exact (fun _ _ => trivial)); (case aO => exact (by (with_reducible repeat (first | apply r1_ | apply r2_ | apply r3_)); exact HO378.out)); (case aS => exact (below_size (by repeat (first | (with_reducible first | exact HB.out | apply b3_ | apply b1_ | apply b2_) | exact HB.out)))); (case aL => have := LMc6.out; omega); intro v380 w12 ho hb hg hat; rw [← Ny379.out] at ho; have n0_ := am_ (Kd.R_over' (by (with_reducible repeat (first | apply r1_ | apply r2_ | apply r3_)); exact HO372.out) (Kd.R_typed (by (with_reducible repeat (first | apply r1_ | apply r2_ | apply r3_)); exact HO378.out)) (by decide) hg); have n1_ := am_ (Kd.R_over' (by (with_reducible repeat (first | apply r1_ | apply r2_ | apply r3_)); exact HO375.out) (Kd.R_typed (by (with_reducible repeat (first | apply r1_ | apply r2_ | apply r3_)); exact HO378.out)) (by decide) hg); have n2_ := am_ (hb); have n3_ := am_ (ho); clear HO372; clear HO375; clear HB; clear HO378; have HO372 := n0_; have HO375 := n1_; have HB := n2_; have HO381 := n3_; clear n0_ n1_ n2_ n3_; clear ho hb hg hat; obtain ⟨Ao13, co13, eo13⟩ := Kd.R_slice HO381.out; subst eo13))
 go_loopg [7, 8, 9, 27] k (fun kq v7 v8 v9 v27 w' => ∃ (x7_1 : List (S129)) (x8_1 : Int) (x9_1 : Int) (x27_1 : Int), v8 = .int .i64 x8_1 ∧ v9 = .int .i64 x9_1 ∧ v27 = .int .i64 x27_1 ∧ Aside0 (chaseref1_DifferOf.l0 kq t370 t373 x7_1 x8_1 x9_1 y379 (y379.length : Int) x27_1 = some r) ∧ Aside0 (kq ≤ k) ∧ Aside0 (Kd.R Kd.string 9 w' w.heap.size (fun k_ => some k_ ≠ ((.slice Ao10 t373.length co10) : Value).ownBlock) (.slice Ao9 t370.length co9) t370) ∧ Aside0 (Kd.R Kd.string 9 w' w.heap.size (fun k_ => some k_ ≠ ((.slice Ao9 t370.length co9) : Value).ownBlock) (.slice Ao10 t373.length co10) t373) ∧ Aside0 (Kd.S k129 129 w' w.heap.size (fun k_ => some k_ ≠ ((.slice Ao9 t370.length co9) : Value).ownBlock ∧ some k_ ≠ ((.slice Ao10 t373.length co10) : Value).ownBlock) v7 x7_1) ∧ Aside0 (Kd.R k132 132 w' w.heap.size (fun _ => True) (.slice Ao13 y379.length co13) y379) ∧ Aside0 (Below w.heap.size w w'))
 case atStart => exact ⟨(([] : List (S129))), (0), (0), (0), (by first | rfl | (simp; done) | (simp [*]; done)), (by first | rfl | (simp; done) | (simp [*]; done)), (by first | rfl | (simp; done) | (simp [*]; done)), H', ⟨Nat.le_refl _⟩, ⟨by (with_reducible repeat (first | apply r1_ | apply r2_ | apply r3_)); exact Kd.R_mono HO372.out (fun _ hk => hk.2)⟩, ⟨by (with_reducible repeat (first | apply r1_ | apply r2_ | apply r3_)); exact Kd.R_mono HO375.out (fun _ hk => hk.2)⟩, ⟨by first | exact Kd.S_nil _ _ _ _ _ | exact Kd.N_nil _ _ _ _ _ | exact Kd.V_nil _ _ _ _ _ | exact Kd.Q_nil _ _ _ _ _ | exact Kd.R_nil _ _ _ _ _⟩, ⟨by (with_reducible repeat (first | apply r1_ | apply r2_ | apply r3_)); exact HO381.out⟩, ⟨by repeat (first | (with_reducible first | exact HB.out | apply b3_ | apply b1_ | apply b2_) | exact HB.out)⟩⟩
 case round =>
  clear H'; (try clear c1); (try clear p2); (try clear c3); (try clear c6); (try clear c12); obtain ⟨x7_1, x8_1, x9_1, x27_1, rfl, rfl, rfl, HA, HK1, HO_5, HO_6, HO_7, HO_25, HB⟩ := hrel
  cases gk with
  | zero => exact absurd HA.out (by simp [chaseref1_DifferOf.l0])
  | succ k1 =>
   have H := HA.out
   clear HA
   simp only [chaseref1_DifferOf.l0] at H
   by_cases c14 : x27_1 < (y379.length : Int)
   ·rw [if_pos c14] at H
    have c14b0 := decide_eq_true c14; clear c14
    by_cases c15 : 0 ≤ x27_1
    case neg => exact (nn_ c15 H).elim
    rw [if_pos c15] at H; have c15b0 := decide_eq_true c15; clear c15
    by_cases c16 : x27_1 < (y379.length : Int)
    case neg => exact (nn_ c16 H).elim
    rw [if_pos c16] at H; have c16b0 := decide_eq_true c16; clear c16; have HC17 := am_ H; clear H; have p382 : 0 ≤ (x27_1 : Int) := ode_; have q382 : x27_1 < (y379.length : Int) := ode_
    obtain ⟨ad382, e382, hx382_0, hx382_1⟩ := at_T132 (Kd.R_reads' HO_25.out).2.2 x27_1 p382 q382
    cases e382; replace p382 := eq_true p382; replace q382 := eq_true q382
    go_upto_region 7 with (first | ((with_reducible refine gate_dst (N := 11) rfl ?_); refine box_event ?hg (N := 11) ?hd (cs := #[.int .i64 0, .int .i64 0]) (t := 132) ?hr ?_; (case hd => rfl); (case hg => rfl); (case hr => first | (go_simp; done) | (go_simp; rfl)); intro gb383 hg w18 hbox hb; have n0_ := am_ (Kd.R_below (by (with_reducible repeat (first | apply r1_ | apply r2_ | apply r3_)); exact HO_5.out) hb); have n1_ := am_ (Kd.R_below (by (with_reducible repeat (first | apply r1_ | apply r2_ | apply r3_)); exact HO_6.out) hb); have n2_ := am_ (Kd.S_below (by (with_reducible repeat (first | apply q1_ | apply q2_ | apply q3_)); exact HO_7.out) hb); have n3_ := am_ (Kd.R_below (Kd.R_elderB (by (with_reducible repeat (first | apply r1_ | apply r2_ | apply r3_)); exact HO_25.out) gb383 (Nat.le_of_eq hg.symm)) hb); have n4_ := am_ (below_step (by repeat (first | (with_reducible first | exact HB.out | apply b3_ | apply b1_ | apply b2_) | exact HB.out)) hb); have n5_ := am_ (hbox); have n6_ := am_ ((by rw [hg]; exact (below_size (by repeat (first | (with_reducible first | exact HB.out | apply b3_ | apply b1_ | apply b2_) | exact HB.out))) : w.heap.size ≤ gb383)); have n7_ := am_ ((by rw [hg]; exact (below_size (by repeat (first | (with_reducible first | exact HB.out | apply b3_ | apply b1_ | apply b2_) | exact HB.out))) : w.heap.size ≤ gb383)); clear HO_5; clear HO_6; clear HO_7; clear HO_25; clear HB; have HO_5 := n0_; have HO_6 := n1_; have HO_7 := n2_; have HO_25 := n3_; have HB := n4_; have BK383 := n5_; have GW383 := n6_; have GE383 := n7_; clear n0_ n1_ n2_ n3_ n4_ n5_ n6_ n7_; clear hb hbox hg; have hcz19_0 : w18.cell? ⟨gb383, 0, none⟩ = some (.int .i64 0) := (blk_cell BK383.out 0).trans rfl; have hcz19_1 : w18.cell? ⟨gb383, 1, none⟩ = some (.int .i64 0) := (blk_cell BK383.out 1).trans rfl; have hfz19_0 := blk_frozen BK383.out 0; have hfz19_1 := blk_frozen BK383.out 1))
    (try simp only [Act.put, s_t, s_z, s_s])
    go_cut [40] (fun v40 wc => ∃ (kq : Nat) (x40_16 : Bool), v40 = .bool x40_16 ∧ Aside0 (chaseref1_DifferOf.j1 kq t370 t373 x7_1 x8_1 x9_1 y379 (y379.length : Int) x27_1 x40_16 ((rd_T132 y379 x27_1).f0) ((rd_T132 y379 x27_1).f1) = some r) ∧ Aside0 (kq ≤ k1) ∧ Aside0 (Kd.R Kd.string 9 wc w.heap.size (fun k_ => some k_ ≠ ((.slice Ao10 t373.length co10) : Value).ownBlock) (.slice Ao9 t370.length co9) t370) ∧ Aside0 (Kd.R Kd.string 9 wc w.heap.size (fun k_ => some k_ ≠ ((.slice Ao9 t370.length co9) : Value).ownBlock) (.slice Ao10 t373.length co10) t373) ∧ Aside0 (Kd.S k129 129 wc w.heap.size (fun k_ => some k_ ≠ ((.slice Ao9 t370.length co9) : Value).ownBlock ∧ some k_ ≠ ((.slice Ao10 t373.length co10) : Value).ownBlock) u7 x7_1) ∧ Aside0 (Kd.R k132 132 wc w.heap.size (fun k_ => k_ ≠ gb383) (.slice (some ad382) y379.length co13) y379) ∧ Aside0 (wc.heap[gb383]? = some (.cells #[.int .i64 ((rd_T132 y379 x27_1).f0), .int .i64 ((rd_T132 y379 x27_1).f1)] 132 (0, 0))) ∧ Aside0 (Below w.heap.size w wc))
    case first =>
     have H := HC17.out
     clear HC17
     by_cases c20 : ((rd_T132 y379 x27_1).f0) > x8_1
     ·rw [if_pos c20] at H
      have c20b0 : decide (x8_1 < ((rd_T132 y379 x27_1).f0)) = true := decide_eq_true c20
      clear c20
      (first | rw [c20b0] | (simp only [i64_w, i32_w]; rw [c20b0]) | skip)
      have H' := am_ H
      clear H
      have hcz21_0 : w18.cell? ⟨gb383, 0, none⟩ = some (.int .i64 0) := (blk_cell BK383.out 0).trans rfl
      have hcz21_1 : w18.cell? ⟨gb383, 1, none⟩ = some (.int .i64 0) := (blk_cell BK383.out 1).trans rfl
      have hfz21_0 := blk_frozen BK383.out 0
      have hfz21_1 := blk_frozen BK383.out 1
      go_wp2
      go_meet
      case rel => exact ⟨_, (true), (by first | rfl | (simp; done) | (simp [*]; done)), H', ⟨by have := HK1.out; first | omega | exact Nat.le_refl _⟩, ⟨by (with_reducible repeat (first | apply r1_ | apply r2_ | apply r3_)); exact Kd.R_mono (Kd.R_far (p := ⟨gb383, 1, none⟩) (Kd.R_far (p := ⟨gb383, 0, none⟩) (Kd.R_types HO_5.out BK383.out (by decide)) (fun _ hk => hk.2) (.int .i64 ((rd_T132 y379 x27_1).f0))) (fun _ hk => hk.2) (.int .i64 ((rd_T132 y379 x27_1).f1))) (fun _ hk => hk.1)⟩, ⟨by (with_reducible repeat (first | apply r1_ | apply r2_ | apply r3_)); exact Kd.R_mono (Kd.R_far (p := ⟨gb383, 1, none⟩) (Kd.R_far (p := ⟨gb383, 0, none⟩) (Kd.R_types HO_6.out BK383.out (by decide)) (fun _ hk => hk.2) (.int .i64 ((rd_T132 y379 x27_1).f0))) (fun _ hk => hk.2) (.int .i64 ((rd_T132 y379 x27_1).f1))) (fun _ hk => hk.1)⟩, ⟨by (with_reducible repeat (first | apply q1_ | apply q2_ | apply q3_)); exact Kd.S_mono (Kd.S_far (p := ⟨gb383, 1, none⟩) (Kd.S_far (p := ⟨gb383, 0, none⟩) (Kd.S_types HO_7.out BK383.out (by decide)) (fun _ hk => hk.2) (.int .i64 ((rd_T132 y379 x27_1).f0))) (fun _ hk => hk.2) (.int .i64 ((rd_T132 y379 x27_1).f1))) (fun _ hk => ⟨hk.1.1, hk.1.2⟩)⟩, ⟨by (with_reducible repeat (first | apply r1_ | apply r2_ | apply r3_)); exact Kd.R_mono (Kd.R_far (p := ⟨gb383, 1, none⟩) (Kd.R_far (p := ⟨gb383, 0, none⟩) (Kd.R_mono HO_25.out (fun k_ hk => (⟨hk, hk.2⟩ : _ ∧ k_ ≠ gb383))) (fun _ hk => hk.2) (.int .i64 ((rd_T132 y379 x27_1).f0))) (fun _ hk => hk.2) (.int .i64 ((rd_T132 y379 x27_1).f1))) (fun _ hk => hk.1.2)⟩, ⟨by (with_reducible repeat (first | refine blk_drewN ?_ _ | refine blk_drew ?_ | refine blk_alloc ?_ _)); refine blk_put (cs := #[.int .i64 ((rd_T132 y379 x27_1).f0), .int .i64 0]) ?_ 1 _ rfl; (with_reducible repeat (first | refine blk_drewN ?_ _ | refine blk_drew ?_ | refine blk_alloc ?_ _)); refine blk_put (cs := #[.int .i64 0, .int .i64 0]) ?_ 0 _ rfl; (with_reducible repeat (first | refine blk_drewN ?_ _ | refine blk_drew ?_ | refine blk_alloc ?_ _)); exact BK383.out⟩, ⟨by repeat (first | (with_reducible first | exact HB.out | apply b3_ | apply b1_ | apply b2_ | refine below_set ?_ GE383.out) | exact HB.out)⟩⟩
     ·rw [if_neg c20] at H
      have c20b0 : decide (x8_1 < ((rd_T132 y379 x27_1).f0)) = false := decide_eq_false c20
      clear c20
      (first | rw [c20b0] | (simp only [i64_w, i32_w]; rw [c20b0]) | skip)
      have H' := am_ H
      clear H
      have hcz22_0 : w18.cell? ⟨gb383, 0, none⟩ = some (.int .i64 0) := (blk_cell BK383.out 0).trans rfl
      have hcz22_1 : w18.cell? ⟨gb383, 1, none⟩ = some (.int .i64 0) := (blk_cell BK383.out 1).trans rfl
      have hfz22_0 := blk_frozen BK383.out 0
      have hfz22_1 := blk_frozen BK383.out 1
      go_wp2
      go_meet
      case rel => exact ⟨_, (decide (((rd_T132 y379 x27_1).f1) > x9_1)), (by first | rfl | (simp; done) | (simp [*]; done)), H', ⟨by have := HK1.out; first | omega | exact Nat.le_refl _⟩, ⟨by (with_reducible repeat (first | apply r1_ | apply r2_ | apply r3_)); exact Kd.R_mono (Kd.R_far (p := ⟨gb383, 1, none⟩) (Kd.R_far (p := ⟨gb383, 0, none⟩) (Kd.R_types HO_5.out BK383.out (by decide)) (fun _ hk => hk.2) (.int .i64 ((rd_T132 y379 x27_1).f0))) (fun _ hk => hk.2) (.int .i64 ((rd_T132 y379 x27_1).f1))) (fun _ hk => hk.1)⟩, ⟨by (with_reducible repeat (first | apply r1_ | apply r2_ | apply r3_)); exact Kd.R_mono (Kd.R_far (p := ⟨gb383, 1, none⟩) (Kd.R_far (p := ⟨gb383, 0, none⟩) (Kd.R_types HO_6.out BK383.out (by decide)) (fun _ hk => hk.2) (.int .i64 ((rd_T132 y379 x27_1).f0))) (fun _ hk => hk.2) (.int .i64 ((rd_T132 y379 x27_1).f1))) (fun _ hk => hk.1)⟩, ⟨by (with_reducible repeat (first | apply q1_ | apply q2_ | apply q3_)); exact Kd.S_mono (Kd.S_far (p := ⟨gb383, 1, none⟩) (Kd.S_far (p := ⟨gb383, 0, none⟩) (Kd.S_types HO_7.out BK383.out (by decide)) (fun _ hk => hk.2) (.int .i64 ((rd_T132 y379 x27_1).f0))) (fun _ hk => hk.2) (.int .i64 ((rd_T132 y379 x27_1).f1))) (fun _ hk => ⟨hk.1.1, hk.1.2⟩)⟩, ⟨by (with_reducible repeat (first | apply r1_ | apply r2_ | apply r3_)); exact Kd.R_mono (Kd.R_far (p := ⟨gb383, 1, none⟩) (Kd.R_far (p := ⟨gb383, 0, none⟩) (Kd.R_mono HO_25.out (fun k_ hk => (⟨hk, hk.2⟩ : _ ∧ k_ ≠ gb383))) (fun _ hk => hk.2) (.int .i64 ((rd_T132 y379 x27_1).f0))) (fun _ hk => hk.2) (.int .i64 ((rd_T132 y379 x27_1).f1))) (fun _ hk => hk.1.2)⟩, ⟨by (with_reducible repeat (first | refine blk_drewN ?_ _ | refine blk_drew ?_ | refine blk_alloc ?_ _)); refine blk_put (cs := #[.int .i64 ((rd_T132 y379 x27_1).f0), .int .i64 0]) ?_ 1 _ rfl; (with_reducible repeat (first | refine blk_drewN ?_ _ | refine blk_drew ?_ | refine blk_alloc ?_ _)); refine blk_put (cs := #[.int .i64 0, .int .i64 0]) ?_ 0 _ rfl; (with_reducible repeat (first | refine blk_drewN ?_ _ | refine blk_drew ?_ | refine blk_alloc ?_ _)); exact BK383.out⟩, ⟨by repeat (first | (with_reducible first | exact HB.out | apply b3_ | apply b1_ | apply b2_ | refine below_set ?_ GE383.out) | exact HB.out)⟩⟩
    case rest =>
     clear HC17; (try clear c1); (try clear c2); (try clear p2); (try clear c3); (try clear p3); (try clear q3); (try clear hx3); (try clear c6); (try clear c12); (try clear c14); (try clear c14b0); (try clear c15); (try clear c15b0); (try clear c16); (try clear c16b0); (try clear c20); (try clear c20b0); (try clear hcz19_0); (try clear hcz19_1); (try clear hcz21_0); (try clear hcz21_1); (try clear hcz22_0); (try clear hcz22_1); (try clear hfz19_0); (try clear hfz19_1); (try clear hfz21_0); (try clear hfz21_1); (try clear hfz22_0); (try clear hfz22_1); (try clear hx382_0); (try clear hx382_1); (try clear p2); (try clear p382); (try clear q382); obtain ⟨kq, x40_16, rfl, HA, HJ16, HO_5, HO_6, HO_7, HO_25, BK383, HB⟩ := hcut
     cases kq with
     | zero => exact absurd HA.out (by simp [chaseref1_DifferOf.j1])
     | succ kj16 =>
      have H := HA.out
      clear HA
      simp only [chaseref1_DifferOf.j1] at H
      by_cases c23 : x40_16 = true
      ·subst c23
       have H1 : (if 0 ≤ x8_1 then (if x8_1 ≤ ((rd_T132 y379 x27_1).f0) then (if ((rd_T132 y379 x27_1).f0) ≤ (t370.length : Int) then ((slices_Clone_string_string.f ((t370.take (((rd_T132 y379 x27_1).f0) : Int).toNat).drop (x8_1 : Int).toNat)).bind fun t388 => (if 0 ≤ x9_1 then (if x9_1 ≤ ((rd_T132 y379 x27_1).f1) then (if ((rd_T132 y379 x27_1).f1) ≤ (t373.length : Int) then ((slices_Clone_string_string.f ((t373.take (((rd_T132 y379 x27_1).f1) : Int).toNat).drop (x9_1 : Int).toNat)).bind fun t395 => (if x7_1.length < 2513169434916 then (chaseref1_DifferOf.l0 kj16 t370 t373 (x7_1 ++ [(⟨x8_1, t388, t395⟩ : S129)]) (wrap64 (((rd_T132 y379 x27_1).f0) + 1)) (wrap64 (((rd_T132 y379 x27_1).f1) + 1)) y379 (y379.length : Int) (wrap64 (x27_1 + 1))) else (none))) else (none)) else (none)) else (none))) else (none)) else (none)) else (none)) = some r := by rw [if_pos rfl] at H; exact H
       clear H
       have H := H1
       clear H1
       by_cases c24 : 0 ≤ x8_1
       case neg => exact (nn_ c24 H).elim
       rw [if_pos c24] at H; have c24b0 := eq_true c24; have c24b1 := decide_eq_true c24; clear c24
       by_cases c25 : x8_1 ≤ ((rd_T132 y379 x27_1).f0)
       case neg => exact (nn_ c25 H).elim
       rw [if_pos c25] at H; have c25b0 := eq_true c25; have c25b1 := decide_eq_true c25; clear c25
       by_cases c26 : ((rd_T132 y379 x27_1).f0) ≤ (t370.length : Int)
       case neg => exact (nn_ c26 H).elim
       rw [if_pos c26] at H; have c26b0 := eq_true c26; have c26b1 := decide_eq_true c26; clear c26
       obtain ⟨y384, hy384⟩ : ∃ y_ : List ByteArray, y_ = ((t370.take (((rd_T132 y379 x27_1).f0) : Int).toNat).drop (x8_1 : Int).toNat) := ⟨_, rfl⟩
       replace H : ((slices_Clone_string_string.f y384).bind fun t388 => (if 0 ≤ x9_1 then (if x9_1 ≤ ((rd_T132 y379 x27_1).f1) then (if ((rd_T132 y379 x27_1).f1) ≤ (t373.length : Int) then ((slices_Clone_string_string.f ((t373.take (((rd_T132 y379 x27_1).f1) : Int).toNat).drop (x9_1 : Int).toNat)).bind fun t395 => (if x7_1.length < 2513169434916 then (chaseref1_DifferOf.l0 kj16 t370 t373 (x7_1 ++ [(⟨x8_1, t388, t395⟩ : S129)]) (wrap64 (((rd_T132 y379 x27_1).f0) + 1)) (wrap64 (((rd_T132 y379 x27_1).f1) + 1)) y379 (y379.length : Int) (wrap64 (x27_1 + 1))) else (none))) else (none)) else (none)) else (none))) = some r := by first | (rw [hy384]; with_reducible exact H) | (have H2_ := (Option.bind_some _ _).symm.trans H; rw [hy384]; with_reducible exact H2_) | (have H2_ := (Option.bind_some _ _).symm.trans H; with_reducible exact H2_) | with_reducible exact H | (rw [hy384]; exact H) | exact H
       have Ny384 := am_ hy384; clear hy384; replace H := Option.bind_eq_some_iff.mp H; obtain ⟨t388, A270, H⟩ := H; have A27 := am_ A270; clear A270
       by_cases c28 : 0 ≤ x9_1
       case neg => exact (nn_ c28 H).elim
       rw [if_pos c28] at H; have c28b0 := eq_true c28; have c28b1 := decide_eq_true c28; clear c28
       by_cases c29 : x9_1 ≤ ((rd_T132 y379 x27_1).f1)
       case neg => exact (nn_ c29 H).elim
       rw [if_pos c29] at H; have c29b0 := eq_true c29; have c29b1 := decide_eq_true c29; clear c29
       by_cases c30 : ((rd_T132 y379 x27_1).f1) ≤ (t373.length : Int)
       case neg => exact (nn_ c30 H).elim
       rw [if_pos c30] at H; have c30b0 := eq_true c30; have c30b1 := decide_eq_true c30; clear c30
       obtain ⟨y391, hy391⟩ : ∃ y_ : List ByteArray, y_ = ((t373.take (((rd_T132 y379 x27_1).f1) : Int).toNat).drop (x9_1 : Int).toNat) := ⟨_, rfl⟩
       replace H : ((slices_Clone_string_string.f y391).bind fun t395 => (if x7_1.length < 2513169434916 then (chaseref1_DifferOf.l0 kj16 t370 t373 (x7_1 ++ [(⟨x8_1, t388, t395⟩ : S129)]) (wrap64 (((rd_T132 y379 x27_1).f0) + 1)) (wrap64 (((rd_T132 y379 x27_1).f1) + 1)) y379 (y379.length : Int) (wrap64 (x27_1 + 1))) else (none))) = some r := by first | (rw [hy391]; with_reducible exact H) | (have H2_ := (Option.bind_some _ _).symm.trans H; rw [hy391]; with_reducible exact H2_) | (have H2_ := (Option.bind_some _ _).symm.trans H; with_reducible exact H2_) | with_reducible exact H | (rw [hy391]; exact H) | exact H
       have Ny391 := am_ hy391; clear hy391; replace H := Option.bind_eq_some_iff.mp H; obtain ⟨t395, A310, H⟩ := H; have A31 := am_ A310; clear A310
       by_cases c32 : x7_1.length < 2513169434916
       case neg => exact (nn_ c32 H).elim
       rw [if_pos c32] at H; have LMc32 := am_ c32; clear c32
       obtain ⟨y398, hy398⟩ : ∃ y_ : List (S129), y_ = (x7_1 ++ [(⟨x8_1, t388, t395⟩ : S129)]) := ⟨_, rfl⟩
       replace H : (chaseref1_DifferOf.l0 kj16 t370 t373 y398 (wrap64 (((rd_T132 y379 x27_1).f0) + 1)) (wrap64 (((rd_T132 y379 x27_1).f1) + 1)) y379 (y379.length : Int) (wrap64 (x27_1 + 1))) = some r := by first | (rw [hy398]; with_reducible exact H) | (have H2_ := (Option.bind_some _ _).symm.trans H; rw [hy398]; with_reducible exact H2_) | (have H2_ := (Option.bind_some _ _).symm.trans H; with_reducible exact H2_) | with_reducible exact H | (rw [hy398]; exact H) | exact H
       have Ny398 := am_ hy398; clear hy398
       have H' := am_ H
       clear H
       try go_wp2
       have n0_ := am_ (r3_ HO_5.out)
       have n1_ := am_ (r3_ HO_6.out)
       have n2_ := am_ (q3_ HO_7.out)
       have n3_ := am_ (r3_ HO_25.out)
       have n4_ := am_ (blk_drew BK383.out)
       have n5_ := am_ (b2_ HB.out)
       clear HO_5; clear HO_6; clear HO_7; clear HO_25; clear BK383; clear HB; have HO_5 := n0_; have HO_6 := n1_; have HO_7 := n2_; have HO_25 := n3_; have BK383 := n4_; have HB := n5_; clear n0_ n1_ n2_ n3_ n4_ n5_; have q34 : (((rd_T132 y379 x27_1).f0) : Int) ≤ ((t370.length : Int) : Int) := ode_
       obtain ⟨i034, hi034, _, hsz34, _⟩ := info_parts info9
       have hroom34 : t370.length ≤ co9 := (Kd.R_reads' HO_5.out).2.1
       have hC34 : Kd.C Kd.string _ Ao9 t370.length t370 := (Kd.R_reads' HO_5.out).2.2
       have ql34 : (x8_1 : Int) ≤ (((rd_T132 y379 x27_1).f0) : Int) := ode_; have q034 : (0 : Int) ≤ (x8_1 : Int) := ode_
       have hcut34 := cut_mid (P := Tryd.prog) 26 9 .i64 .i64 Tryd.underlying26 hi034 1 hsz34 Ao9 t370.length co9 x8_1 ((rd_T132 y379 x27_1).f0) q034 ql34 q34 hroom34
       have hr34 := Kd.C_mid (lo := (x8_1 : Int).toNat) (hi := (((rd_T132 y379 x27_1).f0) : Int).toNat) (c := co9) hC34 (by omega) (by omega) hroom34
       obtain ⟨A34, hA34⟩ : ∃ A1, A1 = (if co9 = (x8_1 : Int).toNat then Ao9 else (Ao9 : Option Addr).map (·.add ((x8_1 : Int).toNat * 1))) := ⟨_, rfl⟩
       obtain ⟨c34, hc34⟩ : ∃ c1, c1 = co9 - (x8_1 : Int).toNat := ⟨_, rfl⟩
       have hy34 : y384.length = (((rd_T132 y379 x27_1).f0) : Int).toNat - (x8_1 : Int).toNat := (by rw [Ny384.out, List.length_drop, List.length_take] <;> omega)
       rw [show ((t370).take (((rd_T132 y379 x27_1).f0) : Int).toNat).drop (x8_1 : Int).toNat = y384 from Ny384.out.symm] at hr34
       replace hr34 : Kd.C Kd.string _ A34 y384.length y384 := (by rw [hA34]; exact hr34)
       rw [← hy34, ← hA34, ← hc34] at hcut34
       have HR387 := am_ hr34
       have HC387 := am_ (show y384.length ≤ c34 from by rw [hy34, hc34]; exact Nat.sub_le_sub_right (Nat.le_trans (by omega) hroom34) _)
       clear hr34 hC34 hroom34 hi034 hsz34 hc34; have KY34 := am_ hy34; have KA34 := am_ hA34; clear hy34 hA34
       have KL34 := am_ (show (((rd_T132 y379 x27_1).f0) : Int).toNat ≤ t370.length from by omega)
       have KM34 := am_ (show (x8_1 : Int).toNat ≤ (((rd_T132 y379 x27_1).f0) : Int).toNat from by omega)
       replace q34 := eq_true q34; have q35 : (((rd_T132 y379 x27_1).f1) : Int) ≤ ((t373.length : Int) : Int) := ode_
       obtain ⟨i035, hi035, _, hsz35, _⟩ := info_parts info9
       have hroom35 : t373.length ≤ co10 := (Kd.R_reads' HO_6.out).2.1
       have hC35 : Kd.C Kd.string _ Ao10 t373.length t373 := (Kd.R_reads' HO_6.out).2.2
       have ql35 : (x9_1 : Int) ≤ (((rd_T132 y379 x27_1).f1) : Int) := ode_; have q035 : (0 : Int) ≤ (x9_1 : Int) := ode_
       have hcut35 := cut_mid (P := Tryd.prog) 26 9 .i64 .i64 Tryd.underlying26 hi035 1 hsz35 Ao10 t373.length co10 x9_1 ((rd_T132 y379 x27_1).f1) q035 ql35 q35 hroom35
       have hr35 := Kd.C_mid (lo := (x9_1 : Int).toNat) (hi := (((rd_T132 y379 x27_1).f1) : Int).toNat) (c := co10) hC35 (by omega) (by omega) hroom35
       obtain ⟨A35, hA35⟩ : ∃ A1, A1 = (if co10 = (x9_1 : Int).toNat then Ao10 else (Ao10 : Option Addr).map (·.add ((x9_1 : Int).toNat * 1))) := ⟨_, rfl⟩
       obtain ⟨c35, hc35⟩ : ∃ c1, c1 = co10 - (x9_1 : Int).toNat := ⟨_, rfl⟩
       have hy35 : y391.length = (((rd_T132 y379 x27_1).f1) : Int).toNat - (x9_1 : Int).toNat := (by rw [Ny391.out, List.length_drop, List.length_take] <;> omega)
       rw [show ((t373).take (((rd_T132 y379 x27_1).f1) : Int).toNat).drop (x9_1 : Int).toNat = y391 from Ny391.out.symm] at hr35
       replace hr35 : Kd.C Kd.string _ A35 y391.length y391 := (by rw [hA35]; exact hr35)
       rw [← hy35, ← hA35, ← hc35] at hcut35
       have HR394 := am_ hr35
       have HC394 := am_ (show y391.length ≤ c35 from by rw [hy35, hc35]; exact Nat.sub_le_sub_right (Nat.le_trans (by omega) hroom35) _)
       clear hr35 hC35 hroom35 hi035 hsz35 hc35; have KY35 := am_ hy35; have KA35 := am_ hA35; clear hy35 hA35
       have KL35 := am_ (show (((rd_T132 y379 x27_1).f1) : Int).toNat ≤ t373.length from by omega)
       have KM35 := am_ (show (x9_1 : Int).toNat ≤ (((rd_T132 y379 x27_1).f1) : Int).toNat from by omega)
       replace q35 := eq_true q35
       refine start_ (n := 18) (S := fun w' => w'.cell? ⟨gb383, 0, none⟩ = some (.int .i64 ((rd_T132 y379 x27_1).f0)) ∧ w'.cell? ⟨gb383, 1, none⟩ = some (.int .i64 ((rd_T132 y379 x27_1).f1))) (ds := []) chaseref1_DifferOf.D0 (by kernel_rfl) rfl rfl ⟨(blk_cell BK383.out 0).trans rfl, (blk_cell BK383.out 1).trans rfl⟩ (fun hHeld => ?_); refine with_tabW chaseref1_DifferOf.tab8 chaseref1_DifferOf.bits8 (fun HT_ HW_ => ?_)
       generalize wc.drew = w33 at HO_5 HO_6 HO_7 HO_25 BK383 HB HR387 HR394 hHeld ⊢
       refine px_ 0 41 ?_ ?_ chaseref1_DifferOf.D2 HT_.out ?_ ?_ ?_; rotate_left 2; intro w'; go_simp; with_reducible rfl; simp only [Act.put, s_t, s_z, s_s, i64_w, i32_w]; rfl
       refine px_ 1 42 ?_ ?_ chaseref1_DifferOf.D5 HT_.out ?_ ?_ ?_; rotate_left 2; intro w'; go_simp; with_reducible rfl; simp only [Act.put, s_t, s_z, s_s, i64_w, i32_w]; rfl
       refine px_ 2 43 ?_ ?_ chaseref1_DifferOf.D7 HT_.out ?_ ?_ ?_; rotate_left 2; intro w'; go_simp; with_reducible rfl; simp only [Act.put, s_t, s_z, s_s, i64_w, i32_w]; rfl
       refine px_ 3 44 ?_ ?_ chaseref1_DifferOf.D8 HT_.out ?_ ?_ ?_; rotate_left 2; intro w'; go_simp; with_reducible rfl; simp only [Act.put, s_t, s_z, s_s, i64_w, i32_w]; rfl
       refine px_ 4 45 ?_ ?_ chaseref1_DifferOf.D11 HT_.out ?_ ?_ ?_; rotate_left 2; intro w'; go_simp; with_reducible rfl; simp only [Act.put, s_t, s_z, s_s, i64_w, i32_w]; rfl
       refine px_ 8 49 ?_ ?_ chaseref1_DifferOf.D12 HT_.out ?_ ?_ ?_; rotate_left 2; intro w'; go_simp; with_reducible rfl; simp only [Act.put, s_t, s_z, s_s, i64_w, i32_w]; rfl
       refine px_ 9 50 ?_ ?_ chaseref1_DifferOf.D13 HT_.out ?_ ?_ ?_; rotate_left 2; intro w'; go_simp; with_reducible rfl; simp only [Act.put, s_t, s_z, s_s, i64_w, i32_w]; rfl
       refine px_ 10 51 ?_ ?_ chaseref1_DifferOf.D14 HT_.out ?_ ?_ ?_; rotate_left 2; intro w'; go_simp; with_reducible rfl; simp only [Act.put, s_t, s_z, s_s, i64_w, i32_w]; rfl
       refine take_ (i := 5) (N := some 46) (v := ?_) (a' := ?_) chaseref1_DifferOf.D16 rfl rfl (take_ofW HT_.out HW_.out (by kernel_rfl)) (fun _ _ _ h => h) (Or.inl ⟨by rfl, ?_⟩) hHeld ?_ ?_
       rotate_left
       ·rintro w' ⟨s0, s1⟩
        go_simp
        with_reducible rfl
       rotate_left
       ·simp only [Act.put, s_t, s_z, s_s, i64_w, i32_w]
        rfl
       refine px_ 6 47 ?_ ?_ chaseref1_DifferOf.D17 HT_.out ?_ ?_ ?_; rotate_left 2; intro w'; go_simp; with_reducible rfl; simp only [Act.put, s_t, s_z, s_s, i64_w, i32_w]; rfl
       refine take_ (i := 11) (N := some 52) (v := ?_) (a' := ?_) chaseref1_DifferOf.D18 rfl rfl (take_ofW HT_.out HW_.out (by kernel_rfl)) (fun _ _ _ h => h) (Or.inl ⟨by rfl, ?_⟩) hHeld ?_ ?_
       rotate_left
       ·rintro w' ⟨s0, s1⟩
        go_simp
        with_reducible rfl
       rotate_left
       ·simp only [Act.put, s_t, s_z, s_s, i64_w, i32_w]
        rfl
       refine px_ 12 53 ?_ ?_ chaseref1_DifferOf.D19 HT_.out ?_ ?_ ?_; rotate_left 2; intro w'; go_simp; with_reducible rfl; simp only [Act.put, s_t, s_z, s_s, i64_w, i32_w]; rfl
       refine one_ (i := 7) (N := some 48) chaseref1_DifferOf.D21 rfl rfl (one_of HT_.out (by kernel_rfl)) (by decide) (fun K hK => ?_)
       refine goes_ Tryd.func124 (by kernel_rfl) rfl #[.slice A34 y384.length c34] (by rfl) rfl rfl (by (try simp only [m1_, m2_, m3_]); first | done | rfl | (simp only [List.length_drop, List.length_take]; rfl)) ?_
       with_reducible refine (slices_Clone_string_string.calls _ _ y384 t388 _ ?side1 ?side2 A27.out).mono ?_
       (case side1 => repeat (first | exact (by repeat (first | (with_reducible first | exact HR387.out | refine Kd.C_alloc ?_ _ | refine Kd.C_drewN ?_ _ | refine Kd.C_drew ?_) | exact HR387.out)) | (with_reducible refine Kd.C_alloc ?_ _) | (with_reducible refine Kd.C_drewN ?_ _) | (with_reducible refine Kd.C_drew ?_)))
       (case side2 => exact HC387.out)
       rintro e w36 ⟨v389, rfl, ho0, hb⟩
       refine ⟨_, rfl, ?_⟩
       have n0_ := am_ (Kd.R_elder' (by (with_reducible repeat (first | apply r1_ | apply r2_ | apply r3_)); exact HO_5.out) (Kd.R_base ho0) hb)
       have n1_ := am_ (Kd.R_elder' (by (with_reducible repeat (first | apply r1_ | apply r2_ | apply r3_)); exact HO_6.out) (Kd.R_base ho0) hb)
       have n2_ := am_ (Kd.S_elder' (by (with_reducible repeat (first | apply q1_ | apply q2_ | apply q3_)); exact HO_7.out) (Kd.R_base ho0) hb)
       have n3_ := am_ (Kd.R_below (by (with_reducible repeat (first | apply r1_ | apply r2_ | apply r3_)); exact HO_25.out) hb)
       have n4_ := am_ (Kd.R_lower (Kd.R_new' (Kd.R_new' ho0 (Kd.R_lt (by (with_reducible repeat (first | apply r1_ | apply r2_ | apply r3_)); exact HO_5.out))) (Kd.R_lt (by (with_reducible repeat (first | apply r1_ | apply r2_ | apply r3_)); exact HO_6.out))) (below_size (by repeat (first | (with_reducible first | exact HB.out | apply b3_ | apply b1_ | apply b2_ | refine below_set ?_ GE383.out) | exact HB.out))))
       have n5_ := am_ (blk_below (g := gb383) (o := .cells #[.int .i64 ((rd_T132 y379 x27_1).f0), .int .i64 ((rd_T132 y379 x27_1).f1)] 132 (0, 0)) (by (with_reducible repeat (first | refine blk_drewN ?_ _ | refine blk_drew ?_ | refine blk_alloc ?_ _)); exact BK383.out) hb)
       have n6_ := am_ (Kd.C_below (by repeat (first | (with_reducible first | exact HR387.out | refine Kd.C_alloc ?_ _ | refine Kd.C_drewN ?_ _ | refine Kd.C_drew ?_) | exact HR387.out)) hb)
       have n7_ := am_ (Kd.C_below (by repeat (first | (with_reducible first | exact HR394.out | refine Kd.C_alloc ?_ _ | refine Kd.C_drewN ?_ _ | refine Kd.C_drew ?_) | exact HR394.out)) hb)
       have n8_ := am_ (below_step (by repeat (first | (with_reducible first | exact HB.out | apply b3_ | apply b1_ | apply b2_ | refine below_set ?_ GE383.out) | exact HB.out)) hb)
       clear HO_5; clear HO_6; clear HO_7; clear HO_25; clear BK383; clear HR387; clear HR394; clear HB; have HO_5 := n0_; have HO_6 := n1_; have HO_7 := n2_; have HO_25 := n3_; have HO390 := n4_; have BK383 := n5_; have HR387 := n6_; have HR394 := n7_; have HB := n8_; clear n0_ n1_ n2_ n3_ n4_ n5_ n6_ n7_ n8_
       (try clear hb)
       (try clear hb2)
       (try clear hk)
       (try clear hi)
       (try clear ho0)
       refine hK.out _ _ ⟨(blk_cell BK383.out 0).trans rfl, (blk_cell BK383.out 1).trans rfl⟩ (fun hHeld => ?_)
       clear hK K
       refine norm_ (a' := ?_) ?_ ?_
       rotate_left
       ·show Act.put _ (some 48) _ = _
        simp only [Act.put, s_t, s_z, s_s, i64_w, i32_w]
        rfl
       refine one_ (i := 13) (N := some 54) chaseref1_DifferOf.D22 rfl rfl (one_of HT_.out (by kernel_rfl)) (by decide) (fun K hK => ?_)
       refine goes_ Tryd.func124 (by kernel_rfl) rfl #[.slice A35 y391.length c35] (by rfl) rfl rfl (by (try simp only [m1_, m2_, m3_]); first | done | rfl | (simp only [List.length_drop, List.length_take]; rfl)) ?_
       with_reducible refine (slices_Clone_string_string.calls _ _ y391 t395 _ ?side1 ?side2 A31.out).mono ?_
       (case side1 => repeat (first | exact (by repeat (first | (with_reducible first | exact HR394.out | refine Kd.C_alloc ?_ _ | refine Kd.C_drewN ?_ _ | refine Kd.C_drew ?_) | exact HR394.out)) | (with_reducible refine Kd.C_alloc ?_ _) | (with_reducible refine Kd.C_drewN ?_ _) | (with_reducible refine Kd.C_drew ?_)))
       (case side2 => exact HC394.out)
       rintro e w37 ⟨v396, rfl, ho0, hb⟩
       refine ⟨_, rfl, ?_⟩
       have n0_ := am_ (Kd.R_elder' (by (with_reducible repeat (first | apply r1_ | apply r2_ | apply r3_)); exact HO_5.out) (Kd.R_base ho0) hb)
       have n1_ := am_ (Kd.R_elder' (by (with_reducible repeat (first | apply r1_ | apply r2_ | apply r3_)); exact HO_6.out) (Kd.R_base ho0) hb)
       have n2_ := am_ (Kd.S_elder' (by (with_reducible repeat (first | apply q1_ | apply q2_ | apply q3_)); exact HO_7.out) (Kd.R_base ho0) hb)
       have n3_ := am_ (Kd.R_below (by (with_reducible repeat (first | apply r1_ | apply r2_ | apply r3_)); exact HO_25.out) hb)
       have n4_ := am_ (Kd.R_elder' (by (with_reducible repeat (first | apply r1_ | apply r2_ | apply r3_)); exact HO390.out) (Kd.R_base ho0) hb)
       have n5_ := am_ (Kd.R_lower (Kd.R_new' (Kd.R_new' (Kd.R_new' ho0 (Kd.R_lt (by (with_reducible repeat (first | apply r1_ | apply r2_ | apply r3_)); exact HO_5.out))) (Kd.R_lt (by (with_reducible repeat (first | apply r1_ | apply r2_ | apply r3_)); exact HO_6.out))) (Kd.R_lt (by (with_reducible repeat (first | apply r1_ | apply r2_ | apply r3_)); exact HO390.out))) (below_size (by repeat (first | (with_reducible first | exact HB.out | apply b3_ | apply b1_ | apply b2_ | refine below_set ?_ GE383.out) | exact HB.out))))
       have n6_ := am_ (blk_below (g := gb383) (o := .cells #[.int .i64 ((rd_T132 y379 x27_1).f0), .int .i64 ((rd_T132 y379 x27_1).f1)] 132 (0, 0)) (by (with_reducible repeat (first | refine blk_drewN ?_ _ | refine blk_drew ?_ | refine blk_alloc ?_ _)); exact BK383.out) hb)
       have n7_ := am_ (Kd.C_below (by repeat (first | (with_reducible first | exact HR387.out | refine Kd.C_alloc ?_ _ | refine Kd.C_drewN ?_ _ | refine Kd.C_drew ?_) | exact HR387.out)) hb)
       have n8_ := am_ (Kd.C_below (by repeat (first | (with_reducible first | exact HR394.out | refine Kd.C_alloc ?_ _ | refine Kd.C_drewN ?_ _ | refine Kd.C_drew ?_) | exact HR394.out)) hb)
       have n9_ := am_ (below_step (by repeat (first | (with_reducible first | exact HB.out | apply b3_ | apply b1_ | apply b2_ | refine below_set ?_ GE383.out) | exact HB.out)) hb)
       clear HO_5; clear HO_6; clear HO_7; clear HO_25; clear HO390; clear BK383; clear HR387; clear HR394; clear HB; have HO_5 := n0_; have HO_6 := n1_; have HO_7 := n2_; have HO_25 := n3_; have HO390 := n4_; have HO397 := n5_; have BK383 := n6_; have HR387 := n7_; have HR394 := n8_; have HB := n9_; clear n0_ n1_ n2_ n3_ n4_ n5_ n6_ n7_ n8_ n9_
       (try clear hb)
       (try clear hb2)
       (try clear hk)
       (try clear hi)
       (try clear ho0)
       obtain ⟨Ao38, co38, eo38⟩ := Kd.R_slice HO397.out
       (first | subst eo38 | (injection eo38 with f1_ f2_ f3_; have f4_ := f1_.symm; have f5_ := f3_.symm; clear f1_ f2_ f3_; subst f4_; subst f5_))
       obtain ⟨Ao39, co39, eo39⟩ := Kd.R_slice HO390.out
       (first | subst eo39 | (injection eo39 with f1_ f2_ f3_; have f4_ := f1_.symm; have f5_ := f3_.symm; clear f1_ f2_ f3_; subst f4_; subst f5_))
       refine hK.out _ _ ⟨(blk_cell BK383.out 0).trans rfl, (blk_cell BK383.out 1).trans rfl⟩ (fun hHeld => ?_)
       clear hK K
       refine norm_ (a' := ?_) ?_ ?_
       rotate_left
       ·show Act.put _ (some 54) _ = _
        simp only [Act.put, s_t, s_z, s_s, i64_w, i32_w]
        rfl
       refine px_ 14 55 ?_ ?_ chaseref1_DifferOf.D23 HT_.out ?_ ?_ ?_; rotate_left 2; intro w'; go_simp; with_reducible rfl; simp only [Act.put, s_t, s_z, s_s, i64_w, i32_w]; rfl
       refine one_ (i := 15) (N := some 56) chaseref1_DifferOf.D24 rfl rfl (one_of HT_.out (by kernel_rfl)) (by decide) (fun K hK => ?_)
       refine value_ (w1 := ?_) (v := ?_) (by rfl) rfl ?_ ?_
       rotate_left 2
       ·go_simp
        constructor
        ·rfl
        ·rfl
       refine hK.out _ _ ⟨(blk_cell (blk_alloc BK383.out _) 0).trans rfl, (blk_cell (blk_alloc BK383.out _) 1).trans rfl⟩ (fun hHeld => ?_)
       clear hK K
       refine norm_ (a' := ?_) ?_ ?_
       rotate_left
       ·show Act.put _ (some 56) _ = _
        simp only [Act.put, s_t, s_z, s_s, i64_w, i32_w]
        rfl
       refine one_ (i := 16) (N := some 57) chaseref1_DifferOf.D25 rfl rfl (one_of HT_.out (by kernel_rfl)) (by decide) (fun K hK => ?_)
       refine Kd.S_append_step k129 (w0 := w) w.heap.size (by rfl) (.tmp 41) (.tmp 56) 70 129 (.agg #[(.int .i64 0), (.slice none 0 0), (.slice none 0 0)]) 56 rfl Tryd.underlying70 info129 rfl (by decide) (by omega) u7 x7_1 (⟨x8_1, t388, t395⟩ : S129) [.int .i64 x8_1, .slice Ao39 t388.length co39, .slice Ao38 t395.length co38] (fun k_ => some k_ ≠ (.slice Ao9 t370.length co9 : Value).ownBlock ∧ some k_ ≠ (.slice Ao10 t373.length co10 : Value).ownBlock) (fun k_ => some k_ = (.slice Ao39 t388.length co39 : Value).ownBlock ∨ some k_ = (.slice Ao38 t395.length co38 : Value).ownBlock) rfl rfl ?aP (fun k_ hk_ => hk_.elim (fun h_ => ((Kd.R_mono (ok' := fun k_ => ((fun k_ => some k_ ≠ (.slice Ao9 t370.length co9 : Value).ownBlock ∧ some k_ ≠ (.slice Ao10 t373.length co10 : Value).ownBlock)) k_ ∧ some k_ ≠ (u7 : Value).ownBlock) (Kd.R_apart' (HO390.out) (Kd.S_typed HO_7.out) (by decide)) (fun k_ hk => ⟨⟨hk.1.1.1.2, hk.1.1.2⟩, hk.2⟩))).1 k_ h_.symm) (fun h_ => ((Kd.R_mono (ok' := fun k_ => ((fun k_ => some k_ ≠ (.slice Ao9 t370.length co9 : Value).ownBlock ∧ some k_ ≠ (.slice Ao10 t373.length co10 : Value).ownBlock)) k_ ∧ some k_ ≠ (u7 : Value).ownBlock) (Kd.R_apart' (HO397.out) (Kd.S_typed HO_7.out) (by decide)) (fun k_ hk => ⟨⟨hk.1.1.1.2, hk.1.1.2⟩, hk.2⟩))).1 k_ h_.symm)) ?aF ?aO ?aB ?aS ?aL ?_
       (case aP => exact k129_mkM _ _ _ (⟨x8_1, t388, t395⟩ : S129) (Kd.R_mono (Kd.R_tight rfl (Kd.R_mono (ok' := fun k_ => ((fun k_ => some k_ ≠ (.slice Ao9 t370.length co9 : Value).ownBlock ∧ some k_ ≠ (.slice Ao10 t373.length co10 : Value).ownBlock)) k_ ∧ some k_ ≠ (u7 : Value).ownBlock) (Kd.R_apart' (HO390.out) (Kd.S_typed HO_7.out) (by decide)) (fun k_ hk => ⟨⟨hk.1.1.1.2, hk.1.1.2⟩, hk.2⟩))) (fun _ h_ => Or.inl h_)) (Kd.R_mono (Kd.R_tight rfl (Kd.R_mono (ok' := fun k_ => ((fun k_ => some k_ ≠ (.slice Ao9 t370.length co9 : Value).ownBlock ∧ some k_ ≠ (.slice Ao10 t373.length co10 : Value).ownBlock)) k_ ∧ some k_ ≠ (u7 : Value).ownBlock) (Kd.R_apart' (HO397.out) (Kd.S_typed HO_7.out) (by decide)) (fun k_ hk => ⟨⟨hk.1.1.1.2, hk.1.1.2⟩, hk.2⟩))) (fun _ h_ => Or.inr (h_))))
       (case aB => exact (by repeat (first | (with_reducible first | exact HB.out | apply b3_ | apply b1_ | apply b2_ | refine below_set ?_ GE383.out) | exact HB.out)))
       (case aF => exact (fun k_ hk => ⟨Kd.fresh' (Kd.R_lt (by (with_reducible repeat (first | apply r1_ | apply r2_ | apply r3_)); exact HO_5.out)) k_ hk, Kd.fresh' (Kd.R_lt (by (with_reducible repeat (first | apply r1_ | apply r2_ | apply r3_)); exact HO_6.out)) k_ hk⟩))
       (case aO => exact (by (with_reducible repeat (first | apply q1_ | apply q2_ | apply q3_)); exact Kd.S_mono HO_7.out (fun k_ hk => ⟨⟨hk.1.1.1, hk.1.1.2⟩, fun e_ => e_.elim (fun h_ => hk.1.2 h_) (fun h_ => hk.2 h_)⟩)))
       (case aS => exact (below_size (by repeat (first | (with_reducible first | exact HB.out | apply b3_ | apply b1_ | apply b2_ | refine below_set ?_ GE383.out) | exact HB.out))))
       (case aL => have := LMc32.out; omega)
       intro v399 w40 ho hb hg hat
       rw [← Ny398.out] at ho
       have n0_ := am_ (Kd.R_over' (by (with_reducible repeat (first | apply r1_ | apply r2_ | apply r3_)); exact HO_5.out) (Kd.S_typed (by (with_reducible repeat (first | apply q1_ | apply q2_ | apply q3_)); exact HO_7.out)) (by decide) hg)
       have n1_ := am_ (Kd.R_over' (by (with_reducible repeat (first | apply r1_ | apply r2_ | apply r3_)); exact HO_6.out) (Kd.S_typed (by (with_reducible repeat (first | apply q1_ | apply q2_ | apply q3_)); exact HO_7.out)) (by decide) hg)
       have n2_ := am_ (Kd.R_over' (by (with_reducible repeat (first | apply r1_ | apply r2_ | apply r3_)); exact HO_25.out) (Kd.S_typed (by (with_reducible repeat (first | apply q1_ | apply q2_ | apply q3_)); exact HO_7.out)) (by decide) hg)
       have n3_ := am_ (blk_grown (g := gb383) (o := .cells #[.int .i64 ((rd_T132 y379 x27_1).f0), .int .i64 ((rd_T132 y379 x27_1).f1)] 132 (0, 0)) (by (with_reducible repeat (first | refine blk_drewN ?_ _ | refine blk_drew ?_ | refine blk_alloc ?_ _)); exact BK383.out) hg (Kd.S_ne HO_7.out BK383.out (by decide)))
       have n4_ := am_ (hb)
       have n5_ := am_ ((show Kd.C Kd.string w40 A34 y384.length y384 from by rw [Ny384.out, KA34.out]; exact Kd.C_mid (lo := (x8_1 : Int).toNat) (hi := (((rd_T132 y379 x27_1).f0) : Int).toNat) (c := co9) ((Kd.R_reads' (Kd.R_over' (by (with_reducible repeat (first | apply r1_ | apply r2_ | apply r3_)); exact HO_5.out) (Kd.S_typed (by (with_reducible repeat (first | apply q1_ | apply q2_ | apply q3_)); exact HO_7.out)) (by decide) hg)).2.2) KM34.out KL34.out ((Kd.R_reads' (Kd.R_over' (by (with_reducible repeat (first | apply r1_ | apply r2_ | apply r3_)); exact HO_5.out) (Kd.S_typed (by (with_reducible repeat (first | apply q1_ | apply q2_ | apply q3_)); exact HO_7.out)) (by decide) hg)).2.1)))
       have n6_ := am_ ((show Kd.C Kd.string w40 A35 y391.length y391 from by rw [Ny391.out, KA35.out]; exact Kd.C_mid (lo := (x9_1 : Int).toNat) (hi := (((rd_T132 y379 x27_1).f1) : Int).toNat) (c := co10) ((Kd.R_reads' (Kd.R_over' (by (with_reducible repeat (first | apply r1_ | apply r2_ | apply r3_)); exact HO_6.out) (Kd.S_typed (by (with_reducible repeat (first | apply q1_ | apply q2_ | apply q3_)); exact HO_7.out)) (by decide) hg)).2.2) KM35.out KL35.out ((Kd.R_reads' (Kd.R_over' (by (with_reducible repeat (first | apply r1_ | apply r2_ | apply r3_)); exact HO_6.out) (Kd.S_typed (by (with_reducible repeat (first | apply q1_ | apply q2_ | apply q3_)); exact HO_7.out)) (by decide) hg)).2.1)))
       have n7_ := am_ (ho)
       clear HO_5; clear HO_6; clear HO_25; clear BK383; clear HB; clear HR387; clear HR394; clear HO_7; clear HO390; clear HO397; have HO_5 := n0_; have HO_6 := n1_; have HO_25 := n2_; have BK383 := n3_; have HB := n4_; have HR387 := n5_; have HR394 := n6_; have HO400 := n7_; clear n0_ n1_ n2_ n3_ n4_ n5_ n6_ n7_; clear ho hb hg hat
       refine hK.out _ _ ⟨(blk_cell BK383.out 0).trans rfl, (blk_cell BK383.out 1).trans rfl⟩ (fun hHeld => ?_)
       clear hK K
       refine norm_ (a' := ?_) ?_ ?_
       rotate_left
       ·show Act.put _ (some 57) _ = _
        simp only [Act.put, s_t, s_z, s_s, i64_w, i32_w]
        rfl
       refine px_ 17 7 ?_ ?_ chaseref1_DifferOf.D26 HT_.out ?_ ?_ ?_; rotate_left 2; intro w'; go_simp; with_reducible rfl; simp only [Act.put, s_t, s_z, s_s, i64_w, i32_w]; rfl
       refine done_ (done_of HT_.out (by kernel_rfl)) ?_
       try go_wp2
       have n0_ := am_ (r3_ HO_5.out)
       have n1_ := am_ (r3_ HO_6.out)
       have n2_ := am_ (r3_ HO_25.out)
       have n3_ := am_ (q3_ HO400.out)
       have n4_ := am_ (blk_drew BK383.out)
       have n5_ := am_ (Kd.C_drew HR387.out)
       have n6_ := am_ (Kd.C_drew HR394.out)
       have n7_ := am_ (b2_ HB.out)
       clear HO_5; clear HO_6; clear HO_25; clear HO400; clear BK383; clear HR387; clear HR394; clear HB; have HO_5 := n0_; have HO_6 := n1_; have HO_25 := n2_; have HO400 := n3_; have BK383 := n4_; have HR387 := n5_; have HR394 := n6_; have HB := n7_; clear n0_ n1_ n2_ n3_ n4_ n5_ n6_ n7_
       refine start_ (n := 8) (S := fun w' => w'.cell? ⟨gb383, 0, none⟩ = some (.int .i64 ((rd_T132 y379 x27_1).f0)) ∧ w'.cell? ⟨gb383, 1, none⟩ = some (.int .i64 ((rd_T132 y379 x27_1).f1))) (ds := []) chaseref1_DifferOf.D1 (by kernel_rfl) rfl rfl ⟨(blk_cell BK383.out 0).trans rfl, (blk_cell BK383.out 1).trans rfl⟩ (fun hHeld => ?_); refine with_tabW chaseref1_DifferOf.tab9 chaseref1_DifferOf.bits9 (fun HT_ HW_ => ?_)
       generalize w40.drew = w41 at HO_5 HO_6 HO_25 HO400 BK383 HR387 HR394 HB hHeld ⊢
       refine px_ 0 58 ?_ ?_ chaseref1_DifferOf.D3 HT_.out ?_ ?_ ?_; rotate_left 2; intro w'; go_simp; with_reducible rfl; simp only [Act.put, s_t, s_z, s_s, i64_w, i32_w]; rfl
       refine px_ 3 61 ?_ ?_ chaseref1_DifferOf.D4 HT_.out ?_ ?_ ?_; rotate_left 2; intro w'; go_simp; with_reducible rfl; simp only [Act.put, s_t, s_z, s_s, i64_w, i32_w]; rfl
       refine take_ (i := 1) (N := some 59) (v := ?_) (a' := ?_) chaseref1_DifferOf.D6 rfl rfl (take_ofW HT_.out HW_.out (by kernel_rfl)) (fun _ _ _ h => h) (Or.inl ⟨by rfl, ?_⟩) hHeld ?_ ?_
       rotate_left
       ·rintro w' ⟨s0, s1⟩
        go_simp
        with_reducible rfl
       rotate_left
       ·simp only [Act.put, s_t, s_z, s_s, i64_w, i32_w]
        rfl
       refine px_ 2 60 ?_ ?_ chaseref1_DifferOf.D9 HT_.out ?_ ?_ ?_; rotate_left 2; intro w'; go_simp; with_reducible rfl; simp only [Act.put, s_t, s_z, s_s, i64_w, i32_w]; rfl
       refine px_ 6 8 ?_ ?_ chaseref1_DifferOf.D10 HT_.out ?_ ?_ ?_; rotate_left 2; intro w'; go_simp; with_reducible rfl; simp only [Act.put, s_t, s_z, s_s, i64_w, i32_w]; rfl
       refine take_ (i := 4) (N := some 62) (v := ?_) (a' := ?_) chaseref1_DifferOf.D15 rfl rfl (take_ofW HT_.out HW_.out (by kernel_rfl)) (fun _ _ _ h => h) (Or.inl ⟨by rfl, ?_⟩) hHeld ?_ ?_
       rotate_left
       ·rintro w' ⟨s0, s1⟩
        go_simp
        with_reducible rfl
       rotate_left
       ·simp only [Act.put, s_t, s_z, s_s, i64_w, i32_w]
        rfl
       refine px_ 5 63 ?_ ?_ chaseref1_DifferOf.D20 HT_.out ?_ ?_ ?_; rotate_left 2; intro w'; go_simp; with_reducible rfl; simp only [Act.put, s_t, s_z, s_s, i64_w, i32_w]; rfl
       refine px_ 7 9 ?_ ?_ chaseref1_DifferOf.D27 HT_.out ?_ ?_ ?_; rotate_left 2; intro w'; go_simp; with_reducible rfl; simp only [Act.put, s_t, s_z, s_s, i64_w, i32_w]; rfl
       refine done_ (done_of HT_.out (by kernel_rfl)) ?_
       try go_wp2
       go_roundg kj16
       case measure => have := HK1.out; have := HJ16.out; omega
       case rel => exact ⟨(y398), (wrap64 (((rd_T132 y379 x27_1).f0) + 1)), (wrap64 (((rd_T132 y379 x27_1).f1) + 1)), (wrap64 (x27_1 + 1)), (by first | rfl | (simp; done) | (simp [*]; done)), (by first | rfl | (simp; done) | (simp [*]; done)), (by first | rfl | (simp; done) | (simp [*]; done)), H', ⟨by have := HK1.out; have := HJ16.out; omega⟩, ⟨by (with_reducible repeat (first | apply r1_ | apply r2_ | apply r3_)); exact Kd.R_mono HO_5.out (fun _ hk => hk.1.1)⟩, ⟨by (with_reducible repeat (first | apply r1_ | apply r2_ | apply r3_)); exact Kd.R_mono HO_6.out (fun _ hk => hk.1.1)⟩, ⟨by (with_reducible repeat (first | apply q1_ | apply q2_ | apply q3_)); exact HO400.out⟩, ⟨by (with_reducible repeat (first | apply r1_ | apply r2_ | apply r3_)); exact Kd.R_mono HO_25.out (fun _ hk => trivial)⟩, ⟨by repeat (first | (with_reducible first | exact HB.out | apply b3_ | apply b1_ | apply b2_ | refine below_set ?_ GE383.out) | exact HB.out)⟩⟩
      ·replace c23 := Bool.eq_false_iff.mpr c23
       subst c23
       have H1 : (chaseref1_DifferOf.l0 kj16 t370 t373 x7_1 (wrap64 (((rd_T132 y379 x27_1).f0) + 1)) (wrap64 (((rd_T132 y379 x27_1).f1) + 1)) y379 (y379.length : Int) (wrap64 (x27_1 + 1))) = some r := by rw [if_neg (show ¬ (false = true) by decide)] at H; exact H
       clear H
       have H := H1
       clear H1
       have H' := am_ H
       clear H
       try go_wp2
       have n0_ := am_ (r3_ HO_5.out)
       have n1_ := am_ (r3_ HO_6.out)
       have n2_ := am_ (q3_ HO_7.out)
       have n3_ := am_ (r3_ HO_25.out)
       have n4_ := am_ (blk_drew BK383.out)
       have n5_ := am_ (b2_ HB.out)
       clear HO_5; clear HO_6; clear HO_7; clear HO_25; clear BK383; clear HB; have HO_5 := n0_; have HO_6 := n1_; have HO_7 := n2_; have HO_25 := n3_; have BK383 := n4_; have HB := n5_; clear n0_ n1_ n2_ n3_ n4_ n5_
       refine start_ (n := 8) (S := fun w' => w'.cell? ⟨gb383, 0, none⟩ = some (.int .i64 ((rd_T132 y379 x27_1).f0)) ∧ w'.cell? ⟨gb383, 1, none⟩ = some (.int .i64 ((rd_T132 y379 x27_1).f1))) (ds := []) chaseref1_DifferOf.D1 (by kernel_rfl) rfl rfl ⟨(blk_cell BK383.out 0).trans rfl, (blk_cell BK383.out 1).trans rfl⟩ (fun hHeld => ?_); refine with_tabW chaseref1_DifferOf.tab9 chaseref1_DifferOf.bits9 (fun HT_ HW_ => ?_)
       generalize wc.drew = w42 at HO_5 HO_6 HO_7 HO_25 BK383 HB hHeld ⊢
       refine px_ 0 58 ?_ ?_ chaseref1_DifferOf.D3 HT_.out ?_ ?_ ?_; rotate_left 2; intro w'; go_simp; with_reducible rfl; simp only [Act.put, s_t, s_z, s_s, i64_w, i32_w]; rfl
       refine px_ 3 61 ?_ ?_ chaseref1_DifferOf.D4 HT_.out ?_ ?_ ?_; rotate_left 2; intro w'; go_simp; with_reducible rfl; simp only [Act.put, s_t, s_z, s_s, i64_w, i32_w]; rfl
       refine take_ (i := 1) (N := some 59) (v := ?_) (a' := ?_) chaseref1_DifferOf.D6 rfl rfl (take_ofW HT_.out HW_.out (by kernel_rfl)) (fun _ _ _ h => h) (Or.inl ⟨by rfl, ?_⟩) hHeld ?_ ?_
       rotate_left
       ·rintro w' ⟨s0, s1⟩
        go_simp
        with_reducible rfl
       rotate_left
       ·simp only [Act.put, s_t, s_z, s_s, i64_w, i32_w]
        rfl
       refine px_ 2 60 ?_ ?_ chaseref1_DifferOf.D9 HT_.out ?_ ?_ ?_; rotate_left 2; intro w'; go_simp; with_reducible rfl; simp only [Act.put, s_t, s_z, s_s, i64_w, i32_w]; rfl
       refine px_ 6 8 ?_ ?_ chaseref1_DifferOf.D10 HT_.out ?_ ?_ ?_; rotate_left 2; intro w'; go_simp; with_reducible rfl; simp only [Act.put, s_t, s_z, s_s, i64_w, i32_w]; rfl
       refine take_ (i := 4) (N := some 62) (v := ?_) (a' := ?_) chaseref1_DifferOf.D15 rfl rfl (take_ofW HT_.out HW_.out (by kernel_rfl)) (fun _ _ _ h => h) (Or.inl ⟨by rfl, ?_⟩) hHeld ?_ ?_
       rotate_left
       ·rintro w' ⟨s0, s1⟩
        go_simp
        with_reducible rfl
       rotate_left
       ·simp only [Act.put, s_t, s_z, s_s, i64_w, i32_w]
        rfl
       refine px_ 5 63 ?_ ?_ chaseref1_DifferOf.D20 HT_.out ?_ ?_ ?_; rotate_left 2; intro w'; go_simp; with_reducible rfl; simp only [Act.put, s_t, s_z, s_s, i64_w, i32_w]; rfl
       refine px_ 7 9 ?_ ?_ chaseref1_DifferOf.D27 HT_.out ?_ ?_ ?_; rotate_left 2; intro w'; go_simp; with_reducible rfl; simp only [Act.put, s_t, s_z, s_s, i64_w, i32_w]; rfl
       refine done_ (done_of HT_.out (by kernel_rfl)) ?_
       try go_wp2
       go_roundg kj16
       case measure => have := HK1.out; have := HJ16.out; omega
       case rel => exact ⟨(x7_1), (wrap64 (((rd_T132 y379 x27_1).f0) + 1)), (wrap64 (((rd_T132 y379 x27_1).f1) + 1)), (wrap64 (x27_1 + 1)), (by first | rfl | (simp; done) | (simp [*]; done)), (by first | rfl | (simp; done) | (simp [*]; done)), (by first | rfl | (simp; done) | (simp [*]; done)), H', ⟨by have := HK1.out; have := HJ16.out; omega⟩, ⟨by (with_reducible repeat (first | apply r1_ | apply r2_ | apply r3_)); exact HO_5.out⟩, ⟨by (with_reducible repeat (first | apply r1_ | apply r2_ | apply r3_)); exact HO_6.out⟩, ⟨by (with_reducible repeat (first | apply q1_ | apply q2_ | apply q3_)); exact HO_7.out⟩, ⟨by (with_reducible repeat (first | apply r1_ | apply r2_ | apply r3_)); exact Kd.R_mono HO_25.out (fun _ hk => trivial)⟩, ⟨by repeat (first | (with_reducible first | exact HB.out | apply b3_ | apply b1_ | apply b2_ | refine below_set ?_ GE383.out) | exact HB.out)⟩⟩
   ·rw [if_neg c14] at H
    have c14b0 : decide (x27_1 < (y379.length : Int)) = false := decide_eq_false c14
    clear c14
    obtain rfl := Option.some.inj H
    go_wp2
    go_ret
    exact ⟨_, by first | rfl | (simp [errW_none, errW_some] <;> rfl) | (simp [*, errW_none, errW_some] <;> rfl), by (with_reducible repeat (first | apply q1_ | apply q2_ | apply q3_)); exact Kd.S_mono HO_7.out (fun _ hk => trivial), by repeat (first | (with_reducible first | exact HB.out | apply b3_ | apply b1_ | apply b2_) | exact HB.out)⟩
def chaseref1_JoinOf.f (l0 : List ByteArray) : Option (ByteArray) := if l0.length ≤ 140737488355328 ∧ (jt l0 l0.length).length ≤ 140737488355328 then (some (⟨(jt l0 l0.length).toArray⟩ : ByteArray)) else (none)
set_option maxHeartbeats 8000000 in
set_option maxRecDepth 100000 in
theorem chaseref1_JoinOf.calls (A0 : Option Addr) (c0 : Nat) (l0 : List ByteArray) (r : ByteArray) (w : World) (hr0 : Kd.C Kd.string w A0 l0.length l0) (hc0 : l0.length ≤ c0) (h : chaseref1_JoinOf.f l0 = some r) :
    Calls Tryd.prog 41 #[.slice A0 l0.length c0] w fun e w' => e = .returned (.string r) ∧ Below w.heap.size w w' := by
  unfold chaseref1_JoinOf.f at h
  by_cases hs : l0.length ≤ 140737488355328 ∧ (jt l0 l0.length).length ≤ 140737488355328
  · rw [if_pos hs] at h
    obtain rfl := Option.some.inj h
    clear h
    have h0 : Lib.IsBuilderF 110 5 w.heap.size w.heap.size (Lib.byteCells (jt l0 0)) (w.alloc (.cells #[.pointer none, .slice none 0 0] 110)) := Lib.IsBuilderF.of (Lib.fresh_isBuilder 110 5 w)
    have b0 : Below w.heap.size w (w.alloc (.cells #[.pointer none, .slice none 0 0] 110)) := (Below.refl _ w).alloc (Nat.le_refl _) _
    have H0 : Hid (Lib.IsBuilderF 110 5 w.heap.size w.heap.size (Lib.byteCells (jt l0 0)) (w.alloc (.cells #[.pointer none, .slice none 0 0] 110)) ∧ Below w.heap.size w (w.alloc (.cells #[.pointer none, .slice none 0 0] 110))) := ⟨h0, b0⟩
    clear h0 b0
    have hs1 := hs.1
    have HS : Hid ((jt l0 l0.length).length ≤ 140737488355328) := hs.2
    clear hs
    have HR : Hid (Kd.C Kd.string w A0 l0.length l0) := hr0
    clear hr0
    go_enter Tryd.func41, Tryd.ntmps41
    go_wp2
    go_loopw [8] (fun i wr => ∃ k : Nat, k ≤ l0.length ∧ i = .int .i64 k ∧ Hid (Lib.IsBuilderF 110 5 w.heap.size w.heap.size (Lib.byteCells (jt l0 k)) wr ∧ Below w.heap.size w wr)) (fun i _ => l0.length - (intOf i).toNat)
    case atStart => exact ⟨0, Nat.zero_le _, rfl, H0⟩
    case round =>
        obtain ⟨k, hk, rfl, HL⟩ := hrel; clear H0
        by_cases hlt : k < l0.length
        · obtain ⟨b, o, rfl, hbk, hcell⟩ := C_cells HR.out (Nat.lt_of_le_of_lt (Nat.zero_le _) hlt)
          obtain ⟨x, ex⟩ : ∃ x, l0.getD k ByteArray.empty = x := ⟨_, rfl⟩
          obtain ⟨y, ey⟩ : ∃ y, l0.getD (k - 1) ByteArray.empty = y := ⟨_, rfl⟩
          have hx : wr.cell? ⟨b, o + k, none⟩ = some (.string x) := (HL.out.2.cell hbk).trans (by rw [hcell k _ (List.getElem?_eq_getElem hlt), ← ex]; simp [List.getD, hlt])
          have hz1 : (k : Int) < (l0.length : Int) := by omega
          have HN : Hid ((jt l0 (k + 1)).length ≤ 140737488355328) := Nat.le_trans (jt_le l0 (by omega)) HS.out
          by_cases c0 : 0 < k
          · have hz2 : (0 : Int) < (k : Int) := by omega
            have hy : wr.cell? ⟨b, o + (k - 1), none⟩ = some (.string y) := (HL.out.2.cell hbk).trans (by rw [hcell (k - 1) _ (List.getElem?_eq_getElem (by omega)), ← ey]; simp [List.getD, show k - 1 < l0.length by omega])
            clear hcell HR
            by_cases c1 : x.toList = [10]
            · clear hy
              have c1b : (x.toList == [10]) = true := by rw [c1]; rfl
              have e_ : jt l0 (k + 1) = jt l0 k ++ x.data.toList := jt_no ex ey (by intro h_; exact h_.2.1 c1)
              go_wp2_with (go_at_call 102; refine (Tryd.WriteString w.heap.size w.heap.size _ x _ HL.out.1 (by have z_ := HN.out; rw [e_, List.length_append, ← Lib.size_eq] at z_; rw [Lib.byteCells_length]; exact z_) HL.out.2.size).mono ?_; rintro e W1 ⟨rfl, h1, hb, _⟩; have HP : Hid (Lib.IsBuilderF 110 5 w.heap.size w.heap.size (Lib.byteCells (jt l0 (k + 1))) W1 ∧ Below w.heap.size w W1) := ⟨Or.inr (by rw [e_, Lib.byteCells_append, ← Lib.strCells_eq]; exact h1), HL.out.2.trans hb⟩; clear HL HN h1 hb)
              go_roundw
              case rel => exact ⟨k + 1, by omega, by go_num, HP⟩
              case measure => simp [intOf]; omega
            · have c1b : (x.toList == [10]) = false := by simpa using c1
              by_cases c2 : y.toList = [10]
              · have c2b : (y.toList == [10]) = true := by rw [c2]; rfl
                have e_ : jt l0 (k + 1) = jt l0 k ++ x.data.toList := jt_no ex ey (by intro h_; exact h_.2.2 c2)
                go_wp2_with (go_at_call 102; refine (Tryd.WriteString w.heap.size w.heap.size _ x _ HL.out.1 (by have z_ := HN.out; rw [e_, List.length_append, ← Lib.size_eq] at z_; rw [Lib.byteCells_length]; exact z_) HL.out.2.size).mono ?_; rintro e W1 ⟨rfl, h1, hb, _⟩; have HP : Hid (Lib.IsBuilderF 110 5 w.heap.size w.heap.size (Lib.byteCells (jt l0 (k + 1))) W1 ∧ Below w.heap.size w W1) := ⟨Or.inr (by rw [e_, Lib.byteCells_append, ← Lib.strCells_eq]; exact h1), HL.out.2.trans hb⟩; clear HL HN h1 hb)
                go_roundw
                case rel => exact ⟨k + 1, by omega, by go_num, HP⟩
                case measure => simp [intOf]; omega
              · have e_ : jt l0 (k + 1) = jt l0 k ++ [32] ++ x.data.toList := jt_sp ex ey c0 c1 c2
                have c2b : (y.toList == [10]) = false := by simpa using c2
                go_wp2_with (first | (go_at_call 102; refine (Tryd.WriteString w.heap.size w.heap.size _ x _ HQ.out.1 (by have z_ := HN.out; rw [e_, List.length_append, ← Lib.size_eq] at z_; rw [Lib.byteCells_length]; exact z_) HQ.out.2.size).mono ?_; rintro e W1 ⟨rfl, h1, hb, _⟩; have HP : Hid (Lib.IsBuilderF 110 5 w.heap.size w.heap.size (Lib.byteCells (jt l0 (k + 1))) W1 ∧ Below w.heap.size w W1) := ⟨Or.inr (by rw [e_, Lib.byteCells_append, ← Lib.strCells_eq]; exact h1), HQ.out.2.trans hb⟩; clear HQ HN h1 hb) | (go_at_call 102; refine (Tryd.WriteString w.heap.size w.heap.size _ ⟨#[32]⟩ _ HL.out.1 (by have z_ := HN.out; rw [e_, List.length_append, List.length_append] at z_; rw [Lib.byteCells_length]; have z1 : (⟨#[32]⟩ : ByteArray).size = 1 := rfl; have z2 : ([32] : List UInt8).length = 1 := rfl; omega) HL.out.2.size).mono ?_; rintro e W0 ⟨rfl, h3, hb0, _⟩; have HQ : Hid (Lib.IsBuilderF 110 5 w.heap.size w.heap.size (Lib.byteCells (jt l0 k ++ [32])) W0 ∧ Below w.heap.size w W0) := ⟨Or.inr (by rw [Lib.byteCells_append]; first | exact h3 | (rw [show Lib.byteCells [32] = Lib.strCells ⟨#[32]⟩ from rfl]; exact h3)), HL.out.2.trans hb0⟩; clear h3 hb0 HL))
                go_roundw
                case rel => exact ⟨k + 1, by omega, by go_num, HP⟩
                case measure => simp [intOf]; omega
          · have hz2 : ¬ (0 : Int) < (k : Int) := by omega
            have e_ : jt l0 (k + 1) = jt l0 k ++ x.data.toList := jt_no ex ey (by intro h_; exact c0 h_.1)
            go_wp2_with (go_at_call 102; refine (Tryd.WriteString w.heap.size w.heap.size _ x _ HL.out.1 (by have z_ := HN.out; rw [e_, List.length_append, ← Lib.size_eq] at z_; rw [Lib.byteCells_length]; exact z_) HL.out.2.size).mono ?_; rintro e W1 ⟨rfl, h1, hb, _⟩; have HP : Hid (Lib.IsBuilderF 110 5 w.heap.size w.heap.size (Lib.byteCells (jt l0 (k + 1))) W1 ∧ Below w.heap.size w W1) := ⟨Or.inr (by rw [e_, Lib.byteCells_append, ← Lib.strCells_eq]; exact h1), HL.out.2.trans hb⟩; clear HL HN h1 hb)
            go_roundw
            case rel => exact ⟨k + 1, by omega, by go_num, HP⟩
            case measure => simp [intOf]; omega
        · obtain rfl : k = l0.length := by omega
          have hz1 : ¬ (l0.length : Int) < (l0.length : Int) := by omega
          go_wp2_with (go_at_call 103; refine (Tryd.BString w.heap.size w.heap.size _ _ HL.out.1 HL.out.2.size).mono ?_; rintro e w' ⟨rfl, _, hb, _⟩; have hB := HL.out.2.trans hb; clear HL hb)
          go_ret
          exact ⟨rfl, hB⟩
  · rw [if_neg hs] at h
    exact absurd h (by simp)
def chaseref1_MarkedOf.l0 : Nat → List ByteArray → List ByteArray → Int → List (S129) → Int → Int → Option (ByteArray)
  | 0, _, _, _, _, _, _ => none
  | k + 1, x5, x6, x7, x14, x15, x16 => if x16 < x15 then (if 0 ≤ x16 then (if x16 < (x14.length : Int) then (if 0 ≤ x7 then (if x7 ≤ ((rd_T129 x14 x16).f0) then (if ((rd_T129 x14 x16).f0) ≤ (x5.length : Int) then ((some ((x5.take (((rd_T129 x14 x16).f0) : Int).toNat).drop (x7 : Int).toNat : List ByteArray)).bind fun y417 => (if x6.length + y417.length < 8796093022208 then ((some (x6 ++ y417 : List ByteArray)).bind fun y421 => (if (((rd_T129 x14 x16).f1).length : Int) > 0 then ((chaseref1_JoinOf.f ((rd_T129 x14 x16).f1)).bind fun t424 => (if 2 + t424.size ≤ 9223372036854775807 then (if ((⟨#[91, 45]⟩ : ByteArray) ++ t424).size + 2 ≤ 9223372036854775807 then (if y421.length < 8796093022208 then ((some (y421 ++ [((⟨#[91, 45]⟩ : ByteArray) ++ t424) ++ (⟨#[45, 93]⟩ : ByteArray)] : List ByteArray)).bind fun y425 => (if (((rd_T129 x14 x16).f2).length : Int) > 0 then ((chaseref1_JoinOf.f ((rd_T129 x14 x16).f2)).bind fun t428 => (if 2 + t428.size ≤ 9223372036854775807 then (if ((⟨#[123, 43]⟩ : ByteArray) ++ t428).size + 2 ≤ 9223372036854775807 then (if y425.length < 8796093022208 then (chaseref1_MarkedOf.l0 k x5 (y425 ++ [((⟨#[123, 43]⟩ : ByteArray) ++ t428) ++ (⟨#[43, 125]⟩ : ByteArray)]) (wrap64 (((rd_T129 x14 x16).f0) + (((rd_T129 x14 x16).f1).length : Int))) x14 x15 (wrap64 (x16 + 1))) else (none)) else (none)) else (none))) else (chaseref1_MarkedOf.l0 k x5 y425 (wrap64 (((rd_T129 x14 x16).f0) + (((rd_T129 x14 x16).f1).length : Int))) x14 x15 (wrap64 (x16 + 1))))) else (none)) else (none)) else (none))) else (if (((rd_T129 x14 x16).f2).length : Int) > 0 then ((chaseref1_JoinOf.f ((rd_T129 x14 x16).f2)).bind fun t432 => (if 2 + t432.size ≤ 9223372036854775807 then (if ((⟨#[123, 43]⟩ : ByteArray) ++ t432).size + 2 ≤ 9223372036854775807 then (if y421.length < 8796093022208 then (chaseref1_MarkedOf.l0 k x5 (y421 ++ [((⟨#[123, 43]⟩ : ByteArray) ++ t432) ++ (⟨#[43, 125]⟩ : ByteArray)]) (wrap64 (((rd_T129 x14 x16).f0) + (((rd_T129 x14 x16).f1).length : Int))) x14 x15 (wrap64 (x16 + 1))) else (none)) else (none)) else (none))) else (chaseref1_MarkedOf.l0 k x5 y421 (wrap64 (((rd_T129 x14 x16).f0) + (((rd_T129 x14 x16).f1).length : Int))) x14 x15 (wrap64 (x16 + 1)))))) else (none))) else (none)) else (none)) else (none)) else (none)) else (none)) else (if 0 ≤ x7 then (if x7 ≤ (x5.length : Int) then ((some (x5.drop (x7 : Int).toNat : List ByteArray)).bind fun y407 => (if x6.length + y407.length < 8796093022208 then ((chaseref1_JoinOf.f (x6 ++ y407)).bind fun t414 => (some t414)) else (none))) else (none)) else (none))
def chaseref1_MarkedOf.f (k : Nat) (a0 : ByteArray) (a1 : ByteArray) : Option (ByteArray) := (chaseref1_TokensOf.f k a0).bind fun t401 => ((chaseref1_DifferOf.f k a0 a1).bind fun t404 => (chaseref1_MarkedOf.l0 k t401 ([] : List ByteArray) 0 t404 (t404.length : Int) 0))
theorem chaseref1_MarkedOf.mono_l : ∀ k, (∀ y0 y1 y2 y3 y4 y5, LeO (chaseref1_MarkedOf.l0 k y0 y1 y2 y3 y4 y5) (chaseref1_MarkedOf.l0 (k + 1) y0 y1 y2 y3 y4 y5))
  | 0 => fun _ _ _ _ _ _ r h => by simp [chaseref1_MarkedOf.l0] at h
  | k + 1 => by
    have ih0 := chaseref1_MarkedOf.mono_l k
    · intro y0 y1 y2 y3 y4 y5
      unfold chaseref1_MarkedOf.l0
      repeat' first
      | (with_reducible exact ih0 _ _ _ _ _ _)
      | (with_reducible exact chaseref1_DifferOf.mono _ _ _)
      | (with_reducible exact chaseref1_TokensOf.mono _ _)
      | (with_reducible exact LeO.refl _)
      | (with_reducible exact LeO.none _)
      | (with_reducible refine LeO.ite ?_ ?_)
      | (with_reducible refine LeO.bind ?_ (fun _ => ?_))
      | exact ih0 _ _ _ _ _ _
      | exact LeO.none _
      | refine LeO.ite ?_ ?_
      | refine LeO.bind ?_ (fun _ => ?_)
theorem chaseref1_MarkedOf.mono : ∀ a0 a1 k, LeO (chaseref1_MarkedOf.f k a0 a1) (chaseref1_MarkedOf.f (k + 1) a0 a1) := by
  intro a0 a1 k
  have ih0 := chaseref1_MarkedOf.mono_l k
  unfold chaseref1_MarkedOf.f
  repeat' first
      | (with_reducible exact ih0 _ _ _ _ _ _)
      | (with_reducible exact chaseref1_DifferOf.mono _ _ _)
      | (with_reducible exact chaseref1_TokensOf.mono _ _)
      | (with_reducible exact LeO.refl _)
      | (with_reducible exact LeO.none _)
      | (with_reducible refine LeO.ite ?_ ?_)
      | (with_reducible refine LeO.bind ?_ (fun _ => ?_))
      | exact ih0 _ _ _ _ _ _
      | exact LeO.none _
      | refine LeO.ite ?_ ?_
      | refine LeO.bind ?_ (fun _ => ?_)
end Go.Proofs.YtbamfhcifpfocaaDoor.Pw
