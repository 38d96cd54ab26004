/- A part of the proof of textsCovered. No conditions. Laid by program over the kit's print and words. -/
import Derived.Test.YtolcpmdojlbhcaaDoorZyPxx0
import Derived.Test.YtolcpmdojlbhcaaDoorZyPxx4
import Derived.Test.YtolcpmdojlbhcaaDoorZyPxx7
namespace Go.Proofs.YtolcpmdojlbhcaaDoor.Px
open Go.RowKit Go.Proofs.YtolcpmdojlbhcaaDoor.GBase Go.Proofs.YtolcpmdojlbhcaaDoorW.PrintWords Go.Proofs.YtolcpmdojlbhcaaDoorW.PrintLast Go.Proofs.YtolcpmdojlbhcaaDoorW.PrintMore
attribute [local go_sem] str_leq max2_int min2_int max_two min_two max_three min_three max_four min_four
set_option linter.unusedVariables false
set_option linter.unusedSimpArgs false
set_option maxHeartbeats 8000000 in
set_option maxRecDepth 100000 in
theorem Z5.calls (k : Nat) (a0 : ByteArray) (A1 : Option Addr) (c1 : Nat) (l1 : List (S46)) (r1 : List (S46)) (r2 : Int) (w : World) (hr1 : Kd.C k46 w A1 l1.length l1) (hc1 : l1.length ≤ c1) (hGl : Wd w) (h : Z5.f k a0 l1 = some (r1, r2)) :
  Calls Tryd.prog 25 #[.string a0, .slice A1 l1.length c1] w fun e w' => ∃ v0_ : Value, e = .returned (.tuple #[v0_, .int .i64 r2]) ∧ Kd.R k46 46 w' w.heap.size (fun _ => True) v0_ r1 ∧ Below w.heap.size w w' := by
 have hu46 := Tryd.underlying46
 have HGl := am_ hGl; clear hGl; have HR1 := am_ hr1; have HC1 := am_ hc1; clear hr1 hc1
 have HB := am_ (Below.refl w.heap.size w)
 have H : ((Z29.f k a0 l1).bind fun t223 => (if t223 = 0 then (Z5.l0 k a0 ([] : List (S46)) l1 (l1.length : Int) 0) else (some (([] : List (S46)), t223)))) = some (r1, r2) := h
 clear h; replace H := Option.bind_eq_some_iff.mp H; obtain ⟨t223, A30, H⟩ := H; have A3 := am_ A30; clear A30
 by_cases c4 : t223 = 0
 ·rw [if_pos c4] at H
  have c4b0 : (t223 == 0) = true := beq_iff_eq.mpr c4
  have c4b1 : (t223 != 0) = false := bne_eq_false_iff_eq.mpr c4
  clear c4
  have H' := am_ H
  clear H
  go_enter Tryd.func25, Tryd.ntmps25
  go_wp2_with (first | ((with_reducible refine gate_callee (f := 53) rfl ?_); refine goesL_ (some 12) rfl rfl Tryd.func53 (by kernel_rfl) rfl #[.string a0, .slice A1 l1.length c1] rfl gl_ ?_; (with_reducible refine (Z29.calls k a0 _ _ l1 t223 _ ?side1 ?side2 ?side3 A3.out).mono ?_); (case side1 => exact cc_ HR1.out); (case side2 => exact HC1.out); (case side3 => exact Wd.below HGl.out (bw_ HB.out)); rintro e w5 ⟨rfl, hb⟩; refine ⟨_, rfl, ?_⟩; have n0_ := am_ (below_step (bw_ HB.out) hb); clear HB; have HB := n0_; clear n0_; (try clear hb); (try clear hb2); (try clear hk); (try clear hi)))
  go_loopg [7, 18] k (fun kq v7 v18 w' => ∃ (x7_1 : List (S46)) (x18_1 : Int), v18 = .int .i64 x18_1 ∧ Aside0 (Z5.l0 kq a0 x7_1 l1 (l1.length : Int) x18_1 = some (r1, r2)) ∧ Aside0 (kq ≤ k) ∧ Aside0 (Kd.R k46 46 w' w.heap.size (fun _ => True) v7 x7_1) ∧ Aside0 (Below w.heap.size w w'))
  case atStart => exact ⟨(([] : List (S46))), (0), tr_, H', ⟨Nat.le_refl _⟩, ⟨by first | exact Kd.R_nil _ _ _ _ _ | exact Kd.N_nil _ _ _ _ _ | exact Kd.V_nil _ _ _ _ _ | exact Kd.Q_nil _ _ _ _ _ | exact Kd.S_nil _ _ _ _ _⟩, ⟨bw_ HB.out⟩⟩
  case round =>
   clear H'; (try clear c1); (try clear c2); (try clear p2); (try clear c4); (try clear c4b0); (try clear c4b1); (try clear c5); obtain ⟨x7_1, x18_1, rfl, HA, HK1, HO_7, HB⟩ := hrel
   cases gk with
   | zero => exact absurd HA.out (by simp [Z5.l0])
   | succ k1 =>
    have H := HA.out
    clear HA
    simp only [Z5.l0] at H
    by_cases c6 : x18_1 < (l1.length : Int)
    ·rw [if_pos c6] at H
     have c6b0 := decide_eq_true c6; clear c6
     by_cases c7 : 0 ≤ x18_1
     case neg => exact (nn_ c7 H).elim
     rw [if_pos c7] at H; have c7b0 := decide_eq_true c7; clear c7
     by_cases c8 : x18_1 < (l1.length : Int)
     case neg => exact (nn_ c8 H).elim
     rw [if_pos c8] at H; have c8b0 := decide_eq_true c8; clear c8; have HC9 := am_ H; clear H; have p227 : 0 ≤ (x18_1 : Int) := ode_; have q227 : x18_1 < (l1.length : Int) := ode_
     obtain ⟨ad227, e227, hx227_0, hx227_1⟩ := at_T46 HR1.out x18_1 p227 q227
     cases e227
     first | replace hx227_0 := (HB.out.cell (World.block_lt_of_cell? w _ hx227_0)).trans hx227_0 | skip
     first | replace hx227_1 := (HB.out.cell (World.block_lt_of_cell? w _ hx227_1)).trans hx227_1 | skip
     replace p227 := eq_true p227; replace q227 := eq_true q227
     go_upto_block 2 with (first | ((with_reducible refine gate_dst (N := 9) rfl ?_); refine box_event ?hg (N := 9) ?hd (cs := #[.int .i64 0, .int .i64 0]) (t := 46) ?hr ?_; (case hd => rfl); (case hg => rfl); (case hr => first | (go_simp; done) | (go_simp; rfl)); intro gb228 hg w10 hbox hb; have n0_ := am_ (Kd.R_below (Kd.R_elderB (rr_ HO_7.out) gb228 (Nat.le_of_eq hg.symm)) hb); have n1_ := am_ (below_step (bw_ HB.out) hb); have n2_ := am_ (hbox); have n3_ := am_ ((by rw [hg]; exact (below_size (bw_ HB.out)) : w.heap.size ≤ gb228)); have n4_ := am_ ((by rw [hg]; exact (below_size (bw_ HB.out)) : w.heap.size ≤ gb228)); clear HO_7; clear HB; have HO_7 := n0_; have HB := n1_; have BK228 := n2_; have GW228 := n3_; have GE228 := n4_; clear n0_ n1_ n2_ n3_ n4_; clear hb hbox hg; have hcz11_0 : w10.cell? ⟨gb228, 0, none⟩ = some (.int .i64 0) := (blk_cell BK228.out 0).trans rfl; have hcz11_1 : w10.cell? ⟨gb228, 1, none⟩ = some (.int .i64 0) := (blk_cell BK228.out 1).trans rfl; have hfz11_0 := blk_frozen BK228.out 0; have hfz11_1 := blk_frozen BK228.out 1))
     (try simp only [Act.put, s_t, s_z, s_s])
     go_cut [] (fun wc => ∃ (kq : Nat) (x229000_8 : Int), Aside0 (Z5.j2 kq a0 x7_1 l1 (l1.length : Int) x18_1 x229000_8 ((rd_T46 l1 x18_1).f1) = some (r1, r2)) ∧ Aside0 (kq ≤ k1) ∧ Aside0 (Kd.R k46 46 wc w.heap.size (fun k_ => k_ ≠ gb228) u7 x7_1) ∧ Aside0 (wc.heap[gb228]? = some (.cells #[.int .i64 x229000_8, .int .i64 ((rd_T46 l1 x18_1).f1)] 46 (0, 0))) ∧ Aside0 (Below w.heap.size w wc))
     case first =>
      have H := HC9.out
      clear HC9
      have H' := am_ H
      clear H
      go_wp2
      go_loopg [] k1 (fun kq w' => ∃ (x229000_2 : Int), Aside0 (Z5.l1 kq a0 x7_1 l1 (l1.length : Int) x18_1 x229000_2 ((rd_T46 l1 x18_1).f1) = some (r1, r2)) ∧ Aside0 (kq ≤ k1) ∧ Aside0 (Kd.R k46 46 w' w.heap.size (fun k_ => k_ ≠ gb228) u7 x7_1) ∧ Aside0 (w'.heap[gb228]? = some (.cells #[.int .i64 x229000_2, .int .i64 ((rd_T46 l1 x18_1).f1)] 46 (0, 0))) ∧ Aside0 (Below w.heap.size w w'))
      case atStart => exact ⟨((rd_T46 l1 x18_1).f0), H', ⟨Nat.le_refl _⟩, ⟨by (with_reducible repeat (first | apply r1_ | apply r2_ | apply r3_)); exact Kd.R_mono (Kd.R_far (p := ⟨gb228, 1, none⟩) (Kd.R_far (p := ⟨gb228, 0, none⟩) (Kd.R_mono HO_7.out (fun k_ hk => (⟨hk, hk.2⟩ : _ ∧ k_ ≠ gb228))) (fun _ hk => hk.2) (.int .i64 ((rd_T46 l1 x18_1).f0))) (fun _ hk => hk.2) (.int .i64 ((rd_T46 l1 x18_1).f1))) (fun _ hk => hk.1.2)⟩, ⟨by (with_reducible repeat (first | refine blk_drewN ?_ _ | refine blk_drew ?_ | refine blk_alloc ?_ _)); refine blk_put (cs := #[.int .i64 ((rd_T46 l1 x18_1).f0), .int .i64 0]) ?_ 1 _ rfl; (with_reducible repeat (first | refine blk_drewN ?_ _ | refine blk_drew ?_ | refine blk_alloc ?_ _)); refine blk_put (cs := #[.int .i64 0, .int .i64 0]) ?_ 0 _ rfl; (with_reducible repeat (first | refine blk_drewN ?_ _ | refine blk_drew ?_ | refine blk_alloc ?_ _)); exact BK228.out⟩, ⟨bs_ HB.out GE228.out⟩⟩
      case round =>
       clear H'; (try clear c1); (try clear c2); (try clear p2); (try clear q2); (try clear hx2); (try clear c4); (try clear c4b0); (try clear c4b1); (try clear c5); (try clear c6); (try clear c6b0); (try clear c7); (try clear c7b0); (try clear c8); (try clear c8b0); (try clear hcz11_0); (try clear hcz11_1); (try clear hfz11_0); (try clear hfz11_1); (try clear hx227_0); (try clear hx227_1); (try clear p2); (try clear p227); (try clear q227); obtain ⟨x229000_2, HA, HK2, HO_7, BK228, HB⟩ := hrel
       cases gk with
       | zero => exact absurd HA.out (by simp [Z5.l1])
       | succ k2 =>
        have H := HA.out
        clear HA
        simp only [Z5.l1] at H
        by_cases c12 : x229000_2 > 0
        ·rw [if_pos c12] at H
         have c12b0 : decide (0 < x229000_2) = true := decide_eq_true c12
         clear c12
         (first | rw [c12b0] | (simp only [i64_w, i32_w]; rw [c12b0]) | skip)
         obtain ⟨ji13, hji13⟩ : ∃ j_ : Int, (wrap64 (x229000_2 - 1)) = j_ := ⟨_, rfl⟩
         replace H : (if 0 ≤ (ji13) then (if (ji13) < (a0.size : Int) then ((Z25.f (bt a0 (ji13))).bind fun t229 => (if t229 = true then (if 0 ≤ x229000_2 then (if x229000_2 < (a0.size : Int) then ((Z25.f (bt a0 x229000_2)).bind fun t230 => (if t230 = true then (Z5.l1 k2 a0 x7_1 l1 (l1.length : Int) x18_1 ji13 ((rd_T46 l1 x18_1).f1)) else ((Z34.f a0 x229000_2).bind fun t231 => (if t231 = true then (Z5.l1 k2 a0 x7_1 l1 (l1.length : Int) x18_1 ji13 ((rd_T46 l1 x18_1).f1)) else (Z5.j2 k2 a0 x7_1 l1 (l1.length : Int) x18_1 x229000_2 ((rd_T46 l1 x18_1).f1)))))) else (none)) else (none)) else ((Z34.f a0 x229000_2).bind fun t232 => (if t232 = true then (Z5.l1 k2 a0 x7_1 l1 (l1.length : Int) x18_1 ji13 ((rd_T46 l1 x18_1).f1)) else (Z5.j2 k2 a0 x7_1 l1 (l1.length : Int) x18_1 x229000_2 ((rd_T46 l1 x18_1).f1)))))) else (none)) else (none)) = some (r1, r2) := by first | (rw [hji13] at H; exact H) | (simp only [hji13] at H ⊢; exact H)
         have hji13w : (IntKind.i64.wrap (x229000_2 - 1)) = ji13 := (i64_w _).trans hji13
         by_cases c14 : 0 ≤ (ji13)
         case neg => exact (nn_ c14 H).elim
         rw [if_pos c14] at H; have c14b0 := decide_eq_true c14; clear c14
         by_cases c15 : (ji13) < (a0.size : Int)
         case neg => exact (nn_ c15 H).elim
         rw [if_pos c15] at H; have c15b0 := decide_eq_true c15; clear c15; replace H := Option.bind_eq_some_iff.mp H; obtain ⟨t229, A170, H⟩ := H; have A17 := am_ A170; clear A170
         by_cases c18 : t229 = true
         ·subst c18
          have H1 : (if 0 ≤ x229000_2 then (if x229000_2 < (a0.size : Int) then ((Z25.f (bt a0 x229000_2)).bind fun t230 => (if t230 = true then (Z5.l1 k2 a0 x7_1 l1 (l1.length : Int) x18_1 ji13 ((rd_T46 l1 x18_1).f1)) else ((Z34.f a0 x229000_2).bind fun t231 => (if t231 = true then (Z5.l1 k2 a0 x7_1 l1 (l1.length : Int) x18_1 ji13 ((rd_T46 l1 x18_1).f1)) else (Z5.j2 k2 a0 x7_1 l1 (l1.length : Int) x18_1 x229000_2 ((rd_T46 l1 x18_1).f1)))))) else (none)) else (none)) = some (r1, r2) := by rw [if_pos rfl] at H; exact H
          clear H
          have H := H1
          clear H1
          by_cases c19 : 0 ≤ x229000_2
          case neg => exact (nn_ c19 H).elim
          rw [if_pos c19] at H; have c19b0 := decide_eq_true c19; clear c19
          by_cases c20 : x229000_2 < (a0.size : Int)
          case neg => exact (nn_ c20 H).elim
          rw [if_pos c20] at H; have c20b0 := decide_eq_true c20; clear c20; replace H := Option.bind_eq_some_iff.mp H; obtain ⟨t230, A220, H⟩ := H; have A22 := am_ A220; clear A220
          by_cases c23 : t230 = true
          ·subst c23
           have H1 : (Z5.l1 k2 a0 x7_1 l1 (l1.length : Int) x18_1 ji13 ((rd_T46 l1 x18_1).f1)) = some (r1, r2) := by rw [if_pos rfl] at H; exact H
           clear H
           have H := H1
           clear H1
           have H' := am_ H
           clear H
           have hcz24_0 : wr.cell? ⟨gb228, 0, none⟩ = some (.int .i64 x229000_2) := (blk_cell BK228.out 0).trans rfl
           have hcz24_1 : wr.cell? ⟨gb228, 1, none⟩ = some (.int .i64 ((rd_T46 l1 x18_1).f1)) := (blk_cell BK228.out 1).trans rfl
           have hfz24_0 := blk_frozen BK228.out 0
           have hfz24_1 := blk_frozen BK228.out 1
           have p16 : 0 ≤ ((ji13) : Int) := ode_; have q16 : (ji13) < (a0.size : Int) := ode_
           have hx16 := bt_at a0 (ji13)
           replace p16 := eq_true p16; replace q16 := eq_true q16
           go_wp2_with (first | (go_at_call 60; (with_reducible refine (Z25.calls (bt a0 (ji13)) true _ A17.out).mono ?_); rintro e w' ⟨rfl, ⟨nd, rfl⟩⟩; (try (rw [drewN_self wr]; generalize hq_ : World.drewN wr _ = wr; have n0_ : Aside0 (Kd.R k46 46 wr w.heap.size (fun k_ => k_ ≠ gb228) u7 x7_1) := ⟨by rw [← hq_]; exact (rr_ HO_7.out)⟩; have n1_ : Aside0 (wr.heap[gb228]? = some (.cells #[.int .i64 x229000_2, .int .i64 ((rd_T46 l1 x18_1).f1)] 46 (0, 0))) := ⟨by rw [← hq_]; exact (bk_ BK228.out)⟩; have n2_ : Aside0 (Below w.heap.size w wr) := ⟨by rw [← hq_]; exact (bs_ HB.out GE228.out)⟩; clear HO_7 BK228 HB hq_; have HO_7 := n0_; have BK228 := n1_; have HB := n2_; clear n0_ n1_ n2_; clear hcz24_0 hcz24_1 hfz24_0 hfz24_1; have hcz24_0 : wr.cell? ⟨gb228, 0, none⟩ = some (.int .i64 x229000_2) := (blk_cell BK228.out 0).trans rfl; have hcz24_1 : wr.cell? ⟨gb228, 1, none⟩ = some (.int .i64 ((rd_T46 l1 x18_1).f1)) := (blk_cell BK228.out 1).trans rfl; have hfz24_0 := blk_frozen BK228.out 0; have hfz24_1 := blk_frozen BK228.out 1)); have p21 : 0 ≤ (x229000_2 : Int) := ode_; have q21 : x229000_2 < (a0.size : Int) := ode_; have hx21 := bt_at a0 x229000_2; replace p21 := eq_true p21; replace q21 := eq_true q21) | (go_at_call 60; (with_reducible refine (Z25.calls (bt a0 x229000_2) true _ A22.out).mono ?_); rintro e w' ⟨rfl, ⟨nd, rfl⟩⟩; (try (rw [drewN_self wr]; generalize hq_ : World.drewN wr _ = wr; have n0_ : Aside0 (Kd.R k46 46 wr w.heap.size (fun k_ => k_ ≠ gb228) u7 x7_1) := ⟨by rw [← hq_]; exact (rr_ HO_7.out)⟩; have n1_ : Aside0 (wr.heap[gb228]? = some (.cells #[.int .i64 x229000_2, .int .i64 ((rd_T46 l1 x18_1).f1)] 46 (0, 0))) := ⟨by rw [← hq_]; exact (bk_ BK228.out)⟩; have n2_ : Aside0 (Below w.heap.size w wr) := ⟨by rw [← hq_]; exact (bs_ HB.out GE228.out)⟩; clear HO_7 BK228 HB hq_; have HO_7 := n0_; have BK228 := n1_; have HB := n2_; clear n0_ n1_ n2_; clear hcz24_0 hcz24_1 hfz24_0 hfz24_1; have hcz24_0 : wr.cell? ⟨gb228, 0, none⟩ = some (.int .i64 x229000_2) := (blk_cell BK228.out 0).trans rfl; have hcz24_1 : wr.cell? ⟨gb228, 1, none⟩ = some (.int .i64 ((rd_T46 l1 x18_1).f1)) := (blk_cell BK228.out 1).trans rfl; have hfz24_0 := blk_frozen BK228.out 0; have hfz24_1 := blk_frozen BK228.out 1))))
           go_roundg k2
           case measure => have := HK1.out; have := HK2.out; omega
           case rel => exact ⟨(ji13), H', ⟨by have := HK1.out; have := HK2.out; omega⟩, ⟨by (with_reducible repeat (first | apply r1_ | apply r2_ | apply r3_)); exact Kd.R_mono (Kd.R_far (p := ⟨gb228, 0, none⟩) (Kd.R_mono HO_7.out (fun k_ hk => (⟨hk, hk⟩ : _ ∧ k_ ≠ gb228))) (fun _ hk => hk.2) (.int .i64 ji13)) (fun _ hk => hk.1)⟩, ⟨by (with_reducible repeat (first | refine blk_drewN ?_ _ | refine blk_drew ?_ | refine blk_alloc ?_ _)); refine blk_put (cs := #[.int .i64 x229000_2, .int .i64 ((rd_T46 l1 x18_1).f1)]) ?_ 0 _ rfl; (with_reducible repeat (first | refine blk_drewN ?_ _ | refine blk_drew ?_ | refine blk_alloc ?_ _)); exact BK228.out⟩, ⟨bs_ HB.out GE228.out⟩⟩
          ·replace c23 := Bool.eq_false_iff.mpr c23
           subst c23
           have H1 : ((Z34.f a0 x229000_2).bind fun t231 => (if t231 = true then (Z5.l1 k2 a0 x7_1 l1 (l1.length : Int) x18_1 ji13 ((rd_T46 l1 x18_1).f1)) else (Z5.j2 k2 a0 x7_1 l1 (l1.length : Int) x18_1 x229000_2 ((rd_T46 l1 x18_1).f1)))) = some (r1, r2) := by rw [if_neg (show ¬ (false = true) by decide)] at H; exact H
           clear H
           have H := H1
           clear H1; replace H := Option.bind_eq_some_iff.mp H; obtain ⟨t231, A250, H⟩ := H; have A25 := am_ A250; clear A250
           by_cases c26 : t231 = true
           ·subst c26
            have H1 : (Z5.l1 k2 a0 x7_1 l1 (l1.length : Int) x18_1 ji13 ((rd_T46 l1 x18_1).f1)) = some (r1, r2) := by rw [if_pos rfl] at H; exact H
            clear H
            have H := H1
            clear H1
            have H' := am_ H
            clear H
            have hcz27_0 : wr.cell? ⟨gb228, 0, none⟩ = some (.int .i64 x229000_2) := (blk_cell BK228.out 0).trans rfl
            have hcz27_1 : wr.cell? ⟨gb228, 1, none⟩ = some (.int .i64 ((rd_T46 l1 x18_1).f1)) := (blk_cell BK228.out 1).trans rfl
            have hfz27_0 := blk_frozen BK228.out 0
            have hfz27_1 := blk_frozen BK228.out 1
            have p16 : 0 ≤ ((ji13) : Int) := ode_; have q16 : (ji13) < (a0.size : Int) := ode_
            have hx16 := bt_at a0 (ji13)
            replace p16 := eq_true p16; replace q16 := eq_true q16
            go_wp2_with (first | (go_at_call 60; (with_reducible refine (Z25.calls (bt a0 (ji13)) true _ A17.out).mono ?_); rintro e w' ⟨rfl, ⟨nd, rfl⟩⟩; (try (rw [drewN_self wr]; generalize hq_ : World.drewN wr _ = wr; have n0_ : Aside0 (Kd.R k46 46 wr w.heap.size (fun k_ => k_ ≠ gb228) u7 x7_1) := ⟨by rw [← hq_]; exact (rr_ HO_7.out)⟩; have n1_ : Aside0 (wr.heap[gb228]? = some (.cells #[.int .i64 x229000_2, .int .i64 ((rd_T46 l1 x18_1).f1)] 46 (0, 0))) := ⟨by rw [← hq_]; exact (bk_ BK228.out)⟩; have n2_ : Aside0 (Below w.heap.size w wr) := ⟨by rw [← hq_]; exact (bs_ HB.out GE228.out)⟩; clear HO_7 BK228 HB hq_; have HO_7 := n0_; have BK228 := n1_; have HB := n2_; clear n0_ n1_ n2_; clear hcz27_0 hcz27_1 hfz27_0 hfz27_1; have hcz27_0 : wr.cell? ⟨gb228, 0, none⟩ = some (.int .i64 x229000_2) := (blk_cell BK228.out 0).trans rfl; have hcz27_1 : wr.cell? ⟨gb228, 1, none⟩ = some (.int .i64 ((rd_T46 l1 x18_1).f1)) := (blk_cell BK228.out 1).trans rfl; have hfz27_0 := blk_frozen BK228.out 0; have hfz27_1 := blk_frozen BK228.out 1)); have p21 : 0 ≤ (x229000_2 : Int) := ode_; have q21 : x229000_2 < (a0.size : Int) := ode_; have hx21 := bt_at a0 x229000_2; replace p21 := eq_true p21; replace q21 := eq_true q21) | (go_at_call 60; (with_reducible refine (Z25.calls (bt a0 x229000_2) false _ A22.out).mono ?_); rintro e w' ⟨rfl, ⟨nd, rfl⟩⟩; (try (rw [drewN_self wr]; generalize hq_ : World.drewN wr _ = wr; have n0_ : Aside0 (Kd.R k46 46 wr w.heap.size (fun k_ => k_ ≠ gb228) u7 x7_1) := ⟨by rw [← hq_]; exact (rr_ HO_7.out)⟩; have n1_ : Aside0 (wr.heap[gb228]? = some (.cells #[.int .i64 x229000_2, .int .i64 ((rd_T46 l1 x18_1).f1)] 46 (0, 0))) := ⟨by rw [← hq_]; exact (bk_ BK228.out)⟩; have n2_ : Aside0 (Below w.heap.size w wr) := ⟨by rw [← hq_]; exact (bs_ HB.out GE228.out)⟩; clear HO_7 BK228 HB hq_; have HO_7 := n0_; have BK228 := n1_; have HB := n2_; clear n0_ n1_ n2_; clear hcz27_0 hcz27_1 hfz27_0 hfz27_1; have hcz27_0 : wr.cell? ⟨gb228, 0, none⟩ = some (.int .i64 x229000_2) := (blk_cell BK228.out 0).trans rfl; have hcz27_1 : wr.cell? ⟨gb228, 1, none⟩ = some (.int .i64 ((rd_T46 l1 x18_1).f1)) := (blk_cell BK228.out 1).trans rfl; have hfz27_0 := blk_frozen BK228.out 0; have hfz27_1 := blk_frozen BK228.out 1))) | (go_at_call 61; (with_reducible refine (Z34.calls a0 x229000_2 true _ A25.out).mono ?_); rintro e w' ⟨rfl, ⟨nd, rfl⟩⟩; (try (rw [drewN_self wr]; generalize hq_ : World.drewN wr _ = wr; have n0_ : Aside0 (Kd.R k46 46 wr w.heap.size (fun k_ => k_ ≠ gb228) u7 x7_1) := ⟨by rw [← hq_]; exact (rr_ HO_7.out)⟩; have n1_ : Aside0 (wr.heap[gb228]? = some (.cells #[.int .i64 x229000_2, .int .i64 ((rd_T46 l1 x18_1).f1)] 46 (0, 0))) := ⟨by rw [← hq_]; exact (bk_ BK228.out)⟩; have n2_ : Aside0 (Below w.heap.size w wr) := ⟨by rw [← hq_]; exact (bs_ HB.out GE228.out)⟩; clear HO_7 BK228 HB hq_; have HO_7 := n0_; have BK228 := n1_; have HB := n2_; clear n0_ n1_ n2_; clear hcz27_0 hcz27_1 hfz27_0 hfz27_1; have hcz27_0 : wr.cell? ⟨gb228, 0, none⟩ = some (.int .i64 x229000_2) := (blk_cell BK228.out 0).trans rfl; have hcz27_1 : wr.cell? ⟨gb228, 1, none⟩ = some (.int .i64 ((rd_T46 l1 x18_1).f1)) := (blk_cell BK228.out 1).trans rfl; have hfz27_0 := blk_frozen BK228.out 0; have hfz27_1 := blk_frozen BK228.out 1))))
            go_roundg k2
            case measure => have := HK1.out; have := HK2.out; omega
            case rel => exact ⟨(ji13), H', ⟨by have := HK1.out; have := HK2.out; omega⟩, ⟨by (with_reducible repeat (first | apply r1_ | apply r2_ | apply r3_)); exact Kd.R_mono (Kd.R_far (p := ⟨gb228, 0, none⟩) (Kd.R_mono HO_7.out (fun k_ hk => (⟨hk, hk⟩ : _ ∧ k_ ≠ gb228))) (fun _ hk => hk.2) (.int .i64 ji13)) (fun _ hk => hk.1)⟩, ⟨by (with_reducible repeat (first | refine blk_drewN ?_ _ | refine blk_drew ?_ | refine blk_alloc ?_ _)); refine blk_put (cs := #[.int .i64 x229000_2, .int .i64 ((rd_T46 l1 x18_1).f1)]) ?_ 0 _ rfl; (with_reducible repeat (first | refine blk_drewN ?_ _ | refine blk_drew ?_ | refine blk_alloc ?_ _)); exact BK228.out⟩, ⟨bs_ HB.out GE228.out⟩⟩
           ·replace c26 := Bool.eq_false_iff.mpr c26
            subst c26
            have H1 : (Z5.j2 k2 a0 x7_1 l1 (l1.length : Int) x18_1 x229000_2 ((rd_T46 l1 x18_1).f1)) = some (r1, r2) := by rw [if_neg (show ¬ (false = true) by decide)] at H; exact H
            clear H
            have H := H1
            clear H1
            have H' := am_ H
            clear H
            have hcz28_0 : wr.cell? ⟨gb228, 0, none⟩ = some (.int .i64 x229000_2) := (blk_cell BK228.out 0).trans rfl
            have hcz28_1 : wr.cell? ⟨gb228, 1, none⟩ = some (.int .i64 ((rd_T46 l1 x18_1).f1)) := (blk_cell BK228.out 1).trans rfl
            have hfz28_0 := blk_frozen BK228.out 0
            have hfz28_1 := blk_frozen BK228.out 1
            have p16 : 0 ≤ ((ji13) : Int) := ode_; have q16 : (ji13) < (a0.size : Int) := ode_
            have hx16 := bt_at a0 (ji13)
            replace p16 := eq_true p16; replace q16 := eq_true q16
            go_wp2_with (first | (go_at_call 60; (with_reducible refine (Z25.calls (bt a0 (ji13)) true _ A17.out).mono ?_); rintro e w' ⟨rfl, ⟨nd, rfl⟩⟩; have p21 : 0 ≤ (x229000_2 : Int) := ode_; have q21 : x229000_2 < (a0.size : Int) := ode_; have hx21 := bt_at a0 x229000_2; replace p21 := eq_true p21; replace q21 := eq_true q21) | (go_at_call 60; (with_reducible refine (Z25.calls (bt a0 x229000_2) false _ A22.out).mono ?_); rintro e w' ⟨rfl, ⟨nd, rfl⟩⟩) | (go_at_call 61; (with_reducible refine (Z34.calls a0 x229000_2 false _ A25.out).mono ?_); rintro e w' ⟨rfl, ⟨nd, rfl⟩⟩))
            go_meet
            case rel => exact ⟨_, (x229000_2), H', ⟨by have := HK1.out; have := HK2.out; first | omega | exact Nat.le_refl _⟩, ⟨rr_ HO_7.out⟩, ⟨bk_ BK228.out⟩, ⟨bs_ HB.out GE228.out⟩⟩
         ·replace c18 := Bool.eq_false_iff.mpr c18
          subst c18
          have H1 : ((Z34.f a0 x229000_2).bind fun t232 => (if t232 = true then (Z5.l1 k2 a0 x7_1 l1 (l1.length : Int) x18_1 ji13 ((rd_T46 l1 x18_1).f1)) else (Z5.j2 k2 a0 x7_1 l1 (l1.length : Int) x18_1 x229000_2 ((rd_T46 l1 x18_1).f1)))) = some (r1, r2) := by rw [if_neg (show ¬ (false = true) by decide)] at H; exact H
          clear H
          have H := H1
          clear H1; replace H := Option.bind_eq_some_iff.mp H; obtain ⟨t232, A290, H⟩ := H; have A29 := am_ A290; clear A290
          by_cases c30 : t232 = true
          ·subst c30
           have H1 : (Z5.l1 k2 a0 x7_1 l1 (l1.length : Int) x18_1 ji13 ((rd_T46 l1 x18_1).f1)) = some (r1, r2) := by rw [if_pos rfl] at H; exact H
           clear H
           have H := H1
           clear H1
           have H' := am_ H
           clear H
           have hcz31_0 : wr.cell? ⟨gb228, 0, none⟩ = some (.int .i64 x229000_2) := (blk_cell BK228.out 0).trans rfl
           have hcz31_1 : wr.cell? ⟨gb228, 1, none⟩ = some (.int .i64 ((rd_T46 l1 x18_1).f1)) := (blk_cell BK228.out 1).trans rfl
           have hfz31_0 := blk_frozen BK228.out 0
           have hfz31_1 := blk_frozen BK228.out 1
           have p16 : 0 ≤ ((ji13) : Int) := ode_; have q16 : (ji13) < (a0.size : Int) := ode_
           have hx16 := bt_at a0 (ji13)
           replace p16 := eq_true p16; replace q16 := eq_true q16
           go_wp2_with (first | (go_at_call 60; (with_reducible refine (Z25.calls (bt a0 (ji13)) false _ A17.out).mono ?_); rintro e w' ⟨rfl, ⟨nd, rfl⟩⟩; (try (rw [drewN_self wr]; generalize hq_ : World.drewN wr _ = wr; have n0_ : Aside0 (Kd.R k46 46 wr w.heap.size (fun k_ => k_ ≠ gb228) u7 x7_1) := ⟨by rw [← hq_]; exact (rr_ HO_7.out)⟩; have n1_ : Aside0 (wr.heap[gb228]? = some (.cells #[.int .i64 x229000_2, .int .i64 ((rd_T46 l1 x18_1).f1)] 46 (0, 0))) := ⟨by rw [← hq_]; exact (bk_ BK228.out)⟩; have n2_ : Aside0 (Below w.heap.size w wr) := ⟨by rw [← hq_]; exact (bs_ HB.out GE228.out)⟩; clear HO_7 BK228 HB hq_; have HO_7 := n0_; have BK228 := n1_; have HB := n2_; clear n0_ n1_ n2_; clear hcz31_0 hcz31_1 hfz31_0 hfz31_1; have hcz31_0 : wr.cell? ⟨gb228, 0, none⟩ = some (.int .i64 x229000_2) := (blk_cell BK228.out 0).trans rfl; have hcz31_1 : wr.cell? ⟨gb228, 1, none⟩ = some (.int .i64 ((rd_T46 l1 x18_1).f1)) := (blk_cell BK228.out 1).trans rfl; have hfz31_0 := blk_frozen BK228.out 0; have hfz31_1 := blk_frozen BK228.out 1))) | (go_at_call 61; (with_reducible refine (Z34.calls a0 x229000_2 true _ A29.out).mono ?_); rintro e w' ⟨rfl, ⟨nd, rfl⟩⟩; (try (rw [drewN_self wr]; generalize hq_ : World.drewN wr _ = wr; have n0_ : Aside0 (Kd.R k46 46 wr w.heap.size (fun k_ => k_ ≠ gb228) u7 x7_1) := ⟨by rw [← hq_]; exact (rr_ HO_7.out)⟩; have n1_ : Aside0 (wr.heap[gb228]? = some (.cells #[.int .i64 x229000_2, .int .i64 ((rd_T46 l1 x18_1).f1)] 46 (0, 0))) := ⟨by rw [← hq_]; exact (bk_ BK228.out)⟩; have n2_ : Aside0 (Below w.heap.size w wr) := ⟨by rw [← hq_]; exact (bs_ HB.out GE228.out)⟩; clear HO_7 BK228 HB hq_; have HO_7 := n0_; have BK228 := n1_; have HB := n2_; clear n0_ n1_ n2_; clear hcz31_0 hcz31_1 hfz31_0 hfz31_1; have hcz31_0 : wr.cell? ⟨gb228, 0, none⟩ = some (.int .i64 x229000_2) := (blk_cell BK228.out 0).trans rfl; have hcz31_1 : wr.cell? ⟨gb228, 1, none⟩ = some (.int .i64 ((rd_T46 l1 x18_1).f1)) := (blk_cell BK228.out 1).trans rfl; have hfz31_0 := blk_frozen BK228.out 0; have hfz31_1 := blk_frozen BK228.out 1))))
           go_roundg k2
           case measure => have := HK1.out; have := HK2.out; omega
           case rel => exact ⟨(ji13), H', ⟨by have := HK1.out; have := HK2.out; omega⟩, ⟨by (with_reducible repeat (first | apply r1_ | apply r2_ | apply r3_)); exact Kd.R_mono (Kd.R_far (p := ⟨gb228, 0, none⟩) (Kd.R_mono HO_7.out (fun k_ hk => (⟨hk, hk⟩ : _ ∧ k_ ≠ gb228))) (fun _ hk => hk.2) (.int .i64 ji13)) (fun _ hk => hk.1)⟩, ⟨by (with_reducible repeat (first | refine blk_drewN ?_ _ | refine blk_drew ?_ | refine blk_alloc ?_ _)); refine blk_put (cs := #[.int .i64 x229000_2, .int .i64 ((rd_T46 l1 x18_1).f1)]) ?_ 0 _ rfl; (with_reducible repeat (first | refine blk_drewN ?_ _ | refine blk_drew ?_ | refine blk_alloc ?_ _)); exact BK228.out⟩, ⟨bs_ HB.out GE228.out⟩⟩
          ·replace c30 := Bool.eq_false_iff.mpr c30
           subst c30
           have H1 : (Z5.j2 k2 a0 x7_1 l1 (l1.length : Int) x18_1 x229000_2 ((rd_T46 l1 x18_1).f1)) = some (r1, r2) := by rw [if_neg (show ¬ (false = true) by decide)] at H; exact H
           clear H
           have H := H1
           clear H1
           have H' := am_ H
           clear H
           have hcz32_0 : wr.cell? ⟨gb228, 0, none⟩ = some (.int .i64 x229000_2) := (blk_cell BK228.out 0).trans rfl
           have hcz32_1 : wr.cell? ⟨gb228, 1, none⟩ = some (.int .i64 ((rd_T46 l1 x18_1).f1)) := (blk_cell BK228.out 1).trans rfl
           have hfz32_0 := blk_frozen BK228.out 0
           have hfz32_1 := blk_frozen BK228.out 1
           have p16 : 0 ≤ ((ji13) : Int) := ode_; have q16 : (ji13) < (a0.size : Int) := ode_
           have hx16 := bt_at a0 (ji13)
           replace p16 := eq_true p16; replace q16 := eq_true q16
           go_wp2_with (first | (go_at_call 60; (with_reducible refine (Z25.calls (bt a0 (ji13)) false _ A17.out).mono ?_); rintro e w' ⟨rfl, ⟨nd, rfl⟩⟩) | (go_at_call 61; (with_reducible refine (Z34.calls a0 x229000_2 false _ A29.out).mono ?_); rintro e w' ⟨rfl, ⟨nd, rfl⟩⟩))
           go_meet
           case rel => exact ⟨_, (x229000_2), H', ⟨by have := HK1.out; have := HK2.out; first | omega | exact Nat.le_refl _⟩, ⟨rr_ HO_7.out⟩, ⟨bk_ BK228.out⟩, ⟨bs_ HB.out GE228.out⟩⟩
        ·rw [if_neg c12] at H
         have c12b0 : decide (0 < x229000_2) = false := decide_eq_false c12
         clear c12
         (first | rw [c12b0] | (simp only [i64_w, i32_w]; rw [c12b0]) | skip)
         have H' := am_ H
         clear H
         have hcz33_0 : wr.cell? ⟨gb228, 0, none⟩ = some (.int .i64 x229000_2) := (blk_cell BK228.out 0).trans rfl
         have hcz33_1 : wr.cell? ⟨gb228, 1, none⟩ = some (.int .i64 ((rd_T46 l1 x18_1).f1)) := (blk_cell BK228.out 1).trans rfl
         have hfz33_0 := blk_frozen BK228.out 0
         have hfz33_1 := blk_frozen BK228.out 1
         go_wp2
         go_meet
         case rel => exact ⟨_, (x229000_2), H', ⟨by have := HK1.out; have := HK2.out; first | omega | exact Nat.le_refl _⟩, ⟨rr_ HO_7.out⟩, ⟨bk_ BK228.out⟩, ⟨bs_ HB.out GE228.out⟩⟩
     case rest =>
      clear HC9; (try clear c1); (try clear p1); (try clear q1); (try clear hx1); (try clear c2); (try clear p2); (try clear q2); (try clear hx2); (try clear c3); (try clear c4); (try clear c4b0); (try clear c4b1); (try clear c5); (try clear c6); (try clear c6b0); (try clear p6); (try clear c7); (try clear c7b0); (try clear c8); (try clear c8b0); (try clear c12); (try clear c12b0); (try clear c14); (try clear c14b0); (try clear c15); (try clear c15b0); (try clear p16); (try clear q16); (try clear hx16); (try clear c18); (try clear c19); (try clear c19b0); (try clear c20); (try clear c20b0); (try clear p21); (try clear q21); (try clear hx21); (try clear p22); (try clear q22); (try clear hx22); (try clear c23); (try clear c25); (try clear c26); (try clear c30); (try clear hcz11_0); (try clear hcz11_1); (try clear hcz24_0); (try clear hcz24_1); (try clear hcz27_0); (try clear hcz27_1); (try clear hcz28_0); (try clear hcz28_1); (try clear hcz31_0); (try clear hcz31_1); (try clear hcz32_0); (try clear hcz32_1); (try clear hcz33_0); (try clear hcz33_1); (try clear hfz11_0); (try clear hfz11_1); (try clear hfz24_0); (try clear hfz24_1); (try clear hfz27_0); (try clear hfz27_1); (try clear hfz28_0); (try clear hfz28_1); (try clear hfz31_0); (try clear hfz31_1); (try clear hfz32_0); (try clear hfz32_1); (try clear hfz33_0); (try clear hfz33_1); (try clear hx227_0); (try clear hx227_1); (try clear p16); (try clear p2); (try clear p21); (try clear p227); (try clear q16); (try clear q2); (try clear q21); (try clear q227); obtain ⟨kq, x229000_8, HA, HJ8, HO_7, BK228, HB⟩ := hcut
      cases kq with
      | zero => exact absurd HA.out (by simp [Z5.j2])
      | succ kj8 =>
       have H := HA.out
       clear HA
       simp only [Z5.j2] at H
       have H' := am_ H
       clear H
       go_wp2
       go_loopg [] kj8 (fun kq w' => ∃ (x229001_3 : Int), Aside0 (Z5.l2 kq a0 x7_1 l1 (l1.length : Int) x18_1 x229000_8 x229001_3 = some (r1, r2)) ∧ Aside0 (kq ≤ kj8) ∧ Aside0 (Kd.R k46 46 w' w.heap.size (fun k_ => k_ ≠ gb228) u7 x7_1) ∧ Aside0 (w'.heap[gb228]? = some (.cells #[.int .i64 x229000_8, .int .i64 x229001_3] 46 (0, 0))) ∧ Aside0 (Below w.heap.size w w'))
       case atStart => exact ⟨(((rd_T46 l1 x18_1).f1)), H', ⟨Nat.le_refl _⟩, ⟨rr_ HO_7.out⟩, ⟨bk_ BK228.out⟩, ⟨bs_ HB.out GE228.out⟩⟩
       case round =>
        clear H'; (try clear c1); (try clear p1); (try clear q1); (try clear hx1); (try clear c2); (try clear p2); (try clear q2); (try clear hx2); (try clear c3); (try clear c4); (try clear c4b0); (try clear c4b1); (try clear c5); (try clear c6); (try clear c6b0); (try clear p6); (try clear c7); (try clear c7b0); (try clear c8); (try clear c8b0); (try clear c12); (try clear c12b0); (try clear c14); (try clear c14b0); (try clear c15); (try clear c15b0); (try clear p16); (try clear q16); (try clear hx16); (try clear c18); (try clear c19); (try clear c19b0); (try clear c20); (try clear c20b0); (try clear p21); (try clear q21); (try clear hx21); (try clear p22); (try clear q22); (try clear hx22); (try clear c23); (try clear c25); (try clear c26); (try clear c30); (try clear hcz11_0); (try clear hcz11_1); (try clear hcz24_0); (try clear hcz24_1); (try clear hcz27_0); (try clear hcz27_1); (try clear hcz28_0); (try clear hcz28_1); (try clear hcz31_0); (try clear hcz31_1); (try clear hcz32_0); (try clear hcz32_1); (try clear hcz33_0); (try clear hcz33_1); (try clear hfz11_0); (try clear hfz11_1); (try clear hfz24_0); (try clear hfz24_1); (try clear hfz27_0); (try clear hfz27_1); (try clear hfz28_0); (try clear hfz28_1); (try clear hfz31_0); (try clear hfz31_1); (try clear hfz32_0); (try clear hfz32_1); (try clear hfz33_0); (try clear hfz33_1); (try clear hx227_0); (try clear hx227_1); (try clear p1); (try clear p16); (try clear p2); (try clear p21); (try clear p22); (try clear p227); (try clear p6); (try clear q1); (try clear q16); (try clear q2); (try clear q21); (try clear q22); (try clear q227); obtain ⟨x229001_3, HA, HK3, HO_7, BK228, HB⟩ := hrel
        cases gk with
        | zero => exact absurd HA.out (by simp [Z5.l2])
        | succ k3 =>
         have H := HA.out
         clear HA
         simp only [Z5.l2] at H
         by_cases c34 : x229001_3 < (a0.size : Int)
         ·rw [if_pos c34] at H
          have c34b0 := decide_eq_true c34; clear c34
          by_cases c35 : 0 ≤ x229001_3
          case neg => exact (nn_ c35 H).elim
          rw [if_pos c35] at H; have c35b0 := decide_eq_true c35; clear c35; replace H := Option.bind_eq_some_iff.mp H; obtain ⟨t233, A370, H⟩ := H; have A37 := am_ A370; clear A370
          by_cases c38 : t233 = true
          ·subst c38
           have H1 : (if 0 ≤ (wrap64 (x229001_3 - 1)) then (if (wrap64 (x229001_3 - 1)) < (a0.size : Int) then ((Z25.f (bt a0 (wrap64 (x229001_3 - 1)))).bind fun t234 => (if t234 = true then (Z5.l2 k3 a0 x7_1 l1 (l1.length : Int) x18_1 x229000_8 (wrap64 (x229001_3 + 1))) else ((Z34.f a0 x229001_3).bind fun t235 => (if t235 = true then (Z5.l2 k3 a0 x7_1 l1 (l1.length : Int) x18_1 x229000_8 (wrap64 (x229001_3 + 1))) else (if x7_1.length < 8796093022208 then (Z5.l0 k3 a0 (x7_1 ++ [(⟨x229000_8, x229001_3⟩ : S46)]) l1 (l1.length : Int) (wrap64 (x18_1 + 1))) else (none)))))) else (none)) else (none)) = some (r1, r2) := by rw [if_pos rfl] at H; exact H
           clear H
           have H := H1
           clear H1
           obtain ⟨ji39, hji39⟩ : ∃ j_ : Int, (wrap64 (x229001_3 - 1)) = j_ := ⟨_, rfl⟩
           replace H : (if 0 ≤ (ji39) then (if (ji39) < (a0.size : Int) then ((Z25.f (bt a0 (ji39))).bind fun t234 => (if t234 = true then (Z5.l2 k3 a0 x7_1 l1 (l1.length : Int) x18_1 x229000_8 (wrap64 (x229001_3 + 1))) else ((Z34.f a0 x229001_3).bind fun t235 => (if t235 = true then (Z5.l2 k3 a0 x7_1 l1 (l1.length : Int) x18_1 x229000_8 (wrap64 (x229001_3 + 1))) else (if x7_1.length < 8796093022208 then (Z5.l0 k3 a0 (x7_1 ++ [(⟨x229000_8, x229001_3⟩ : S46)]) l1 (l1.length : Int) (wrap64 (x18_1 + 1))) else (none)))))) else (none)) else (none)) = some (r1, r2) := by first | (rw [hji39] at H; exact H) | (simp only [hji39] at H ⊢; exact H)
           (try rw [hji39] at A37)
           have hji39w : (IntKind.i64.wrap (x229001_3 - 1)) = ji39 := (i64_w _).trans hji39
           by_cases c40 : 0 ≤ (ji39)
           case neg => exact (nn_ c40 H).elim
           rw [if_pos c40] at H; have c40b0 := decide_eq_true c40; clear c40
           by_cases c41 : (ji39) < (a0.size : Int)
           case neg => exact (nn_ c41 H).elim
           rw [if_pos c41] at H; have c41b0 := decide_eq_true c41; clear c41; replace H := Option.bind_eq_some_iff.mp H; obtain ⟨t234, A430, H⟩ := H; have A43 := am_ A430; clear A430
           by_cases c44 : t234 = true
           ·subst c44
            have H1 : (Z5.l2 k3 a0 x7_1 l1 (l1.length : Int) x18_1 x229000_8 (wrap64 (x229001_3 + 1))) = some (r1, r2) := by rw [if_pos rfl] at H; exact H
            clear H
            have H := H1
            clear H1
            have H' := am_ H
            clear H
            have hcz45_0 : wr.cell? ⟨gb228, 0, none⟩ = some (.int .i64 x229000_8) := (blk_cell BK228.out 0).trans rfl
            have hcz45_1 : wr.cell? ⟨gb228, 1, none⟩ = some (.int .i64 x229001_3) := (blk_cell BK228.out 1).trans rfl
            have hfz45_0 := blk_frozen BK228.out 0
            have hfz45_1 := blk_frozen BK228.out 1
            have p36 : 0 ≤ (x229001_3 : Int) := ode_; have q36 : x229001_3 < (a0.size : Int) := ode_
            have hx36 := bt_at a0 x229001_3
            replace p36 := eq_true p36; replace q36 := eq_true q36
            go_wp2_with (first | (go_at_call 60; (with_reducible refine (Z25.calls (bt a0 x229001_3) true _ A37.out).mono ?_); rintro e w' ⟨rfl, ⟨nd, rfl⟩⟩; (try (rw [drewN_self wr]; generalize hq_ : World.drewN wr _ = wr; have n0_ : Aside0 (Kd.R k46 46 wr w.heap.size (fun k_ => k_ ≠ gb228) u7 x7_1) := ⟨by rw [← hq_]; exact (rr_ HO_7.out)⟩; have n1_ : Aside0 (wr.heap[gb228]? = some (.cells #[.int .i64 x229000_8, .int .i64 x229001_3] 46 (0, 0))) := ⟨by rw [← hq_]; exact (bk_ BK228.out)⟩; have n2_ : Aside0 (Below w.heap.size w wr) := ⟨by rw [← hq_]; exact (bs_ HB.out GE228.out)⟩; clear HO_7 BK228 HB hq_; have HO_7 := n0_; have BK228 := n1_; have HB := n2_; clear n0_ n1_ n2_; clear hcz45_0 hcz45_1 hfz45_0 hfz45_1; have hcz45_0 : wr.cell? ⟨gb228, 0, none⟩ = some (.int .i64 x229000_8) := (blk_cell BK228.out 0).trans rfl; have hcz45_1 : wr.cell? ⟨gb228, 1, none⟩ = some (.int .i64 x229001_3) := (blk_cell BK228.out 1).trans rfl; have hfz45_0 := blk_frozen BK228.out 0; have hfz45_1 := blk_frozen BK228.out 1)); have p42 : 0 ≤ ((ji39) : Int) := ode_; have q42 : (ji39) < (a0.size : Int) := ode_; have hx42 := bt_at a0 (ji39); replace p42 := eq_true p42; replace q42 := eq_true q42) | (go_at_call 60; (with_reducible refine (Z25.calls (bt a0 (ji39)) true _ A43.out).mono ?_); rintro e w' ⟨rfl, ⟨nd, rfl⟩⟩; (try (rw [drewN_self wr]; generalize hq_ : World.drewN wr _ = wr; have n0_ : Aside0 (Kd.R k46 46 wr w.heap.size (fun k_ => k_ ≠ gb228) u7 x7_1) := ⟨by rw [← hq_]; exact (rr_ HO_7.out)⟩; have n1_ : Aside0 (wr.heap[gb228]? = some (.cells #[.int .i64 x229000_8, .int .i64 x229001_3] 46 (0, 0))) := ⟨by rw [← hq_]; exact (bk_ BK228.out)⟩; have n2_ : Aside0 (Below w.heap.size w wr) := ⟨by rw [← hq_]; exact (bs_ HB.out GE228.out)⟩; clear HO_7 BK228 HB hq_; have HO_7 := n0_; have BK228 := n1_; have HB := n2_; clear n0_ n1_ n2_; clear hcz45_0 hcz45_1 hfz45_0 hfz45_1; have hcz45_0 : wr.cell? ⟨gb228, 0, none⟩ = some (.int .i64 x229000_8) := (blk_cell BK228.out 0).trans rfl; have hcz45_1 : wr.cell? ⟨gb228, 1, none⟩ = some (.int .i64 x229001_3) := (blk_cell BK228.out 1).trans rfl; have hfz45_0 := blk_frozen BK228.out 0; have hfz45_1 := blk_frozen BK228.out 1))))
            go_roundg k3
            case measure => have := HK1.out; have := HJ8.out; have := HK3.out; omega
            case rel => exact ⟨(wrap64 (x229001_3 + 1)), H', ⟨by have := HK1.out; have := HJ8.out; have := HK3.out; omega⟩, ⟨by (with_reducible repeat (first | apply r1_ | apply r2_ | apply r3_)); exact Kd.R_mono (Kd.R_far (p := ⟨gb228, 1, none⟩) (Kd.R_mono HO_7.out (fun k_ hk => (⟨hk, hk⟩ : _ ∧ k_ ≠ gb228))) (fun _ hk => hk.2) (.int .i64 (wrap64 (x229001_3 + 1)))) (fun _ hk => hk.1)⟩, ⟨by (with_reducible repeat (first | refine blk_drewN ?_ _ | refine blk_drew ?_ | refine blk_alloc ?_ _)); refine blk_put (cs := #[.int .i64 x229000_8, .int .i64 x229001_3]) ?_ 1 _ rfl; (with_reducible repeat (first | refine blk_drewN ?_ _ | refine blk_drew ?_ | refine blk_alloc ?_ _)); exact BK228.out⟩, ⟨bs_ HB.out GE228.out⟩⟩
           ·replace c44 := Bool.eq_false_iff.mpr c44
            subst c44
            have H1 : ((Z34.f a0 x229001_3).bind fun t235 => (if t235 = true then (Z5.l2 k3 a0 x7_1 l1 (l1.length : Int) x18_1 x229000_8 (wrap64 (x229001_3 + 1))) else (if x7_1.length < 8796093022208 then (Z5.l0 k3 a0 (x7_1 ++ [(⟨x229000_8, x229001_3⟩ : S46)]) l1 (l1.length : Int) (wrap64 (x18_1 + 1))) else (none)))) = some (r1, r2) := by rw [if_neg (show ¬ (false = true) by decide)] at H; exact H
            clear H
            have H := H1
            clear H1; replace H := Option.bind_eq_some_iff.mp H; obtain ⟨t235, A460, H⟩ := H; have A46 := am_ A460; clear A460
            by_cases c47 : t235 = true
            ·subst c47
             have H1 : (Z5.l2 k3 a0 x7_1 l1 (l1.length : Int) x18_1 x229000_8 (wrap64 (x229001_3 + 1))) = some (r1, r2) := by rw [if_pos rfl] at H; exact H
             clear H
             have H := H1
             clear H1
             have H' := am_ H
             clear H
             have hcz48_0 : wr.cell? ⟨gb228, 0, none⟩ = some (.int .i64 x229000_8) := (blk_cell BK228.out 0).trans rfl
             have hcz48_1 : wr.cell? ⟨gb228, 1, none⟩ = some (.int .i64 x229001_3) := (blk_cell BK228.out 1).trans rfl
             have hfz48_0 := blk_frozen BK228.out 0
             have hfz48_1 := blk_frozen BK228.out 1
             have p36 : 0 ≤ (x229001_3 : Int) := ode_; have q36 : x229001_3 < (a0.size : Int) := ode_
             have hx36 := bt_at a0 x229001_3
             replace p36 := eq_true p36; replace q36 := eq_true q36
             go_wp2_with (first | (go_at_call 60; (with_reducible refine (Z25.calls (bt a0 x229001_3) true _ A37.out).mono ?_); rintro e w' ⟨rfl, ⟨nd, rfl⟩⟩; (try (rw [drewN_self wr]; generalize hq_ : World.drewN wr _ = wr; have n0_ : Aside0 (Kd.R k46 46 wr w.heap.size (fun k_ => k_ ≠ gb228) u7 x7_1) := ⟨by rw [← hq_]; exact (rr_ HO_7.out)⟩; have n1_ : Aside0 (wr.heap[gb228]? = some (.cells #[.int .i64 x229000_8, .int .i64 x229001_3] 46 (0, 0))) := ⟨by rw [← hq_]; exact (bk_ BK228.out)⟩; have n2_ : Aside0 (Below w.heap.size w wr) := ⟨by rw [← hq_]; exact (bs_ HB.out GE228.out)⟩; clear HO_7 BK228 HB hq_; have HO_7 := n0_; have BK228 := n1_; have HB := n2_; clear n0_ n1_ n2_; clear hcz48_0 hcz48_1 hfz48_0 hfz48_1; have hcz48_0 : wr.cell? ⟨gb228, 0, none⟩ = some (.int .i64 x229000_8) := (blk_cell BK228.out 0).trans rfl; have hcz48_1 : wr.cell? ⟨gb228, 1, none⟩ = some (.int .i64 x229001_3) := (blk_cell BK228.out 1).trans rfl; have hfz48_0 := blk_frozen BK228.out 0; have hfz48_1 := blk_frozen BK228.out 1)); have p42 : 0 ≤ ((ji39) : Int) := ode_; have q42 : (ji39) < (a0.size : Int) := ode_; have hx42 := bt_at a0 (ji39); replace p42 := eq_true p42; replace q42 := eq_true q42) | (go_at_call 60; (with_reducible refine (Z25.calls (bt a0 (ji39)) false _ A43.out).mono ?_); rintro e w' ⟨rfl, ⟨nd, rfl⟩⟩; (try (rw [drewN_self wr]; generalize hq_ : World.drewN wr _ = wr; have n0_ : Aside0 (Kd.R k46 46 wr w.heap.size (fun k_ => k_ ≠ gb228) u7 x7_1) := ⟨by rw [← hq_]; exact (rr_ HO_7.out)⟩; have n1_ : Aside0 (wr.heap[gb228]? = some (.cells #[.int .i64 x229000_8, .int .i64 x229001_3] 46 (0, 0))) := ⟨by rw [← hq_]; exact (bk_ BK228.out)⟩; have n2_ : Aside0 (Below w.heap.size w wr) := ⟨by rw [← hq_]; exact (bs_ HB.out GE228.out)⟩; clear HO_7 BK228 HB hq_; have HO_7 := n0_; have BK228 := n1_; have HB := n2_; clear n0_ n1_ n2_; clear hcz48_0 hcz48_1 hfz48_0 hfz48_1; have hcz48_0 : wr.cell? ⟨gb228, 0, none⟩ = some (.int .i64 x229000_8) := (blk_cell BK228.out 0).trans rfl; have hcz48_1 : wr.cell? ⟨gb228, 1, none⟩ = some (.int .i64 x229001_3) := (blk_cell BK228.out 1).trans rfl; have hfz48_0 := blk_frozen BK228.out 0; have hfz48_1 := blk_frozen BK228.out 1))) | (go_at_call 61; (with_reducible refine (Z34.calls a0 x229001_3 true _ A46.out).mono ?_); rintro e w' ⟨rfl, ⟨nd, rfl⟩⟩; (try (rw [drewN_self wr]; generalize hq_ : World.drewN wr _ = wr; have n0_ : Aside0 (Kd.R k46 46 wr w.heap.size (fun k_ => k_ ≠ gb228) u7 x7_1) := ⟨by rw [← hq_]; exact (rr_ HO_7.out)⟩; have n1_ : Aside0 (wr.heap[gb228]? = some (.cells #[.int .i64 x229000_8, .int .i64 x229001_3] 46 (0, 0))) := ⟨by rw [← hq_]; exact (bk_ BK228.out)⟩; have n2_ : Aside0 (Below w.heap.size w wr) := ⟨by rw [← hq_]; exact (bs_ HB.out GE228.out)⟩; clear HO_7 BK228 HB hq_; have HO_7 := n0_; have BK228 := n1_; have HB := n2_; clear n0_ n1_ n2_; clear hcz48_0 hcz48_1 hfz48_0 hfz48_1; have hcz48_0 : wr.cell? ⟨gb228, 0, none⟩ = some (.int .i64 x229000_8) := (blk_cell BK228.out 0).trans rfl; have hcz48_1 : wr.cell? ⟨gb228, 1, none⟩ = some (.int .i64 x229001_3) := (blk_cell BK228.out 1).trans rfl; have hfz48_0 := blk_frozen BK228.out 0; have hfz48_1 := blk_frozen BK228.out 1))))
             go_roundg k3
             case measure => have := HK1.out; have := HJ8.out; have := HK3.out; omega
             case rel => exact ⟨(wrap64 (x229001_3 + 1)), H', ⟨by have := HK1.out; have := HJ8.out; have := HK3.out; omega⟩, ⟨by (with_reducible repeat (first | apply r1_ | apply r2_ | apply r3_)); exact Kd.R_mono (Kd.R_far (p := ⟨gb228, 1, none⟩) (Kd.R_mono HO_7.out (fun k_ hk => (⟨hk, hk⟩ : _ ∧ k_ ≠ gb228))) (fun _ hk => hk.2) (.int .i64 (wrap64 (x229001_3 + 1)))) (fun _ hk => hk.1)⟩, ⟨by (with_reducible repeat (first | refine blk_drewN ?_ _ | refine blk_drew ?_ | refine blk_alloc ?_ _)); refine blk_put (cs := #[.int .i64 x229000_8, .int .i64 x229001_3]) ?_ 1 _ rfl; (with_reducible repeat (first | refine blk_drewN ?_ _ | refine blk_drew ?_ | refine blk_alloc ?_ _)); exact BK228.out⟩, ⟨bs_ HB.out GE228.out⟩⟩
            ·replace c47 := Bool.eq_false_iff.mpr c47
             subst c47
             have H1 : (if x7_1.length < 8796093022208 then (Z5.l0 k3 a0 (x7_1 ++ [(⟨x229000_8, x229001_3⟩ : S46)]) l1 (l1.length : Int) (wrap64 (x18_1 + 1))) else (none)) = some (r1, r2) := by rw [if_neg (show ¬ (false = true) by decide)] at H; exact H
             clear H
             have H := H1
             clear H1
             by_cases c49 : x7_1.length < 8796093022208
             case neg => exact (nn_ c49 H).elim
             rw [if_pos c49] at H; have LMc49 := am_ c49; clear c49
             obtain ⟨y236, hy236⟩ : ∃ y_ : List (S46), y_ = (x7_1 ++ [(⟨x229000_8, x229001_3⟩ : S46)]) := ⟨_, rfl⟩
             replace H : (Z5.l0 k3 a0 y236 l1 (l1.length : Int) (wrap64 (x18_1 + 1))) = some (r1, r2) := by first | (rw [hy236]; with_reducible exact H) | (have H2_ := (Option.bind_some _ _).symm.trans H; rw [hy236]; with_reducible exact H2_) | (have H2_ := (Option.bind_some _ _).symm.trans H; with_reducible exact H2_) | with_reducible exact H | (rw [hy236]; exact H) | exact H
             have Ny236 := am_ hy236; clear hy236
             have H' := am_ H
             clear H
             have hcz50_0 : wr.cell? ⟨gb228, 0, none⟩ = some (.int .i64 x229000_8) := (blk_cell BK228.out 0).trans rfl
             have hcz50_1 : wr.cell? ⟨gb228, 1, none⟩ = some (.int .i64 x229001_3) := (blk_cell BK228.out 1).trans rfl
             have hfz50_0 := blk_frozen BK228.out 0
             have hfz50_1 := blk_frozen BK228.out 1
             have p36 : 0 ≤ (x229001_3 : Int) := ode_; have q36 : x229001_3 < (a0.size : Int) := ode_
             have hx36 := bt_at a0 x229001_3
             replace p36 := eq_true p36; replace q36 := eq_true q36
             go_wp2_with (first | (go_at_call 60; (with_reducible refine (Z25.calls (bt a0 x229001_3) true _ A37.out).mono ?_); rintro e w' ⟨rfl, ⟨nd, rfl⟩⟩; have p42 : 0 ≤ ((ji39) : Int) := ode_; have q42 : (ji39) < (a0.size : Int) := ode_; have hx42 := bt_at a0 (ji39); replace p42 := eq_true p42; replace q42 := eq_true q42) | (go_at_call 60; (with_reducible refine (Z25.calls (bt a0 (ji39)) false _ A43.out).mono ?_); rintro e w' ⟨rfl, ⟨nd, rfl⟩⟩) | (go_at_call 61; (with_reducible refine (Z34.calls a0 x229001_3 false _ A46.out).mono ?_); rintro e w' ⟨rfl, ⟨nd, rfl⟩⟩) | ((with_reducible refine gate_builtin (b := .append) (xs := #[.tmp 80, .tmp 82]) rfl ?_); at_builtin; refine Kd.R_append k46 (w0 := w) w.heap.size rfl (.tmp 80) (.tmp 82) 38 46 (.agg #[(.int .i64 0), (.int .i64 0)]) 16 rfl Tryd.underlying38 info46 rfl (by decide) (by omega) u7 x7_1 (⟨x229000_8, x229001_3⟩ : S46) [.int .i64 x229000_8, .int .i64 x229001_3] (fun k_ => k_ ≠ gb228) (fun _ => False) rfl rfl ?aP (fun _ hk => hk.elim) ?aF ?aO ?aB ?aS ?aL ?_; (case aP => exact k46_mkM _ _ _ (⟨x229000_8, x229001_3⟩ : S46)); (case aB => exact (bs_ HB.out GE228.out)); (case aF => exact (fun k_ hk => Kd.freshB (g := gb228) (o := .cells #[.int .i64 x229000_8, .int .i64 x229001_3] 46 (0, 0)) (bk_ BK228.out) k_ hk)); (case aO => exact (rr_ HO_7.out)); (case aS => exact (below_size (bs_ HB.out GE228.out))); (case aL => have := LMc49.out; omega); intro v237 w51 ho hb hg hat; rw [← Ny236.out] at ho; have n0_ := am_ (blk_grown (g := gb228) (o := .cells #[.int .i64 x229000_8, .int .i64 x229001_3] 46 (0, 0)) (bk_ BK228.out) hg (Kd.R_away HO_7.out (fun _ hk => hk))); have n1_ := am_ (hb); have n2_ := am_ (ho); clear BK228; clear HB; clear HO_7; have BK228 := n0_; have HB := n1_; have HO238 := n2_; clear n0_ n1_ n2_; clear ho hb hg hat))
             go_roundg k3
             case measure => have := HK1.out; have := HJ8.out; have := HK3.out; omega
             case rel => exact ⟨(y236), (wrap64 (x18_1 + 1)), tr_, H', ⟨by have := HK1.out; have := HJ8.out; have := HK3.out; omega⟩, ⟨by (with_reducible repeat (first | apply r1_ | apply r2_ | apply r3_)); exact Kd.R_mono HO238.out (fun _ hk => trivial)⟩, ⟨bs_ HB.out GE228.out⟩⟩
          ·replace c38 := Bool.eq_false_iff.mpr c38
           subst c38
           have H1 : ((Z34.f a0 x229001_3).bind fun t239 => (if t239 = true then (Z5.l2 k3 a0 x7_1 l1 (l1.length : Int) x18_1 x229000_8 (wrap64 (x229001_3 + 1))) else (if x7_1.length < 8796093022208 then (Z5.l0 k3 a0 (x7_1 ++ [(⟨x229000_8, x229001_3⟩ : S46)]) l1 (l1.length : Int) (wrap64 (x18_1 + 1))) else (none)))) = some (r1, r2) := by rw [if_neg (show ¬ (false = true) by decide)] at H; exact H
           clear H
           have H := H1
           clear H1; replace H := Option.bind_eq_some_iff.mp H; obtain ⟨t239, A520, H⟩ := H; have A52 := am_ A520; clear A520
           by_cases c53 : t239 = true
           ·subst c53
            have H1 : (Z5.l2 k3 a0 x7_1 l1 (l1.length : Int) x18_1 x229000_8 (wrap64 (x229001_3 + 1))) = some (r1, r2) := by rw [if_pos rfl] at H; exact H
            clear H
            have H := H1
            clear H1
            have H' := am_ H
            clear H
            have hcz54_0 : wr.cell? ⟨gb228, 0, none⟩ = some (.int .i64 x229000_8) := (blk_cell BK228.out 0).trans rfl
            have hcz54_1 : wr.cell? ⟨gb228, 1, none⟩ = some (.int .i64 x229001_3) := (blk_cell BK228.out 1).trans rfl
            have hfz54_0 := blk_frozen BK228.out 0
            have hfz54_1 := blk_frozen BK228.out 1
            have p36 : 0 ≤ (x229001_3 : Int) := ode_; have q36 : x229001_3 < (a0.size : Int) := ode_
            have hx36 := bt_at a0 x229001_3
            replace p36 := eq_true p36; replace q36 := eq_true q36
            go_wp2_with (first | (go_at_call 60; (with_reducible refine (Z25.calls (bt a0 x229001_3) false _ A37.out).mono ?_); rintro e w' ⟨rfl, ⟨nd, rfl⟩⟩; (try (rw [drewN_self wr]; generalize hq_ : World.drewN wr _ = wr; have n0_ : Aside0 (Kd.R k46 46 wr w.heap.size (fun k_ => k_ ≠ gb228) u7 x7_1) := ⟨by rw [← hq_]; exact (rr_ HO_7.out)⟩; have n1_ : Aside0 (wr.heap[gb228]? = some (.cells #[.int .i64 x229000_8, .int .i64 x229001_3] 46 (0, 0))) := ⟨by rw [← hq_]; exact (bk_ BK228.out)⟩; have n2_ : Aside0 (Below w.heap.size w wr) := ⟨by rw [← hq_]; exact (bs_ HB.out GE228.out)⟩; clear HO_7 BK228 HB hq_; have HO_7 := n0_; have BK228 := n1_; have HB := n2_; clear n0_ n1_ n2_; clear hcz54_0 hcz54_1 hfz54_0 hfz54_1; have hcz54_0 : wr.cell? ⟨gb228, 0, none⟩ = some (.int .i64 x229000_8) := (blk_cell BK228.out 0).trans rfl; have hcz54_1 : wr.cell? ⟨gb228, 1, none⟩ = some (.int .i64 x229001_3) := (blk_cell BK228.out 1).trans rfl; have hfz54_0 := blk_frozen BK228.out 0; have hfz54_1 := blk_frozen BK228.out 1))) | (go_at_call 61; (with_reducible refine (Z34.calls a0 x229001_3 true _ A52.out).mono ?_); rintro e w' ⟨rfl, ⟨nd, rfl⟩⟩; (try (rw [drewN_self wr]; generalize hq_ : World.drewN wr _ = wr; have n0_ : Aside0 (Kd.R k46 46 wr w.heap.size (fun k_ => k_ ≠ gb228) u7 x7_1) := ⟨by rw [← hq_]; exact (rr_ HO_7.out)⟩; have n1_ : Aside0 (wr.heap[gb228]? = some (.cells #[.int .i64 x229000_8, .int .i64 x229001_3] 46 (0, 0))) := ⟨by rw [← hq_]; exact (bk_ BK228.out)⟩; have n2_ : Aside0 (Below w.heap.size w wr) := ⟨by rw [← hq_]; exact (bs_ HB.out GE228.out)⟩; clear HO_7 BK228 HB hq_; have HO_7 := n0_; have BK228 := n1_; have HB := n2_; clear n0_ n1_ n2_; clear hcz54_0 hcz54_1 hfz54_0 hfz54_1; have hcz54_0 : wr.cell? ⟨gb228, 0, none⟩ = some (.int .i64 x229000_8) := (blk_cell BK228.out 0).trans rfl; have hcz54_1 : wr.cell? ⟨gb228, 1, none⟩ = some (.int .i64 x229001_3) := (blk_cell BK228.out 1).trans rfl; have hfz54_0 := blk_frozen BK228.out 0; have hfz54_1 := blk_frozen BK228.out 1))))
            go_roundg k3
            case measure => have := HK1.out; have := HJ8.out; have := HK3.out; omega
            case rel => exact ⟨(wrap64 (x229001_3 + 1)), H', ⟨by have := HK1.out; have := HJ8.out; have := HK3.out; omega⟩, ⟨by (with_reducible repeat (first | apply r1_ | apply r2_ | apply r3_)); exact Kd.R_mono (Kd.R_far (p := ⟨gb228, 1, none⟩) (Kd.R_mono HO_7.out (fun k_ hk => (⟨hk, hk⟩ : _ ∧ k_ ≠ gb228))) (fun _ hk => hk.2) (.int .i64 (wrap64 (x229001_3 + 1)))) (fun _ hk => hk.1)⟩, ⟨by (with_reducible repeat (first | refine blk_drewN ?_ _ | refine blk_drew ?_ | refine blk_alloc ?_ _)); refine blk_put (cs := #[.int .i64 x229000_8, .int .i64 x229001_3]) ?_ 1 _ rfl; (with_reducible repeat (first | refine blk_drewN ?_ _ | refine blk_drew ?_ | refine blk_alloc ?_ _)); exact BK228.out⟩, ⟨bs_ HB.out GE228.out⟩⟩
           ·replace c53 := Bool.eq_false_iff.mpr c53
            subst c53
            have H1 : (if x7_1.length < 8796093022208 then (Z5.l0 k3 a0 (x7_1 ++ [(⟨x229000_8, x229001_3⟩ : S46)]) l1 (l1.length : Int) (wrap64 (x18_1 + 1))) else (none)) = some (r1, r2) := by rw [if_neg (show ¬ (false = true) by decide)] at H; exact H
            clear H
            have H := H1
            clear H1
            by_cases c55 : x7_1.length < 8796093022208
            case neg => exact (nn_ c55 H).elim
            rw [if_pos c55] at H; have LMc55 := am_ c55; clear c55
            obtain ⟨y240, hy240⟩ : ∃ y_ : List (S46), y_ = (x7_1 ++ [(⟨x229000_8, x229001_3⟩ : S46)]) := ⟨_, rfl⟩
            replace H : (Z5.l0 k3 a0 y240 l1 (l1.length : Int) (wrap64 (x18_1 + 1))) = some (r1, r2) := by first | (rw [hy240]; with_reducible exact H) | (have H2_ := (Option.bind_some _ _).symm.trans H; rw [hy240]; with_reducible exact H2_) | (have H2_ := (Option.bind_some _ _).symm.trans H; with_reducible exact H2_) | with_reducible exact H | (rw [hy240]; exact H) | exact H
            have Ny240 := am_ hy240; clear hy240
            have H' := am_ H
            clear H
            have hcz56_0 : wr.cell? ⟨gb228, 0, none⟩ = some (.int .i64 x229000_8) := (blk_cell BK228.out 0).trans rfl
            have hcz56_1 : wr.cell? ⟨gb228, 1, none⟩ = some (.int .i64 x229001_3) := (blk_cell BK228.out 1).trans rfl
            have hfz56_0 := blk_frozen BK228.out 0
            have hfz56_1 := blk_frozen BK228.out 1
            have p36 : 0 ≤ (x229001_3 : Int) := ode_; have q36 : x229001_3 < (a0.size : Int) := ode_
            have hx36 := bt_at a0 x229001_3
            replace p36 := eq_true p36; replace q36 := eq_true q36
            go_wp2_with (first | (go_at_call 60; (with_reducible refine (Z25.calls (bt a0 x229001_3) false _ A37.out).mono ?_); rintro e w' ⟨rfl, ⟨nd, rfl⟩⟩) | (go_at_call 61; (with_reducible refine (Z34.calls a0 x229001_3 false _ A52.out).mono ?_); rintro e w' ⟨rfl, ⟨nd, rfl⟩⟩) | ((with_reducible refine gate_builtin (b := .append) (xs := #[.tmp 80, .tmp 82]) rfl ?_); at_builtin; refine Kd.R_append k46 (w0 := w) w.heap.size rfl (.tmp 80) (.tmp 82) 38 46 (.agg #[(.int .i64 0), (.int .i64 0)]) 16 rfl Tryd.underlying38 info46 rfl (by decide) (by omega) u7 x7_1 (⟨x229000_8, x229001_3⟩ : S46) [.int .i64 x229000_8, .int .i64 x229001_3] (fun k_ => k_ ≠ gb228) (fun _ => False) rfl rfl ?aP (fun _ hk => hk.elim) ?aF ?aO ?aB ?aS ?aL ?_; (case aP => exact k46_mkM _ _ _ (⟨x229000_8, x229001_3⟩ : S46)); (case aB => exact (bs_ HB.out GE228.out)); (case aF => exact (fun k_ hk => Kd.freshB (g := gb228) (o := .cells #[.int .i64 x229000_8, .int .i64 x229001_3] 46 (0, 0)) (bk_ BK228.out) k_ hk)); (case aO => exact (rr_ HO_7.out)); (case aS => exact (below_size (bs_ HB.out GE228.out))); (case aL => have := LMc55.out; omega); intro v241 w57 ho hb hg hat; rw [← Ny240.out] at ho; have n0_ := am_ (blk_grown (g := gb228) (o := .cells #[.int .i64 x229000_8, .int .i64 x229001_3] 46 (0, 0)) (bk_ BK228.out) hg (Kd.R_away HO_7.out (fun _ hk => hk))); have n1_ := am_ (hb); have n2_ := am_ (ho); clear BK228; clear HB; clear HO_7; have BK228 := n0_; have HB := n1_; have HO242 := n2_; clear n0_ n1_ n2_; clear ho hb hg hat))
            go_roundg k3
            case measure => have := HK1.out; have := HJ8.out; have := HK3.out; omega
            case rel => exact ⟨(y240), (wrap64 (x18_1 + 1)), tr_, H', ⟨by have := HK1.out; have := HJ8.out; have := HK3.out; omega⟩, ⟨by (with_reducible repeat (first | apply r1_ | apply r2_ | apply r3_)); exact Kd.R_mono HO242.out (fun _ hk => trivial)⟩, ⟨bs_ HB.out GE228.out⟩⟩
         ·rw [if_neg c34] at H
          have c34b0 : decide (x229001_3 < (a0.size : Int)) = false := decide_eq_false c34
          clear c34
          by_cases c58 : x7_1.length < 8796093022208
          case neg => exact (nn_ c58 H).elim
          rw [if_pos c58] at H; have LMc58 := am_ c58; clear c58
          obtain ⟨y243, hy243⟩ : ∃ y_ : List (S46), y_ = (x7_1 ++ [(⟨x229000_8, x229001_3⟩ : S46)]) := ⟨_, rfl⟩
          replace H : (Z5.l0 k3 a0 y243 l1 (l1.length : Int) (wrap64 (x18_1 + 1))) = some (r1, r2) := by first | (rw [hy243]; with_reducible exact H) | (have H2_ := (Option.bind_some _ _).symm.trans H; rw [hy243]; with_reducible exact H2_) | (have H2_ := (Option.bind_some _ _).symm.trans H; with_reducible exact H2_) | with_reducible exact H | (rw [hy243]; exact H) | exact H
          have Ny243 := am_ hy243; clear hy243
          have H' := am_ H
          clear H
          have hcz59_0 : wr.cell? ⟨gb228, 0, none⟩ = some (.int .i64 x229000_8) := (blk_cell BK228.out 0).trans rfl
          have hcz59_1 : wr.cell? ⟨gb228, 1, none⟩ = some (.int .i64 x229001_3) := (blk_cell BK228.out 1).trans rfl
          have hfz59_0 := blk_frozen BK228.out 0
          have hfz59_1 := blk_frozen BK228.out 1
          go_wp2_with (first | ((with_reducible refine gate_builtin (b := .append) (xs := #[.tmp 80, .tmp 82]) rfl ?_); at_builtin; refine Kd.R_append k46 (w0 := w) w.heap.size rfl (.tmp 80) (.tmp 82) 38 46 (.agg #[(.int .i64 0), (.int .i64 0)]) 16 rfl Tryd.underlying38 info46 rfl (by decide) (by omega) u7 x7_1 (⟨x229000_8, x229001_3⟩ : S46) [.int .i64 x229000_8, .int .i64 x229001_3] (fun k_ => k_ ≠ gb228) (fun _ => False) rfl rfl ?aP (fun _ hk => hk.elim) ?aF ?aO ?aB ?aS ?aL ?_; (case aP => exact k46_mkM _ _ _ (⟨x229000_8, x229001_3⟩ : S46)); (case aB => exact (bs_ HB.out GE228.out)); (case aF => exact (fun k_ hk => Kd.freshB (g := gb228) (o := .cells #[.int .i64 x229000_8, .int .i64 x229001_3] 46 (0, 0)) (bk_ BK228.out) k_ hk)); (case aO => exact (rr_ HO_7.out)); (case aS => exact (below_size (bs_ HB.out GE228.out))); (case aL => have := LMc58.out; omega); intro v244 w60 ho hb hg hat; rw [← Ny243.out] at ho; have n0_ := am_ (blk_grown (g := gb228) (o := .cells #[.int .i64 x229000_8, .int .i64 x229001_3] 46 (0, 0)) (bk_ BK228.out) hg (Kd.R_away HO_7.out (fun _ hk => hk))); have n1_ := am_ (hb); have n2_ := am_ (ho); clear BK228; clear HB; clear HO_7; have BK228 := n0_; have HB := n1_; have HO245 := n2_; clear n0_ n1_ n2_; clear ho hb hg hat))
          go_roundg k3
          case measure => have := HK1.out; have := HJ8.out; have := HK3.out; omega
          case rel => exact ⟨(y243), (wrap64 (x18_1 + 1)), tr_, H', ⟨by have := HK1.out; have := HJ8.out; have := HK3.out; omega⟩, ⟨by (with_reducible repeat (first | apply r1_ | apply r2_ | apply r3_)); exact Kd.R_mono HO245.out (fun _ hk => trivial)⟩, ⟨bs_ HB.out GE228.out⟩⟩
    ·rw [if_neg c6] at H
     have c6b0 : decide (x18_1 < (l1.length : Int)) = false := decide_eq_false c6
     clear c6; replace H := Option.bind_eq_some_iff.mp H; obtain ⟨t224, A610, H⟩ := H
     replace H : (some (t224, 0)) = some (r1, r2) := H
     have A61 := am_ A610; clear A610
     simp only [Option.some.injEq, Prod.mk.injEq] at H
     obtain ⟨rfl, rfl⟩ := H
     obtain ⟨Ao62, co62, eo62⟩ := Kd.R_slice HO_7.out
     subst eo62
     go_wp2_with (first | ((with_reducible refine gate_callee (f := 57) rfl ?_); refine goesL_ (some 86) rfl rfl Tryd.func57 (by kernel_rfl) rfl #[.slice Ao62 x7_1.length co62] rfl gl_ ?_; (with_reducible refine (Z4.calls k1 (fun k_ => some k_ = (.slice Ao62 x7_1.length co62 : Value).ownBlock) (.slice Ao62 x7_1.length co62) x7_1 t224 w _ ?side1 ?side2 A61.out).mono ?_); (case side1 => exact bw_ HB.out); (case side2 => exact Kd.R_tight rfl HO_7.out); rintro e w63 ⟨v225, rfl, ho0, hb, hkp⟩; refine ⟨_, rfl, ?_⟩; have n0_ := am_ (Kd.R_mono (ok' := fun k_ => True) ho0 (fun k_ hk_ => trivial)); have n1_ := am_ (hb); clear HB; clear HO_7; have HO226 := n0_; have HB := n1_; clear n0_ n1_; (try clear hb); (try clear hkp); (try clear ho0)))
     go_ret2
     exact ⟨_, by first | rfl | (simp [errW_none, errW_some] <;> rfl) | (simp [*, errW_none, errW_some] <;> rfl), by (with_reducible repeat (first | apply r1_ | apply r2_ | apply r3_)); exact HO226.out, bw_ HB.out⟩
 ·rw [if_neg c4] at H
  have c4b0 : (t223 == 0) = false := beq_eq_false_iff_ne.mpr c4
  have c4b1 : (t223 != 0) = true := bne_iff_ne.mpr c4
  simp only [Option.some.injEq, Prod.mk.injEq] at H
  obtain ⟨rfl, rfl⟩ := H
  go_enter Tryd.func25, Tryd.ntmps25
  go_wp2_with (first | ((with_reducible refine gate_callee (f := 53) rfl ?_); refine goesL_ (some 12) rfl rfl Tryd.func53 (by kernel_rfl) rfl #[.string a0, .slice A1 l1.length c1] rfl gl_ ?_; (with_reducible refine (Z29.calls k a0 _ _ l1 t223 _ ?side1 ?side2 ?side3 A3.out).mono ?_); (case side1 => exact cc_ HR1.out); (case side2 => exact HC1.out); (case side3 => exact Wd.below HGl.out (bw_ HB.out)); rintro e w64 ⟨rfl, hb⟩; refine ⟨_, rfl, ?_⟩; have n0_ := am_ (below_step (bw_ HB.out) hb); clear HB; have HB := n0_; clear n0_; (try clear hb); (try clear hb2); (try clear hk); (try clear hi)))
  go_ret2
  exact ⟨_, by first | rfl | (simp [errW_none, errW_some] <;> rfl) | (simp [*, errW_none, errW_some] <;> rfl), by first | exact Kd.R_nil _ _ _ _ _ | exact Kd.N_nil _ _ _ _ _ | exact Kd.V_nil _ _ _ _ _ | exact Kd.Q_nil _ _ _ _ _ | exact Kd.S_nil _ _ _ _ _, bw_ HB.out⟩
def Z41.f (a0 : ByteArray) : Option (ByteArray) := if a0.size ≤ 140737488355328 then (some (lowA a0)) else (none)
set_option maxHeartbeats 8000000 in
set_option maxRecDepth 100000 in
theorem Z41.calls (a0 : ByteArray) (r : ByteArray) (w : World) (h : Z41.f a0 = some r) :
    Calls Tryd.prog 63 #[.string a0] w fun e w' => e = .returned (.string r) ∧ Below w.heap.size w w' := by
  unfold Z41.f at h
  by_cases hs : a0.size ≤ 140737488355328
  · rw [if_pos hs] at h
    obtain rfl := Option.some.inj h
    have hconv := fun (w : World) => Lib.run_convert_string_bytes (P := Tryd.prog) w 9 73 5 a0 Tryd.underlying9 Tryd.underlying73 Tryd.underlying5
    clear h
    go_enter Tryd.func63, Tryd.ntmps63
    go_wp2
    have hst := LowAt.start 5 w a0
    have Hst : Hid (LowAt 5 w (Lib.bytesWorld w 5 a0) a0 0) := hst
    have hs2 : a0.size ≤ 9223372036854775807 := by omega
    clear hst hconv
    go_loopw [10] (fun i wr => ∃ k : Nat, k ≤ a0.size ∧ i = .int .i64 k ∧ Hid (LowAt 5 w wr a0 k)) (fun i _ => a0.size - (intOf i).toNat)
    case atStart => exact ⟨0, Nat.zero_le _, rfl, Hst⟩
    case round =>
      obtain ⟨k, hk, rfl, HL⟩ := hrel
      by_cases hlt : k < a0.size
      · have hcell := HL.out.cell hlt
        have hfree := HL.out.free hlt
        by_cases hc : 65 ≤ (a0[k].toNat : Int) ∧ (a0[k].toNat : Int) ≤ 90
        · have h1 := hc.1
          have h2 := hc.2
          have HP : Hid (LowAt 5 w (wr.setCell ⟨w.heap.size, k, none⟩ (.int .u8 ((a0[k].toNat : Int) + 32))) a0 (k + 1)) := HL.out.put hlt h1 h2
          clear hc HL
          go_wp2
          go_roundw
          case rel => exact ⟨k + 1, by omega, by go_num, HP⟩
          case measure => simp [intOf]; omega
        · have HP : Hid (LowAt 5 w wr a0 (k + 1)) := HL.out.keep hlt hc
          clear HL
          by_cases h1 : 65 ≤ (a0[k].toNat : Int)
          · have h2 : ¬ (a0[k].toNat : Int) ≤ 90 := fun h => hc ⟨h1, h⟩
            clear hc
            go_wp2
            go_roundw
            case rel => exact ⟨k + 1, by omega, by go_num, HP⟩
            case measure => simp [intOf]; omega
          · clear hc
            go_wp2
            go_roundw
            case rel => exact ⟨k + 1, by omega, by go_num, HP⟩
            case measure => simp [intOf]; omega
      · obtain rfl : k = a0.size := by omega
        have hB := HL.out.1
        have hd := HL.out.done Tryd.prog 73 9 (grownCap w a0.size 0 5) Tryd.underlying73 Tryd.underlying5 Tryd.underlying9
        clear HL
        go_wp2
        go_ret
        exact ⟨rfl, hB⟩
  · rw [if_neg hs] at h
    exact absurd h (by simp)
def Z55.f (a0 : Int) : Option (Bool) := if a0 ≥ 97 then (if a0 ≤ 122 then (some true) else (if a0 ≥ 65 then (if a0 ≤ 90 then (some true) else ((Z28.f a0).bind fun t246 => (if t246 = true then (some true) else (some (decide (a0 ≥ 128)))))) else ((Z28.f a0).bind fun t247 => (if t247 = true then (some true) else (some (decide (a0 ≥ 128))))))) else (if a0 ≥ 65 then (if a0 ≤ 90 then (some true) else ((Z28.f a0).bind fun t248 => (if t248 = true then (some true) else (some (decide (a0 ≥ 128)))))) else ((Z28.f a0).bind fun t249 => (if t249 = true then (some true) else (some (decide (a0 ≥ 128))))))
end Go.Proofs.YtolcpmdojlbhcaaDoor.Px
