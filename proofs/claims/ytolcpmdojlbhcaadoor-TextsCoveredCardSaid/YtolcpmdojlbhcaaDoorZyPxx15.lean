/- A part of the proof of textsCovered. No conditions. Laid by program over the kit's print and words. -/
import Derived.Test.YtolcpmdojlbhcaaDoorZyPxx0
import Derived.Test.YtolcpmdojlbhcaaDoorZyPxx12
import Derived.Test.YtolcpmdojlbhcaaDoorZyPxx13
import Derived.Test.YtolcpmdojlbhcaaDoorZyPxx14
namespace Go.Proofs.YtolcpmdojlbhcaaDoor.Px
open Go.RowKit Go.Proofs.YtolcpmdojlbhcaaDoor.GBase Go.Proofs.YtolcpmdojlbhcaaDoorW.PrintWords Go.Proofs.YtolcpmdojlbhcaaDoorW.PrintLast Go.Proofs.YtolcpmdojlbhcaaDoorW.PrintMore
attribute [local go_sem] str_leq max2_int min2_int max_two min_two max_three min_three max_four min_four
set_option linter.unusedVariables false
set_option linter.unusedSimpArgs false
set_option maxHeartbeats 8000000 in
set_option maxRecDepth 100000 in
theorem Z3.calls (k : Nat) (a0 : ByteArray) (A1 : Option Addr) (c1 : Nat) (l1 : List (S46)) (r : List (S46)) (w : World) (hr1 : Kd.C k46 w A1 l1.length l1) (hc1 : l1.length ≤ c1) (h : Z3.f k a0 l1 = some r) :
  Calls Tryd.prog 31 #[.string a0, .slice A1 l1.length c1] w fun e w' => ∃ v0_ : Value, e = .returned (v0_) ∧ Kd.R k46 46 w' w.heap.size (fun _ => True) v0_ r ∧ Below w.heap.size w w' := by
 have hu46 := Tryd.underlying46
 have HR1 := am_ hr1; have HC1 := am_ hc1; clear hr1 hc1
 have HB := am_ (Below.refl w.heap.size w)
 have H : (if 0 ≤ (a0.size : Int) then (if ((a0.size : Int) : Int).toNat ≤ 281474976710656 then (Z3.l0 k a0 (List.replicate ((a0.size : Int) : Int).toNat false) l1 (l1.length : Int) 0) else (none)) else (none)) = some r := h
 clear h
 by_cases c3 : 0 ≤ (a0.size : Int)
 case neg => exact (nn_ c3 H).elim
 rw [if_pos c3] at H; have c3b0 := eq_true c3; have c3b1 := decide_eq_true c3; clear c3
 by_cases c4 : ((a0.size : Int) : Int).toNat ≤ 281474976710656
 case neg => exact (nn_ c4 H).elim
 rw [if_pos c4] at H; have c4b0 := eq_true c4; have c4b1 := decide_eq_true c4; clear c4
 obtain ⟨y372, hy372⟩ : ∃ y_ : List Bool, y_ = (List.replicate ((a0.size : Int) : Int).toNat false) := ⟨_, rfl⟩
 replace H : (Z3.l0 k a0 y372 l1 (l1.length : Int) 0) = some r := by first | (rw [hy372]; with_reducible exact H) | (have H2_ := (Option.bind_some _ _).symm.trans H; rw [hy372]; with_reducible exact H2_) | (have H2_ := (Option.bind_some _ _).symm.trans H; with_reducible exact H2_) | with_reducible exact H | (rw [hy372]; exact H) | exact H
 have Ny372 := am_ hy372; clear hy372
 have H' := am_ H
 clear H
 go_enter Tryd.func31, Tryd.ntmps31
 go_wp2_with (first | ((with_reducible refine gate_dst (N := 11) rfl ?_); refine Kd.R_make Kd.bool _ 4 rfl (N := 11) rfl 81 _ _ rfl (a0.size : Int) rfl rfl Tryd.underlying81 (.bool false) 1 info4 rfl (by decide) (by omega) false (ok := fun _ => True) (okp := fun _ => True) rfl (fun _ hk => hk) trivial (ode_) (Nat.le_trans (Nat.mul_le_mul_right _ (ode_ : (a0.size : Int).toNat ≤ 281474976710656)) (by omega)) (Below.refl _ _) (Nat.le_refl _) ?_; intro v373 w5 ho6 hb hg_ hnew_; clear hg_ hnew_; (first | rw [← Ny372.out] at ho6 | (simp only [Int.reduceToNat] at ho6; rw [← Ny372.out] at ho6)); have n0_ := am_ (Kd.R_lower ho6 (below_size (bw_ HB.out))); have n1_ := am_ (below_step (bw_ HB.out) hb); clear HB; have HO374 := n0_; have HB := n1_; clear n0_ n1_; clear hb ho6))
 go_loopg [14] k (fun kq v14 w' => ∃ (x5_1 : List Bool) (x14_1 : Int), v14 = .int .i64 x14_1 ∧ Aside0 (Z3.l0 kq a0 x5_1 l1 (l1.length : Int) x14_1 = some r) ∧ Aside0 (kq ≤ k) ∧ Aside0 (Kd.R Kd.bool 4 w' w.heap.size (fun _ => True) v373 x5_1) ∧ Aside0 (Below w.heap.size w w'))
 case atStart => exact ⟨(y372), (0), tr_, H', ⟨Nat.le_refl _⟩, ⟨rr_ HO374.out⟩, ⟨bw_ HB.out⟩⟩
 case round =>
  clear H'; (try clear c1); (try clear p2); (try clear c3); (try clear c3b0); (try clear c3b1); (try clear c4); (try clear c4b0); (try clear c4b1); obtain ⟨x5_1, x14_1, rfl, HA, HK1, HO_5, HB⟩ := hrel
  cases gk with
  | zero => exact absurd HA.out (by simp [Z3.l0])
  | succ k1 =>
   have H := HA.out
   clear HA
   simp only [Z3.l0] at H
   by_cases c7 : x14_1 < (l1.length : Int)
   ·rw [if_pos c7] at H
    have c7b0 := decide_eq_true c7; clear c7
    by_cases c8 : 0 ≤ x14_1
    case neg => exact (nn_ c8 H).elim
    rw [if_pos c8] at H; have c8b0 := decide_eq_true c8; clear c8
    by_cases c9 : x14_1 < (l1.length : Int)
    case neg => exact (nn_ c9 H).elim
    rw [if_pos c9] at H; have c9b0 := decide_eq_true c9; clear c9; have HC10 := am_ H; clear H; have p378 : 0 ≤ (x14_1 : Int) := ode_; have q378 : x14_1 < (l1.length : Int) := ode_
    obtain ⟨ad378, e378, hx378_0, hx378_1⟩ := at_T46 HR1.out x14_1 p378 q378
    cases e378
    first | replace hx378_0 := (HB.out.cell (World.block_lt_of_cell? w _ hx378_0)).trans hx378_0 | skip
    first | replace hx378_1 := (HB.out.cell (World.block_lt_of_cell? w _ hx378_1)).trans hx378_1 | skip
    replace p378 := eq_true p378; replace q378 := eq_true q378
    go_upto_block 2 with (first | ((with_reducible refine gate_dst (N := 7) rfl ?_); refine box_event ?hg (N := 7) ?hd (cs := #[.int .i64 0, .int .i64 0]) (t := 46) ?hr ?_; (case hd => rfl); (case hg => rfl); (case hr => first | (go_simp; done) | (go_simp; rfl)); intro gb379 hg w11 hbox hb; have n0_ := am_ (Kd.R_below (rr_ HO_5.out) hb); have n1_ := am_ (below_step (bw_ HB.out) hb); have n2_ := am_ (hbox); have n3_ := am_ ((by rw [hg]; exact (below_size (bw_ HB.out)) : w.heap.size ≤ gb379)); have n4_ := am_ ((by rw [hg]; exact (below_size (bw_ HB.out)) : w.heap.size ≤ gb379)); clear HO_5; clear HB; have HO_5 := n0_; have HB := n1_; have BK379 := n2_; have GW379 := n3_; have GE379 := n4_; clear n0_ n1_ n2_ n3_ n4_; clear hb hbox hg; have hcz12_0 : w11.cell? ⟨gb379, 0, none⟩ = some (.int .i64 0) := (blk_cell BK379.out 0).trans rfl; have hcz12_1 : w11.cell? ⟨gb379, 1, none⟩ = some (.int .i64 0) := (blk_cell BK379.out 1).trans rfl; have hfz12_0 := blk_frozen BK379.out 0; have hfz12_1 := blk_frozen BK379.out 1))
    (try simp only [Act.put, s_t, s_z, s_s])
    go_cut [] (fun wc => ∃ (kq : Nat) (x380000_9 : Int), Aside0 (Z3.j2 kq a0 x5_1 l1 (l1.length : Int) x14_1 x380000_9 ((rd_T46 l1 x14_1).f1) = some r) ∧ Aside0 (kq ≤ k1) ∧ Aside0 (Kd.R Kd.bool 4 wc w.heap.size (fun _ => True) v373 x5_1) ∧ Aside0 (wc.heap[gb379]? = some (.cells #[.int .i64 x380000_9, .int .i64 ((rd_T46 l1 x14_1).f1)] 46 (0, 0))) ∧ Aside0 (Below w.heap.size w wc))
    case first =>
     have H := HC10.out
     clear HC10
     have H' := am_ H
     clear H
     go_wp2
     go_loopg [] k1 (fun kq w' => ∃ (x380000_2 : Int), Aside0 (Z3.l1 kq a0 x5_1 l1 (l1.length : Int) x14_1 x380000_2 ((rd_T46 l1 x14_1).f1) = some r) ∧ Aside0 (kq ≤ k1) ∧ Aside0 (Kd.R Kd.bool 4 w' w.heap.size (fun _ => True) v373 x5_1) ∧ Aside0 (w'.heap[gb379]? = some (.cells #[.int .i64 x380000_2, .int .i64 ((rd_T46 l1 x14_1).f1)] 46 (0, 0))) ∧ Aside0 (Below w.heap.size w w'))
     case atStart => exact ⟨((rd_T46 l1 x14_1).f0), H', ⟨Nat.le_refl _⟩, ⟨by (with_reducible repeat (first | apply r1_ | apply r2_ | apply r3_)); exact Kd.R_mono (Kd.R_far (p := ⟨gb379, 1, none⟩) (Kd.R_far (p := ⟨gb379, 0, none⟩) (Kd.R_types HO_5.out BK379.out (by decide)) (fun _ hk => hk.2) (.int .i64 ((rd_T46 l1 x14_1).f0))) (fun _ hk => hk.2) (.int .i64 ((rd_T46 l1 x14_1).f1))) (fun _ hk => trivial)⟩, ⟨by (with_reducible repeat (first | refine blk_drewN ?_ _ | refine blk_drew ?_ | refine blk_alloc ?_ _)); refine blk_put (cs := #[.int .i64 ((rd_T46 l1 x14_1).f0), .int .i64 0]) ?_ 1 _ rfl; (with_reducible repeat (first | refine blk_drewN ?_ _ | refine blk_drew ?_ | refine blk_alloc ?_ _)); refine blk_put (cs := #[.int .i64 0, .int .i64 0]) ?_ 0 _ rfl; (with_reducible repeat (first | refine blk_drewN ?_ _ | refine blk_drew ?_ | refine blk_alloc ?_ _)); exact BK379.out⟩, ⟨bs_ HB.out GE379.out⟩⟩
     case round =>
      clear H'; (try clear c1); (try clear p2); (try clear c3); (try clear c3b0); (try clear c3b1); (try clear p3); (try clear q3); (try clear hx3); (try clear c4); (try clear c4b0); (try clear c4b1); (try clear c7); (try clear c7b0); (try clear c8); (try clear c8b0); (try clear c9); (try clear c9b0); (try clear hcz12_0); (try clear hcz12_1); (try clear hfz12_0); (try clear hfz12_1); (try clear hx378_0); (try clear hx378_1); (try clear p2); (try clear p378); (try clear q378); obtain ⟨x380000_2, HA, HK2, HO_5, BK379, HB⟩ := hrel
      cases gk with
      | zero => exact absurd HA.out (by simp [Z3.l1])
      | succ k2 =>
       have H := HA.out
       clear HA
       simp only [Z3.l1] at H
       by_cases c13 : x380000_2 > 0
       ·rw [if_pos c13] at H
        have c13b0 : decide (0 < x380000_2) = true := decide_eq_true c13
        clear c13
        (first | rw [c13b0] | (simp only [i64_w, i32_w]; rw [c13b0]) | skip)
        obtain ⟨ji14, hji14⟩ : ∃ j_ : Int, (wrap64 (x380000_2 - 1)) = j_ := ⟨_, rfl⟩
        replace H : (if 0 ≤ (ji14) then (if (ji14) < (a0.size : Int) then ((Z30.f (bt a0 (ji14))).bind fun t380 => (if t380 = true then (if 0 ≤ x380000_2 then (if x380000_2 < (a0.size : Int) then ((Z30.f (bt a0 x380000_2)).bind fun t381 => (if t381 = true then (Z3.l1 k2 a0 x5_1 l1 (l1.length : Int) x14_1 ji14 ((rd_T46 l1 x14_1).f1)) else ((Z38.f a0 x380000_2).bind fun t382 => (if t382 = true then (Z3.j2 k2 a0 x5_1 l1 (l1.length : Int) x14_1 x380000_2 ((rd_T46 l1 x14_1).f1)) else (Z3.l1 k2 a0 x5_1 l1 (l1.length : Int) x14_1 ji14 ((rd_T46 l1 x14_1).f1)))))) else (none)) else (none)) else ((Z38.f a0 x380000_2).bind fun t383 => (if t383 = true then (Z3.j2 k2 a0 x5_1 l1 (l1.length : Int) x14_1 x380000_2 ((rd_T46 l1 x14_1).f1)) else (Z3.l1 k2 a0 x5_1 l1 (l1.length : Int) x14_1 ji14 ((rd_T46 l1 x14_1).f1)))))) else (none)) else (none)) = some r := by first | (rw [hji14] at H; exact H) | (simp only [hji14] at H ⊢; exact H)
        have hji14w : (IntKind.i64.wrap (x380000_2 - 1)) = ji14 := (i64_w _).trans hji14
        by_cases c15 : 0 ≤ (ji14)
        case neg => exact (nn_ c15 H).elim
        rw [if_pos c15] at H; have c15b0 := decide_eq_true c15; clear c15
        by_cases c16 : (ji14) < (a0.size : Int)
        case neg => exact (nn_ c16 H).elim
        rw [if_pos c16] at H; have c16b0 := decide_eq_true c16; clear c16; replace H := Option.bind_eq_some_iff.mp H; obtain ⟨t380, A180, H⟩ := H; have A18 := am_ A180; clear A180
        by_cases c19 : t380 = true
        ·subst c19
         have H1 : (if 0 ≤ x380000_2 then (if x380000_2 < (a0.size : Int) then ((Z30.f (bt a0 x380000_2)).bind fun t381 => (if t381 = true then (Z3.l1 k2 a0 x5_1 l1 (l1.length : Int) x14_1 ji14 ((rd_T46 l1 x14_1).f1)) else ((Z38.f a0 x380000_2).bind fun t382 => (if t382 = true then (Z3.j2 k2 a0 x5_1 l1 (l1.length : Int) x14_1 x380000_2 ((rd_T46 l1 x14_1).f1)) else (Z3.l1 k2 a0 x5_1 l1 (l1.length : Int) x14_1 ji14 ((rd_T46 l1 x14_1).f1)))))) else (none)) else (none)) = some r := by rw [if_pos rfl] at H; exact H
         clear H
         have H := H1
         clear H1
         by_cases c20 : 0 ≤ x380000_2
         case neg => exact (nn_ c20 H).elim
         rw [if_pos c20] at H; have c20b0 := decide_eq_true c20; clear c20
         by_cases c21 : x380000_2 < (a0.size : Int)
         case neg => exact (nn_ c21 H).elim
         rw [if_pos c21] at H; have c21b0 := decide_eq_true c21; clear c21; replace H := Option.bind_eq_some_iff.mp H; obtain ⟨t381, A230, H⟩ := H; have A23 := am_ A230; clear A230
         by_cases c24 : t381 = true
         ·subst c24
          have H1 : (Z3.l1 k2 a0 x5_1 l1 (l1.length : Int) x14_1 ji14 ((rd_T46 l1 x14_1).f1)) = some r := by rw [if_pos rfl] at H; exact H
          clear H
          have H := H1
          clear H1
          have H' := am_ H
          clear H
          have hcz25_0 : wr.cell? ⟨gb379, 0, none⟩ = some (.int .i64 x380000_2) := (blk_cell BK379.out 0).trans rfl
          have hcz25_1 : wr.cell? ⟨gb379, 1, none⟩ = some (.int .i64 ((rd_T46 l1 x14_1).f1)) := (blk_cell BK379.out 1).trans rfl
          have hfz25_0 := blk_frozen BK379.out 0
          have hfz25_1 := blk_frozen BK379.out 1
          have p17 : 0 ≤ ((ji14) : Int) := ode_; have q17 : (ji14) < (a0.size : Int) := ode_
          have hx17 := bt_at a0 (ji14)
          replace p17 := eq_true p17; replace q17 := eq_true q17
          go_wp2_with (first | (go_at_call 69; (with_reducible refine (Z30.calls (bt a0 (ji14)) true _ A18.out).mono ?_); rintro e w' ⟨rfl, ⟨nd, rfl⟩⟩; (try (rw [drewN_self wr]; generalize hq_ : World.drewN wr _ = wr; have n0_ : Aside0 (Kd.R Kd.bool 4 wr w.heap.size (fun _ => True) v373 x5_1) := ⟨by rw [← hq_]; exact (rr_ HO_5.out)⟩; have n1_ : Aside0 (wr.heap[gb379]? = some (.cells #[.int .i64 x380000_2, .int .i64 ((rd_T46 l1 x14_1).f1)] 46 (0, 0))) := ⟨by rw [← hq_]; exact (bk_ BK379.out)⟩; have n2_ : Aside0 (Below w.heap.size w wr) := ⟨by rw [← hq_]; exact (bs_ HB.out GE379.out)⟩; clear HO_5 BK379 HB hq_; have HO_5 := n0_; have BK379 := n1_; have HB := n2_; clear n0_ n1_ n2_; clear hcz25_0 hcz25_1 hfz25_0 hfz25_1; have hcz25_0 : wr.cell? ⟨gb379, 0, none⟩ = some (.int .i64 x380000_2) := (blk_cell BK379.out 0).trans rfl; have hcz25_1 : wr.cell? ⟨gb379, 1, none⟩ = some (.int .i64 ((rd_T46 l1 x14_1).f1)) := (blk_cell BK379.out 1).trans rfl; have hfz25_0 := blk_frozen BK379.out 0; have hfz25_1 := blk_frozen BK379.out 1)); have p22 : 0 ≤ (x380000_2 : Int) := ode_; have q22 : x380000_2 < (a0.size : Int) := ode_; have hx22 := bt_at a0 x380000_2; replace p22 := eq_true p22; replace q22 := eq_true q22) | (go_at_call 69; (with_reducible refine (Z30.calls (bt a0 x380000_2) true _ A23.out).mono ?_); rintro e w' ⟨rfl, ⟨nd, rfl⟩⟩; (try (rw [drewN_self wr]; generalize hq_ : World.drewN wr _ = wr; have n0_ : Aside0 (Kd.R Kd.bool 4 wr w.heap.size (fun _ => True) v373 x5_1) := ⟨by rw [← hq_]; exact (rr_ HO_5.out)⟩; have n1_ : Aside0 (wr.heap[gb379]? = some (.cells #[.int .i64 x380000_2, .int .i64 ((rd_T46 l1 x14_1).f1)] 46 (0, 0))) := ⟨by rw [← hq_]; exact (bk_ BK379.out)⟩; have n2_ : Aside0 (Below w.heap.size w wr) := ⟨by rw [← hq_]; exact (bs_ HB.out GE379.out)⟩; clear HO_5 BK379 HB hq_; have HO_5 := n0_; have BK379 := n1_; have HB := n2_; clear n0_ n1_ n2_; clear hcz25_0 hcz25_1 hfz25_0 hfz25_1; have hcz25_0 : wr.cell? ⟨gb379, 0, none⟩ = some (.int .i64 x380000_2) := (blk_cell BK379.out 0).trans rfl; have hcz25_1 : wr.cell? ⟨gb379, 1, none⟩ = some (.int .i64 ((rd_T46 l1 x14_1).f1)) := (blk_cell BK379.out 1).trans rfl; have hfz25_0 := blk_frozen BK379.out 0; have hfz25_1 := blk_frozen BK379.out 1))))
          go_roundg k2
          case measure => have := HK1.out; have := HK2.out; omega
          case rel => exact ⟨(ji14), H', ⟨by have := HK1.out; have := HK2.out; omega⟩, ⟨by (with_reducible repeat (first | apply r1_ | apply r2_ | apply r3_)); exact Kd.R_mono (Kd.R_far (p := ⟨gb379, 0, none⟩) (Kd.R_types HO_5.out BK379.out (by decide)) (fun _ hk => hk.2) (.int .i64 ji14)) (fun _ hk => trivial)⟩, ⟨by (with_reducible repeat (first | refine blk_drewN ?_ _ | refine blk_drew ?_ | refine blk_alloc ?_ _)); refine blk_put (cs := #[.int .i64 x380000_2, .int .i64 ((rd_T46 l1 x14_1).f1)]) ?_ 0 _ rfl; (with_reducible repeat (first | refine blk_drewN ?_ _ | refine blk_drew ?_ | refine blk_alloc ?_ _)); exact BK379.out⟩, ⟨bs_ HB.out GE379.out⟩⟩
         ·replace c24 := Bool.eq_false_iff.mpr c24
          subst c24
          have H1 : ((Z38.f a0 x380000_2).bind fun t382 => (if t382 = true then (Z3.j2 k2 a0 x5_1 l1 (l1.length : Int) x14_1 x380000_2 ((rd_T46 l1 x14_1).f1)) else (Z3.l1 k2 a0 x5_1 l1 (l1.length : Int) x14_1 ji14 ((rd_T46 l1 x14_1).f1)))) = some r := by rw [if_neg (show ¬ (false = true) by decide)] at H; exact H
          clear H
          have H := H1
          clear H1; replace H := Option.bind_eq_some_iff.mp H; obtain ⟨t382, A260, H⟩ := H; have A26 := am_ A260; clear A260
          by_cases c27 : t382 = true
          ·subst c27
           have H1 : (Z3.j2 k2 a0 x5_1 l1 (l1.length : Int) x14_1 x380000_2 ((rd_T46 l1 x14_1).f1)) = some r := by rw [if_pos rfl] at H; exact H
           clear H
           have H := H1
           clear H1
           have H' := am_ H
           clear H
           have hcz28_0 : wr.cell? ⟨gb379, 0, none⟩ = some (.int .i64 x380000_2) := (blk_cell BK379.out 0).trans rfl
           have hcz28_1 : wr.cell? ⟨gb379, 1, none⟩ = some (.int .i64 ((rd_T46 l1 x14_1).f1)) := (blk_cell BK379.out 1).trans rfl
           have hfz28_0 := blk_frozen BK379.out 0
           have hfz28_1 := blk_frozen BK379.out 1
           have p17 : 0 ≤ ((ji14) : Int) := ode_; have q17 : (ji14) < (a0.size : Int) := ode_
           have hx17 := bt_at a0 (ji14)
           replace p17 := eq_true p17; replace q17 := eq_true q17
           go_wp2_with (first | (go_at_call 69; (with_reducible refine (Z30.calls (bt a0 (ji14)) true _ A18.out).mono ?_); rintro e w' ⟨rfl, ⟨nd, rfl⟩⟩; have p22 : 0 ≤ (x380000_2 : Int) := ode_; have q22 : x380000_2 < (a0.size : Int) := ode_; have hx22 := bt_at a0 x380000_2; replace p22 := eq_true p22; replace q22 := eq_true q22) | (go_at_call 69; (with_reducible refine (Z30.calls (bt a0 x380000_2) false _ A23.out).mono ?_); rintro e w' ⟨rfl, ⟨nd, rfl⟩⟩) | (go_at_call 70; (with_reducible refine (Z38.calls a0 x380000_2 true _ A26.out).mono ?_); rintro e w' ⟨rfl, ⟨nd, rfl⟩⟩))
           go_meet
           case rel => exact ⟨_, (x380000_2), H', ⟨by have := HK1.out; have := HK2.out; first | omega | exact Nat.le_refl _⟩, ⟨rr_ HO_5.out⟩, ⟨bk_ BK379.out⟩, ⟨bs_ HB.out GE379.out⟩⟩
          ·replace c27 := Bool.eq_false_iff.mpr c27
           subst c27
           have H1 : (Z3.l1 k2 a0 x5_1 l1 (l1.length : Int) x14_1 ji14 ((rd_T46 l1 x14_1).f1)) = some r := by rw [if_neg (show ¬ (false = true) by decide)] at H; exact H
           clear H
           have H := H1
           clear H1
           have H' := am_ H
           clear H
           have hcz29_0 : wr.cell? ⟨gb379, 0, none⟩ = some (.int .i64 x380000_2) := (blk_cell BK379.out 0).trans rfl
           have hcz29_1 : wr.cell? ⟨gb379, 1, none⟩ = some (.int .i64 ((rd_T46 l1 x14_1).f1)) := (blk_cell BK379.out 1).trans rfl
           have hfz29_0 := blk_frozen BK379.out 0
           have hfz29_1 := blk_frozen BK379.out 1
           have p17 : 0 ≤ ((ji14) : Int) := ode_; have q17 : (ji14) < (a0.size : Int) := ode_
           have hx17 := bt_at a0 (ji14)
           replace p17 := eq_true p17; replace q17 := eq_true q17
           go_wp2_with (first | (go_at_call 69; (with_reducible refine (Z30.calls (bt a0 (ji14)) true _ A18.out).mono ?_); rintro e w' ⟨rfl, ⟨nd, rfl⟩⟩; (try (rw [drewN_self wr]; generalize hq_ : World.drewN wr _ = wr; have n0_ : Aside0 (Kd.R Kd.bool 4 wr w.heap.size (fun _ => True) v373 x5_1) := ⟨by rw [← hq_]; exact (rr_ HO_5.out)⟩; have n1_ : Aside0 (wr.heap[gb379]? = some (.cells #[.int .i64 x380000_2, .int .i64 ((rd_T46 l1 x14_1).f1)] 46 (0, 0))) := ⟨by rw [← hq_]; exact (bk_ BK379.out)⟩; have n2_ : Aside0 (Below w.heap.size w wr) := ⟨by rw [← hq_]; exact (bs_ HB.out GE379.out)⟩; clear HO_5 BK379 HB hq_; have HO_5 := n0_; have BK379 := n1_; have HB := n2_; clear n0_ n1_ n2_; clear hcz29_0 hcz29_1 hfz29_0 hfz29_1; have hcz29_0 : wr.cell? ⟨gb379, 0, none⟩ = some (.int .i64 x380000_2) := (blk_cell BK379.out 0).trans rfl; have hcz29_1 : wr.cell? ⟨gb379, 1, none⟩ = some (.int .i64 ((rd_T46 l1 x14_1).f1)) := (blk_cell BK379.out 1).trans rfl; have hfz29_0 := blk_frozen BK379.out 0; have hfz29_1 := blk_frozen BK379.out 1)); have p22 : 0 ≤ (x380000_2 : Int) := ode_; have q22 : x380000_2 < (a0.size : Int) := ode_; have hx22 := bt_at a0 x380000_2; replace p22 := eq_true p22; replace q22 := eq_true q22) | (go_at_call 69; (with_reducible refine (Z30.calls (bt a0 x380000_2) false _ A23.out).mono ?_); rintro e w' ⟨rfl, ⟨nd, rfl⟩⟩; (try (rw [drewN_self wr]; generalize hq_ : World.drewN wr _ = wr; have n0_ : Aside0 (Kd.R Kd.bool 4 wr w.heap.size (fun _ => True) v373 x5_1) := ⟨by rw [← hq_]; exact (rr_ HO_5.out)⟩; have n1_ : Aside0 (wr.heap[gb379]? = some (.cells #[.int .i64 x380000_2, .int .i64 ((rd_T46 l1 x14_1).f1)] 46 (0, 0))) := ⟨by rw [← hq_]; exact (bk_ BK379.out)⟩; have n2_ : Aside0 (Below w.heap.size w wr) := ⟨by rw [← hq_]; exact (bs_ HB.out GE379.out)⟩; clear HO_5 BK379 HB hq_; have HO_5 := n0_; have BK379 := n1_; have HB := n2_; clear n0_ n1_ n2_; clear hcz29_0 hcz29_1 hfz29_0 hfz29_1; have hcz29_0 : wr.cell? ⟨gb379, 0, none⟩ = some (.int .i64 x380000_2) := (blk_cell BK379.out 0).trans rfl; have hcz29_1 : wr.cell? ⟨gb379, 1, none⟩ = some (.int .i64 ((rd_T46 l1 x14_1).f1)) := (blk_cell BK379.out 1).trans rfl; have hfz29_0 := blk_frozen BK379.out 0; have hfz29_1 := blk_frozen BK379.out 1))) | (go_at_call 70; (with_reducible refine (Z38.calls a0 x380000_2 false _ A26.out).mono ?_); rintro e w' ⟨rfl, ⟨nd, rfl⟩⟩; (try (rw [drewN_self wr]; generalize hq_ : World.drewN wr _ = wr; have n0_ : Aside0 (Kd.R Kd.bool 4 wr w.heap.size (fun _ => True) v373 x5_1) := ⟨by rw [← hq_]; exact (rr_ HO_5.out)⟩; have n1_ : Aside0 (wr.heap[gb379]? = some (.cells #[.int .i64 x380000_2, .int .i64 ((rd_T46 l1 x14_1).f1)] 46 (0, 0))) := ⟨by rw [← hq_]; exact (bk_ BK379.out)⟩; have n2_ : Aside0 (Below w.heap.size w wr) := ⟨by rw [← hq_]; exact (bs_ HB.out GE379.out)⟩; clear HO_5 BK379 HB hq_; have HO_5 := n0_; have BK379 := n1_; have HB := n2_; clear n0_ n1_ n2_; clear hcz29_0 hcz29_1 hfz29_0 hfz29_1; have hcz29_0 : wr.cell? ⟨gb379, 0, none⟩ = some (.int .i64 x380000_2) := (blk_cell BK379.out 0).trans rfl; have hcz29_1 : wr.cell? ⟨gb379, 1, none⟩ = some (.int .i64 ((rd_T46 l1 x14_1).f1)) := (blk_cell BK379.out 1).trans rfl; have hfz29_0 := blk_frozen BK379.out 0; have hfz29_1 := blk_frozen BK379.out 1))))
           go_roundg k2
           case measure => have := HK1.out; have := HK2.out; omega
           case rel => exact ⟨(ji14), H', ⟨by have := HK1.out; have := HK2.out; omega⟩, ⟨by (with_reducible repeat (first | apply r1_ | apply r2_ | apply r3_)); exact Kd.R_mono (Kd.R_far (p := ⟨gb379, 0, none⟩) (Kd.R_types HO_5.out BK379.out (by decide)) (fun _ hk => hk.2) (.int .i64 ji14)) (fun _ hk => trivial)⟩, ⟨by (with_reducible repeat (first | refine blk_drewN ?_ _ | refine blk_drew ?_ | refine blk_alloc ?_ _)); refine blk_put (cs := #[.int .i64 x380000_2, .int .i64 ((rd_T46 l1 x14_1).f1)]) ?_ 0 _ rfl; (with_reducible repeat (first | refine blk_drewN ?_ _ | refine blk_drew ?_ | refine blk_alloc ?_ _)); exact BK379.out⟩, ⟨bs_ HB.out GE379.out⟩⟩
        ·replace c19 := Bool.eq_false_iff.mpr c19
         subst c19
         have H1 : ((Z38.f a0 x380000_2).bind fun t383 => (if t383 = true then (Z3.j2 k2 a0 x5_1 l1 (l1.length : Int) x14_1 x380000_2 ((rd_T46 l1 x14_1).f1)) else (Z3.l1 k2 a0 x5_1 l1 (l1.length : Int) x14_1 ji14 ((rd_T46 l1 x14_1).f1)))) = some r := by rw [if_neg (show ¬ (false = true) by decide)] at H; exact H
         clear H
         have H := H1
         clear H1; replace H := Option.bind_eq_some_iff.mp H; obtain ⟨t383, A300, H⟩ := H; have A30 := am_ A300; clear A300
         by_cases c31 : t383 = true
         ·subst c31
          have H1 : (Z3.j2 k2 a0 x5_1 l1 (l1.length : Int) x14_1 x380000_2 ((rd_T46 l1 x14_1).f1)) = some r := by rw [if_pos rfl] at H; exact H
          clear H
          have H := H1
          clear H1
          have H' := am_ H
          clear H
          have hcz32_0 : wr.cell? ⟨gb379, 0, none⟩ = some (.int .i64 x380000_2) := (blk_cell BK379.out 0).trans rfl
          have hcz32_1 : wr.cell? ⟨gb379, 1, none⟩ = some (.int .i64 ((rd_T46 l1 x14_1).f1)) := (blk_cell BK379.out 1).trans rfl
          have hfz32_0 := blk_frozen BK379.out 0
          have hfz32_1 := blk_frozen BK379.out 1
          have p17 : 0 ≤ ((ji14) : Int) := ode_; have q17 : (ji14) < (a0.size : Int) := ode_
          have hx17 := bt_at a0 (ji14)
          replace p17 := eq_true p17; replace q17 := eq_true q17
          go_wp2_with (first | (go_at_call 69; (with_reducible refine (Z30.calls (bt a0 (ji14)) false _ A18.out).mono ?_); rintro e w' ⟨rfl, ⟨nd, rfl⟩⟩) | (go_at_call 70; (with_reducible refine (Z38.calls a0 x380000_2 true _ A30.out).mono ?_); rintro e w' ⟨rfl, ⟨nd, rfl⟩⟩))
          go_meet
          case rel => exact ⟨_, (x380000_2), H', ⟨by have := HK1.out; have := HK2.out; first | omega | exact Nat.le_refl _⟩, ⟨rr_ HO_5.out⟩, ⟨bk_ BK379.out⟩, ⟨bs_ HB.out GE379.out⟩⟩
         ·replace c31 := Bool.eq_false_iff.mpr c31
          subst c31
          have H1 : (Z3.l1 k2 a0 x5_1 l1 (l1.length : Int) x14_1 ji14 ((rd_T46 l1 x14_1).f1)) = some r := by rw [if_neg (show ¬ (false = true) by decide)] at H; exact H
          clear H
          have H := H1
          clear H1
          have H' := am_ H
          clear H
          have hcz33_0 : wr.cell? ⟨gb379, 0, none⟩ = some (.int .i64 x380000_2) := (blk_cell BK379.out 0).trans rfl
          have hcz33_1 : wr.cell? ⟨gb379, 1, none⟩ = some (.int .i64 ((rd_T46 l1 x14_1).f1)) := (blk_cell BK379.out 1).trans rfl
          have hfz33_0 := blk_frozen BK379.out 0
          have hfz33_1 := blk_frozen BK379.out 1
          have p17 : 0 ≤ ((ji14) : Int) := ode_; have q17 : (ji14) < (a0.size : Int) := ode_
          have hx17 := bt_at a0 (ji14)
          replace p17 := eq_true p17; replace q17 := eq_true q17
          go_wp2_with (first | (go_at_call 69; (with_reducible refine (Z30.calls (bt a0 (ji14)) false _ A18.out).mono ?_); rintro e w' ⟨rfl, ⟨nd, rfl⟩⟩; (try (rw [drewN_self wr]; generalize hq_ : World.drewN wr _ = wr; have n0_ : Aside0 (Kd.R Kd.bool 4 wr w.heap.size (fun _ => True) v373 x5_1) := ⟨by rw [← hq_]; exact (rr_ HO_5.out)⟩; have n1_ : Aside0 (wr.heap[gb379]? = some (.cells #[.int .i64 x380000_2, .int .i64 ((rd_T46 l1 x14_1).f1)] 46 (0, 0))) := ⟨by rw [← hq_]; exact (bk_ BK379.out)⟩; have n2_ : Aside0 (Below w.heap.size w wr) := ⟨by rw [← hq_]; exact (bs_ HB.out GE379.out)⟩; clear HO_5 BK379 HB hq_; have HO_5 := n0_; have BK379 := n1_; have HB := n2_; clear n0_ n1_ n2_; clear hcz33_0 hcz33_1 hfz33_0 hfz33_1; have hcz33_0 : wr.cell? ⟨gb379, 0, none⟩ = some (.int .i64 x380000_2) := (blk_cell BK379.out 0).trans rfl; have hcz33_1 : wr.cell? ⟨gb379, 1, none⟩ = some (.int .i64 ((rd_T46 l1 x14_1).f1)) := (blk_cell BK379.out 1).trans rfl; have hfz33_0 := blk_frozen BK379.out 0; have hfz33_1 := blk_frozen BK379.out 1))) | (go_at_call 70; (with_reducible refine (Z38.calls a0 x380000_2 false _ A30.out).mono ?_); rintro e w' ⟨rfl, ⟨nd, rfl⟩⟩; (try (rw [drewN_self wr]; generalize hq_ : World.drewN wr _ = wr; have n0_ : Aside0 (Kd.R Kd.bool 4 wr w.heap.size (fun _ => True) v373 x5_1) := ⟨by rw [← hq_]; exact (rr_ HO_5.out)⟩; have n1_ : Aside0 (wr.heap[gb379]? = some (.cells #[.int .i64 x380000_2, .int .i64 ((rd_T46 l1 x14_1).f1)] 46 (0, 0))) := ⟨by rw [← hq_]; exact (bk_ BK379.out)⟩; have n2_ : Aside0 (Below w.heap.size w wr) := ⟨by rw [← hq_]; exact (bs_ HB.out GE379.out)⟩; clear HO_5 BK379 HB hq_; have HO_5 := n0_; have BK379 := n1_; have HB := n2_; clear n0_ n1_ n2_; clear hcz33_0 hcz33_1 hfz33_0 hfz33_1; have hcz33_0 : wr.cell? ⟨gb379, 0, none⟩ = some (.int .i64 x380000_2) := (blk_cell BK379.out 0).trans rfl; have hcz33_1 : wr.cell? ⟨gb379, 1, none⟩ = some (.int .i64 ((rd_T46 l1 x14_1).f1)) := (blk_cell BK379.out 1).trans rfl; have hfz33_0 := blk_frozen BK379.out 0; have hfz33_1 := blk_frozen BK379.out 1))))
          go_roundg k2
          case measure => have := HK1.out; have := HK2.out; omega
          case rel => exact ⟨(ji14), H', ⟨by have := HK1.out; have := HK2.out; omega⟩, ⟨by (with_reducible repeat (first | apply r1_ | apply r2_ | apply r3_)); exact Kd.R_mono (Kd.R_far (p := ⟨gb379, 0, none⟩) (Kd.R_types HO_5.out BK379.out (by decide)) (fun _ hk => hk.2) (.int .i64 ji14)) (fun _ hk => trivial)⟩, ⟨by (with_reducible repeat (first | refine blk_drewN ?_ _ | refine blk_drew ?_ | refine blk_alloc ?_ _)); refine blk_put (cs := #[.int .i64 x380000_2, .int .i64 ((rd_T46 l1 x14_1).f1)]) ?_ 0 _ rfl; (with_reducible repeat (first | refine blk_drewN ?_ _ | refine blk_drew ?_ | refine blk_alloc ?_ _)); exact BK379.out⟩, ⟨bs_ HB.out GE379.out⟩⟩
       ·rw [if_neg c13] at H
        have c13b0 : decide (0 < x380000_2) = false := decide_eq_false c13
        clear c13
        (first | rw [c13b0] | (simp only [i64_w, i32_w]; rw [c13b0]) | skip)
        have H' := am_ H
        clear H
        have hcz34_0 : wr.cell? ⟨gb379, 0, none⟩ = some (.int .i64 x380000_2) := (blk_cell BK379.out 0).trans rfl
        have hcz34_1 : wr.cell? ⟨gb379, 1, none⟩ = some (.int .i64 ((rd_T46 l1 x14_1).f1)) := (blk_cell BK379.out 1).trans rfl
        have hfz34_0 := blk_frozen BK379.out 0
        have hfz34_1 := blk_frozen BK379.out 1
        go_wp2
        go_meet
        case rel => exact ⟨_, (x380000_2), H', ⟨by have := HK1.out; have := HK2.out; first | omega | exact Nat.le_refl _⟩, ⟨rr_ HO_5.out⟩, ⟨bk_ BK379.out⟩, ⟨bs_ HB.out GE379.out⟩⟩
    case rest =>
     clear HC10; (try clear c1); (try clear p1); (try clear q1); (try clear hx1); (try clear c2); (try clear p2); (try clear q2); (try clear hx2); (try clear c3); (try clear c3b0); (try clear c3b1); (try clear p3); (try clear q3); (try clear hx3); (try clear c4); (try clear c4b0); (try clear c4b1); (try clear p6); (try clear c7); (try clear c7b0); (try clear c8); (try clear c8b0); (try clear c9); (try clear c9b0); (try clear c13); (try clear c13b0); (try clear c15); (try clear c15b0); (try clear c16); (try clear c16b0); (try clear p17); (try clear q17); (try clear hx17); (try clear c19); (try clear c20); (try clear c20b0); (try clear c21); (try clear c21b0); (try clear p22); (try clear q22); (try clear hx22); (try clear c24); (try clear c27); (try clear c31); (try clear hcz12_0); (try clear hcz12_1); (try clear hcz25_0); (try clear hcz25_1); (try clear hcz28_0); (try clear hcz28_1); (try clear hcz29_0); (try clear hcz29_1); (try clear hcz32_0); (try clear hcz32_1); (try clear hcz33_0); (try clear hcz33_1); (try clear hcz34_0); (try clear hcz34_1); (try clear hfz12_0); (try clear hfz12_1); (try clear hfz25_0); (try clear hfz25_1); (try clear hfz28_0); (try clear hfz28_1); (try clear hfz29_0); (try clear hfz29_1); (try clear hfz32_0); (try clear hfz32_1); (try clear hfz33_0); (try clear hfz33_1); (try clear hfz34_0); (try clear hfz34_1); (try clear hx378_0); (try clear hx378_1); (try clear p17); (try clear p2); (try clear p22); (try clear p3); (try clear p378); (try clear q17); (try clear q22); (try clear q3); (try clear q378); obtain ⟨kq, x380000_9, HA, HJ9, HO_5, BK379, HB⟩ := hcut
     cases kq with
     | zero => exact absurd HA.out (by simp [Z3.j2])
     | succ kj9 =>
      have H := HA.out
      clear HA
      simp only [Z3.j2] at H
      have HC35 := am_ H; clear H
      go_upto_block 4 with (fail)
      go_cut [] (fun wc => ∃ (kq : Nat) (x380001_34 : Int), Aside0 (Z3.j4 kq a0 x5_1 l1 (l1.length : Int) x14_1 x380000_9 x380001_34 = some r) ∧ Aside0 (kq ≤ kj9) ∧ Aside0 (Kd.R Kd.bool 4 wc w.heap.size (fun _ => True) v373 x5_1) ∧ Aside0 (wc.heap[gb379]? = some (.cells #[.int .i64 x380000_9, .int .i64 x380001_34] 46 (0, 0))) ∧ Aside0 (Below w.heap.size w wc))
      case first =>
       have H := HC35.out
       clear HC35
       have H' := am_ H
       clear H
       go_wp2
       go_loopg [] kj9 (fun kq w' => ∃ (x380001_3 : Int), Aside0 (Z3.l2 kq a0 x5_1 l1 (l1.length : Int) x14_1 x380000_9 x380001_3 = some r) ∧ Aside0 (kq ≤ kj9) ∧ Aside0 (Kd.R Kd.bool 4 w' w.heap.size (fun _ => True) v373 x5_1) ∧ Aside0 (w'.heap[gb379]? = some (.cells #[.int .i64 x380000_9, .int .i64 x380001_3] 46 (0, 0))) ∧ Aside0 (Below w.heap.size w w'))
       case atStart => exact ⟨(((rd_T46 l1 x14_1).f1)), H', ⟨Nat.le_refl _⟩, ⟨rr_ HO_5.out⟩, ⟨bk_ BK379.out⟩, ⟨bs_ HB.out GE379.out⟩⟩
       case round =>
        clear H'; (try clear c1); (try clear p1); (try clear q1); (try clear hx1); (try clear c2); (try clear p2); (try clear q2); (try clear hx2); (try clear c3); (try clear c3b0); (try clear c3b1); (try clear p3); (try clear q3); (try clear hx3); (try clear c4); (try clear c4b0); (try clear c4b1); (try clear p6); (try clear c7); (try clear c7b0); (try clear c8); (try clear c8b0); (try clear c9); (try clear c9b0); (try clear c13); (try clear c13b0); (try clear c15); (try clear c15b0); (try clear c16); (try clear c16b0); (try clear p17); (try clear q17); (try clear hx17); (try clear c19); (try clear c20); (try clear c20b0); (try clear c21); (try clear c21b0); (try clear p22); (try clear q22); (try clear hx22); (try clear c24); (try clear c27); (try clear c31); (try clear hcz12_0); (try clear hcz12_1); (try clear hcz25_0); (try clear hcz25_1); (try clear hcz28_0); (try clear hcz28_1); (try clear hcz29_0); (try clear hcz29_1); (try clear hcz32_0); (try clear hcz32_1); (try clear hcz33_0); (try clear hcz33_1); (try clear hcz34_0); (try clear hcz34_1); (try clear hfz12_0); (try clear hfz12_1); (try clear hfz25_0); (try clear hfz25_1); (try clear hfz28_0); (try clear hfz28_1); (try clear hfz29_0); (try clear hfz29_1); (try clear hfz32_0); (try clear hfz32_1); (try clear hfz33_0); (try clear hfz33_1); (try clear hfz34_0); (try clear hfz34_1); (try clear hx378_0); (try clear hx378_1); (try clear p1); (try clear p17); (try clear p2); (try clear p22); (try clear p3); (try clear p378); (try clear p6); (try clear q1); (try clear q17); (try clear q2); (try clear q22); (try clear q3); (try clear q378); obtain ⟨x380001_3, HA, HK3, HO_5, BK379, HB⟩ := hrel
        cases gk with
        | zero => exact absurd HA.out (by simp [Z3.l2])
        | succ k3 =>
         have H := HA.out
         clear HA
         simp only [Z3.l2] at H
         by_cases c36 : x380001_3 < (a0.size : Int)
         ·rw [if_pos c36] at H
          have c36b0 := decide_eq_true c36; clear c36
          (first | rw [c36b0] | (simp only [i64_w, i32_w]; rw [c36b0]) | skip)
          by_cases c37 : 0 ≤ x380001_3
          case neg => exact (nn_ c37 H).elim
          rw [if_pos c37] at H; have c37b0 := decide_eq_true c37; clear c37; replace H := Option.bind_eq_some_iff.mp H; obtain ⟨t384, A390, H⟩ := H; have A39 := am_ A390; clear A390
          by_cases c40 : t384 = true
          ·subst c40
           have H1 : (if 0 ≤ (wrap64 (x380001_3 - 1)) then (if (wrap64 (x380001_3 - 1)) < (a0.size : Int) then ((Z30.f (bt a0 (wrap64 (x380001_3 - 1)))).bind fun t385 => (if t385 = true then (Z3.l2 k3 a0 x5_1 l1 (l1.length : Int) x14_1 x380000_9 (wrap64 (x380001_3 + 1))) else ((Z38.f a0 x380001_3).bind fun t386 => (if t386 = true then (Z3.j4 k3 a0 x5_1 l1 (l1.length : Int) x14_1 x380000_9 x380001_3) else (Z3.l2 k3 a0 x5_1 l1 (l1.length : Int) x14_1 x380000_9 (wrap64 (x380001_3 + 1))))))) else (none)) else (none)) = some r := by rw [if_pos rfl] at H; exact H
           clear H
           have H := H1
           clear H1
           obtain ⟨ji41, hji41⟩ : ∃ j_ : Int, (wrap64 (x380001_3 - 1)) = j_ := ⟨_, rfl⟩
           replace H : (if 0 ≤ (ji41) then (if (ji41) < (a0.size : Int) then ((Z30.f (bt a0 (ji41))).bind fun t385 => (if t385 = true then (Z3.l2 k3 a0 x5_1 l1 (l1.length : Int) x14_1 x380000_9 (wrap64 (x380001_3 + 1))) else ((Z38.f a0 x380001_3).bind fun t386 => (if t386 = true then (Z3.j4 k3 a0 x5_1 l1 (l1.length : Int) x14_1 x380000_9 x380001_3) else (Z3.l2 k3 a0 x5_1 l1 (l1.length : Int) x14_1 x380000_9 (wrap64 (x380001_3 + 1))))))) else (none)) else (none)) = some r := by first | (rw [hji41] at H; exact H) | (simp only [hji41] at H ⊢; exact H)
           (try rw [hji41] at A39)
           have hji41w : (IntKind.i64.wrap (x380001_3 - 1)) = ji41 := (i64_w _).trans hji41
           by_cases c42 : 0 ≤ (ji41)
           case neg => exact (nn_ c42 H).elim
           rw [if_pos c42] at H; have c42b0 := decide_eq_true c42; clear c42
           by_cases c43 : (ji41) < (a0.size : Int)
           case neg => exact (nn_ c43 H).elim
           rw [if_pos c43] at H; have c43b0 := decide_eq_true c43; clear c43; replace H := Option.bind_eq_some_iff.mp H; obtain ⟨t385, A450, H⟩ := H; have A45 := am_ A450; clear A450
           by_cases c46 : t385 = true
           ·subst c46
            have H1 : (Z3.l2 k3 a0 x5_1 l1 (l1.length : Int) x14_1 x380000_9 (wrap64 (x380001_3 + 1))) = some r := by rw [if_pos rfl] at H; exact H
            clear H
            have H := H1
            clear H1
            have H' := am_ H
            clear H
            have hcz47_0 : wr.cell? ⟨gb379, 0, none⟩ = some (.int .i64 x380000_9) := (blk_cell BK379.out 0).trans rfl
            have hcz47_1 : wr.cell? ⟨gb379, 1, none⟩ = some (.int .i64 x380001_3) := (blk_cell BK379.out 1).trans rfl
            have hfz47_0 := blk_frozen BK379.out 0
            have hfz47_1 := blk_frozen BK379.out 1
            have p38 : 0 ≤ (x380001_3 : Int) := ode_; have q38 : x380001_3 < (a0.size : Int) := ode_
            have hx38 := bt_at a0 x380001_3
            replace p38 := eq_true p38; replace q38 := eq_true q38
            go_wp2_with (first | (go_at_call 69; (with_reducible refine (Z30.calls (bt a0 x380001_3) true _ A39.out).mono ?_); rintro e w' ⟨rfl, ⟨nd, rfl⟩⟩; (try (rw [drewN_self wr]; generalize hq_ : World.drewN wr _ = wr; have n0_ : Aside0 (Kd.R Kd.bool 4 wr w.heap.size (fun _ => True) v373 x5_1) := ⟨by rw [← hq_]; exact (rr_ HO_5.out)⟩; have n1_ : Aside0 (wr.heap[gb379]? = some (.cells #[.int .i64 x380000_9, .int .i64 x380001_3] 46 (0, 0))) := ⟨by rw [← hq_]; exact (bk_ BK379.out)⟩; have n2_ : Aside0 (Below w.heap.size w wr) := ⟨by rw [← hq_]; exact (bs_ HB.out GE379.out)⟩; clear HO_5 BK379 HB hq_; have HO_5 := n0_; have BK379 := n1_; have HB := n2_; clear n0_ n1_ n2_; clear hcz47_0 hcz47_1 hfz47_0 hfz47_1; have hcz47_0 : wr.cell? ⟨gb379, 0, none⟩ = some (.int .i64 x380000_9) := (blk_cell BK379.out 0).trans rfl; have hcz47_1 : wr.cell? ⟨gb379, 1, none⟩ = some (.int .i64 x380001_3) := (blk_cell BK379.out 1).trans rfl; have hfz47_0 := blk_frozen BK379.out 0; have hfz47_1 := blk_frozen BK379.out 1)); have p44 : 0 ≤ ((ji41) : Int) := ode_; have q44 : (ji41) < (a0.size : Int) := ode_; have hx44 := bt_at a0 (ji41); replace p44 := eq_true p44; replace q44 := eq_true q44) | (go_at_call 69; (with_reducible refine (Z30.calls (bt a0 (ji41)) true _ A45.out).mono ?_); rintro e w' ⟨rfl, ⟨nd, rfl⟩⟩; (try (rw [drewN_self wr]; generalize hq_ : World.drewN wr _ = wr; have n0_ : Aside0 (Kd.R Kd.bool 4 wr w.heap.size (fun _ => True) v373 x5_1) := ⟨by rw [← hq_]; exact (rr_ HO_5.out)⟩; have n1_ : Aside0 (wr.heap[gb379]? = some (.cells #[.int .i64 x380000_9, .int .i64 x380001_3] 46 (0, 0))) := ⟨by rw [← hq_]; exact (bk_ BK379.out)⟩; have n2_ : Aside0 (Below w.heap.size w wr) := ⟨by rw [← hq_]; exact (bs_ HB.out GE379.out)⟩; clear HO_5 BK379 HB hq_; have HO_5 := n0_; have BK379 := n1_; have HB := n2_; clear n0_ n1_ n2_; clear hcz47_0 hcz47_1 hfz47_0 hfz47_1; have hcz47_0 : wr.cell? ⟨gb379, 0, none⟩ = some (.int .i64 x380000_9) := (blk_cell BK379.out 0).trans rfl; have hcz47_1 : wr.cell? ⟨gb379, 1, none⟩ = some (.int .i64 x380001_3) := (blk_cell BK379.out 1).trans rfl; have hfz47_0 := blk_frozen BK379.out 0; have hfz47_1 := blk_frozen BK379.out 1))))
            go_roundg k3
            case measure => have := HK1.out; have := HJ9.out; have := HK3.out; omega
            case rel => exact ⟨(wrap64 (x380001_3 + 1)), H', ⟨by have := HK1.out; have := HJ9.out; have := HK3.out; omega⟩, ⟨by (with_reducible repeat (first | apply r1_ | apply r2_ | apply r3_)); exact Kd.R_mono (Kd.R_far (p := ⟨gb379, 1, none⟩) (Kd.R_types HO_5.out BK379.out (by decide)) (fun _ hk => hk.2) (.int .i64 (wrap64 (x380001_3 + 1)))) (fun _ hk => trivial)⟩, ⟨by (with_reducible repeat (first | refine blk_drewN ?_ _ | refine blk_drew ?_ | refine blk_alloc ?_ _)); refine blk_put (cs := #[.int .i64 x380000_9, .int .i64 x380001_3]) ?_ 1 _ rfl; (with_reducible repeat (first | refine blk_drewN ?_ _ | refine blk_drew ?_ | refine blk_alloc ?_ _)); exact BK379.out⟩, ⟨bs_ HB.out GE379.out⟩⟩
           ·replace c46 := Bool.eq_false_iff.mpr c46
            subst c46
            have H1 : ((Z38.f a0 x380001_3).bind fun t386 => (if t386 = true then (Z3.j4 k3 a0 x5_1 l1 (l1.length : Int) x14_1 x380000_9 x380001_3) else (Z3.l2 k3 a0 x5_1 l1 (l1.length : Int) x14_1 x380000_9 (wrap64 (x380001_3 + 1))))) = some r := by rw [if_neg (show ¬ (false = true) by decide)] at H; exact H
            clear H
            have H := H1
            clear H1; replace H := Option.bind_eq_some_iff.mp H; obtain ⟨t386, A480, H⟩ := H; have A48 := am_ A480; clear A480
            by_cases c49 : t386 = true
            ·subst c49
             have H1 : (Z3.j4 k3 a0 x5_1 l1 (l1.length : Int) x14_1 x380000_9 x380001_3) = some r := by rw [if_pos rfl] at H; exact H
             clear H
             have H := H1
             clear H1
             have H' := am_ H
             clear H
             have hcz50_0 : wr.cell? ⟨gb379, 0, none⟩ = some (.int .i64 x380000_9) := (blk_cell BK379.out 0).trans rfl
             have hcz50_1 : wr.cell? ⟨gb379, 1, none⟩ = some (.int .i64 x380001_3) := (blk_cell BK379.out 1).trans rfl
             have hfz50_0 := blk_frozen BK379.out 0
             have hfz50_1 := blk_frozen BK379.out 1
             have p38 : 0 ≤ (x380001_3 : Int) := ode_; have q38 : x380001_3 < (a0.size : Int) := ode_
             have hx38 := bt_at a0 x380001_3
             replace p38 := eq_true p38; replace q38 := eq_true q38
             go_wp2_with (first | (go_at_call 69; (with_reducible refine (Z30.calls (bt a0 x380001_3) true _ A39.out).mono ?_); rintro e w' ⟨rfl, ⟨nd, rfl⟩⟩; have p44 : 0 ≤ ((ji41) : Int) := ode_; have q44 : (ji41) < (a0.size : Int) := ode_; have hx44 := bt_at a0 (ji41); replace p44 := eq_true p44; replace q44 := eq_true q44) | (go_at_call 69; (with_reducible refine (Z30.calls (bt a0 (ji41)) false _ A45.out).mono ?_); rintro e w' ⟨rfl, ⟨nd, rfl⟩⟩) | (go_at_call 70; (with_reducible refine (Z38.calls a0 x380001_3 true _ A48.out).mono ?_); rintro e w' ⟨rfl, ⟨nd, rfl⟩⟩))
             go_meet
             case rel => exact ⟨_, (x380001_3), H', ⟨by have := HK1.out; have := HJ9.out; have := HK3.out; first | omega | exact Nat.le_refl _⟩, ⟨rr_ HO_5.out⟩, ⟨bk_ BK379.out⟩, ⟨bs_ HB.out GE379.out⟩⟩
            ·replace c49 := Bool.eq_false_iff.mpr c49
             subst c49
             have H1 : (Z3.l2 k3 a0 x5_1 l1 (l1.length : Int) x14_1 x380000_9 (wrap64 (x380001_3 + 1))) = some r := by rw [if_neg (show ¬ (false = true) by decide)] at H; exact H
             clear H
             have H := H1
             clear H1
             have H' := am_ H
             clear H
             have hcz51_0 : wr.cell? ⟨gb379, 0, none⟩ = some (.int .i64 x380000_9) := (blk_cell BK379.out 0).trans rfl
             have hcz51_1 : wr.cell? ⟨gb379, 1, none⟩ = some (.int .i64 x380001_3) := (blk_cell BK379.out 1).trans rfl
             have hfz51_0 := blk_frozen BK379.out 0
             have hfz51_1 := blk_frozen BK379.out 1
             have p38 : 0 ≤ (x380001_3 : Int) := ode_; have q38 : x380001_3 < (a0.size : Int) := ode_
             have hx38 := bt_at a0 x380001_3
             replace p38 := eq_true p38; replace q38 := eq_true q38
             go_wp2_with (first | (go_at_call 69; (with_reducible refine (Z30.calls (bt a0 x380001_3) true _ A39.out).mono ?_); rintro e w' ⟨rfl, ⟨nd, rfl⟩⟩; (try (rw [drewN_self wr]; generalize hq_ : World.drewN wr _ = wr; have n0_ : Aside0 (Kd.R Kd.bool 4 wr w.heap.size (fun _ => True) v373 x5_1) := ⟨by rw [← hq_]; exact (rr_ HO_5.out)⟩; have n1_ : Aside0 (wr.heap[gb379]? = some (.cells #[.int .i64 x380000_9, .int .i64 x380001_3] 46 (0, 0))) := ⟨by rw [← hq_]; exact (bk_ BK379.out)⟩; have n2_ : Aside0 (Below w.heap.size w wr) := ⟨by rw [← hq_]; exact (bs_ HB.out GE379.out)⟩; clear HO_5 BK379 HB hq_; have HO_5 := n0_; have BK379 := n1_; have HB := n2_; clear n0_ n1_ n2_; clear hcz51_0 hcz51_1 hfz51_0 hfz51_1; have hcz51_0 : wr.cell? ⟨gb379, 0, none⟩ = some (.int .i64 x380000_9) := (blk_cell BK379.out 0).trans rfl; have hcz51_1 : wr.cell? ⟨gb379, 1, none⟩ = some (.int .i64 x380001_3) := (blk_cell BK379.out 1).trans rfl; have hfz51_0 := blk_frozen BK379.out 0; have hfz51_1 := blk_frozen BK379.out 1)); have p44 : 0 ≤ ((ji41) : Int) := ode_; have q44 : (ji41) < (a0.size : Int) := ode_; have hx44 := bt_at a0 (ji41); replace p44 := eq_true p44; replace q44 := eq_true q44) | (go_at_call 69; (with_reducible refine (Z30.calls (bt a0 (ji41)) false _ A45.out).mono ?_); rintro e w' ⟨rfl, ⟨nd, rfl⟩⟩; (try (rw [drewN_self wr]; generalize hq_ : World.drewN wr _ = wr; have n0_ : Aside0 (Kd.R Kd.bool 4 wr w.heap.size (fun _ => True) v373 x5_1) := ⟨by rw [← hq_]; exact (rr_ HO_5.out)⟩; have n1_ : Aside0 (wr.heap[gb379]? = some (.cells #[.int .i64 x380000_9, .int .i64 x380001_3] 46 (0, 0))) := ⟨by rw [← hq_]; exact (bk_ BK379.out)⟩; have n2_ : Aside0 (Below w.heap.size w wr) := ⟨by rw [← hq_]; exact (bs_ HB.out GE379.out)⟩; clear HO_5 BK379 HB hq_; have HO_5 := n0_; have BK379 := n1_; have HB := n2_; clear n0_ n1_ n2_; clear hcz51_0 hcz51_1 hfz51_0 hfz51_1; have hcz51_0 : wr.cell? ⟨gb379, 0, none⟩ = some (.int .i64 x380000_9) := (blk_cell BK379.out 0).trans rfl; have hcz51_1 : wr.cell? ⟨gb379, 1, none⟩ = some (.int .i64 x380001_3) := (blk_cell BK379.out 1).trans rfl; have hfz51_0 := blk_frozen BK379.out 0; have hfz51_1 := blk_frozen BK379.out 1))) | (go_at_call 70; (with_reducible refine (Z38.calls a0 x380001_3 false _ A48.out).mono ?_); rintro e w' ⟨rfl, ⟨nd, rfl⟩⟩; (try (rw [drewN_self wr]; generalize hq_ : World.drewN wr _ = wr; have n0_ : Aside0 (Kd.R Kd.bool 4 wr w.heap.size (fun _ => True) v373 x5_1) := ⟨by rw [← hq_]; exact (rr_ HO_5.out)⟩; have n1_ : Aside0 (wr.heap[gb379]? = some (.cells #[.int .i64 x380000_9, .int .i64 x380001_3] 46 (0, 0))) := ⟨by rw [← hq_]; exact (bk_ BK379.out)⟩; have n2_ : Aside0 (Below w.heap.size w wr) := ⟨by rw [← hq_]; exact (bs_ HB.out GE379.out)⟩; clear HO_5 BK379 HB hq_; have HO_5 := n0_; have BK379 := n1_; have HB := n2_; clear n0_ n1_ n2_; clear hcz51_0 hcz51_1 hfz51_0 hfz51_1; have hcz51_0 : wr.cell? ⟨gb379, 0, none⟩ = some (.int .i64 x380000_9) := (blk_cell BK379.out 0).trans rfl; have hcz51_1 : wr.cell? ⟨gb379, 1, none⟩ = some (.int .i64 x380001_3) := (blk_cell BK379.out 1).trans rfl; have hfz51_0 := blk_frozen BK379.out 0; have hfz51_1 := blk_frozen BK379.out 1))))
             go_roundg k3
             case measure => have := HK1.out; have := HJ9.out; have := HK3.out; omega
             case rel => exact ⟨(wrap64 (x380001_3 + 1)), H', ⟨by have := HK1.out; have := HJ9.out; have := HK3.out; omega⟩, ⟨by (with_reducible repeat (first | apply r1_ | apply r2_ | apply r3_)); exact Kd.R_mono (Kd.R_far (p := ⟨gb379, 1, none⟩) (Kd.R_types HO_5.out BK379.out (by decide)) (fun _ hk => hk.2) (.int .i64 (wrap64 (x380001_3 + 1)))) (fun _ hk => trivial)⟩, ⟨by (with_reducible repeat (first | refine blk_drewN ?_ _ | refine blk_drew ?_ | refine blk_alloc ?_ _)); refine blk_put (cs := #[.int .i64 x380000_9, .int .i64 x380001_3]) ?_ 1 _ rfl; (with_reducible repeat (first | refine blk_drewN ?_ _ | refine blk_drew ?_ | refine blk_alloc ?_ _)); exact BK379.out⟩, ⟨bs_ HB.out GE379.out⟩⟩
          ·replace c40 := Bool.eq_false_iff.mpr c40
           subst c40
           have H1 : ((Z38.f a0 x380001_3).bind fun t387 => (if t387 = true then (Z3.j4 k3 a0 x5_1 l1 (l1.length : Int) x14_1 x380000_9 x380001_3) else (Z3.l2 k3 a0 x5_1 l1 (l1.length : Int) x14_1 x380000_9 (wrap64 (x380001_3 + 1))))) = some r := by rw [if_neg (show ¬ (false = true) by decide)] at H; exact H
           clear H
           have H := H1
           clear H1; replace H := Option.bind_eq_some_iff.mp H; obtain ⟨t387, A520, H⟩ := H; have A52 := am_ A520; clear A520
           by_cases c53 : t387 = true
           ·subst c53
            have H1 : (Z3.j4 k3 a0 x5_1 l1 (l1.length : Int) x14_1 x380000_9 x380001_3) = some r := by rw [if_pos rfl] at H; exact H
            clear H
            have H := H1
            clear H1
            have H' := am_ H
            clear H
            have hcz54_0 : wr.cell? ⟨gb379, 0, none⟩ = some (.int .i64 x380000_9) := (blk_cell BK379.out 0).trans rfl
            have hcz54_1 : wr.cell? ⟨gb379, 1, none⟩ = some (.int .i64 x380001_3) := (blk_cell BK379.out 1).trans rfl
            have hfz54_0 := blk_frozen BK379.out 0
            have hfz54_1 := blk_frozen BK379.out 1
            have p38 : 0 ≤ (x380001_3 : Int) := ode_; have q38 : x380001_3 < (a0.size : Int) := ode_
            have hx38 := bt_at a0 x380001_3
            replace p38 := eq_true p38; replace q38 := eq_true q38
            go_wp2_with (first | (go_at_call 69; (with_reducible refine (Z30.calls (bt a0 x380001_3) false _ A39.out).mono ?_); rintro e w' ⟨rfl, ⟨nd, rfl⟩⟩) | (go_at_call 70; (with_reducible refine (Z38.calls a0 x380001_3 true _ A52.out).mono ?_); rintro e w' ⟨rfl, ⟨nd, rfl⟩⟩))
            go_meet
            case rel => exact ⟨_, (x380001_3), H', ⟨by have := HK1.out; have := HJ9.out; have := HK3.out; first | omega | exact Nat.le_refl _⟩, ⟨rr_ HO_5.out⟩, ⟨bk_ BK379.out⟩, ⟨bs_ HB.out GE379.out⟩⟩
           ·replace c53 := Bool.eq_false_iff.mpr c53
            subst c53
            have H1 : (Z3.l2 k3 a0 x5_1 l1 (l1.length : Int) x14_1 x380000_9 (wrap64 (x380001_3 + 1))) = some r := by rw [if_neg (show ¬ (false = true) by decide)] at H; exact H
            clear H
            have H := H1
            clear H1
            have H' := am_ H
            clear H
            have hcz55_0 : wr.cell? ⟨gb379, 0, none⟩ = some (.int .i64 x380000_9) := (blk_cell BK379.out 0).trans rfl
            have hcz55_1 : wr.cell? ⟨gb379, 1, none⟩ = some (.int .i64 x380001_3) := (blk_cell BK379.out 1).trans rfl
            have hfz55_0 := blk_frozen BK379.out 0
            have hfz55_1 := blk_frozen BK379.out 1
            have p38 : 0 ≤ (x380001_3 : Int) := ode_; have q38 : x380001_3 < (a0.size : Int) := ode_
            have hx38 := bt_at a0 x380001_3
            replace p38 := eq_true p38; replace q38 := eq_true q38
            go_wp2_with (first | (go_at_call 69; (with_reducible refine (Z30.calls (bt a0 x380001_3) false _ A39.out).mono ?_); rintro e w' ⟨rfl, ⟨nd, rfl⟩⟩; (try (rw [drewN_self wr]; generalize hq_ : World.drewN wr _ = wr; have n0_ : Aside0 (Kd.R Kd.bool 4 wr w.heap.size (fun _ => True) v373 x5_1) := ⟨by rw [← hq_]; exact (rr_ HO_5.out)⟩; have n1_ : Aside0 (wr.heap[gb379]? = some (.cells #[.int .i64 x380000_9, .int .i64 x380001_3] 46 (0, 0))) := ⟨by rw [← hq_]; exact (bk_ BK379.out)⟩; have n2_ : Aside0 (Below w.heap.size w wr) := ⟨by rw [← hq_]; exact (bs_ HB.out GE379.out)⟩; clear HO_5 BK379 HB hq_; have HO_5 := n0_; have BK379 := n1_; have HB := n2_; clear n0_ n1_ n2_; clear hcz55_0 hcz55_1 hfz55_0 hfz55_1; have hcz55_0 : wr.cell? ⟨gb379, 0, none⟩ = some (.int .i64 x380000_9) := (blk_cell BK379.out 0).trans rfl; have hcz55_1 : wr.cell? ⟨gb379, 1, none⟩ = some (.int .i64 x380001_3) := (blk_cell BK379.out 1).trans rfl; have hfz55_0 := blk_frozen BK379.out 0; have hfz55_1 := blk_frozen BK379.out 1))) | (go_at_call 70; (with_reducible refine (Z38.calls a0 x380001_3 false _ A52.out).mono ?_); rintro e w' ⟨rfl, ⟨nd, rfl⟩⟩; (try (rw [drewN_self wr]; generalize hq_ : World.drewN wr _ = wr; have n0_ : Aside0 (Kd.R Kd.bool 4 wr w.heap.size (fun _ => True) v373 x5_1) := ⟨by rw [← hq_]; exact (rr_ HO_5.out)⟩; have n1_ : Aside0 (wr.heap[gb379]? = some (.cells #[.int .i64 x380000_9, .int .i64 x380001_3] 46 (0, 0))) := ⟨by rw [← hq_]; exact (bk_ BK379.out)⟩; have n2_ : Aside0 (Below w.heap.size w wr) := ⟨by rw [← hq_]; exact (bs_ HB.out GE379.out)⟩; clear HO_5 BK379 HB hq_; have HO_5 := n0_; have BK379 := n1_; have HB := n2_; clear n0_ n1_ n2_; clear hcz55_0 hcz55_1 hfz55_0 hfz55_1; have hcz55_0 : wr.cell? ⟨gb379, 0, none⟩ = some (.int .i64 x380000_9) := (blk_cell BK379.out 0).trans rfl; have hcz55_1 : wr.cell? ⟨gb379, 1, none⟩ = some (.int .i64 x380001_3) := (blk_cell BK379.out 1).trans rfl; have hfz55_0 := blk_frozen BK379.out 0; have hfz55_1 := blk_frozen BK379.out 1))))
            go_roundg k3
            case measure => have := HK1.out; have := HJ9.out; have := HK3.out; omega
            case rel => exact ⟨(wrap64 (x380001_3 + 1)), H', ⟨by have := HK1.out; have := HJ9.out; have := HK3.out; omega⟩, ⟨by (with_reducible repeat (first | apply r1_ | apply r2_ | apply r3_)); exact Kd.R_mono (Kd.R_far (p := ⟨gb379, 1, none⟩) (Kd.R_types HO_5.out BK379.out (by decide)) (fun _ hk => hk.2) (.int .i64 (wrap64 (x380001_3 + 1)))) (fun _ hk => trivial)⟩, ⟨by (with_reducible repeat (first | refine blk_drewN ?_ _ | refine blk_drew ?_ | refine blk_alloc ?_ _)); refine blk_put (cs := #[.int .i64 x380000_9, .int .i64 x380001_3]) ?_ 1 _ rfl; (with_reducible repeat (first | refine blk_drewN ?_ _ | refine blk_drew ?_ | refine blk_alloc ?_ _)); exact BK379.out⟩, ⟨bs_ HB.out GE379.out⟩⟩
         ·rw [if_neg c36] at H
          have c36b0 : decide (x380001_3 < (a0.size : Int)) = false := decide_eq_false c36
          clear c36
          (first | rw [c36b0] | (simp only [i64_w, i32_w]; rw [c36b0]) | skip)
          have H' := am_ H
          clear H
          have hcz56_0 : wr.cell? ⟨gb379, 0, none⟩ = some (.int .i64 x380000_9) := (blk_cell BK379.out 0).trans rfl
          have hcz56_1 : wr.cell? ⟨gb379, 1, none⟩ = some (.int .i64 x380001_3) := (blk_cell BK379.out 1).trans rfl
          have hfz56_0 := blk_frozen BK379.out 0
          have hfz56_1 := blk_frozen BK379.out 1
          go_wp2
          go_meet
          case rel => exact ⟨_, (x380001_3), H', ⟨by have := HK1.out; have := HJ9.out; have := HK3.out; first | omega | exact Nat.le_refl _⟩, ⟨rr_ HO_5.out⟩, ⟨bk_ BK379.out⟩, ⟨bs_ HB.out GE379.out⟩⟩
      case rest =>
       clear HC35; (try clear c1); (try clear p1); (try clear q1); (try clear hx1); (try clear c2); (try clear p2); (try clear q2); (try clear hx2); (try clear c3); (try clear c3b0); (try clear c3b1); (try clear p3); (try clear q3); (try clear hx3); (try clear c4); (try clear c4b0); (try clear c4b1); (try clear p4); (try clear q4); (try clear hx4); (try clear c5); (try clear p6); (try clear c7); (try clear c7b0); (try clear c8); (try clear c8b0); (try clear c9); (try clear c9b0); (try clear c13); (try clear c13b0); (try clear c15); (try clear c15b0); (try clear c16); (try clear c16b0); (try clear p17); (try clear q17); (try clear hx17); (try clear c19); (try clear c20); (try clear c20b0); (try clear c21); (try clear c21b0); (try clear p22); (try clear q22); (try clear hx22); (try clear c24); (try clear c27); (try clear c31); (try clear c36); (try clear c36b0); (try clear c37); (try clear c37b0); (try clear p37); (try clear q37); (try clear hx37); (try clear p38); (try clear q38); (try clear hx38); (try clear c40); (try clear c42); (try clear c42b0); (try clear c43); (try clear c43b0); (try clear p44); (try clear q44); (try clear hx44); (try clear c46); (try clear c49); (try clear c53); (try clear hcz12_0); (try clear hcz12_1); (try clear hcz25_0); (try clear hcz25_1); (try clear hcz28_0); (try clear hcz28_1); (try clear hcz29_0); (try clear hcz29_1); (try clear hcz32_0); (try clear hcz32_1); (try clear hcz33_0); (try clear hcz33_1); (try clear hcz34_0); (try clear hcz34_1); (try clear hcz47_0); (try clear hcz47_1); (try clear hcz50_0); (try clear hcz50_1); (try clear hcz51_0); (try clear hcz51_1); (try clear hcz54_0); (try clear hcz54_1); (try clear hcz55_0); (try clear hcz55_1); (try clear hcz56_0); (try clear hcz56_1); (try clear hfz12_0); (try clear hfz12_1); (try clear hfz25_0); (try clear hfz25_1); (try clear hfz28_0); (try clear hfz28_1); (try clear hfz29_0); (try clear hfz29_1); (try clear hfz32_0); (try clear hfz32_1); (try clear hfz33_0); (try clear hfz33_1); (try clear hfz34_0); (try clear hfz34_1); (try clear hfz47_0); (try clear hfz47_1); (try clear hfz50_0); (try clear hfz50_1); (try clear hfz51_0); (try clear hfz51_1); (try clear hfz54_0); (try clear hfz54_1); (try clear hfz55_0); (try clear hfz55_1); (try clear hfz56_0); (try clear hfz56_1); (try clear hx378_0); (try clear hx378_1); (try clear p1); (try clear p17); (try clear p2); (try clear p22); (try clear p3); (try clear p378); (try clear p38); (try clear p44); (try clear p6); (try clear q1); (try clear q17); (try clear q2); (try clear q22); (try clear q3); (try clear q378); (try clear q38); (try clear q44); obtain ⟨kq, x380001_34, HA, HJ34, HO_5, BK379, HB⟩ := hcut
       cases kq with
       | zero => exact absurd HA.out (by simp [Z3.j4])
       | succ kj34 =>
        have H := HA.out
        clear HA
        simp only [Z3.j4] at H
        have H' := am_ H
        clear H
        have hcz57_0 : wc.cell? ⟨gb379, 0, none⟩ = some (.int .i64 x380000_9) := (blk_cell BK379.out 0).trans rfl
        have hcz57_1 : wc.cell? ⟨gb379, 1, none⟩ = some (.int .i64 x380001_34) := (blk_cell BK379.out 1).trans rfl
        have hfz57_0 := blk_frozen BK379.out 0
        have hfz57_1 := blk_frozen BK379.out 1
        go_wp2
        go_loopg [8] kj34 (fun kq v8 w' => ∃ (x5_4 : List Bool) (x8_4 : Int), v8 = .int .i64 x8_4 ∧ Aside0 (Z3.l3 kq a0 x5_4 x8_4 l1 (l1.length : Int) x14_1 x380000_9 x380001_34 = some r) ∧ Aside0 (kq ≤ kj34) ∧ Aside0 (Kd.R Kd.bool 4 w' w.heap.size (fun _ => True) v373 x5_4) ∧ Aside0 (w'.heap[gb379]? = some (.cells #[.int .i64 x380000_9, .int .i64 x380001_34] 46 (0, 0))) ∧ Aside0 (Below w.heap.size w w'))
        case atStart => exact ⟨(x5_1), (x380000_9), tr_, H', ⟨Nat.le_refl _⟩, ⟨rr_ HO_5.out⟩, ⟨bk_ BK379.out⟩, ⟨bs_ HB.out GE379.out⟩⟩
        case round =>
         clear H'; (try clear c1); (try clear p1); (try clear q1); (try clear hx1); (try clear c2); (try clear p2); (try clear q2); (try clear hx2); (try clear c3); (try clear c3b0); (try clear c3b1); (try clear p3); (try clear q3); (try clear hx3); (try clear c4); (try clear c4b0); (try clear c4b1); (try clear p4); (try clear q4); (try clear hx4); (try clear c5); (try clear p6); (try clear c7); (try clear c7b0); (try clear c8); (try clear c8b0); (try clear c9); (try clear c9b0); (try clear c13); (try clear c13b0); (try clear c15); (try clear c15b0); (try clear c16); (try clear c16b0); (try clear p17); (try clear q17); (try clear hx17); (try clear c19); (try clear c20); (try clear c20b0); (try clear c21); (try clear c21b0); (try clear p22); (try clear q22); (try clear hx22); (try clear c24); (try clear c27); (try clear c31); (try clear c36); (try clear c36b0); (try clear c37); (try clear c37b0); (try clear p37); (try clear q37); (try clear hx37); (try clear p38); (try clear q38); (try clear hx38); (try clear c40); (try clear c42); (try clear c42b0); (try clear c43); (try clear c43b0); (try clear p44); (try clear q44); (try clear hx44); (try clear c46); (try clear c49); (try clear c53); (try clear hcz12_0); (try clear hcz12_1); (try clear hcz25_0); (try clear hcz25_1); (try clear hcz28_0); (try clear hcz28_1); (try clear hcz29_0); (try clear hcz29_1); (try clear hcz32_0); (try clear hcz32_1); (try clear hcz33_0); (try clear hcz33_1); (try clear hcz34_0); (try clear hcz34_1); (try clear hcz47_0); (try clear hcz47_1); (try clear hcz50_0); (try clear hcz50_1); (try clear hcz51_0); (try clear hcz51_1); (try clear hcz54_0); (try clear hcz54_1); (try clear hcz55_0); (try clear hcz55_1); (try clear hcz56_0); (try clear hcz56_1); (try clear hcz57_0); (try clear hcz57_1); (try clear hfz12_0); (try clear hfz12_1); (try clear hfz25_0); (try clear hfz25_1); (try clear hfz28_0); (try clear hfz28_1); (try clear hfz29_0); (try clear hfz29_1); (try clear hfz32_0); (try clear hfz32_1); (try clear hfz33_0); (try clear hfz33_1); (try clear hfz34_0); (try clear hfz34_1); (try clear hfz47_0); (try clear hfz47_1); (try clear hfz50_0); (try clear hfz50_1); (try clear hfz51_0); (try clear hfz51_1); (try clear hfz54_0); (try clear hfz54_1); (try clear hfz55_0); (try clear hfz55_1); (try clear hfz56_0); (try clear hfz56_1); (try clear hfz57_0); (try clear hfz57_1); (try clear hx378_0); (try clear hx378_1); (try clear p1); (try clear p17); (try clear p2); (try clear p22); (try clear p3); (try clear p37); (try clear p378); (try clear p38); (try clear p4); (try clear p44); (try clear p6); (try clear q1); (try clear q17); (try clear q2); (try clear q22); (try clear q3); (try clear q37); (try clear q378); (try clear q38); (try clear q4); (try clear q44); obtain ⟨x5_4, x8_4, rfl, HA, HK4, HO_5, BK379, HB⟩ := hrel
         cases gk with
         | zero => exact absurd HA.out (by simp [Z3.l3])
         | succ k4 =>
          have H := HA.out
          clear HA
          simp only [Z3.l3] at H
          by_cases c58 : x8_4 < x380001_34
          ·rw [if_pos c58] at H
           have c58b0 := decide_eq_true c58; clear c58
           by_cases c59 : 0 ≤ x8_4
           case neg => exact (nn_ c59 H).elim
           rw [if_pos c59] at H; have c59b0 := decide_eq_true c59; clear c59
           by_cases c60 : x8_4 < (x5_4.length : Int)
           case neg => exact (nn_ c60 H).elim
           rw [if_pos c60] at H; have c60b0 := decide_eq_true c60; clear c60
           obtain ⟨y388, hy388⟩ : ∃ y_ : List Bool, y_ = (x5_4.set (x8_4 : Int).toNat true) := ⟨_, rfl⟩
           replace H : (Z3.l3 k4 a0 y388 (wrap64 (x8_4 + 1)) l1 (l1.length : Int) x14_1 x380000_9 x380001_34) = some r := by first | (rw [hy388]; with_reducible exact H) | (have H2_ := (Option.bind_some _ _).symm.trans H; rw [hy388]; with_reducible exact H2_) | (have H2_ := (Option.bind_some _ _).symm.trans H; with_reducible exact H2_) | with_reducible exact H | (rw [hy388]; exact H) | exact H
           have Ny388 := am_ hy388; clear hy388
           have H' := am_ H
           clear H
           have hcz62_0 : wr.cell? ⟨gb379, 0, none⟩ = some (.int .i64 x380000_9) := (blk_cell BK379.out 0).trans rfl
           have hcz62_1 : wr.cell? ⟨gb379, 1, none⟩ = some (.int .i64 x380001_34) := (blk_cell BK379.out 1).trans rfl
           have hfz62_0 := blk_frozen BK379.out 0
           have hfz62_1 := blk_frozen BK379.out 1
           have p61 : 0 ≤ (x8_4 : Int) := ode_; have q61 : (x8_4 : Int) < ((x5_4.length : Int) : Int) := ode_
           obtain ⟨go61, co61, eo61, gb61, gl61, cl61, HG61⟩ := Kd.R_form HO_5.out (by omega)
           (first | cases eo61 | (injection eo61 with ea_ en_ ec_; (first | subst ea_ | (injection ea_ with ea_; subst ea_)); subst ec_; clear en_))
           have GB61 := am_ gb61; have GG61 := am_ HG61; clear gb61 gl61 HG61
           obtain ⟨hx61_0, hf61_0⟩ := Kd.R_celln false HO_5.out (x8_4 : Int) p61 q61
           replace p61 := eq_true p61; replace q61 := eq_true q61
           have HP63 := Kd.R_putg HO_5.out (x8_4 : Int) true
           go_wp2_with (first | ((with_reducible refine gate_store (t := 4) (p := 88) rfl ?_); refine store_event (t := 4) (p := 88) (v := ?vo_w64) (w1 := (wr.setCell ⟨go61, (x8_4 : Int).toNat, none⟩ (.bool true))) ?hg ?ho ?hn ?hr ?_; (case ho => rfl); (case hg => rfl); (case hn => rfl); (case hr => first | (go_simp; done) | (go_simp; rfl)); intro w64 hw; have hg : wr.grownBy w64 (some go61) := (by rw [hw]; exact HP63.2); have hp_ : Kd.R Kd.bool 4 w64 w.heap.size (fun _ => True) (.slice (some ⟨go61, 0, none⟩) x5_4.length co61) y388 := (by rw [hw, Ny388.out]; exact HP63.1); clear HP63; have n0_ := am_ (hp_); have n1_ := am_ (blk_grown (g := gb379) (o := .cells #[.int .i64 x380000_9, .int .i64 x380001_34] 46 (0, 0)) (bk_ BK379.out) hg (Kd.R_ne HO_5.out BK379.out (by decide))); have n2_ := am_ ((by rw [hw]; exact below_set (HB.out) GB61.out : Below w.heap.size w w64)); clear HO_5; clear BK379; clear HB; have HO_5 := n0_; have BK379 := n1_; have HB := n2_; clear n0_ n1_ n2_; clear hg hw hp_))
           go_roundg k4
           case measure => have := HK1.out; have := HJ9.out; have := HJ34.out; have := HK4.out; omega
           case rel => exact ⟨(y388), (wrap64 (x8_4 + 1)), tr_, H', ⟨by have := HK1.out; have := HJ9.out; have := HJ34.out; have := HK4.out; omega⟩, ⟨rr_ HO_5.out⟩, ⟨bk_ BK379.out⟩, ⟨bs_ HB.out GE379.out⟩⟩
          ·rw [if_neg c58] at H
           have c58b0 : decide (x8_4 < x380001_34) = false := decide_eq_false c58
           clear c58
           have H' := am_ H
           clear H
           have hcz65_0 : wr.cell? ⟨gb379, 0, none⟩ = some (.int .i64 x380000_9) := (blk_cell BK379.out 0).trans rfl
           have hcz65_1 : wr.cell? ⟨gb379, 1, none⟩ = some (.int .i64 x380001_34) := (blk_cell BK379.out 1).trans rfl
           have hfz65_0 := blk_frozen BK379.out 0
           have hfz65_1 := blk_frozen BK379.out 1
           go_wp2
           go_roundg k4
           case measure => have := HK1.out; have := HJ9.out; have := HJ34.out; have := HK4.out; omega
           case rel => exact ⟨(x5_4), (wrap64 (x14_1 + 1)), tr_, H', ⟨by have := HK1.out; have := HJ9.out; have := HJ34.out; have := HK4.out; omega⟩, ⟨rr_ HO_5.out⟩, ⟨bs_ HB.out GE379.out⟩⟩
   ·rw [if_neg c7] at H
    have c7b0 : decide (x14_1 < (l1.length : Int)) = false := decide_eq_false c7
    clear c7; replace H := Option.bind_eq_some_iff.mp H; obtain ⟨t375, A660, H⟩ := H
    replace H : (some t375) = some r := H
    have A66 := am_ A660; clear A660
    obtain rfl := Option.some.inj H
    obtain ⟨Ao67, co67, eo67⟩ := Kd.R_slice HO_5.out
    subst eo67
    go_wp2_with (first | ((with_reducible refine gate_callee (f := 71) rfl ?_); refine goesL_ (some 91) rfl rfl Tryd.func71 (by kernel_rfl) rfl #[.slice Ao67 x5_1.length co67] rfl gl_ ?_; (with_reducible refine (Z10.calls k1 _ _ x5_1 t375 _ ?side1 ?side2 A66.out).mono ?_); (case side1 => exact cc_ (Kd.R_reads' HO_5.out).2.2); (case side2 => exact (Kd.R_reads' HO_5.out).2.1); rintro e w68 ⟨v376, rfl, ho0, hb⟩; refine ⟨_, rfl, ?_⟩; have n0_ := am_ (Kd.R_below (rr_ HO_5.out) hb); have n1_ := am_ (Kd.R_lower ho0 (below_size (bw_ HB.out))); have n2_ := am_ (below_step (bw_ HB.out) hb); clear HO_5; clear HB; have HO_5 := n0_; have HO377 := n1_; have HB := n2_; clear n0_ n1_ n2_; (try clear hb); (try clear hb2); (try clear hk); (try clear hi); (try clear ho0)))
    go_ret
    exact ⟨_, by first | rfl | (simp [errW_none, errW_some] <;> rfl) | (simp [*, errW_none, errW_some] <;> rfl), by (with_reducible repeat (first | apply r1_ | apply r2_ | apply r3_)); exact HO377.out, bw_ HB.out⟩
end Go.Proofs.YtolcpmdojlbhcaaDoor.Px
