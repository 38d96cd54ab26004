/- A part of the proof of textsCovered. No conditions. Laid by program over the kit's print and words. -/
import Derived.Test.YtolcpmdojlbhcaaDoorZyPxx0
import Derived.Test.YtolcpmdojlbhcaaDoorZyPxx2
namespace Go.Proofs.YtolcpmdojlbhcaaDoor.Px
open Go.RowKit Go.Proofs.YtolcpmdojlbhcaaDoor.GBase Go.Proofs.YtolcpmdojlbhcaaDoorW.PrintWords Go.Proofs.YtolcpmdojlbhcaaDoorW.PrintLast Go.Proofs.YtolcpmdojlbhcaaDoorW.PrintMore
attribute [local go_sem] str_leq max2_int min2_int max_two min_two max_three min_three max_four min_four
set_option linter.unusedVariables false
set_option linter.unusedSimpArgs false
set_option maxHeartbeats 8000000 in
set_option maxRecDepth 100000 in
theorem Z9.calls (k : Nat) (A0 : Option Addr) (c0 : Nat) (l0 : List (S46)) (a1 : Int) (r : Int) (w : World) (hr0 : Kd.C k46 w A0 l0.length l0) (hc0 : l0.length ≤ c0) (h : Z9.f k l0 a1 = some r) :
  Calls Tryd.prog 55 #[.slice A0 l0.length c0, .int .i64 a1] w fun e w' => e = .returned (.int .i64 r) ∧ Below w.heap.size w w' := by
 have hu46 := Tryd.underlying46
 have HR0 := am_ hr0; have HC0 := am_ hc0; clear hr0 hc0
 have HB := am_ (Below.refl w.heap.size w)
 have H : ((Z51.f a1 0 200000).bind fun t103 => ((Z19.f (!t103) 1).bind fun t104 => ((Z19.f (decide ((l0.length : Int) > 1000)) 2).bind fun t105 => ((Z13.f k (([t104, t105] : List Int))).bind fun t109 => (if t109 = 0 then (Z9.l0 k l0 a1 l0 (l0.length : Int) 0) else (some t109)))))) = some r := h
 clear h; replace H := Option.bind_eq_some_iff.mp H; obtain ⟨t103, A30, H⟩ := H; have A3 := am_ A30; clear A30; replace H := Option.bind_eq_some_iff.mp H; obtain ⟨t104, A40, H⟩ := H; have A4 := am_ A40; clear A40; replace H := Option.bind_eq_some_iff.mp H; obtain ⟨t105, A50, H⟩ := H; have A5 := am_ A50; clear A50
 obtain ⟨y106, hy106⟩ : ∃ y_ : List Int, y_ = (([t104, t105] : List Int)) := ⟨_, rfl⟩
 replace H : ((Z13.f k y106).bind fun t109 => (if t109 = 0 then (Z9.l0 k l0 a1 l0 (l0.length : Int) 0) else (some t109))) = some r := by first | (rw [hy106]; with_reducible exact H) | (have H2_ := (Option.bind_some _ _).symm.trans H; rw [hy106]; with_reducible exact H2_) | (have H2_ := (Option.bind_some _ _).symm.trans H; with_reducible exact H2_) | with_reducible exact H | (rw [hy106]; exact H) | exact H
 have Ny106 := am_ hy106; clear hy106; replace H := Option.bind_eq_some_iff.mp H; obtain ⟨t109, A60, H⟩ := H; have A6 := am_ A60; clear A60
 by_cases c7 : t109 = 0
 ·rw [if_pos c7] at H
  have c7b0 : (t109 == 0) = true := beq_iff_eq.mpr c7
  have c7b1 : (t109 != 0) = false := bne_eq_false_iff_eq.mpr c7
  clear c7
  have H' := am_ H
  clear H
  go_enter Tryd.func55, Tryd.ntmps55
  go_wp2_with (first | ((with_reducible refine gate_callee (f := 44) rfl ?_); refine goesL_ (some 10) rfl rfl Tryd.func44 (by kernel_rfl) rfl #[.int .i64 a1, .int .i64 0, .int .i64 200000] rfl gl_ ?_; (with_reducible refine (Z51.calls a1 0 200000 t103 _ A3.out).mono ?_); rintro e w' ⟨rfl, ⟨nd, rfl⟩⟩; refine ⟨_, rfl, ?_⟩) | ((with_reducible refine gate_callee (f := 46) rfl ?_); refine goesL_ (some 12) rfl rfl Tryd.func46 (by kernel_rfl) rfl #[.bool (!t103), .int .i64 1] rfl gl_ ?_; (with_reducible refine (Z19.calls (!t103) 1 t104 _ A4.out).mono ?_); rintro e w' ⟨rfl, ⟨nd, rfl⟩⟩; refine ⟨_, rfl, ?_⟩) | ((with_reducible refine gate_callee (f := 46) rfl ?_); refine goesL_ (some 16) rfl rfl Tryd.func46 (by kernel_rfl) rfl #[.bool (decide ((l0.length : Int) > 1000)), .int .i64 2] rfl gl_ ?_; (with_reducible refine (Z19.calls (decide ((l0.length : Int) > 1000)) 2 t105 _ A5.out).mono ?_); rintro e w' ⟨rfl, ⟨nd, rfl⟩⟩; refine ⟨_, rfl, ?_⟩) | ((with_reducible refine gate_dst (N := 17) rfl ?_); (try (refine gate_guard (by rfl) ?_; dsimp only)); refine Kd.R_lit (Kd.int .i64) _ 29 ?hg (N := 17) ?hd (xs := ([t104, t105] : List Int)) (inner := [.int .i64 t104, .int .i64 t105]) (ok := fun _ => True) (okp := fun _ => True) ?hr ?hp (fun _ hk => hk) trivial (Below.refl _ _) (Nat.le_refl _) (by simp) ?_; (case hd => rfl); (case hg => rfl); (case hr => first | (go_simp; done) | (go_simp; rfl)); (case hp => exact (Reps.one (show Kd.M (Kd.int .i64) _ _ _ t104 [.int .i64 t104] from rfl) (Reps.one (show Kd.M (Kd.int .i64) _ _ _ t105 [.int .i64 t105] from rfl) (Reps.none _ _)))); intro v107 w8 ho9 hb hg_ hnew_; clear hg_ hnew_; (first | rw [← Ny106.out] at ho9 | (simp only [Int.reduceToNat] at ho9; rw [← Ny106.out] at ho9)); have n0_ := am_ (Kd.R_lower ho9 (below_size (bw_ HB.out))); have n1_ := am_ (below_step (bw_ HB.out) hb); clear HB; have HO108 := n0_; have HB := n1_; clear n0_ n1_; clear hb ho9; obtain ⟨Ao10, co10, eo10⟩ := Kd.R_slice HO108.out; subst eo10) | ((with_reducible refine gate_callee (f := 45) rfl ?_); refine goesL_ (some 18) rfl rfl Tryd.func45 (by kernel_rfl) rfl #[.slice Ao10 y106.length co10] rfl gl_ ?_; (with_reducible refine (Z13.calls k _ _ y106 t109 _ ?side1 ?side2 A6.out).mono ?_); (case side1 => exact cc_ (Kd.R_reads' HO108.out).2.2); (case side2 => exact (Kd.R_reads' HO108.out).2.1); rintro e w' ⟨rfl, ⟨nd, rfl⟩⟩; refine ⟨_, rfl, ?_⟩))
  go_loopg [24] k (fun kq v24 w' => ∃ (x24_1 : Int), v24 = .int .i64 x24_1 ∧ Aside0 (Z9.l0 kq l0 a1 l0 (l0.length : Int) x24_1 = some r) ∧ Aside0 (kq ≤ k) ∧ Aside0 (Below w.heap.size w w'))
  case atStart => exact ⟨(0), tr_, H', ⟨Nat.le_refl _⟩, ⟨bw_ HB.out⟩⟩
  case round =>
   clear H'; (try clear p2); (try clear c4); (try clear c5); (try clear c7); (try clear c7b0); (try clear c7b1); obtain ⟨x24_1, rfl, HA, HK1, HB⟩ := hrel
   cases gk with
   | zero => exact absurd HA.out (by simp [Z9.l0])
   | succ k1 =>
    have H := HA.out
    clear HA
    simp only [Z9.l0] at H
    by_cases c11 : x24_1 < (l0.length : Int)
    ·rw [if_pos c11] at H
     have c11b0 := decide_eq_true c11; clear c11
     by_cases c12 : 0 ≤ x24_1
     case neg => exact (nn_ c12 H).elim
     rw [if_pos c12] at H; have c12b0 := decide_eq_true c12; clear c12
     by_cases c13 : x24_1 < (l0.length : Int)
     case neg => exact (nn_ c13 H).elim
     rw [if_pos c13] at H; have c13b0 := decide_eq_true c13; clear c13
     by_cases c14 : ((rd_T46 l0 x24_1).f0) < 0
     ·rw [if_pos c14] at H
      have c14b0 := decide_eq_true c14; clear c14; replace H := Option.bind_eq_some_iff.mp H; obtain ⟨t112, A150, H⟩ := H; have A15 := am_ A150; clear A150
      by_cases c16 : x24_1 > 0
      ·rw [if_pos c16] at H
       have c16b0 : decide (0 < x24_1) = true := decide_eq_true c16
       clear c16
       obtain ⟨ji17, hji17⟩ : ∃ j_ : Int, (mx x24_1 1) = j_ := ⟨_, rfl⟩
       replace H : (if 0 ≤ (wrap64 ((ji17) - 1)) then (if (wrap64 ((ji17) - 1)) < (l0.length : Int) then ((Z19.f (decide (((rd_T46 l0 x24_1).f0) ≤ ((rd_T46 l0 (wrap64 ((ji17) - 1))).f1))) 7).bind fun t114 => ((Z13.f k1 (([t112, t114] : List Int))).bind fun t118 => (if t118 = 0 then (Z9.l0 k1 l0 a1 l0 (l0.length : Int) (wrap64 (x24_1 + 1))) else (some t118)))) else (none)) else (none)) = some r := by first | (rw [hji17] at H; exact H) | (simp only [hji17] at H ⊢; exact H)
       (try rw [hji17] at A15)
       have hji17_ : (if x24_1 < 1 then 1 else x24_1) = ji17 := hji17
       obtain ⟨ji18, hji18⟩ : ∃ j_ : Int, (wrap64 ((ji17) - 1)) = j_ := ⟨_, rfl⟩
       replace H : (if 0 ≤ (ji18) then (if (ji18) < (l0.length : Int) then ((Z19.f (decide (((rd_T46 l0 x24_1).f0) ≤ ((rd_T46 l0 (ji18)).f1))) 7).bind fun t114 => ((Z13.f k1 (([t112, t114] : List Int))).bind fun t118 => (if t118 = 0 then (Z9.l0 k1 l0 a1 l0 (l0.length : Int) (wrap64 (x24_1 + 1))) else (some t118)))) else (none)) else (none)) = some r := by first | (rw [hji18] at H; exact H) | (simp only [hji18] at H ⊢; exact H)
       (try rw [hji18] at A15)
       have hji18w : (IntKind.i64.wrap ((ji17) - 1)) = ji18 := (i64_w _).trans hji18
       by_cases c19 : 0 ≤ (ji18)
       case neg => exact (nn_ c19 H).elim
       rw [if_pos c19] at H; have c19b0 := decide_eq_true c19; clear c19
       by_cases c20 : (ji18) < (l0.length : Int)
       case neg => exact (nn_ c20 H).elim
       rw [if_pos c20] at H; have c20b0 := decide_eq_true c20; clear c20; replace H := Option.bind_eq_some_iff.mp H; obtain ⟨t114, A210, H⟩ := H; have A21 := am_ A210; clear A210
       obtain ⟨y115, hy115⟩ : ∃ y_ : List Int, y_ = (([t112, t114] : List Int)) := ⟨_, rfl⟩
       replace H : ((Z13.f k1 y115).bind fun t118 => (if t118 = 0 then (Z9.l0 k1 l0 a1 l0 (l0.length : Int) (wrap64 (x24_1 + 1))) else (some t118))) = some r := by first | (rw [hy115]; with_reducible exact H) | (have H2_ := (Option.bind_some _ _).symm.trans H; rw [hy115]; with_reducible exact H2_) | (have H2_ := (Option.bind_some _ _).symm.trans H; with_reducible exact H2_) | with_reducible exact H | (rw [hy115]; exact H) | exact H
       have Ny115 := am_ hy115; clear hy115; replace H := Option.bind_eq_some_iff.mp H; obtain ⟨t118, A220, H⟩ := H; have A22 := am_ A220; clear A220
       by_cases c23 : t118 = 0
       ·rw [if_pos c23] at H
        have c23b0 : (t118 == 0) = true := beq_iff_eq.mpr c23
        have c23b1 : (t118 != 0) = false := bne_eq_false_iff_eq.mpr c23
        clear c23
        have H' := am_ H
        clear H; have p110 : 0 ≤ (x24_1 : Int) := ode_; have q110 : x24_1 < (l0.length : Int) := ode_
        obtain ⟨ad110, e110, hx110_0, hx110_1⟩ := at_T46 HR0.out x24_1 p110 q110
        cases e110
        first | replace hx110_0 := (HB.out.cell (World.block_lt_of_cell? w _ hx110_0)).trans hx110_0 | skip
        first | replace hx110_1 := (HB.out.cell (World.block_lt_of_cell? w _ hx110_1)).trans hx110_1 | skip
        replace p110 := eq_true p110; replace q110 := eq_true q110
        try go_wp2_with (first | ((with_reducible refine gate_dst (N := 7) rfl ?_); (try (refine gate_guard (by rfl) ?_; dsimp only)); refine box_event ?hg (N := 7) ?hd (cs := #[.int .i64 0, .int .i64 0]) (t := 46) ?hr ?_; (case hd => rfl); (case hg => rfl); (case hr => first | (go_simp; done) | (go_simp; rfl)); intro gb111 hg w24 hbox hb; have n0_ := am_ (below_step (bw_ HB.out) hb); have n1_ := am_ (hbox); have n2_ := am_ ((by rw [hg]; exact (below_size (bw_ HB.out)) : w.heap.size ≤ gb111)); have n3_ := am_ ((by rw [hg]; exact (below_size (bw_ HB.out)) : w.heap.size ≤ gb111)); clear HB; have HB := n0_; have BK111 := n1_; have GW111 := n2_; have GE111 := n3_; clear n0_ n1_ n2_ n3_; clear hb hbox hg; have hcz25_0 : w24.cell? ⟨gb111, 0, none⟩ = some (.int .i64 0) := (blk_cell BK111.out 0).trans rfl; have hcz25_1 : w24.cell? ⟨gb111, 1, none⟩ = some (.int .i64 0) := (blk_cell BK111.out 1).trans rfl; have hfz25_0 := blk_frozen BK111.out 0; have hfz25_1 := blk_frozen BK111.out 1))
        have n0_ : Aside0 (((w24.setCell ⟨gb111, 0, none⟩ (.int .i64 ((rd_T46 l0 x24_1).f0))).setCell ⟨gb111, 1, none⟩ (.int .i64 ((rd_T46 l0 x24_1).f1))).heap[gb111]? = some (.cells #[.int .i64 ((rd_T46 l0 x24_1).f0), .int .i64 ((rd_T46 l0 x24_1).f1)] 46 (0, 0))) := ⟨by (with_reducible repeat (first | refine blk_drewN ?_ _ | refine blk_drew ?_ | refine blk_alloc ?_ _)); refine blk_put (cs := #[.int .i64 ((rd_T46 l0 x24_1).f0), .int .i64 0]) ?_ 1 _ rfl; (with_reducible repeat (first | refine blk_drewN ?_ _ | refine blk_drew ?_ | refine blk_alloc ?_ _)); refine blk_put (cs := #[.int .i64 0, .int .i64 0]) ?_ 0 _ rfl; (with_reducible repeat (first | refine blk_drewN ?_ _ | refine blk_drew ?_ | refine blk_alloc ?_ _)); exact BK111.out⟩
        have n1_ : Aside0 (Below w.heap.size w ((w24.setCell ⟨gb111, 0, none⟩ (.int .i64 ((rd_T46 l0 x24_1).f0))).setCell ⟨gb111, 1, none⟩ (.int .i64 ((rd_T46 l0 x24_1).f1)))) := ⟨bs_ HB.out GE111.out⟩
        (try clear BK111)
        (try clear HB)
        generalize ((w24.setCell ⟨gb111, 0, none⟩ (.int .i64 ((rd_T46 l0 x24_1).f0))).setCell ⟨gb111, 1, none⟩ (.int .i64 ((rd_T46 l0 x24_1).f1))) = w26 at n0_ n1_ ⊢
        have BK111 := n0_; have HB := n1_; clear n0_ n1_
        have n0_ := am_ (blk_drew BK111.out)
        have n1_ := am_ (b2_ HB.out)
        clear BK111; clear HB; have BK111 := n0_; have HB := n1_; clear n0_ n1_; have p113 : 0 ≤ ((ji18) : Int) := ode_; have q113 : (ji18) < (l0.length : Int) := ode_
        obtain ⟨ad113, e113, hx113_0, hx113_1⟩ := at_T46 HR0.out (ji18) p113 q113
        have hw113_1 := hx113_1
        have hw113_0 := hx113_0
        obtain rfl : ad110 = ad113 := (by injection e113)
        first | replace hx113_0 := (HB.out.cell (World.block_lt_of_cell? w _ hx113_0)).trans hx113_0 | skip
        first | replace hx113_1 := (HB.out.cell (World.block_lt_of_cell? w _ hx113_1)).trans hx113_1 | skip
        replace p113 := eq_true p113; replace q113 := eq_true q113
        refine start_ (n := 35) (S := fun w' => w'.cell? ⟨gb111, 0, none⟩ = some (.int .i64 ((rd_T46 l0 x24_1).f0)) ∧ w'.cell? ⟨gb111, 1, none⟩ = some (.int .i64 ((rd_T46 l0 x24_1).f1)) ∧ w'.cell? (ad110.add (((ji18)).toNat * 2)) = some (.int .i64 ((rd_T46 l0 (ji18)).f0)) ∧ w'.cell? ⟨(ad110.add (((ji18)).toNat * 2)).block, (ad110.add (((ji18)).toNat * 2)).off + 1, none⟩ = some (.int .i64 ((rd_T46 l0 (ji18)).f1))) (ds := []) cD0_ (by kernel_rfl) rfl rfl ⟨(blk_cell BK111.out 0).trans rfl, (blk_cell BK111.out 1).trans rfl, ((HB.out.cell (World.block_lt_of_cell? w _ hw113_0)).trans hw113_0), ((HB.out.cell (World.block_lt_of_cell? w _ hw113_1)).trans hw113_1)⟩ (fun hHeld => ?_); refine with_tabW Z9.tab7 Z9.bits7 (fun HT_ HW_ => ?_)
        generalize w26.drew = w27 at BK111 HB hx113_0 hx113_1 hHeld ⊢
        refine px_ 0 29 ?_ ?_ cD1_ HT_.out ?_ ?_ ?_; rotate_left 2; intro w'; go_simp; with_reducible rfl; simp only [Act.put, s_t, s_z, s_s, i64_w, i32_w]; rfl
        refine px_ 17 46 ?_ ?_ cD2_ HT_.out ?_ ?_ ?_; rotate_left 2; intro w'; go_simp; with_reducible rfl; simp only [Act.put, s_t, s_z, s_s, i64_w, i32_w]; rfl
        refine px_ 18 47 ?_ ?_ cD3_ HT_.out ?_ ?_ ?_; rotate_left 2; intro w'; go_simp; with_reducible rfl; simp only [Act.put, s_t, s_z, s_s, i64_w, i32_w]; rfl
        refine take_ (i := 1) (N := some 30) (v := ?_) (a' := ?_) cD4_ rfl rfl (take_ofW HT_.out HW_.out (by kernel_rfl)) (fun _ _ _ h => h) (Or.inl ⟨by rfl, ?_⟩) hHeld ?_ ?_
        rotate_left
        ·rintro w' ⟨s0, s1, s2, s3⟩
         go_simp
         with_reducible rfl
        rotate_left
        ·simp only [Act.put, s_t, s_z, s_s, i64_w, i32_w]
         rfl
        refine px_ 2 31 ?_ ?_ cD5_ HT_.out ?_ ?_ ?_; rotate_left 2; intro w'; go_simp; with_reducible rfl; simp only [Act.put, s_t, s_z, s_s, i64_w, i32_w]; rfl
        refine px_ 3 32 ?_ ?_ cD6_ HT_.out ?_ ?_ ?_; rotate_left 2; intro w'; go_simp; with_reducible rfl; simp only [Act.put, s_t, s_z, s_s, i64_w, i32_w]; rfl
        refine pv_ (i := 4) (N := some 33) (a' := ?_) cD7_ (any_of HT_.out (by kernel_rfl)) ?_ ?_; rotate_left
        ·simp only [Act.put, s_t, s_z, s_s, i64_w, i32_w]; rfl
        refine pv_ (i := 5) (N := some 34) (a' := ?_) cD9_ (any_of HT_.out (by kernel_rfl)) ?_ ?_; rotate_left
        ·simp only [Act.put, s_t, s_z, s_s, i64_w, i32_w]; rfl
        refine pv_ (i := 6) (N := some 35) (a' := ?_) cD10_ (any_of HT_.out (by kernel_rfl)) ?_ ?_; rotate_left
        ·simp only [Act.put, s_t, s_z, s_s, i64_w, i32_w]; rfl
        refine pv_ (i := 7) (N := some 36) (a' := ?_) cD11_ (any_of HT_.out (by kernel_rfl)) ?_ ?_; rotate_left
        ·simp only [Act.put, s_t, s_z, s_s, i64_w, i32_w]; rfl
        refine pv_ (i := 8) (N := some 37) (a' := ?_) cD12_ (any_of HT_.out (by kernel_rfl)) ?_ ?_; rotate_left
        ·simp only [Act.put, s_t, s_z, s_s, i64_w, i32_w]; rfl
        refine px_ 9 38 ?_ ?_ cD13_ HT_.out ?_ ?_ ?_; rotate_left 2; intro w'; go_simp; with_reducible rfl; simp only [Act.put, s_t, s_z, s_s, i64_w, i32_w]; rfl
        refine px_ 10 39 ?_ ?_ cD14_ HT_.out ?_ ?_ ?_; rotate_left 2; intro w'; go_simp; with_reducible rfl; simp only [Act.put, s_t, s_z, s_s, i64_w, i32_w]; rfl
        refine pv_ (i := 11) (N := some 40) (a' := ?_) cD15_ (any_of HT_.out (by kernel_rfl)) ?_ ?_; rotate_left
        ·simp only [Act.put, s_t, s_z, s_s, i64_w, i32_w]; rfl
        refine pv_ (i := 12) (N := some 41) (a' := ?_) cD17_ (any_of HT_.out (by kernel_rfl)) ?_ ?_; rotate_left
        ·simp only [Act.put, s_t, s_z, s_s, i64_w, i32_w]; rfl
        refine pv_ (i := 13) (N := some 42) (a' := ?_) cD18_ (any_of HT_.out (by kernel_rfl)) ?_ ?_; rotate_left
        ·simp only [Act.put, s_t, s_z, s_s, i64_w, i32_w]; rfl
        refine pv_ (i := 14) (N := some 43) (a' := ?_) cD19_ (any_of HT_.out (by kernel_rfl)) ?_ ?_; rotate_left
        ·simp only [Act.put, s_t, s_z, s_s, i64_w, i32_w]; rfl
        refine px_ 15 44 ?_ ?_ cD20_ HT_.out ?_ ?_ ?_; rotate_left 2; intro w'; go_simp; with_reducible rfl; simp only [Act.put, s_t, s_z, s_s, i64_w, i32_w]; rfl
        refine one_ (i := 16) (N := some 45) cD21_ rfl rfl (one_of HT_.out (by kernel_rfl)) (by decide) (fun K hK => ?_)
        refine goes_ Tryd.func46 (by kernel_rfl) rfl #[.bool true, .int .i64 1] (by rfl) rfl rfl gl_ ?_
        with_reducible refine (Z19.calls true 1 t112 _ A15.out).mono ?_
        rintro e w' ⟨rfl, ⟨nd, rfl⟩⟩
        refine ⟨_, rfl, ?_⟩
        refine hK.out _ _ ⟨(blk_cell BK111.out 0).trans rfl, (blk_cell BK111.out 1).trans rfl, ((HB.out.cell (World.block_lt_of_cell? w _ hw113_0)).trans hw113_0), ((HB.out.cell (World.block_lt_of_cell? w _ hw113_1)).trans hw113_1)⟩ (fun hHeld => ?_)
        clear hK K
        refine norm_ (a' := ?_) ?_ ?_
        rotate_left
        ·show Act.put _ (some 45) _ = _
         simp only [Act.put, s_t, s_z, s_s, i64_w, i32_w]
         rfl
        refine px_ 19 48 ?_ ?_ cD22_ HT_.out ?_ ?_ ?_; rotate_left 2; intro w'; go_simp; with_reducible rfl; simp only [Act.put, s_t, s_z, s_s, i64_w, i32_w]; rfl
        refine px_ 20 49 ?_ ?_ cD23_ HT_.out ?_ ?_ ?_; rotate_left 2; intro w'; go_simp; with_reducible rfl; simp only [Act.put, s_t, s_z, s_s, i64_w, i32_w]; rfl
        refine px_ 22 51 ?_ ?_ cD24_ HT_.out ?_ ?_ ?_; rotate_left 2; intro w'; go_simp; with_reducible rfl; simp only [Act.put, s_t, s_z, s_s, i64_w, i32_w]; rfl
        refine px_ 23 52 ?_ ?_ cD25_ HT_.out ?_ ?_ ?_; rotate_left 2; intro w'; go_simp; with_reducible rfl; simp only [Act.put, s_t, s_z, s_s, i64_w, i32_w]; rfl
        refine px_ 24 53 ?_ ?_ cD26_ HT_.out ?_ ?_ ?_; rotate_left 2; intro w'; go_simp; with_reducible rfl; simp only [Act.put, s_t, s_z, s_s, i64_w, i32_w]; rfl
        refine px_ 25 54 ?_ ?_ cD27_ HT_.out ?_ ?_ ?_; rotate_left 2; intro w'; go_simp; with_reducible rfl; simp only [Act.put, s_t, s_z, s_s, i64_w, i32_w]; rfl
        refine px_ 26 55 ?_ ?_ cD28_ HT_.out ?_ ?_ ?_; rotate_left 2; intro w'; go_simp; with_reducible rfl; simp only [Act.put, s_t, s_z, s_s, i64_w, i32_w]; rfl
        refine px_ 27 56 ?_ ?_ cD29_ HT_.out ?_ ?_ ?_; rotate_left 2; intro w'; go_simp; with_reducible rfl; simp only [Act.put, s_t, s_z, s_s, i64_w, i32_w]; rfl
        refine take_ (i := 21) (N := some 50) (v := ?_) (a' := ?_) cD36_ rfl rfl (take_ofW HT_.out HW_.out (by kernel_rfl)) (fun _ _ _ h => h) (Or.inl ⟨by rfl, ?_⟩) hHeld ?_ ?_
        rotate_left
        ·rintro w' ⟨s0, s1, s2, s3⟩
         go_simp
         with_reducible rfl
        rotate_left
        ·simp only [Act.put, s_t, s_z, s_s, i64_w, i32_w]
         rfl
        refine take_ (i := 28) (N := some 57) (v := ?_) (a' := ?_) cD37_ rfl rfl (take_ofW HT_.out HW_.out (by kernel_rfl)) (fun _ _ _ h => h) (Or.inl ⟨by rfl, ?_⟩) hHeld ?_ ?_
        rotate_left
        ·rintro w' ⟨s0, s1, s2, s3⟩
         go_simp
         with_reducible rfl
        rotate_left
        ·simp only [Act.put, s_t, s_z, s_s, i64_w, i32_w]
         rfl
        refine px_ 29 58 ?_ ?_ cD38_ HT_.out ?_ ?_ ?_; rotate_left 2; intro w'; go_simp; with_reducible rfl; simp only [Act.put, s_t, s_z, s_s, i64_w, i32_w]; rfl
        refine px_ 30 59 ?_ ?_ cD39_ HT_.out ?_ ?_ ?_; rotate_left 2; intro w'; go_simp; with_reducible rfl; simp only [Act.put, s_t, s_z, s_s, i64_w, i32_w]; rfl
        refine one_ (i := 31) (N := some 60) cD40_ rfl rfl (one_of HT_.out (by kernel_rfl)) (by decide) (fun K hK => ?_)
        refine goes_ Tryd.func46 (by kernel_rfl) rfl #[.bool (decide (((rd_T46 l0 x24_1).f0) ≤ ((rd_T46 l0 (ji18)).f1))), .int .i64 7] (by rfl) rfl rfl (by (try simp only [m1_, m2_, m3_]); first | done | (simp only [hji18]; rfl) | rfl | (simp only [List.length_drop, List.length_take]; rfl)) ?_
        with_reducible refine (Z19.calls (decide (((rd_T46 l0 x24_1).f0) ≤ ((rd_T46 l0 (ji18)).f1))) 7 t114 _ A21.out).mono ?_
        rintro e w' ⟨rfl, ⟨nd, rfl⟩⟩
        refine ⟨_, rfl, ?_⟩
        refine hK.out _ _ ⟨(blk_cell BK111.out 0).trans rfl, (blk_cell BK111.out 1).trans rfl, ((HB.out.cell (World.block_lt_of_cell? w _ hw113_0)).trans hw113_0), ((HB.out.cell (World.block_lt_of_cell? w _ hw113_1)).trans hw113_1)⟩ (fun hHeld => ?_)
        clear hK K
        refine norm_ (a' := ?_) ?_ ?_
        rotate_left
        ·show Act.put _ (some 60) _ = _
         simp only [Act.put, s_t, s_z, s_s, i64_w, i32_w]
         rfl
        refine one_ (i := 32) (N := some 61) cD41_ rfl rfl (one_of HT_.out (by kernel_rfl)) (by decide) (fun K hK => ?_)
        refine Kd.R_lit_step (Kd.int .i64) _ 29 ?hg (N := 61) ?hd (xs := ([t112, t114] : List Int)) (inner := [.int .i64 t112, .int .i64 t114]) (ok := fun _ => True) (okp := fun _ => True) ?hr ?hp (fun _ hk => hk) trivial (Below.refl _ _) (Nat.le_refl _) (by simp) ?_; (case hd => rfl); (case hg => rfl); (case hr => first | (go_simp; done) | (go_simp; rfl)); (case hp => exact (Reps.one (show Kd.M (Kd.int .i64) _ _ _ t112 [.int .i64 t112] from rfl) (Reps.one (show Kd.M (Kd.int .i64) _ _ _ t114 [.int .i64 t114] from rfl) (Reps.none _ _))))
        intro v116 w28 ho29 hb hg_ hnew_
        clear hg_ hnew_
        (first | rw [← Ny115.out] at ho29 | (simp only [Int.reduceToNat] at ho29; rw [← Ny115.out] at ho29))
        have n0_ := am_ (Kd.R_lower ho29 (below_size (bs_ HB.out GE111.out)))
        have n1_ := am_ (blk_below (g := gb111) (o := .cells #[.int .i64 ((rd_T46 l0 x24_1).f0), .int .i64 ((rd_T46 l0 x24_1).f1)] 46 (0, 0)) (bk_ BK111.out) hb)
        have n2_ := am_ (below_step (bs_ HB.out GE111.out) hb)
        clear BK111; clear HB; have HO117 := n0_; have BK111 := n1_; have HB := n2_; clear n0_ n1_ n2_; clear hb ho29
        obtain ⟨Ao30, co30, eo30⟩ := Kd.R_slice HO117.out
        (first | subst eo30 | (injection eo30 with f1_ f2_ f3_; have f4_ := f1_.symm; have f5_ := f3_.symm; clear f1_ f2_ f3_; subst f4_; subst f5_))
        refine hK.out _ _ ⟨(blk_cell BK111.out 0).trans rfl, (blk_cell BK111.out 1).trans rfl, ((HB.out.cell (World.block_lt_of_cell? w _ hw113_0)).trans hw113_0), ((HB.out.cell (World.block_lt_of_cell? w _ hw113_1)).trans hw113_1)⟩ (fun hHeld => ?_)
        clear hK K
        refine norm_ (a' := ?_) ?_ ?_
        rotate_left
        ·show Act.put _ (some 61) _ = _
         simp only [Act.put, s_t, s_z, s_s, i64_w, i32_w]
         rfl
        refine one_ (i := 33) (N := some 62) cD42_ rfl rfl (one_of HT_.out (by kernel_rfl)) (by decide) (fun K hK => ?_)
        refine goes_ Tryd.func45 (by kernel_rfl) rfl #[.slice Ao30 y115.length co30] (by rfl) rfl rfl gl_ ?_
        with_reducible refine (Z13.calls k1 _ _ y115 t118 _ ?side1 ?side2 A22.out).mono ?_
        (case side1 => exact cc_ (Kd.R_reads' HO117.out).2.2)
        (case side2 => exact (Kd.R_reads' HO117.out).2.1)
        rintro e w' ⟨rfl, ⟨nd, rfl⟩⟩
        refine ⟨_, rfl, ?_⟩
        refine hK.out _ _ ⟨(blk_cell BK111.out 0).trans rfl, (blk_cell BK111.out 1).trans rfl, ((HB.out.cell (World.block_lt_of_cell? w _ hw113_0)).trans hw113_0), ((HB.out.cell (World.block_lt_of_cell? w _ hw113_1)).trans hw113_1)⟩ (fun hHeld => ?_)
        clear hK K
        refine norm_ (a' := ?_) ?_ ?_
        rotate_left
        ·show Act.put _ (some 62) _ = _
         simp only [Act.put, s_t, s_z, s_s, i64_w, i32_w]
         rfl
        refine px_ 34 8 ?_ ?_ cD43_ HT_.out ?_ ?_ ?_; rotate_left 2; intro w'; go_simp; with_reducible rfl; simp only [Act.put, s_t, s_z, s_s, i64_w, i32_w]; rfl
        refine done_ (done_of HT_.out (by kernel_rfl)) ?_
        try go_wp2
        go_roundg k1
        case measure => have := HK1.out; omega
        case rel => exact ⟨(wrap64 (x24_1 + 1)), tr_, H', ⟨by have := HK1.out; omega⟩, ⟨bs_ HB.out GE111.out⟩⟩
       ·rw [if_neg c23] at H
        have c23b0 : (t118 == 0) = false := beq_eq_false_iff_ne.mpr c23
        have c23b1 : (t118 != 0) = true := bne_iff_ne.mpr c23
        obtain rfl := Option.some.inj H
        have p110 : 0 ≤ (x24_1 : Int) := ode_; have q110 : x24_1 < (l0.length : Int) := ode_
        obtain ⟨ad110, e110, hx110_0, hx110_1⟩ := at_T46 HR0.out x24_1 p110 q110
        cases e110
        first | replace hx110_0 := (HB.out.cell (World.block_lt_of_cell? w _ hx110_0)).trans hx110_0 | skip
        first | replace hx110_1 := (HB.out.cell (World.block_lt_of_cell? w _ hx110_1)).trans hx110_1 | skip
        replace p110 := eq_true p110; replace q110 := eq_true q110
        try go_wp2_with (first | ((with_reducible refine gate_dst (N := 7) rfl ?_); (try (refine gate_guard (by rfl) ?_; dsimp only)); refine box_event ?hg (N := 7) ?hd (cs := #[.int .i64 0, .int .i64 0]) (t := 46) ?hr ?_; (case hd => rfl); (case hg => rfl); (case hr => first | (go_simp; done) | (go_simp; rfl)); intro gb111 hg w31 hbox hb; have n0_ := am_ (below_step (bw_ HB.out) hb); have n1_ := am_ (hbox); have n2_ := am_ ((by rw [hg]; exact (below_size (bw_ HB.out)) : w.heap.size ≤ gb111)); have n3_ := am_ ((by rw [hg]; exact (below_size (bw_ HB.out)) : w.heap.size ≤ gb111)); clear HB; have HB := n0_; have BK111 := n1_; have GW111 := n2_; have GE111 := n3_; clear n0_ n1_ n2_ n3_; clear hb hbox hg; have hcz32_0 : w31.cell? ⟨gb111, 0, none⟩ = some (.int .i64 0) := (blk_cell BK111.out 0).trans rfl; have hcz32_1 : w31.cell? ⟨gb111, 1, none⟩ = some (.int .i64 0) := (blk_cell BK111.out 1).trans rfl; have hfz32_0 := blk_frozen BK111.out 0; have hfz32_1 := blk_frozen BK111.out 1))
        have n0_ : Aside0 (((w31.setCell ⟨gb111, 0, none⟩ (.int .i64 ((rd_T46 l0 x24_1).f0))).setCell ⟨gb111, 1, none⟩ (.int .i64 ((rd_T46 l0 x24_1).f1))).heap[gb111]? = some (.cells #[.int .i64 ((rd_T46 l0 x24_1).f0), .int .i64 ((rd_T46 l0 x24_1).f1)] 46 (0, 0))) := ⟨by (with_reducible repeat (first | refine blk_drewN ?_ _ | refine blk_drew ?_ | refine blk_alloc ?_ _)); refine blk_put (cs := #[.int .i64 ((rd_T46 l0 x24_1).f0), .int .i64 0]) ?_ 1 _ rfl; (with_reducible repeat (first | refine blk_drewN ?_ _ | refine blk_drew ?_ | refine blk_alloc ?_ _)); refine blk_put (cs := #[.int .i64 0, .int .i64 0]) ?_ 0 _ rfl; (with_reducible repeat (first | refine blk_drewN ?_ _ | refine blk_drew ?_ | refine blk_alloc ?_ _)); exact BK111.out⟩
        have n1_ : Aside0 (Below w.heap.size w ((w31.setCell ⟨gb111, 0, none⟩ (.int .i64 ((rd_T46 l0 x24_1).f0))).setCell ⟨gb111, 1, none⟩ (.int .i64 ((rd_T46 l0 x24_1).f1)))) := ⟨bs_ HB.out GE111.out⟩
        (try clear BK111)
        (try clear HB)
        generalize ((w31.setCell ⟨gb111, 0, none⟩ (.int .i64 ((rd_T46 l0 x24_1).f0))).setCell ⟨gb111, 1, none⟩ (.int .i64 ((rd_T46 l0 x24_1).f1))) = w33 at n0_ n1_ ⊢
        have BK111 := n0_; have HB := n1_; clear n0_ n1_
        have n0_ := am_ (blk_drew BK111.out)
        have n1_ := am_ (b2_ HB.out)
        clear BK111; clear HB; have BK111 := n0_; have HB := n1_; clear n0_ n1_; have p113 : 0 ≤ ((ji18) : Int) := ode_; have q113 : (ji18) < (l0.length : Int) := ode_
        obtain ⟨ad113, e113, hx113_0, hx113_1⟩ := at_T46 HR0.out (ji18) p113 q113
        have hw113_1 := hx113_1
        have hw113_0 := hx113_0
        obtain rfl : ad110 = ad113 := (by injection e113)
        first | replace hx113_0 := (HB.out.cell (World.block_lt_of_cell? w _ hx113_0)).trans hx113_0 | skip
        first | replace hx113_1 := (HB.out.cell (World.block_lt_of_cell? w _ hx113_1)).trans hx113_1 | skip
        replace p113 := eq_true p113; replace q113 := eq_true q113
        refine start_ (n := 35) (S := fun w' => w'.cell? ⟨gb111, 0, none⟩ = some (.int .i64 ((rd_T46 l0 x24_1).f0)) ∧ w'.cell? ⟨gb111, 1, none⟩ = some (.int .i64 ((rd_T46 l0 x24_1).f1)) ∧ w'.cell? (ad110.add (((ji18)).toNat * 2)) = some (.int .i64 ((rd_T46 l0 (ji18)).f0)) ∧ w'.cell? ⟨(ad110.add (((ji18)).toNat * 2)).block, (ad110.add (((ji18)).toNat * 2)).off + 1, none⟩ = some (.int .i64 ((rd_T46 l0 (ji18)).f1))) (ds := []) cD0_ (by kernel_rfl) rfl rfl ⟨(blk_cell BK111.out 0).trans rfl, (blk_cell BK111.out 1).trans rfl, ((HB.out.cell (World.block_lt_of_cell? w _ hw113_0)).trans hw113_0), ((HB.out.cell (World.block_lt_of_cell? w _ hw113_1)).trans hw113_1)⟩ (fun hHeld => ?_); refine with_tabW Z9.tab7 Z9.bits7 (fun HT_ HW_ => ?_)
        generalize w33.drew = w34 at BK111 HB hx113_0 hx113_1 hHeld ⊢
        refine px_ 0 29 ?_ ?_ cD1_ HT_.out ?_ ?_ ?_; rotate_left 2; intro w'; go_simp; with_reducible rfl; simp only [Act.put, s_t, s_z, s_s, i64_w, i32_w]; rfl
        refine px_ 17 46 ?_ ?_ cD2_ HT_.out ?_ ?_ ?_; rotate_left 2; intro w'; go_simp; with_reducible rfl; simp only [Act.put, s_t, s_z, s_s, i64_w, i32_w]; rfl
        refine px_ 18 47 ?_ ?_ cD3_ HT_.out ?_ ?_ ?_; rotate_left 2; intro w'; go_simp; with_reducible rfl; simp only [Act.put, s_t, s_z, s_s, i64_w, i32_w]; rfl
        refine take_ (i := 1) (N := some 30) (v := ?_) (a' := ?_) cD4_ rfl rfl (take_ofW HT_.out HW_.out (by kernel_rfl)) (fun _ _ _ h => h) (Or.inl ⟨by rfl, ?_⟩) hHeld ?_ ?_
        rotate_left
        ·rintro w' ⟨s0, s1, s2, s3⟩
         go_simp
         with_reducible rfl
        rotate_left
        ·simp only [Act.put, s_t, s_z, s_s, i64_w, i32_w]
         rfl
        refine px_ 2 31 ?_ ?_ cD5_ HT_.out ?_ ?_ ?_; rotate_left 2; intro w'; go_simp; with_reducible rfl; simp only [Act.put, s_t, s_z, s_s, i64_w, i32_w]; rfl
        refine px_ 3 32 ?_ ?_ cD6_ HT_.out ?_ ?_ ?_; rotate_left 2; intro w'; go_simp; with_reducible rfl; simp only [Act.put, s_t, s_z, s_s, i64_w, i32_w]; rfl
        refine pv_ (i := 4) (N := some 33) (a' := ?_) cD7_ (any_of HT_.out (by kernel_rfl)) ?_ ?_; rotate_left
        ·simp only [Act.put, s_t, s_z, s_s, i64_w, i32_w]; rfl
        refine pv_ (i := 5) (N := some 34) (a' := ?_) cD9_ (any_of HT_.out (by kernel_rfl)) ?_ ?_; rotate_left
        ·simp only [Act.put, s_t, s_z, s_s, i64_w, i32_w]; rfl
        refine pv_ (i := 6) (N := some 35) (a' := ?_) cD10_ (any_of HT_.out (by kernel_rfl)) ?_ ?_; rotate_left
        ·simp only [Act.put, s_t, s_z, s_s, i64_w, i32_w]; rfl
        refine pv_ (i := 7) (N := some 36) (a' := ?_) cD11_ (any_of HT_.out (by kernel_rfl)) ?_ ?_; rotate_left
        ·simp only [Act.put, s_t, s_z, s_s, i64_w, i32_w]; rfl
        refine pv_ (i := 8) (N := some 37) (a' := ?_) cD12_ (any_of HT_.out (by kernel_rfl)) ?_ ?_; rotate_left
        ·simp only [Act.put, s_t, s_z, s_s, i64_w, i32_w]; rfl
        refine px_ 9 38 ?_ ?_ cD13_ HT_.out ?_ ?_ ?_; rotate_left 2; intro w'; go_simp; with_reducible rfl; simp only [Act.put, s_t, s_z, s_s, i64_w, i32_w]; rfl
        refine px_ 10 39 ?_ ?_ cD14_ HT_.out ?_ ?_ ?_; rotate_left 2; intro w'; go_simp; with_reducible rfl; simp only [Act.put, s_t, s_z, s_s, i64_w, i32_w]; rfl
        refine pv_ (i := 11) (N := some 40) (a' := ?_) cD15_ (any_of HT_.out (by kernel_rfl)) ?_ ?_; rotate_left
        ·simp only [Act.put, s_t, s_z, s_s, i64_w, i32_w]; rfl
        refine pv_ (i := 12) (N := some 41) (a' := ?_) cD17_ (any_of HT_.out (by kernel_rfl)) ?_ ?_; rotate_left
        ·simp only [Act.put, s_t, s_z, s_s, i64_w, i32_w]; rfl
        refine pv_ (i := 13) (N := some 42) (a' := ?_) cD18_ (any_of HT_.out (by kernel_rfl)) ?_ ?_; rotate_left
        ·simp only [Act.put, s_t, s_z, s_s, i64_w, i32_w]; rfl
        refine pv_ (i := 14) (N := some 43) (a' := ?_) cD19_ (any_of HT_.out (by kernel_rfl)) ?_ ?_; rotate_left
        ·simp only [Act.put, s_t, s_z, s_s, i64_w, i32_w]; rfl
        refine px_ 15 44 ?_ ?_ cD20_ HT_.out ?_ ?_ ?_; rotate_left 2; intro w'; go_simp; with_reducible rfl; simp only [Act.put, s_t, s_z, s_s, i64_w, i32_w]; rfl
        refine one_ (i := 16) (N := some 45) cD21_ rfl rfl (one_of HT_.out (by kernel_rfl)) (by decide) (fun K hK => ?_)
        refine goes_ Tryd.func46 (by kernel_rfl) rfl #[.bool true, .int .i64 1] (by rfl) rfl rfl gl_ ?_
        with_reducible refine (Z19.calls true 1 t112 _ A15.out).mono ?_
        rintro e w' ⟨rfl, ⟨nd, rfl⟩⟩
        refine ⟨_, rfl, ?_⟩
        refine hK.out _ _ ⟨(blk_cell BK111.out 0).trans rfl, (blk_cell BK111.out 1).trans rfl, ((HB.out.cell (World.block_lt_of_cell? w _ hw113_0)).trans hw113_0), ((HB.out.cell (World.block_lt_of_cell? w _ hw113_1)).trans hw113_1)⟩ (fun hHeld => ?_)
        clear hK K
        refine norm_ (a' := ?_) ?_ ?_
        rotate_left
        ·show Act.put _ (some 45) _ = _
         simp only [Act.put, s_t, s_z, s_s, i64_w, i32_w]
         rfl
        refine px_ 19 48 ?_ ?_ cD22_ HT_.out ?_ ?_ ?_; rotate_left 2; intro w'; go_simp; with_reducible rfl; simp only [Act.put, s_t, s_z, s_s, i64_w, i32_w]; rfl
        refine px_ 20 49 ?_ ?_ cD23_ HT_.out ?_ ?_ ?_; rotate_left 2; intro w'; go_simp; with_reducible rfl; simp only [Act.put, s_t, s_z, s_s, i64_w, i32_w]; rfl
        refine px_ 22 51 ?_ ?_ cD24_ HT_.out ?_ ?_ ?_; rotate_left 2; intro w'; go_simp; with_reducible rfl; simp only [Act.put, s_t, s_z, s_s, i64_w, i32_w]; rfl
        refine px_ 23 52 ?_ ?_ cD25_ HT_.out ?_ ?_ ?_; rotate_left 2; intro w'; go_simp; with_reducible rfl; simp only [Act.put, s_t, s_z, s_s, i64_w, i32_w]; rfl
        refine px_ 24 53 ?_ ?_ cD26_ HT_.out ?_ ?_ ?_; rotate_left 2; intro w'; go_simp; with_reducible rfl; simp only [Act.put, s_t, s_z, s_s, i64_w, i32_w]; rfl
        refine px_ 25 54 ?_ ?_ cD27_ HT_.out ?_ ?_ ?_; rotate_left 2; intro w'; go_simp; with_reducible rfl; simp only [Act.put, s_t, s_z, s_s, i64_w, i32_w]; rfl
        refine px_ 26 55 ?_ ?_ cD28_ HT_.out ?_ ?_ ?_; rotate_left 2; intro w'; go_simp; with_reducible rfl; simp only [Act.put, s_t, s_z, s_s, i64_w, i32_w]; rfl
        refine px_ 27 56 ?_ ?_ cD29_ HT_.out ?_ ?_ ?_; rotate_left 2; intro w'; go_simp; with_reducible rfl; simp only [Act.put, s_t, s_z, s_s, i64_w, i32_w]; rfl
        refine take_ (i := 21) (N := some 50) (v := ?_) (a' := ?_) cD36_ rfl rfl (take_ofW HT_.out HW_.out (by kernel_rfl)) (fun _ _ _ h => h) (Or.inl ⟨by rfl, ?_⟩) hHeld ?_ ?_
        rotate_left
        ·rintro w' ⟨s0, s1, s2, s3⟩
         go_simp
         with_reducible rfl
        rotate_left
        ·simp only [Act.put, s_t, s_z, s_s, i64_w, i32_w]
         rfl
        refine take_ (i := 28) (N := some 57) (v := ?_) (a' := ?_) cD37_ rfl rfl (take_ofW HT_.out HW_.out (by kernel_rfl)) (fun _ _ _ h => h) (Or.inl ⟨by rfl, ?_⟩) hHeld ?_ ?_
        rotate_left
        ·rintro w' ⟨s0, s1, s2, s3⟩
         go_simp
         with_reducible rfl
        rotate_left
        ·simp only [Act.put, s_t, s_z, s_s, i64_w, i32_w]
         rfl
        refine px_ 29 58 ?_ ?_ cD38_ HT_.out ?_ ?_ ?_; rotate_left 2; intro w'; go_simp; with_reducible rfl; simp only [Act.put, s_t, s_z, s_s, i64_w, i32_w]; rfl
        refine px_ 30 59 ?_ ?_ cD39_ HT_.out ?_ ?_ ?_; rotate_left 2; intro w'; go_simp; with_reducible rfl; simp only [Act.put, s_t, s_z, s_s, i64_w, i32_w]; rfl
        refine one_ (i := 31) (N := some 60) cD40_ rfl rfl (one_of HT_.out (by kernel_rfl)) (by decide) (fun K hK => ?_)
        refine goes_ Tryd.func46 (by kernel_rfl) rfl #[.bool (decide (((rd_T46 l0 x24_1).f0) ≤ ((rd_T46 l0 (ji18)).f1))), .int .i64 7] (by rfl) rfl rfl (by (try simp only [m1_, m2_, m3_]); first | done | (simp only [hji18]; rfl) | rfl | (simp only [List.length_drop, List.length_take]; rfl)) ?_
        with_reducible refine (Z19.calls (decide (((rd_T46 l0 x24_1).f0) ≤ ((rd_T46 l0 (ji18)).f1))) 7 t114 _ A21.out).mono ?_
        rintro e w' ⟨rfl, ⟨nd, rfl⟩⟩
        refine ⟨_, rfl, ?_⟩
        refine hK.out _ _ ⟨(blk_cell BK111.out 0).trans rfl, (blk_cell BK111.out 1).trans rfl, ((HB.out.cell (World.block_lt_of_cell? w _ hw113_0)).trans hw113_0), ((HB.out.cell (World.block_lt_of_cell? w _ hw113_1)).trans hw113_1)⟩ (fun hHeld => ?_)
        clear hK K
        refine norm_ (a' := ?_) ?_ ?_
        rotate_left
        ·show Act.put _ (some 60) _ = _
         simp only [Act.put, s_t, s_z, s_s, i64_w, i32_w]
         rfl
        refine one_ (i := 32) (N := some 61) cD41_ rfl rfl (one_of HT_.out (by kernel_rfl)) (by decide) (fun K hK => ?_)
        refine Kd.R_lit_step (Kd.int .i64) _ 29 ?hg (N := 61) ?hd (xs := ([t112, t114] : List Int)) (inner := [.int .i64 t112, .int .i64 t114]) (ok := fun _ => True) (okp := fun _ => True) ?hr ?hp (fun _ hk => hk) trivial (Below.refl _ _) (Nat.le_refl _) (by simp) ?_; (case hd => rfl); (case hg => rfl); (case hr => first | (go_simp; done) | (go_simp; rfl)); (case hp => exact (Reps.one (show Kd.M (Kd.int .i64) _ _ _ t112 [.int .i64 t112] from rfl) (Reps.one (show Kd.M (Kd.int .i64) _ _ _ t114 [.int .i64 t114] from rfl) (Reps.none _ _))))
        intro v116 w35 ho36 hb hg_ hnew_
        clear hg_ hnew_
        (first | rw [← Ny115.out] at ho36 | (simp only [Int.reduceToNat] at ho36; rw [← Ny115.out] at ho36))
        have n0_ := am_ (Kd.R_lower ho36 (below_size (bs_ HB.out GE111.out)))
        have n1_ := am_ (blk_below (g := gb111) (o := .cells #[.int .i64 ((rd_T46 l0 x24_1).f0), .int .i64 ((rd_T46 l0 x24_1).f1)] 46 (0, 0)) (bk_ BK111.out) hb)
        have n2_ := am_ (below_step (bs_ HB.out GE111.out) hb)
        clear BK111; clear HB; have HO117 := n0_; have BK111 := n1_; have HB := n2_; clear n0_ n1_ n2_; clear hb ho36
        obtain ⟨Ao37, co37, eo37⟩ := Kd.R_slice HO117.out
        (first | subst eo37 | (injection eo37 with f1_ f2_ f3_; have f4_ := f1_.symm; have f5_ := f3_.symm; clear f1_ f2_ f3_; subst f4_; subst f5_))
        refine hK.out _ _ ⟨(blk_cell BK111.out 0).trans rfl, (blk_cell BK111.out 1).trans rfl, ((HB.out.cell (World.block_lt_of_cell? w _ hw113_0)).trans hw113_0), ((HB.out.cell (World.block_lt_of_cell? w _ hw113_1)).trans hw113_1)⟩ (fun hHeld => ?_)
        clear hK K
        refine norm_ (a' := ?_) ?_ ?_
        rotate_left
        ·show Act.put _ (some 61) _ = _
         simp only [Act.put, s_t, s_z, s_s, i64_w, i32_w]
         rfl
        refine one_ (i := 33) (N := some 62) cD42_ rfl rfl (one_of HT_.out (by kernel_rfl)) (by decide) (fun K hK => ?_)
        refine goes_ Tryd.func45 (by kernel_rfl) rfl #[.slice Ao37 y115.length co37] (by rfl) rfl rfl gl_ ?_
        with_reducible refine (Z13.calls k1 _ _ y115 t118 _ ?side1 ?side2 A22.out).mono ?_
        (case side1 => exact cc_ (Kd.R_reads' HO117.out).2.2)
        (case side2 => exact (Kd.R_reads' HO117.out).2.1)
        rintro e w' ⟨rfl, ⟨nd, rfl⟩⟩
        refine ⟨_, rfl, ?_⟩
        refine hK.out _ _ ⟨(blk_cell BK111.out 0).trans rfl, (blk_cell BK111.out 1).trans rfl, ((HB.out.cell (World.block_lt_of_cell? w _ hw113_0)).trans hw113_0), ((HB.out.cell (World.block_lt_of_cell? w _ hw113_1)).trans hw113_1)⟩ (fun hHeld => ?_)
        clear hK K
        refine norm_ (a' := ?_) ?_ ?_
        rotate_left
        ·show Act.put _ (some 62) _ = _
         simp only [Act.put, s_t, s_z, s_s, i64_w, i32_w]
         rfl
        refine px_ 34 8 ?_ ?_ cD43_ HT_.out ?_ ?_ ?_; rotate_left 2; intro w'; go_simp; with_reducible rfl; simp only [Act.put, s_t, s_z, s_s, i64_w, i32_w]; rfl
        refine done_ (done_of HT_.out (by kernel_rfl)) ?_
        try go_wp2
        go_ret
        exact ⟨by first | rfl | (simp [errW_none, errW_some] <;> rfl) | (simp only [← hji17, ← hji18]; first | rfl | (simp [errW_none, errW_some] <;> rfl)) | (simp [*, errW_none, errW_some] <;> rfl), bs_ HB.out GE111.out⟩
      ·rw [if_neg c16] at H
       have c16b0 : decide (0 < x24_1) = false := decide_eq_false c16
       clear c16; replace H := Option.bind_eq_some_iff.mp H; obtain ⟨t119, A380, H⟩ := H; have A38 := am_ A380; clear A380
       obtain ⟨y120, hy120⟩ : ∃ y_ : List Int, y_ = (([t112, t119] : List Int)) := ⟨_, rfl⟩
       replace H : ((Z13.f k1 y120).bind fun t123 => (if t123 = 0 then (Z9.l0 k1 l0 a1 l0 (l0.length : Int) (wrap64 (x24_1 + 1))) else (some t123))) = some r := by first | (rw [hy120]; with_reducible exact H) | (have H2_ := (Option.bind_some _ _).symm.trans H; rw [hy120]; with_reducible exact H2_) | (have H2_ := (Option.bind_some _ _).symm.trans H; with_reducible exact H2_) | with_reducible exact H | (rw [hy120]; exact H) | exact H
       have Ny120 := am_ hy120; clear hy120; replace H := Option.bind_eq_some_iff.mp H; obtain ⟨t123, A390, H⟩ := H; have A39 := am_ A390; clear A390
       by_cases c40 : t123 = 0
       ·rw [if_pos c40] at H
        have c40b0 : (t123 == 0) = true := beq_iff_eq.mpr c40
        have c40b1 : (t123 != 0) = false := bne_eq_false_iff_eq.mpr c40
        clear c40
        have H' := am_ H
        clear H; have p110 : 0 ≤ (x24_1 : Int) := ode_; have q110 : x24_1 < (l0.length : Int) := ode_
        obtain ⟨ad110, e110, hx110_0, hx110_1⟩ := at_T46 HR0.out x24_1 p110 q110
        cases e110
        first | replace hx110_0 := (HB.out.cell (World.block_lt_of_cell? w _ hx110_0)).trans hx110_0 | skip
        first | replace hx110_1 := (HB.out.cell (World.block_lt_of_cell? w _ hx110_1)).trans hx110_1 | skip
        replace p110 := eq_true p110; replace q110 := eq_true q110
        try go_wp2_with (first | ((with_reducible refine gate_dst (N := 7) rfl ?_); (try (refine gate_guard (by rfl) ?_; dsimp only)); refine box_event ?hg (N := 7) ?hd (cs := #[.int .i64 0, .int .i64 0]) (t := 46) ?hr ?_; (case hd => rfl); (case hg => rfl); (case hr => first | (go_simp; done) | (go_simp; rfl)); intro gb111 hg w41 hbox hb; have n0_ := am_ (below_step (bw_ HB.out) hb); have n1_ := am_ (hbox); have n2_ := am_ ((by rw [hg]; exact (below_size (bw_ HB.out)) : w.heap.size ≤ gb111)); have n3_ := am_ ((by rw [hg]; exact (below_size (bw_ HB.out)) : w.heap.size ≤ gb111)); clear HB; have HB := n0_; have BK111 := n1_; have GW111 := n2_; have GE111 := n3_; clear n0_ n1_ n2_ n3_; clear hb hbox hg; have hcz42_0 : w41.cell? ⟨gb111, 0, none⟩ = some (.int .i64 0) := (blk_cell BK111.out 0).trans rfl; have hcz42_1 : w41.cell? ⟨gb111, 1, none⟩ = some (.int .i64 0) := (blk_cell BK111.out 1).trans rfl; have hfz42_0 := blk_frozen BK111.out 0; have hfz42_1 := blk_frozen BK111.out 1))
        have n0_ : Aside0 (((w41.setCell ⟨gb111, 0, none⟩ (.int .i64 ((rd_T46 l0 x24_1).f0))).setCell ⟨gb111, 1, none⟩ (.int .i64 ((rd_T46 l0 x24_1).f1))).heap[gb111]? = some (.cells #[.int .i64 ((rd_T46 l0 x24_1).f0), .int .i64 ((rd_T46 l0 x24_1).f1)] 46 (0, 0))) := ⟨by (with_reducible repeat (first | refine blk_drewN ?_ _ | refine blk_drew ?_ | refine blk_alloc ?_ _)); refine blk_put (cs := #[.int .i64 ((rd_T46 l0 x24_1).f0), .int .i64 0]) ?_ 1 _ rfl; (with_reducible repeat (first | refine blk_drewN ?_ _ | refine blk_drew ?_ | refine blk_alloc ?_ _)); refine blk_put (cs := #[.int .i64 0, .int .i64 0]) ?_ 0 _ rfl; (with_reducible repeat (first | refine blk_drewN ?_ _ | refine blk_drew ?_ | refine blk_alloc ?_ _)); exact BK111.out⟩
        have n1_ : Aside0 (Below w.heap.size w ((w41.setCell ⟨gb111, 0, none⟩ (.int .i64 ((rd_T46 l0 x24_1).f0))).setCell ⟨gb111, 1, none⟩ (.int .i64 ((rd_T46 l0 x24_1).f1)))) := ⟨bs_ HB.out GE111.out⟩
        (try clear BK111)
        (try clear HB)
        generalize ((w41.setCell ⟨gb111, 0, none⟩ (.int .i64 ((rd_T46 l0 x24_1).f0))).setCell ⟨gb111, 1, none⟩ (.int .i64 ((rd_T46 l0 x24_1).f1))) = w43 at n0_ n1_ ⊢
        have BK111 := n0_; have HB := n1_; clear n0_ n1_
        have n0_ := am_ (blk_drew BK111.out)
        have n1_ := am_ (b2_ HB.out)
        clear BK111; clear HB; have BK111 := n0_; have HB := n1_; clear n0_ n1_
        refine start_ (n := 35) (S := fun w' => w'.cell? ⟨gb111, 0, none⟩ = some (.int .i64 ((rd_T46 l0 x24_1).f0)) ∧ w'.cell? ⟨gb111, 1, none⟩ = some (.int .i64 ((rd_T46 l0 x24_1).f1))) (ds := []) cD0_ (by kernel_rfl) rfl rfl ⟨(blk_cell BK111.out 0).trans rfl, (blk_cell BK111.out 1).trans rfl⟩ (fun hHeld => ?_); refine with_tabW Z9.tab7 Z9.bits7 (fun HT_ HW_ => ?_)
        generalize w43.drew = w44 at BK111 HB hHeld ⊢
        refine px_ 0 29 ?_ ?_ cD1_ HT_.out ?_ ?_ ?_; rotate_left 2; intro w'; go_simp; with_reducible rfl; simp only [Act.put, s_t, s_z, s_s, i64_w, i32_w]; rfl
        refine px_ 17 46 ?_ ?_ cD2_ HT_.out ?_ ?_ ?_; rotate_left 2; intro w'; go_simp; with_reducible rfl; simp only [Act.put, s_t, s_z, s_s, i64_w, i32_w]; rfl
        refine px_ 18 47 ?_ ?_ cD3_ HT_.out ?_ ?_ ?_; rotate_left 2; intro w'; go_simp; with_reducible rfl; simp only [Act.put, s_t, s_z, s_s, i64_w, i32_w]; rfl
        refine take_ (i := 1) (N := some 30) (v := ?_) (a' := ?_) cD4_ rfl rfl (take_ofW HT_.out HW_.out (by kernel_rfl)) (fun _ _ _ h => h) (Or.inl ⟨by rfl, ?_⟩) hHeld ?_ ?_
        rotate_left
        ·rintro w' ⟨s0, s1⟩
         go_simp
         with_reducible rfl
        rotate_left
        ·simp only [Act.put, s_t, s_z, s_s, i64_w, i32_w]
         rfl
        refine px_ 2 31 ?_ ?_ cD5_ HT_.out ?_ ?_ ?_; rotate_left 2; intro w'; go_simp; with_reducible rfl; simp only [Act.put, s_t, s_z, s_s, i64_w, i32_w]; rfl
        refine px_ 3 32 ?_ ?_ cD6_ HT_.out ?_ ?_ ?_; rotate_left 2; intro w'; go_simp; with_reducible rfl; simp only [Act.put, s_t, s_z, s_s, i64_w, i32_w]; rfl
        refine pv_ (i := 4) (N := some 33) (a' := ?_) cD7_ (any_of HT_.out (by kernel_rfl)) ?_ ?_; rotate_left
        ·simp only [Act.put, s_t, s_z, s_s, i64_w, i32_w]; rfl
        refine pv_ (i := 5) (N := some 34) (a' := ?_) cD9_ (any_of HT_.out (by kernel_rfl)) ?_ ?_; rotate_left
        ·simp only [Act.put, s_t, s_z, s_s, i64_w, i32_w]; rfl
        refine pv_ (i := 6) (N := some 35) (a' := ?_) cD10_ (any_of HT_.out (by kernel_rfl)) ?_ ?_; rotate_left
        ·simp only [Act.put, s_t, s_z, s_s, i64_w, i32_w]; rfl
        refine pv_ (i := 7) (N := some 36) (a' := ?_) cD11_ (any_of HT_.out (by kernel_rfl)) ?_ ?_; rotate_left
        ·simp only [Act.put, s_t, s_z, s_s, i64_w, i32_w]; rfl
        refine pv_ (i := 8) (N := some 37) (a' := ?_) cD12_ (any_of HT_.out (by kernel_rfl)) ?_ ?_; rotate_left
        ·simp only [Act.put, s_t, s_z, s_s, i64_w, i32_w]; rfl
        refine px_ 9 38 ?_ ?_ cD13_ HT_.out ?_ ?_ ?_; rotate_left 2; intro w'; go_simp; with_reducible rfl; simp only [Act.put, s_t, s_z, s_s, i64_w, i32_w]; rfl
        refine px_ 10 39 ?_ ?_ cD14_ HT_.out ?_ ?_ ?_; rotate_left 2; intro w'; go_simp; with_reducible rfl; simp only [Act.put, s_t, s_z, s_s, i64_w, i32_w]; rfl
        refine pv_ (i := 11) (N := some 40) (a' := ?_) cD15_ (any_of HT_.out (by kernel_rfl)) ?_ ?_; rotate_left
        ·simp only [Act.put, s_t, s_z, s_s, i64_w, i32_w]; rfl
        refine pv_ (i := 12) (N := some 41) (a' := ?_) cD17_ (any_of HT_.out (by kernel_rfl)) ?_ ?_; rotate_left
        ·simp only [Act.put, s_t, s_z, s_s, i64_w, i32_w]; rfl
        refine pv_ (i := 13) (N := some 42) (a' := ?_) cD18_ (any_of HT_.out (by kernel_rfl)) ?_ ?_; rotate_left
        ·simp only [Act.put, s_t, s_z, s_s, i64_w, i32_w]; rfl
        refine pv_ (i := 14) (N := some 43) (a' := ?_) cD19_ (any_of HT_.out (by kernel_rfl)) ?_ ?_; rotate_left
        ·simp only [Act.put, s_t, s_z, s_s, i64_w, i32_w]; rfl
        refine px_ 15 44 ?_ ?_ cD20_ HT_.out ?_ ?_ ?_; rotate_left 2; intro w'; go_simp; with_reducible rfl; simp only [Act.put, s_t, s_z, s_s, i64_w, i32_w]; rfl
        refine one_ (i := 16) (N := some 45) cD21_ rfl rfl (one_of HT_.out (by kernel_rfl)) (by decide) (fun K hK => ?_)
        refine goes_ Tryd.func46 (by kernel_rfl) rfl #[.bool true, .int .i64 1] (by rfl) rfl rfl gl_ ?_
        with_reducible refine (Z19.calls true 1 t112 _ A15.out).mono ?_
        rintro e w' ⟨rfl, ⟨nd, rfl⟩⟩
        refine ⟨_, rfl, ?_⟩
        refine hK.out _ _ ⟨(blk_cell BK111.out 0).trans rfl, (blk_cell BK111.out 1).trans rfl⟩ (fun hHeld => ?_)
        clear hK K
        refine norm_ (a' := ?_) ?_ ?_
        rotate_left
        ·show Act.put _ (some 45) _ = _
         simp only [Act.put, s_t, s_z, s_s, i64_w, i32_w]
         rfl
        refine px_ 19 48 ?_ ?_ cD22_ HT_.out ?_ ?_ ?_; rotate_left 2; intro w'; go_simp; with_reducible rfl; simp only [Act.put, s_t, s_z, s_s, i64_w, i32_w]; rfl
        refine pv_ (i := 20) (N := some 49) (a' := ?_) cD23_ (any_of HT_.out (by kernel_rfl)) ?_ ?_; rotate_left
        ·simp only [Act.put, s_t, s_z, s_s, i64_w, i32_w]; rfl
        refine pv_ (i := 21) (N := some 50) (a' := ?_) cD30_ (any_of HT_.out (by kernel_rfl)) ?_ ?_; rotate_left
        ·simp only [Act.put, s_t, s_z, s_s, i64_w, i32_w]; rfl
        refine pv_ (i := 22) (N := some 51) (a' := ?_) cD31_ (any_of HT_.out (by kernel_rfl)) ?_ ?_; rotate_left
        ·simp only [Act.put, s_t, s_z, s_s, i64_w, i32_w]; rfl
        refine pv_ (i := 23) (N := some 52) (a' := ?_) cD32_ (any_of HT_.out (by kernel_rfl)) ?_ ?_; rotate_left
        ·simp only [Act.put, s_t, s_z, s_s, i64_w, i32_w]; rfl
        refine pv_ (i := 24) (N := some 53) (a' := ?_) cD33_ (any_of HT_.out (by kernel_rfl)) ?_ ?_; rotate_left
        ·simp only [Act.put, s_t, s_z, s_s, i64_w, i32_w]; rfl
        refine pv_ (i := 25) (N := some 54) (a' := ?_) cD34_ (any_of HT_.out (by kernel_rfl)) ?_ ?_; rotate_left
        ·simp only [Act.put, s_t, s_z, s_s, i64_w, i32_w]; rfl
        refine pv_ (i := 26) (N := some 55) (a' := ?_) cD35_ (any_of HT_.out (by kernel_rfl)) ?_ ?_; rotate_left
        ·simp only [Act.put, s_t, s_z, s_s, i64_w, i32_w]; rfl
        refine pv_ (i := 27) (N := some 56) (a' := ?_) cD36_ (any_of HT_.out (by kernel_rfl)) ?_ ?_; rotate_left
        ·simp only [Act.put, s_t, s_z, s_s, i64_w, i32_w]; rfl
        refine pv_ (i := 28) (N := some 57) (a' := ?_) cD37_ (any_of HT_.out (by kernel_rfl)) ?_ ?_; rotate_left
        ·simp only [Act.put, s_t, s_z, s_s, i64_w, i32_w]; rfl
        refine pv_ (i := 29) (N := some 58) (a' := ?_) cD38_ (any_of HT_.out (by kernel_rfl)) ?_ ?_; rotate_left
        ·simp only [Act.put, s_t, s_z, s_s, i64_w, i32_w]; rfl
        refine px_ 30 59 ?_ ?_ cD39_ HT_.out ?_ ?_ ?_; rotate_left 2; intro w'; go_simp; with_reducible rfl; simp only [Act.put, s_t, s_z, s_s, i64_w, i32_w]; rfl
        refine one_ (i := 31) (N := some 60) cD40_ rfl rfl (one_of HT_.out (by kernel_rfl)) (by decide) (fun K hK => ?_)
        refine goes_ Tryd.func46 (by kernel_rfl) rfl #[.bool false, .int .i64 7] (by rfl) rfl rfl gl_ ?_
        with_reducible refine (Z19.calls false 7 t119 _ A38.out).mono ?_
        rintro e w' ⟨rfl, ⟨nd, rfl⟩⟩
        refine ⟨_, rfl, ?_⟩
        refine hK.out _ _ ⟨(blk_cell BK111.out 0).trans rfl, (blk_cell BK111.out 1).trans rfl⟩ (fun hHeld => ?_)
        clear hK K
        refine norm_ (a' := ?_) ?_ ?_
        rotate_left
        ·show Act.put _ (some 60) _ = _
         simp only [Act.put, s_t, s_z, s_s, i64_w, i32_w]
         rfl
        refine one_ (i := 32) (N := some 61) cD41_ rfl rfl (one_of HT_.out (by kernel_rfl)) (by decide) (fun K hK => ?_)
        refine Kd.R_lit_step (Kd.int .i64) _ 29 ?hg (N := 61) ?hd (xs := ([t112, t119] : List Int)) (inner := [.int .i64 t112, .int .i64 t119]) (ok := fun _ => True) (okp := fun _ => True) ?hr ?hp (fun _ hk => hk) trivial (Below.refl _ _) (Nat.le_refl _) (by simp) ?_; (case hd => rfl); (case hg => rfl); (case hr => first | (go_simp; done) | (go_simp; rfl)); (case hp => exact (Reps.one (show Kd.M (Kd.int .i64) _ _ _ t112 [.int .i64 t112] from rfl) (Reps.one (show Kd.M (Kd.int .i64) _ _ _ t119 [.int .i64 t119] from rfl) (Reps.none _ _))))
        intro v121 w45 ho46 hb hg_ hnew_
        clear hg_ hnew_
        (first | rw [← Ny120.out] at ho46 | (simp only [Int.reduceToNat] at ho46; rw [← Ny120.out] at ho46))
        have n0_ := am_ (Kd.R_lower ho46 (below_size (bs_ HB.out GE111.out)))
        have n1_ := am_ (blk_below (g := gb111) (o := .cells #[.int .i64 ((rd_T46 l0 x24_1).f0), .int .i64 ((rd_T46 l0 x24_1).f1)] 46 (0, 0)) (bk_ BK111.out) hb)
        have n2_ := am_ (below_step (bs_ HB.out GE111.out) hb)
        clear BK111; clear HB; have HO122 := n0_; have BK111 := n1_; have HB := n2_; clear n0_ n1_ n2_; clear hb ho46
        obtain ⟨Ao47, co47, eo47⟩ := Kd.R_slice HO122.out
        (first | subst eo47 | (injection eo47 with f1_ f2_ f3_; have f4_ := f1_.symm; have f5_ := f3_.symm; clear f1_ f2_ f3_; subst f4_; subst f5_))
        refine hK.out _ _ ⟨(blk_cell BK111.out 0).trans rfl, (blk_cell BK111.out 1).trans rfl⟩ (fun hHeld => ?_)
        clear hK K
        refine norm_ (a' := ?_) ?_ ?_
        rotate_left
        ·show Act.put _ (some 61) _ = _
         simp only [Act.put, s_t, s_z, s_s, i64_w, i32_w]
         rfl
        refine one_ (i := 33) (N := some 62) cD42_ rfl rfl (one_of HT_.out (by kernel_rfl)) (by decide) (fun K hK => ?_)
        refine goes_ Tryd.func45 (by kernel_rfl) rfl #[.slice Ao47 y120.length co47] (by rfl) rfl rfl gl_ ?_
        with_reducible refine (Z13.calls k1 _ _ y120 t123 _ ?side1 ?side2 A39.out).mono ?_
        (case side1 => exact cc_ (Kd.R_reads' HO122.out).2.2)
        (case side2 => exact (Kd.R_reads' HO122.out).2.1)
        rintro e w' ⟨rfl, ⟨nd, rfl⟩⟩
        refine ⟨_, rfl, ?_⟩
        refine hK.out _ _ ⟨(blk_cell BK111.out 0).trans rfl, (blk_cell BK111.out 1).trans rfl⟩ (fun hHeld => ?_)
        clear hK K
        refine norm_ (a' := ?_) ?_ ?_
        rotate_left
        ·show Act.put _ (some 62) _ = _
         simp only [Act.put, s_t, s_z, s_s, i64_w, i32_w]
         rfl
        refine px_ 34 8 ?_ ?_ cD43_ HT_.out ?_ ?_ ?_; rotate_left 2; intro w'; go_simp; with_reducible rfl; simp only [Act.put, s_t, s_z, s_s, i64_w, i32_w]; rfl
        refine done_ (done_of HT_.out (by kernel_rfl)) ?_
        try go_wp2
        go_roundg k1
        case measure => have := HK1.out; omega
        case rel => exact ⟨(wrap64 (x24_1 + 1)), tr_, H', ⟨by have := HK1.out; omega⟩, ⟨bs_ HB.out GE111.out⟩⟩
       ·rw [if_neg c40] at H
        have c40b0 : (t123 == 0) = false := beq_eq_false_iff_ne.mpr c40
        have c40b1 : (t123 != 0) = true := bne_iff_ne.mpr c40
        obtain rfl := Option.some.inj H
        have p110 : 0 ≤ (x24_1 : Int) := ode_; have q110 : x24_1 < (l0.length : Int) := ode_
        obtain ⟨ad110, e110, hx110_0, hx110_1⟩ := at_T46 HR0.out x24_1 p110 q110
        cases e110
        first | replace hx110_0 := (HB.out.cell (World.block_lt_of_cell? w _ hx110_0)).trans hx110_0 | skip
        first | replace hx110_1 := (HB.out.cell (World.block_lt_of_cell? w _ hx110_1)).trans hx110_1 | skip
        replace p110 := eq_true p110; replace q110 := eq_true q110
        try go_wp2_with (first | ((with_reducible refine gate_dst (N := 7) rfl ?_); (try (refine gate_guard (by rfl) ?_; dsimp only)); refine box_event ?hg (N := 7) ?hd (cs := #[.int .i64 0, .int .i64 0]) (t := 46) ?hr ?_; (case hd => rfl); (case hg => rfl); (case hr => first | (go_simp; done) | (go_simp; rfl)); intro gb111 hg w48 hbox hb; have n0_ := am_ (below_step (bw_ HB.out) hb); have n1_ := am_ (hbox); have n2_ := am_ ((by rw [hg]; exact (below_size (bw_ HB.out)) : w.heap.size ≤ gb111)); have n3_ := am_ ((by rw [hg]; exact (below_size (bw_ HB.out)) : w.heap.size ≤ gb111)); clear HB; have HB := n0_; have BK111 := n1_; have GW111 := n2_; have GE111 := n3_; clear n0_ n1_ n2_ n3_; clear hb hbox hg; have hcz49_0 : w48.cell? ⟨gb111, 0, none⟩ = some (.int .i64 0) := (blk_cell BK111.out 0).trans rfl; have hcz49_1 : w48.cell? ⟨gb111, 1, none⟩ = some (.int .i64 0) := (blk_cell BK111.out 1).trans rfl; have hfz49_0 := blk_frozen BK111.out 0; have hfz49_1 := blk_frozen BK111.out 1))
        have n0_ : Aside0 (((w48.setCell ⟨gb111, 0, none⟩ (.int .i64 ((rd_T46 l0 x24_1).f0))).setCell ⟨gb111, 1, none⟩ (.int .i64 ((rd_T46 l0 x24_1).f1))).heap[gb111]? = some (.cells #[.int .i64 ((rd_T46 l0 x24_1).f0), .int .i64 ((rd_T46 l0 x24_1).f1)] 46 (0, 0))) := ⟨by (with_reducible repeat (first | refine blk_drewN ?_ _ | refine blk_drew ?_ | refine blk_alloc ?_ _)); refine blk_put (cs := #[.int .i64 ((rd_T46 l0 x24_1).f0), .int .i64 0]) ?_ 1 _ rfl; (with_reducible repeat (first | refine blk_drewN ?_ _ | refine blk_drew ?_ | refine blk_alloc ?_ _)); refine blk_put (cs := #[.int .i64 0, .int .i64 0]) ?_ 0 _ rfl; (with_reducible repeat (first | refine blk_drewN ?_ _ | refine blk_drew ?_ | refine blk_alloc ?_ _)); exact BK111.out⟩
        have n1_ : Aside0 (Below w.heap.size w ((w48.setCell ⟨gb111, 0, none⟩ (.int .i64 ((rd_T46 l0 x24_1).f0))).setCell ⟨gb111, 1, none⟩ (.int .i64 ((rd_T46 l0 x24_1).f1)))) := ⟨bs_ HB.out GE111.out⟩
        (try clear BK111)
        (try clear HB)
        generalize ((w48.setCell ⟨gb111, 0, none⟩ (.int .i64 ((rd_T46 l0 x24_1).f0))).setCell ⟨gb111, 1, none⟩ (.int .i64 ((rd_T46 l0 x24_1).f1))) = w50 at n0_ n1_ ⊢
        have BK111 := n0_; have HB := n1_; clear n0_ n1_
        have n0_ := am_ (blk_drew BK111.out)
        have n1_ := am_ (b2_ HB.out)
        clear BK111; clear HB; have BK111 := n0_; have HB := n1_; clear n0_ n1_
        refine start_ (n := 35) (S := fun w' => w'.cell? ⟨gb111, 0, none⟩ = some (.int .i64 ((rd_T46 l0 x24_1).f0)) ∧ w'.cell? ⟨gb111, 1, none⟩ = some (.int .i64 ((rd_T46 l0 x24_1).f1))) (ds := []) cD0_ (by kernel_rfl) rfl rfl ⟨(blk_cell BK111.out 0).trans rfl, (blk_cell BK111.out 1).trans rfl⟩ (fun hHeld => ?_); refine with_tabW Z9.tab7 Z9.bits7 (fun HT_ HW_ => ?_)
        generalize w50.drew = w51 at BK111 HB hHeld ⊢
        refine px_ 0 29 ?_ ?_ cD1_ HT_.out ?_ ?_ ?_; rotate_left 2; intro w'; go_simp; with_reducible rfl; simp only [Act.put, s_t, s_z, s_s, i64_w, i32_w]; rfl
        refine px_ 17 46 ?_ ?_ cD2_ HT_.out ?_ ?_ ?_; rotate_left 2; intro w'; go_simp; with_reducible rfl; simp only [Act.put, s_t, s_z, s_s, i64_w, i32_w]; rfl
        refine px_ 18 47 ?_ ?_ cD3_ HT_.out ?_ ?_ ?_; rotate_left 2; intro w'; go_simp; with_reducible rfl; simp only [Act.put, s_t, s_z, s_s, i64_w, i32_w]; rfl
        refine take_ (i := 1) (N := some 30) (v := ?_) (a' := ?_) cD4_ rfl rfl (take_ofW HT_.out HW_.out (by kernel_rfl)) (fun _ _ _ h => h) (Or.inl ⟨by rfl, ?_⟩) hHeld ?_ ?_
        rotate_left
        ·rintro w' ⟨s0, s1⟩
         go_simp
         with_reducible rfl
        rotate_left
        ·simp only [Act.put, s_t, s_z, s_s, i64_w, i32_w]
         rfl
        refine px_ 2 31 ?_ ?_ cD5_ HT_.out ?_ ?_ ?_; rotate_left 2; intro w'; go_simp; with_reducible rfl; simp only [Act.put, s_t, s_z, s_s, i64_w, i32_w]; rfl
        refine px_ 3 32 ?_ ?_ cD6_ HT_.out ?_ ?_ ?_; rotate_left 2; intro w'; go_simp; with_reducible rfl; simp only [Act.put, s_t, s_z, s_s, i64_w, i32_w]; rfl
        refine pv_ (i := 4) (N := some 33) (a' := ?_) cD7_ (any_of HT_.out (by kernel_rfl)) ?_ ?_; rotate_left
        ·simp only [Act.put, s_t, s_z, s_s, i64_w, i32_w]; rfl
        refine pv_ (i := 5) (N := some 34) (a' := ?_) cD9_ (any_of HT_.out (by kernel_rfl)) ?_ ?_; rotate_left
        ·simp only [Act.put, s_t, s_z, s_s, i64_w, i32_w]; rfl
        refine pv_ (i := 6) (N := some 35) (a' := ?_) cD10_ (any_of HT_.out (by kernel_rfl)) ?_ ?_; rotate_left
        ·simp only [Act.put, s_t, s_z, s_s, i64_w, i32_w]; rfl
        refine pv_ (i := 7) (N := some 36) (a' := ?_) cD11_ (any_of HT_.out (by kernel_rfl)) ?_ ?_; rotate_left
        ·simp only [Act.put, s_t, s_z, s_s, i64_w, i32_w]; rfl
        refine pv_ (i := 8) (N := some 37) (a' := ?_) cD12_ (any_of HT_.out (by kernel_rfl)) ?_ ?_; rotate_left
        ·simp only [Act.put, s_t, s_z, s_s, i64_w, i32_w]; rfl
        refine px_ 9 38 ?_ ?_ cD13_ HT_.out ?_ ?_ ?_; rotate_left 2; intro w'; go_simp; with_reducible rfl; simp only [Act.put, s_t, s_z, s_s, i64_w, i32_w]; rfl
        refine px_ 10 39 ?_ ?_ cD14_ HT_.out ?_ ?_ ?_; rotate_left 2; intro w'; go_simp; with_reducible rfl; simp only [Act.put, s_t, s_z, s_s, i64_w, i32_w]; rfl
        refine pv_ (i := 11) (N := some 40) (a' := ?_) cD15_ (any_of HT_.out (by kernel_rfl)) ?_ ?_; rotate_left
        ·simp only [Act.put, s_t, s_z, s_s, i64_w, i32_w]; rfl
        refine pv_ (i := 12) (N := some 41) (a' := ?_) cD17_ (any_of HT_.out (by kernel_rfl)) ?_ ?_; rotate_left
        ·simp only [Act.put, s_t, s_z, s_s, i64_w, i32_w]; rfl
        refine pv_ (i := 13) (N := some 42) (a' := ?_) cD18_ (any_of HT_.out (by kernel_rfl)) ?_ ?_; rotate_left
        ·simp only [Act.put, s_t, s_z, s_s, i64_w, i32_w]; rfl
        refine pv_ (i := 14) (N := some 43) (a' := ?_) cD19_ (any_of HT_.out (by kernel_rfl)) ?_ ?_; rotate_left
        ·simp only [Act.put, s_t, s_z, s_s, i64_w, i32_w]; rfl
        refine px_ 15 44 ?_ ?_ cD20_ HT_.out ?_ ?_ ?_; rotate_left 2; intro w'; go_simp; with_reducible rfl; simp only [Act.put, s_t, s_z, s_s, i64_w, i32_w]; rfl
        refine one_ (i := 16) (N := some 45) cD21_ rfl rfl (one_of HT_.out (by kernel_rfl)) (by decide) (fun K hK => ?_)
        refine goes_ Tryd.func46 (by kernel_rfl) rfl #[.bool true, .int .i64 1] (by rfl) rfl rfl gl_ ?_
        with_reducible refine (Z19.calls true 1 t112 _ A15.out).mono ?_
        rintro e w' ⟨rfl, ⟨nd, rfl⟩⟩
        refine ⟨_, rfl, ?_⟩
        refine hK.out _ _ ⟨(blk_cell BK111.out 0).trans rfl, (blk_cell BK111.out 1).trans rfl⟩ (fun hHeld => ?_)
        clear hK K
        refine norm_ (a' := ?_) ?_ ?_
        rotate_left
        ·show Act.put _ (some 45) _ = _
         simp only [Act.put, s_t, s_z, s_s, i64_w, i32_w]
         rfl
        refine px_ 19 48 ?_ ?_ cD22_ HT_.out ?_ ?_ ?_; rotate_left 2; intro w'; go_simp; with_reducible rfl; simp only [Act.put, s_t, s_z, s_s, i64_w, i32_w]; rfl
        refine pv_ (i := 20) (N := some 49) (a' := ?_) cD23_ (any_of HT_.out (by kernel_rfl)) ?_ ?_; rotate_left
        ·simp only [Act.put, s_t, s_z, s_s, i64_w, i32_w]; rfl
        refine pv_ (i := 21) (N := some 50) (a' := ?_) cD30_ (any_of HT_.out (by kernel_rfl)) ?_ ?_; rotate_left
        ·simp only [Act.put, s_t, s_z, s_s, i64_w, i32_w]; rfl
        refine pv_ (i := 22) (N := some 51) (a' := ?_) cD31_ (any_of HT_.out (by kernel_rfl)) ?_ ?_; rotate_left
        ·simp only [Act.put, s_t, s_z, s_s, i64_w, i32_w]; rfl
        refine pv_ (i := 23) (N := some 52) (a' := ?_) cD32_ (any_of HT_.out (by kernel_rfl)) ?_ ?_; rotate_left
        ·simp only [Act.put, s_t, s_z, s_s, i64_w, i32_w]; rfl
        refine pv_ (i := 24) (N := some 53) (a' := ?_) cD33_ (any_of HT_.out (by kernel_rfl)) ?_ ?_; rotate_left
        ·simp only [Act.put, s_t, s_z, s_s, i64_w, i32_w]; rfl
        refine pv_ (i := 25) (N := some 54) (a' := ?_) cD34_ (any_of HT_.out (by kernel_rfl)) ?_ ?_; rotate_left
        ·simp only [Act.put, s_t, s_z, s_s, i64_w, i32_w]; rfl
        refine pv_ (i := 26) (N := some 55) (a' := ?_) cD35_ (any_of HT_.out (by kernel_rfl)) ?_ ?_; rotate_left
        ·simp only [Act.put, s_t, s_z, s_s, i64_w, i32_w]; rfl
        refine pv_ (i := 27) (N := some 56) (a' := ?_) cD36_ (any_of HT_.out (by kernel_rfl)) ?_ ?_; rotate_left
        ·simp only [Act.put, s_t, s_z, s_s, i64_w, i32_w]; rfl
        refine pv_ (i := 28) (N := some 57) (a' := ?_) cD37_ (any_of HT_.out (by kernel_rfl)) ?_ ?_; rotate_left
        ·simp only [Act.put, s_t, s_z, s_s, i64_w, i32_w]; rfl
        refine pv_ (i := 29) (N := some 58) (a' := ?_) cD38_ (any_of HT_.out (by kernel_rfl)) ?_ ?_; rotate_left
        ·simp only [Act.put, s_t, s_z, s_s, i64_w, i32_w]; rfl
        refine px_ 30 59 ?_ ?_ cD39_ HT_.out ?_ ?_ ?_; rotate_left 2; intro w'; go_simp; with_reducible rfl; simp only [Act.put, s_t, s_z, s_s, i64_w, i32_w]; rfl
        refine one_ (i := 31) (N := some 60) cD40_ rfl rfl (one_of HT_.out (by kernel_rfl)) (by decide) (fun K hK => ?_)
        refine goes_ Tryd.func46 (by kernel_rfl) rfl #[.bool false, .int .i64 7] (by rfl) rfl rfl gl_ ?_
        with_reducible refine (Z19.calls false 7 t119 _ A38.out).mono ?_
        rintro e w' ⟨rfl, ⟨nd, rfl⟩⟩
        refine ⟨_, rfl, ?_⟩
        refine hK.out _ _ ⟨(blk_cell BK111.out 0).trans rfl, (blk_cell BK111.out 1).trans rfl⟩ (fun hHeld => ?_)
        clear hK K
        refine norm_ (a' := ?_) ?_ ?_
        rotate_left
        ·show Act.put _ (some 60) _ = _
         simp only [Act.put, s_t, s_z, s_s, i64_w, i32_w]
         rfl
        refine one_ (i := 32) (N := some 61) cD41_ rfl rfl (one_of HT_.out (by kernel_rfl)) (by decide) (fun K hK => ?_)
        refine Kd.R_lit_step (Kd.int .i64) _ 29 ?hg (N := 61) ?hd (xs := ([t112, t119] : List Int)) (inner := [.int .i64 t112, .int .i64 t119]) (ok := fun _ => True) (okp := fun _ => True) ?hr ?hp (fun _ hk => hk) trivial (Below.refl _ _) (Nat.le_refl _) (by simp) ?_; (case hd => rfl); (case hg => rfl); (case hr => first | (go_simp; done) | (go_simp; rfl)); (case hp => exact (Reps.one (show Kd.M (Kd.int .i64) _ _ _ t112 [.int .i64 t112] from rfl) (Reps.one (show Kd.M (Kd.int .i64) _ _ _ t119 [.int .i64 t119] from rfl) (Reps.none _ _))))
        intro v121 w52 ho53 hb hg_ hnew_
        clear hg_ hnew_
        (first | rw [← Ny120.out] at ho53 | (simp only [Int.reduceToNat] at ho53; rw [← Ny120.out] at ho53))
        have n0_ := am_ (Kd.R_lower ho53 (below_size (bs_ HB.out GE111.out)))
        have n1_ := am_ (blk_below (g := gb111) (o := .cells #[.int .i64 ((rd_T46 l0 x24_1).f0), .int .i64 ((rd_T46 l0 x24_1).f1)] 46 (0, 0)) (bk_ BK111.out) hb)
        have n2_ := am_ (below_step (bs_ HB.out GE111.out) hb)
        clear BK111; clear HB; have HO122 := n0_; have BK111 := n1_; have HB := n2_; clear n0_ n1_ n2_; clear hb ho53
        obtain ⟨Ao54, co54, eo54⟩ := Kd.R_slice HO122.out
        (first | subst eo54 | (injection eo54 with f1_ f2_ f3_; have f4_ := f1_.symm; have f5_ := f3_.symm; clear f1_ f2_ f3_; subst f4_; subst f5_))
        refine hK.out _ _ ⟨(blk_cell BK111.out 0).trans rfl, (blk_cell BK111.out 1).trans rfl⟩ (fun hHeld => ?_)
        clear hK K
        refine norm_ (a' := ?_) ?_ ?_
        rotate_left
        ·show Act.put _ (some 61) _ = _
         simp only [Act.put, s_t, s_z, s_s, i64_w, i32_w]
         rfl
        refine one_ (i := 33) (N := some 62) cD42_ rfl rfl (one_of HT_.out (by kernel_rfl)) (by decide) (fun K hK => ?_)
        refine goes_ Tryd.func45 (by kernel_rfl) rfl #[.slice Ao54 y120.length co54] (by rfl) rfl rfl gl_ ?_
        with_reducible refine (Z13.calls k1 _ _ y120 t123 _ ?side1 ?side2 A39.out).mono ?_
        (case side1 => exact cc_ (Kd.R_reads' HO122.out).2.2)
        (case side2 => exact (Kd.R_reads' HO122.out).2.1)
        rintro e w' ⟨rfl, ⟨nd, rfl⟩⟩
        refine ⟨_, rfl, ?_⟩
        refine hK.out _ _ ⟨(blk_cell BK111.out 0).trans rfl, (blk_cell BK111.out 1).trans rfl⟩ (fun hHeld => ?_)
        clear hK K
        refine norm_ (a' := ?_) ?_ ?_
        rotate_left
        ·show Act.put _ (some 62) _ = _
         simp only [Act.put, s_t, s_z, s_s, i64_w, i32_w]
         rfl
        refine px_ 34 8 ?_ ?_ cD43_ HT_.out ?_ ?_ ?_; rotate_left 2; intro w'; go_simp; with_reducible rfl; simp only [Act.put, s_t, s_z, s_s, i64_w, i32_w]; rfl
        refine done_ (done_of HT_.out (by kernel_rfl)) ?_
        try go_wp2
        go_ret
        exact ⟨by first | rfl | (simp [errW_none, errW_some] <;> rfl) | (simp [*, errW_none, errW_some] <;> rfl), bs_ HB.out GE111.out⟩
     ·rw [if_neg c14] at H
      have c14b0 : decide (((rd_T46 l0 x24_1).f0) < 0) = false := decide_eq_false c14
      clear c14
      by_cases c55 : ((rd_T46 l0 x24_1).f0) ≥ ((rd_T46 l0 x24_1).f1)
      ·rw [if_pos c55] at H
       have c55b0 : decide (((rd_T46 l0 x24_1).f1) ≤ ((rd_T46 l0 x24_1).f0)) = true := decide_eq_true c55
       clear c55; replace H := Option.bind_eq_some_iff.mp H; obtain ⟨t124, A560, H⟩ := H; have A56 := am_ A560; clear A560
       by_cases c57 : x24_1 > 0
       ·rw [if_pos c57] at H
        have c57b0 : decide (0 < x24_1) = true := decide_eq_true c57
        clear c57
        obtain ⟨ji58, hji58⟩ : ∃ j_ : Int, (mx x24_1 1) = j_ := ⟨_, rfl⟩
        replace H : (if 0 ≤ (wrap64 ((ji58) - 1)) then (if (wrap64 ((ji58) - 1)) < (l0.length : Int) then ((Z19.f (decide (((rd_T46 l0 x24_1).f0) ≤ ((rd_T46 l0 (wrap64 ((ji58) - 1))).f1))) 7).bind fun t126 => ((Z13.f k1 (([t124, t126] : List Int))).bind fun t130 => (if t130 = 0 then (Z9.l0 k1 l0 a1 l0 (l0.length : Int) (wrap64 (x24_1 + 1))) else (some t130)))) else (none)) else (none)) = some r := by first | (rw [hji58] at H; exact H) | (simp only [hji58] at H ⊢; exact H)
        (try rw [hji58] at A56)
        have hji58_ : (if x24_1 < 1 then 1 else x24_1) = ji58 := hji58
        obtain ⟨ji59, hji59⟩ : ∃ j_ : Int, (wrap64 ((ji58) - 1)) = j_ := ⟨_, rfl⟩
        replace H : (if 0 ≤ (ji59) then (if (ji59) < (l0.length : Int) then ((Z19.f (decide (((rd_T46 l0 x24_1).f0) ≤ ((rd_T46 l0 (ji59)).f1))) 7).bind fun t126 => ((Z13.f k1 (([t124, t126] : List Int))).bind fun t130 => (if t130 = 0 then (Z9.l0 k1 l0 a1 l0 (l0.length : Int) (wrap64 (x24_1 + 1))) else (some t130)))) else (none)) else (none)) = some r := by first | (rw [hji59] at H; exact H) | (simp only [hji59] at H ⊢; exact H)
        (try rw [hji59] at A56)
        have hji59w : (IntKind.i64.wrap ((ji58) - 1)) = ji59 := (i64_w _).trans hji59
        by_cases c60 : 0 ≤ (ji59)
        case neg => exact (nn_ c60 H).elim
        rw [if_pos c60] at H; have c60b0 := decide_eq_true c60; clear c60
        by_cases c61 : (ji59) < (l0.length : Int)
        case neg => exact (nn_ c61 H).elim
        rw [if_pos c61] at H; have c61b0 := decide_eq_true c61; clear c61; replace H := Option.bind_eq_some_iff.mp H; obtain ⟨t126, A620, H⟩ := H; have A62 := am_ A620; clear A620
        obtain ⟨y127, hy127⟩ : ∃ y_ : List Int, y_ = (([t124, t126] : List Int)) := ⟨_, rfl⟩
        replace H : ((Z13.f k1 y127).bind fun t130 => (if t130 = 0 then (Z9.l0 k1 l0 a1 l0 (l0.length : Int) (wrap64 (x24_1 + 1))) else (some t130))) = some r := by first | (rw [hy127]; with_reducible exact H) | (have H2_ := (Option.bind_some _ _).symm.trans H; rw [hy127]; with_reducible exact H2_) | (have H2_ := (Option.bind_some _ _).symm.trans H; with_reducible exact H2_) | with_reducible exact H | (rw [hy127]; exact H) | exact H
        have Ny127 := am_ hy127; clear hy127; replace H := Option.bind_eq_some_iff.mp H; obtain ⟨t130, A630, H⟩ := H; have A63 := am_ A630; clear A630
        by_cases c64 : t130 = 0
        ·rw [if_pos c64] at H
         have c64b0 : (t130 == 0) = true := beq_iff_eq.mpr c64
         have c64b1 : (t130 != 0) = false := bne_eq_false_iff_eq.mpr c64
         clear c64
         have H' := am_ H
         clear H; have p110 : 0 ≤ (x24_1 : Int) := ode_; have q110 : x24_1 < (l0.length : Int) := ode_
         obtain ⟨ad110, e110, hx110_0, hx110_1⟩ := at_T46 HR0.out x24_1 p110 q110
         cases e110
         first | replace hx110_0 := (HB.out.cell (World.block_lt_of_cell? w _ hx110_0)).trans hx110_0 | skip
         first | replace hx110_1 := (HB.out.cell (World.block_lt_of_cell? w _ hx110_1)).trans hx110_1 | skip
         replace p110 := eq_true p110; replace q110 := eq_true q110
         try go_wp2_with (first | ((with_reducible refine gate_dst (N := 7) rfl ?_); (try (refine gate_guard (by rfl) ?_; dsimp only)); refine box_event ?hg (N := 7) ?hd (cs := #[.int .i64 0, .int .i64 0]) (t := 46) ?hr ?_; (case hd => rfl); (case hg => rfl); (case hr => first | (go_simp; done) | (go_simp; rfl)); intro gb111 hg w65 hbox hb; have n0_ := am_ (below_step (bw_ HB.out) hb); have n1_ := am_ (hbox); have n2_ := am_ ((by rw [hg]; exact (below_size (bw_ HB.out)) : w.heap.size ≤ gb111)); have n3_ := am_ ((by rw [hg]; exact (below_size (bw_ HB.out)) : w.heap.size ≤ gb111)); clear HB; have HB := n0_; have BK111 := n1_; have GW111 := n2_; have GE111 := n3_; clear n0_ n1_ n2_ n3_; clear hb hbox hg; have hcz66_0 : w65.cell? ⟨gb111, 0, none⟩ = some (.int .i64 0) := (blk_cell BK111.out 0).trans rfl; have hcz66_1 : w65.cell? ⟨gb111, 1, none⟩ = some (.int .i64 0) := (blk_cell BK111.out 1).trans rfl; have hfz66_0 := blk_frozen BK111.out 0; have hfz66_1 := blk_frozen BK111.out 1))
         have n0_ : Aside0 (((w65.setCell ⟨gb111, 0, none⟩ (.int .i64 ((rd_T46 l0 x24_1).f0))).setCell ⟨gb111, 1, none⟩ (.int .i64 ((rd_T46 l0 x24_1).f1))).heap[gb111]? = some (.cells #[.int .i64 ((rd_T46 l0 x24_1).f0), .int .i64 ((rd_T46 l0 x24_1).f1)] 46 (0, 0))) := ⟨by (with_reducible repeat (first | refine blk_drewN ?_ _ | refine blk_drew ?_ | refine blk_alloc ?_ _)); refine blk_put (cs := #[.int .i64 ((rd_T46 l0 x24_1).f0), .int .i64 0]) ?_ 1 _ rfl; (with_reducible repeat (first | refine blk_drewN ?_ _ | refine blk_drew ?_ | refine blk_alloc ?_ _)); refine blk_put (cs := #[.int .i64 0, .int .i64 0]) ?_ 0 _ rfl; (with_reducible repeat (first | refine blk_drewN ?_ _ | refine blk_drew ?_ | refine blk_alloc ?_ _)); exact BK111.out⟩
         have n1_ : Aside0 (Below w.heap.size w ((w65.setCell ⟨gb111, 0, none⟩ (.int .i64 ((rd_T46 l0 x24_1).f0))).setCell ⟨gb111, 1, none⟩ (.int .i64 ((rd_T46 l0 x24_1).f1)))) := ⟨bs_ HB.out GE111.out⟩
         (try clear BK111)
         (try clear HB)
         generalize ((w65.setCell ⟨gb111, 0, none⟩ (.int .i64 ((rd_T46 l0 x24_1).f0))).setCell ⟨gb111, 1, none⟩ (.int .i64 ((rd_T46 l0 x24_1).f1))) = w67 at n0_ n1_ ⊢
         have BK111 := n0_; have HB := n1_; clear n0_ n1_
         have n0_ := am_ (blk_drew BK111.out)
         have n1_ := am_ (b2_ HB.out)
         clear BK111; clear HB; have BK111 := n0_; have HB := n1_; clear n0_ n1_; have p125 : 0 ≤ ((ji59) : Int) := ode_; have q125 : (ji59) < (l0.length : Int) := ode_
         obtain ⟨ad125, e125, hx125_0, hx125_1⟩ := at_T46 HR0.out (ji59) p125 q125
         have hw125_1 := hx125_1
         have hw125_0 := hx125_0
         obtain rfl : ad110 = ad125 := (by injection e125)
         first | replace hx125_0 := (HB.out.cell (World.block_lt_of_cell? w _ hx125_0)).trans hx125_0 | skip
         first | replace hx125_1 := (HB.out.cell (World.block_lt_of_cell? w _ hx125_1)).trans hx125_1 | skip
         replace p125 := eq_true p125; replace q125 := eq_true q125
         refine start_ (n := 35) (S := fun w' => w'.cell? ⟨gb111, 0, none⟩ = some (.int .i64 ((rd_T46 l0 x24_1).f0)) ∧ w'.cell? ⟨gb111, 1, none⟩ = some (.int .i64 ((rd_T46 l0 x24_1).f1)) ∧ w'.cell? (ad110.add (((ji59)).toNat * 2)) = some (.int .i64 ((rd_T46 l0 (ji59)).f0)) ∧ w'.cell? ⟨(ad110.add (((ji59)).toNat * 2)).block, (ad110.add (((ji59)).toNat * 2)).off + 1, none⟩ = some (.int .i64 ((rd_T46 l0 (ji59)).f1))) (ds := []) cD0_ (by kernel_rfl) rfl rfl ⟨(blk_cell BK111.out 0).trans rfl, (blk_cell BK111.out 1).trans rfl, ((HB.out.cell (World.block_lt_of_cell? w _ hw125_0)).trans hw125_0), ((HB.out.cell (World.block_lt_of_cell? w _ hw125_1)).trans hw125_1)⟩ (fun hHeld => ?_); refine with_tabW Z9.tab7 Z9.bits7 (fun HT_ HW_ => ?_)
         generalize w67.drew = w68 at BK111 HB hx125_0 hx125_1 hHeld ⊢
         refine px_ 0 29 ?_ ?_ cD1_ HT_.out ?_ ?_ ?_; rotate_left 2; intro w'; go_simp; with_reducible rfl; simp only [Act.put, s_t, s_z, s_s, i64_w, i32_w]; rfl
         refine px_ 17 46 ?_ ?_ cD2_ HT_.out ?_ ?_ ?_; rotate_left 2; intro w'; go_simp; with_reducible rfl; simp only [Act.put, s_t, s_z, s_s, i64_w, i32_w]; rfl
         refine px_ 18 47 ?_ ?_ cD3_ HT_.out ?_ ?_ ?_; rotate_left 2; intro w'; go_simp; with_reducible rfl; simp only [Act.put, s_t, s_z, s_s, i64_w, i32_w]; rfl
         refine take_ (i := 1) (N := some 30) (v := ?_) (a' := ?_) cD4_ rfl rfl (take_ofW HT_.out HW_.out (by kernel_rfl)) (fun _ _ _ h => h) (Or.inl ⟨by rfl, ?_⟩) hHeld ?_ ?_
         rotate_left
         ·rintro w' ⟨s0, s1, s2, s3⟩
          go_simp
          with_reducible rfl
         rotate_left
         ·simp only [Act.put, s_t, s_z, s_s, i64_w, i32_w]
          rfl
         refine px_ 2 31 ?_ ?_ cD5_ HT_.out ?_ ?_ ?_; rotate_left 2; intro w'; go_simp; with_reducible rfl; simp only [Act.put, s_t, s_z, s_s, i64_w, i32_w]; rfl
         refine px_ 3 32 ?_ ?_ cD6_ HT_.out ?_ ?_ ?_; rotate_left 2; intro w'; go_simp; with_reducible rfl; simp only [Act.put, s_t, s_z, s_s, i64_w, i32_w]; rfl
         refine px_ 4 33 ?_ ?_ cD7_ HT_.out ?_ ?_ ?_; rotate_left 2; intro w'; go_simp; with_reducible rfl; simp only [Act.put, s_t, s_z, s_s, i64_w, i32_w]; rfl
         refine px_ 6 35 ?_ ?_ cD8_ HT_.out ?_ ?_ ?_; rotate_left 2; intro w'; go_simp; with_reducible rfl; simp only [Act.put, s_t, s_z, s_s, i64_w, i32_w]; rfl
         refine take_ (i := 5) (N := some 34) (v := ?_) (a' := ?_) cD10_ rfl rfl (take_ofW HT_.out HW_.out (by kernel_rfl)) (fun _ _ _ h => h) (Or.inl ⟨by rfl, ?_⟩) hHeld ?_ ?_
         rotate_left
         ·rintro w' ⟨s0, s1, s2, s3⟩
          go_simp
          with_reducible rfl
         rotate_left
         ·simp only [Act.put, s_t, s_z, s_s, i64_w, i32_w]
          rfl
         refine take_ (i := 7) (N := some 36) (v := ?_) (a' := ?_) cD11_ rfl rfl (take_ofW HT_.out HW_.out (by kernel_rfl)) (fun _ _ _ h => h) (Or.inl ⟨by rfl, ?_⟩) hHeld ?_ ?_
         rotate_left
         ·rintro w' ⟨s0, s1, s2, s3⟩
          go_simp
          with_reducible rfl
         rotate_left
         ·simp only [Act.put, s_t, s_z, s_s, i64_w, i32_w]
          rfl
         refine px_ 8 37 ?_ ?_ cD12_ HT_.out ?_ ?_ ?_; rotate_left 2; intro w'; go_simp; with_reducible rfl; simp only [Act.put, s_t, s_z, s_s, i64_w, i32_w]; rfl
         refine px_ 9 38 ?_ ?_ cD13_ HT_.out ?_ ?_ ?_; rotate_left 2; intro w'; go_simp; with_reducible rfl; simp only [Act.put, s_t, s_z, s_s, i64_w, i32_w]; rfl
         refine px_ 10 39 ?_ ?_ cD14_ HT_.out ?_ ?_ ?_; rotate_left 2; intro w'; go_simp; with_reducible rfl; simp only [Act.put, s_t, s_z, s_s, i64_w, i32_w]; rfl
         refine pv_ (i := 11) (N := some 40) (a' := ?_) cD15_ (any_of HT_.out (by kernel_rfl)) ?_ ?_; rotate_left
         ·simp only [Act.put, s_t, s_z, s_s, i64_w, i32_w]; rfl
         refine pv_ (i := 12) (N := some 41) (a' := ?_) cD17_ (any_of HT_.out (by kernel_rfl)) ?_ ?_; rotate_left
         ·simp only [Act.put, s_t, s_z, s_s, i64_w, i32_w]; rfl
         refine pv_ (i := 13) (N := some 42) (a' := ?_) cD18_ (any_of HT_.out (by kernel_rfl)) ?_ ?_; rotate_left
         ·simp only [Act.put, s_t, s_z, s_s, i64_w, i32_w]; rfl
         refine pv_ (i := 14) (N := some 43) (a' := ?_) cD19_ (any_of HT_.out (by kernel_rfl)) ?_ ?_; rotate_left
         ·simp only [Act.put, s_t, s_z, s_s, i64_w, i32_w]; rfl
         refine px_ 15 44 ?_ ?_ cD20_ HT_.out ?_ ?_ ?_; rotate_left 2; intro w'; go_simp; with_reducible rfl; simp only [Act.put, s_t, s_z, s_s, i64_w, i32_w]; rfl
         refine one_ (i := 16) (N := some 45) cD21_ rfl rfl (one_of HT_.out (by kernel_rfl)) (by decide) (fun K hK => ?_)
         refine goes_ Tryd.func46 (by kernel_rfl) rfl #[.bool true, .int .i64 1] (by rfl) rfl rfl gl_ ?_
         with_reducible refine (Z19.calls true 1 t124 _ A56.out).mono ?_
         rintro e w' ⟨rfl, ⟨nd, rfl⟩⟩
         refine ⟨_, rfl, ?_⟩
         refine hK.out _ _ ⟨(blk_cell BK111.out 0).trans rfl, (blk_cell BK111.out 1).trans rfl, ((HB.out.cell (World.block_lt_of_cell? w _ hw125_0)).trans hw125_0), ((HB.out.cell (World.block_lt_of_cell? w _ hw125_1)).trans hw125_1)⟩ (fun hHeld => ?_)
         clear hK K
         refine norm_ (a' := ?_) ?_ ?_
         rotate_left
         ·show Act.put _ (some 45) _ = _
          simp only [Act.put, s_t, s_z, s_s, i64_w, i32_w]
          rfl
         refine px_ 19 48 ?_ ?_ cD22_ HT_.out ?_ ?_ ?_; rotate_left 2; intro w'; go_simp; with_reducible rfl; simp only [Act.put, s_t, s_z, s_s, i64_w, i32_w]; rfl
         refine px_ 20 49 ?_ ?_ cD23_ HT_.out ?_ ?_ ?_; rotate_left 2; intro w'; go_simp; with_reducible rfl; simp only [Act.put, s_t, s_z, s_s, i64_w, i32_w]; rfl
         refine px_ 22 51 ?_ ?_ cD24_ HT_.out ?_ ?_ ?_; rotate_left 2; intro w'; go_simp; with_reducible rfl; simp only [Act.put, s_t, s_z, s_s, i64_w, i32_w]; rfl
         refine px_ 23 52 ?_ ?_ cD25_ HT_.out ?_ ?_ ?_; rotate_left 2; intro w'; go_simp; with_reducible rfl; simp only [Act.put, s_t, s_z, s_s, i64_w, i32_w]; rfl
         refine px_ 24 53 ?_ ?_ cD26_ HT_.out ?_ ?_ ?_; rotate_left 2; intro w'; go_simp; with_reducible rfl; simp only [Act.put, s_t, s_z, s_s, i64_w, i32_w]; rfl
         refine px_ 25 54 ?_ ?_ cD27_ HT_.out ?_ ?_ ?_; rotate_left 2; intro w'; go_simp; with_reducible rfl; simp only [Act.put, s_t, s_z, s_s, i64_w, i32_w]; rfl
         refine px_ 26 55 ?_ ?_ cD28_ HT_.out ?_ ?_ ?_; rotate_left 2; intro w'; go_simp; with_reducible rfl; simp only [Act.put, s_t, s_z, s_s, i64_w, i32_w]; rfl
         refine px_ 27 56 ?_ ?_ cD29_ HT_.out ?_ ?_ ?_; rotate_left 2; intro w'; go_simp; with_reducible rfl; simp only [Act.put, s_t, s_z, s_s, i64_w, i32_w]; rfl
         refine take_ (i := 21) (N := some 50) (v := ?_) (a' := ?_) cD36_ rfl rfl (take_ofW HT_.out HW_.out (by kernel_rfl)) (fun _ _ _ h => h) (Or.inl ⟨by rfl, ?_⟩) hHeld ?_ ?_
         rotate_left
         ·rintro w' ⟨s0, s1, s2, s3⟩
          go_simp
          with_reducible rfl
         rotate_left
         ·simp only [Act.put, s_t, s_z, s_s, i64_w, i32_w]
          rfl
         refine take_ (i := 28) (N := some 57) (v := ?_) (a' := ?_) cD37_ rfl rfl (take_ofW HT_.out HW_.out (by kernel_rfl)) (fun _ _ _ h => h) (Or.inl ⟨by rfl, ?_⟩) hHeld ?_ ?_
         rotate_left
         ·rintro w' ⟨s0, s1, s2, s3⟩
          go_simp
          with_reducible rfl
         rotate_left
         ·simp only [Act.put, s_t, s_z, s_s, i64_w, i32_w]
          rfl
         refine px_ 29 58 ?_ ?_ cD38_ HT_.out ?_ ?_ ?_; rotate_left 2; intro w'; go_simp; with_reducible rfl; simp only [Act.put, s_t, s_z, s_s, i64_w, i32_w]; rfl
         refine px_ 30 59 ?_ ?_ cD39_ HT_.out ?_ ?_ ?_; rotate_left 2; intro w'; go_simp; with_reducible rfl; simp only [Act.put, s_t, s_z, s_s, i64_w, i32_w]; rfl
         refine one_ (i := 31) (N := some 60) cD40_ rfl rfl (one_of HT_.out (by kernel_rfl)) (by decide) (fun K hK => ?_)
         refine goes_ Tryd.func46 (by kernel_rfl) rfl #[.bool (decide (((rd_T46 l0 x24_1).f0) ≤ ((rd_T46 l0 (ji59)).f1))), .int .i64 7] (by rfl) rfl rfl (by (try simp only [m1_, m2_, m3_]); first | done | (simp only [hji59]; rfl) | rfl | (simp only [List.length_drop, List.length_take]; rfl)) ?_
         with_reducible refine (Z19.calls (decide (((rd_T46 l0 x24_1).f0) ≤ ((rd_T46 l0 (ji59)).f1))) 7 t126 _ A62.out).mono ?_
         rintro e w' ⟨rfl, ⟨nd, rfl⟩⟩
         refine ⟨_, rfl, ?_⟩
         refine hK.out _ _ ⟨(blk_cell BK111.out 0).trans rfl, (blk_cell BK111.out 1).trans rfl, ((HB.out.cell (World.block_lt_of_cell? w _ hw125_0)).trans hw125_0), ((HB.out.cell (World.block_lt_of_cell? w _ hw125_1)).trans hw125_1)⟩ (fun hHeld => ?_)
         clear hK K
         refine norm_ (a' := ?_) ?_ ?_
         rotate_left
         ·show Act.put _ (some 60) _ = _
          simp only [Act.put, s_t, s_z, s_s, i64_w, i32_w]
          rfl
         refine one_ (i := 32) (N := some 61) cD41_ rfl rfl (one_of HT_.out (by kernel_rfl)) (by decide) (fun K hK => ?_)
         refine Kd.R_lit_step (Kd.int .i64) _ 29 ?hg (N := 61) ?hd (xs := ([t124, t126] : List Int)) (inner := [.int .i64 t124, .int .i64 t126]) (ok := fun _ => True) (okp := fun _ => True) ?hr ?hp (fun _ hk => hk) trivial (Below.refl _ _) (Nat.le_refl _) (by simp) ?_; (case hd => rfl); (case hg => rfl); (case hr => first | (go_simp; done) | (go_simp; rfl)); (case hp => exact (Reps.one (show Kd.M (Kd.int .i64) _ _ _ t124 [.int .i64 t124] from rfl) (Reps.one (show Kd.M (Kd.int .i64) _ _ _ t126 [.int .i64 t126] from rfl) (Reps.none _ _))))
         intro v128 w69 ho70 hb hg_ hnew_
         clear hg_ hnew_
         (first | rw [← Ny127.out] at ho70 | (simp only [Int.reduceToNat] at ho70; rw [← Ny127.out] at ho70))
         have n0_ := am_ (Kd.R_lower ho70 (below_size (bs_ HB.out GE111.out)))
         have n1_ := am_ (blk_below (g := gb111) (o := .cells #[.int .i64 ((rd_T46 l0 x24_1).f0), .int .i64 ((rd_T46 l0 x24_1).f1)] 46 (0, 0)) (bk_ BK111.out) hb)
         have n2_ := am_ (below_step (bs_ HB.out GE111.out) hb)
         clear BK111; clear HB; have HO129 := n0_; have BK111 := n1_; have HB := n2_; clear n0_ n1_ n2_; clear hb ho70
         obtain ⟨Ao71, co71, eo71⟩ := Kd.R_slice HO129.out
         (first | subst eo71 | (injection eo71 with f1_ f2_ f3_; have f4_ := f1_.symm; have f5_ := f3_.symm; clear f1_ f2_ f3_; subst f4_; subst f5_))
         refine hK.out _ _ ⟨(blk_cell BK111.out 0).trans rfl, (blk_cell BK111.out 1).trans rfl, ((HB.out.cell (World.block_lt_of_cell? w _ hw125_0)).trans hw125_0), ((HB.out.cell (World.block_lt_of_cell? w _ hw125_1)).trans hw125_1)⟩ (fun hHeld => ?_)
         clear hK K
         refine norm_ (a' := ?_) ?_ ?_
         rotate_left
         ·show Act.put _ (some 61) _ = _
          simp only [Act.put, s_t, s_z, s_s, i64_w, i32_w]
          rfl
         refine one_ (i := 33) (N := some 62) cD42_ rfl rfl (one_of HT_.out (by kernel_rfl)) (by decide) (fun K hK => ?_)
         refine goes_ Tryd.func45 (by kernel_rfl) rfl #[.slice Ao71 y127.length co71] (by rfl) rfl rfl gl_ ?_
         with_reducible refine (Z13.calls k1 _ _ y127 t130 _ ?side1 ?side2 A63.out).mono ?_
         (case side1 => exact cc_ (Kd.R_reads' HO129.out).2.2)
         (case side2 => exact (Kd.R_reads' HO129.out).2.1)
         rintro e w' ⟨rfl, ⟨nd, rfl⟩⟩
         refine ⟨_, rfl, ?_⟩
         refine hK.out _ _ ⟨(blk_cell BK111.out 0).trans rfl, (blk_cell BK111.out 1).trans rfl, ((HB.out.cell (World.block_lt_of_cell? w _ hw125_0)).trans hw125_0), ((HB.out.cell (World.block_lt_of_cell? w _ hw125_1)).trans hw125_1)⟩ (fun hHeld => ?_)
         clear hK K
         refine norm_ (a' := ?_) ?_ ?_
         rotate_left
         ·show Act.put _ (some 62) _ = _
          simp only [Act.put, s_t, s_z, s_s, i64_w, i32_w]
          rfl
         refine px_ 34 8 ?_ ?_ cD43_ HT_.out ?_ ?_ ?_; rotate_left 2; intro w'; go_simp; with_reducible rfl; simp only [Act.put, s_t, s_z, s_s, i64_w, i32_w]; rfl
         refine done_ (done_of HT_.out (by kernel_rfl)) ?_
         try go_wp2
         go_roundg k1
         case measure => have := HK1.out; omega
         case rel => exact ⟨(wrap64 (x24_1 + 1)), tr_, H', ⟨by have := HK1.out; omega⟩, ⟨bs_ HB.out GE111.out⟩⟩
        ·rw [if_neg c64] at H
         have c64b0 : (t130 == 0) = false := beq_eq_false_iff_ne.mpr c64
         have c64b1 : (t130 != 0) = true := bne_iff_ne.mpr c64
         obtain rfl := Option.some.inj H
         have p110 : 0 ≤ (x24_1 : Int) := ode_; have q110 : x24_1 < (l0.length : Int) := ode_
         obtain ⟨ad110, e110, hx110_0, hx110_1⟩ := at_T46 HR0.out x24_1 p110 q110
         cases e110
         first | replace hx110_0 := (HB.out.cell (World.block_lt_of_cell? w _ hx110_0)).trans hx110_0 | skip
         first | replace hx110_1 := (HB.out.cell (World.block_lt_of_cell? w _ hx110_1)).trans hx110_1 | skip
         replace p110 := eq_true p110; replace q110 := eq_true q110
         try go_wp2_with (first | ((with_reducible refine gate_dst (N := 7) rfl ?_); (try (refine gate_guard (by rfl) ?_; dsimp only)); refine box_event ?hg (N := 7) ?hd (cs := #[.int .i64 0, .int .i64 0]) (t := 46) ?hr ?_; (case hd => rfl); (case hg => rfl); (case hr => first | (go_simp; done) | (go_simp; rfl)); intro gb111 hg w72 hbox hb; have n0_ := am_ (below_step (bw_ HB.out) hb); have n1_ := am_ (hbox); have n2_ := am_ ((by rw [hg]; exact (below_size (bw_ HB.out)) : w.heap.size ≤ gb111)); have n3_ := am_ ((by rw [hg]; exact (below_size (bw_ HB.out)) : w.heap.size ≤ gb111)); clear HB; have HB := n0_; have BK111 := n1_; have GW111 := n2_; have GE111 := n3_; clear n0_ n1_ n2_ n3_; clear hb hbox hg; have hcz73_0 : w72.cell? ⟨gb111, 0, none⟩ = some (.int .i64 0) := (blk_cell BK111.out 0).trans rfl; have hcz73_1 : w72.cell? ⟨gb111, 1, none⟩ = some (.int .i64 0) := (blk_cell BK111.out 1).trans rfl; have hfz73_0 := blk_frozen BK111.out 0; have hfz73_1 := blk_frozen BK111.out 1))
         have n0_ : Aside0 (((w72.setCell ⟨gb111, 0, none⟩ (.int .i64 ((rd_T46 l0 x24_1).f0))).setCell ⟨gb111, 1, none⟩ (.int .i64 ((rd_T46 l0 x24_1).f1))).heap[gb111]? = some (.cells #[.int .i64 ((rd_T46 l0 x24_1).f0), .int .i64 ((rd_T46 l0 x24_1).f1)] 46 (0, 0))) := ⟨by (with_reducible repeat (first | refine blk_drewN ?_ _ | refine blk_drew ?_ | refine blk_alloc ?_ _)); refine blk_put (cs := #[.int .i64 ((rd_T46 l0 x24_1).f0), .int .i64 0]) ?_ 1 _ rfl; (with_reducible repeat (first | refine blk_drewN ?_ _ | refine blk_drew ?_ | refine blk_alloc ?_ _)); refine blk_put (cs := #[.int .i64 0, .int .i64 0]) ?_ 0 _ rfl; (with_reducible repeat (first | refine blk_drewN ?_ _ | refine blk_drew ?_ | refine blk_alloc ?_ _)); exact BK111.out⟩
         have n1_ : Aside0 (Below w.heap.size w ((w72.setCell ⟨gb111, 0, none⟩ (.int .i64 ((rd_T46 l0 x24_1).f0))).setCell ⟨gb111, 1, none⟩ (.int .i64 ((rd_T46 l0 x24_1).f1)))) := ⟨bs_ HB.out GE111.out⟩
         (try clear BK111)
         (try clear HB)
         generalize ((w72.setCell ⟨gb111, 0, none⟩ (.int .i64 ((rd_T46 l0 x24_1).f0))).setCell ⟨gb111, 1, none⟩ (.int .i64 ((rd_T46 l0 x24_1).f1))) = w74 at n0_ n1_ ⊢
         have BK111 := n0_; have HB := n1_; clear n0_ n1_
         have n0_ := am_ (blk_drew BK111.out)
         have n1_ := am_ (b2_ HB.out)
         clear BK111; clear HB; have BK111 := n0_; have HB := n1_; clear n0_ n1_; have p125 : 0 ≤ ((ji59) : Int) := ode_; have q125 : (ji59) < (l0.length : Int) := ode_
         obtain ⟨ad125, e125, hx125_0, hx125_1⟩ := at_T46 HR0.out (ji59) p125 q125
         have hw125_1 := hx125_1
         have hw125_0 := hx125_0
         obtain rfl : ad110 = ad125 := (by injection e125)
         first | replace hx125_0 := (HB.out.cell (World.block_lt_of_cell? w _ hx125_0)).trans hx125_0 | skip
         first | replace hx125_1 := (HB.out.cell (World.block_lt_of_cell? w _ hx125_1)).trans hx125_1 | skip
         replace p125 := eq_true p125; replace q125 := eq_true q125
         refine start_ (n := 35) (S := fun w' => w'.cell? ⟨gb111, 0, none⟩ = some (.int .i64 ((rd_T46 l0 x24_1).f0)) ∧ w'.cell? ⟨gb111, 1, none⟩ = some (.int .i64 ((rd_T46 l0 x24_1).f1)) ∧ w'.cell? (ad110.add (((ji59)).toNat * 2)) = some (.int .i64 ((rd_T46 l0 (ji59)).f0)) ∧ w'.cell? ⟨(ad110.add (((ji59)).toNat * 2)).block, (ad110.add (((ji59)).toNat * 2)).off + 1, none⟩ = some (.int .i64 ((rd_T46 l0 (ji59)).f1))) (ds := []) cD0_ (by kernel_rfl) rfl rfl ⟨(blk_cell BK111.out 0).trans rfl, (blk_cell BK111.out 1).trans rfl, ((HB.out.cell (World.block_lt_of_cell? w _ hw125_0)).trans hw125_0), ((HB.out.cell (World.block_lt_of_cell? w _ hw125_1)).trans hw125_1)⟩ (fun hHeld => ?_); refine with_tabW Z9.tab7 Z9.bits7 (fun HT_ HW_ => ?_)
         generalize w74.drew = w75 at BK111 HB hx125_0 hx125_1 hHeld ⊢
         refine px_ 0 29 ?_ ?_ cD1_ HT_.out ?_ ?_ ?_; rotate_left 2; intro w'; go_simp; with_reducible rfl; simp only [Act.put, s_t, s_z, s_s, i64_w, i32_w]; rfl
         refine px_ 17 46 ?_ ?_ cD2_ HT_.out ?_ ?_ ?_; rotate_left 2; intro w'; go_simp; with_reducible rfl; simp only [Act.put, s_t, s_z, s_s, i64_w, i32_w]; rfl
         refine px_ 18 47 ?_ ?_ cD3_ HT_.out ?_ ?_ ?_; rotate_left 2; intro w'; go_simp; with_reducible rfl; simp only [Act.put, s_t, s_z, s_s, i64_w, i32_w]; rfl
         refine take_ (i := 1) (N := some 30) (v := ?_) (a' := ?_) cD4_ rfl rfl (take_ofW HT_.out HW_.out (by kernel_rfl)) (fun _ _ _ h => h) (Or.inl ⟨by rfl, ?_⟩) hHeld ?_ ?_
         rotate_left
         ·rintro w' ⟨s0, s1, s2, s3⟩
          go_simp
          with_reducible rfl
         rotate_left
         ·simp only [Act.put, s_t, s_z, s_s, i64_w, i32_w]
          rfl
         refine px_ 2 31 ?_ ?_ cD5_ HT_.out ?_ ?_ ?_; rotate_left 2; intro w'; go_simp; with_reducible rfl; simp only [Act.put, s_t, s_z, s_s, i64_w, i32_w]; rfl
         refine px_ 3 32 ?_ ?_ cD6_ HT_.out ?_ ?_ ?_; rotate_left 2; intro w'; go_simp; with_reducible rfl; simp only [Act.put, s_t, s_z, s_s, i64_w, i32_w]; rfl
         refine px_ 4 33 ?_ ?_ cD7_ HT_.out ?_ ?_ ?_; rotate_left 2; intro w'; go_simp; with_reducible rfl; simp only [Act.put, s_t, s_z, s_s, i64_w, i32_w]; rfl
         refine px_ 6 35 ?_ ?_ cD8_ HT_.out ?_ ?_ ?_; rotate_left 2; intro w'; go_simp; with_reducible rfl; simp only [Act.put, s_t, s_z, s_s, i64_w, i32_w]; rfl
         refine take_ (i := 5) (N := some 34) (v := ?_) (a' := ?_) cD10_ rfl rfl (take_ofW HT_.out HW_.out (by kernel_rfl)) (fun _ _ _ h => h) (Or.inl ⟨by rfl, ?_⟩) hHeld ?_ ?_
         rotate_left
         ·rintro w' ⟨s0, s1, s2, s3⟩
          go_simp
          with_reducible rfl
         rotate_left
         ·simp only [Act.put, s_t, s_z, s_s, i64_w, i32_w]
          rfl
         refine take_ (i := 7) (N := some 36) (v := ?_) (a' := ?_) cD11_ rfl rfl (take_ofW HT_.out HW_.out (by kernel_rfl)) (fun _ _ _ h => h) (Or.inl ⟨by rfl, ?_⟩) hHeld ?_ ?_
         rotate_left
         ·rintro w' ⟨s0, s1, s2, s3⟩
          go_simp
          with_reducible rfl
         rotate_left
         ·simp only [Act.put, s_t, s_z, s_s, i64_w, i32_w]
          rfl
         refine px_ 8 37 ?_ ?_ cD12_ HT_.out ?_ ?_ ?_; rotate_left 2; intro w'; go_simp; with_reducible rfl; simp only [Act.put, s_t, s_z, s_s, i64_w, i32_w]; rfl
         refine px_ 9 38 ?_ ?_ cD13_ HT_.out ?_ ?_ ?_; rotate_left 2; intro w'; go_simp; with_reducible rfl; simp only [Act.put, s_t, s_z, s_s, i64_w, i32_w]; rfl
         refine px_ 10 39 ?_ ?_ cD14_ HT_.out ?_ ?_ ?_; rotate_left 2; intro w'; go_simp; with_reducible rfl; simp only [Act.put, s_t, s_z, s_s, i64_w, i32_w]; rfl
         refine pv_ (i := 11) (N := some 40) (a' := ?_) cD15_ (any_of HT_.out (by kernel_rfl)) ?_ ?_; rotate_left
         ·simp only [Act.put, s_t, s_z, s_s, i64_w, i32_w]; rfl
         refine pv_ (i := 12) (N := some 41) (a' := ?_) cD17_ (any_of HT_.out (by kernel_rfl)) ?_ ?_; rotate_left
         ·simp only [Act.put, s_t, s_z, s_s, i64_w, i32_w]; rfl
         refine pv_ (i := 13) (N := some 42) (a' := ?_) cD18_ (any_of HT_.out (by kernel_rfl)) ?_ ?_; rotate_left
         ·simp only [Act.put, s_t, s_z, s_s, i64_w, i32_w]; rfl
         refine pv_ (i := 14) (N := some 43) (a' := ?_) cD19_ (any_of HT_.out (by kernel_rfl)) ?_ ?_; rotate_left
         ·simp only [Act.put, s_t, s_z, s_s, i64_w, i32_w]; rfl
         refine px_ 15 44 ?_ ?_ cD20_ HT_.out ?_ ?_ ?_; rotate_left 2; intro w'; go_simp; with_reducible rfl; simp only [Act.put, s_t, s_z, s_s, i64_w, i32_w]; rfl
         refine one_ (i := 16) (N := some 45) cD21_ rfl rfl (one_of HT_.out (by kernel_rfl)) (by decide) (fun K hK => ?_)
         refine goes_ Tryd.func46 (by kernel_rfl) rfl #[.bool true, .int .i64 1] (by rfl) rfl rfl gl_ ?_
         with_reducible refine (Z19.calls true 1 t124 _ A56.out).mono ?_
         rintro e w' ⟨rfl, ⟨nd, rfl⟩⟩
         refine ⟨_, rfl, ?_⟩
         refine hK.out _ _ ⟨(blk_cell BK111.out 0).trans rfl, (blk_cell BK111.out 1).trans rfl, ((HB.out.cell (World.block_lt_of_cell? w _ hw125_0)).trans hw125_0), ((HB.out.cell (World.block_lt_of_cell? w _ hw125_1)).trans hw125_1)⟩ (fun hHeld => ?_)
         clear hK K
         refine norm_ (a' := ?_) ?_ ?_
         rotate_left
         ·show Act.put _ (some 45) _ = _
          simp only [Act.put, s_t, s_z, s_s, i64_w, i32_w]
          rfl
         refine px_ 19 48 ?_ ?_ cD22_ HT_.out ?_ ?_ ?_; rotate_left 2; intro w'; go_simp; with_reducible rfl; simp only [Act.put, s_t, s_z, s_s, i64_w, i32_w]; rfl
         refine px_ 20 49 ?_ ?_ cD23_ HT_.out ?_ ?_ ?_; rotate_left 2; intro w'; go_simp; with_reducible rfl; simp only [Act.put, s_t, s_z, s_s, i64_w, i32_w]; rfl
         refine px_ 22 51 ?_ ?_ cD24_ HT_.out ?_ ?_ ?_; rotate_left 2; intro w'; go_simp; with_reducible rfl; simp only [Act.put, s_t, s_z, s_s, i64_w, i32_w]; rfl
         refine px_ 23 52 ?_ ?_ cD25_ HT_.out ?_ ?_ ?_; rotate_left 2; intro w'; go_simp; with_reducible rfl; simp only [Act.put, s_t, s_z, s_s, i64_w, i32_w]; rfl
         refine px_ 24 53 ?_ ?_ cD26_ HT_.out ?_ ?_ ?_; rotate_left 2; intro w'; go_simp; with_reducible rfl; simp only [Act.put, s_t, s_z, s_s, i64_w, i32_w]; rfl
         refine px_ 25 54 ?_ ?_ cD27_ HT_.out ?_ ?_ ?_; rotate_left 2; intro w'; go_simp; with_reducible rfl; simp only [Act.put, s_t, s_z, s_s, i64_w, i32_w]; rfl
         refine px_ 26 55 ?_ ?_ cD28_ HT_.out ?_ ?_ ?_; rotate_left 2; intro w'; go_simp; with_reducible rfl; simp only [Act.put, s_t, s_z, s_s, i64_w, i32_w]; rfl
         refine px_ 27 56 ?_ ?_ cD29_ HT_.out ?_ ?_ ?_; rotate_left 2; intro w'; go_simp; with_reducible rfl; simp only [Act.put, s_t, s_z, s_s, i64_w, i32_w]; rfl
         refine take_ (i := 21) (N := some 50) (v := ?_) (a' := ?_) cD36_ rfl rfl (take_ofW HT_.out HW_.out (by kernel_rfl)) (fun _ _ _ h => h) (Or.inl ⟨by rfl, ?_⟩) hHeld ?_ ?_
         rotate_left
         ·rintro w' ⟨s0, s1, s2, s3⟩
          go_simp
          with_reducible rfl
         rotate_left
         ·simp only [Act.put, s_t, s_z, s_s, i64_w, i32_w]
          rfl
         refine take_ (i := 28) (N := some 57) (v := ?_) (a' := ?_) cD37_ rfl rfl (take_ofW HT_.out HW_.out (by kernel_rfl)) (fun _ _ _ h => h) (Or.inl ⟨by rfl, ?_⟩) hHeld ?_ ?_
         rotate_left
         ·rintro w' ⟨s0, s1, s2, s3⟩
          go_simp
          with_reducible rfl
         rotate_left
         ·simp only [Act.put, s_t, s_z, s_s, i64_w, i32_w]
          rfl
         refine px_ 29 58 ?_ ?_ cD38_ HT_.out ?_ ?_ ?_; rotate_left 2; intro w'; go_simp; with_reducible rfl; simp only [Act.put, s_t, s_z, s_s, i64_w, i32_w]; rfl
         refine px_ 30 59 ?_ ?_ cD39_ HT_.out ?_ ?_ ?_; rotate_left 2; intro w'; go_simp; with_reducible rfl; simp only [Act.put, s_t, s_z, s_s, i64_w, i32_w]; rfl
         refine one_ (i := 31) (N := some 60) cD40_ rfl rfl (one_of HT_.out (by kernel_rfl)) (by decide) (fun K hK => ?_)
         refine goes_ Tryd.func46 (by kernel_rfl) rfl #[.bool (decide (((rd_T46 l0 x24_1).f0) ≤ ((rd_T46 l0 (ji59)).f1))), .int .i64 7] (by rfl) rfl rfl (by (try simp only [m1_, m2_, m3_]); first | done | (simp only [hji59]; rfl) | rfl | (simp only [List.length_drop, List.length_take]; rfl)) ?_
         with_reducible refine (Z19.calls (decide (((rd_T46 l0 x24_1).f0) ≤ ((rd_T46 l0 (ji59)).f1))) 7 t126 _ A62.out).mono ?_
         rintro e w' ⟨rfl, ⟨nd, rfl⟩⟩
         refine ⟨_, rfl, ?_⟩
         refine hK.out _ _ ⟨(blk_cell BK111.out 0).trans rfl, (blk_cell BK111.out 1).trans rfl, ((HB.out.cell (World.block_lt_of_cell? w _ hw125_0)).trans hw125_0), ((HB.out.cell (World.block_lt_of_cell? w _ hw125_1)).trans hw125_1)⟩ (fun hHeld => ?_)
         clear hK K
         refine norm_ (a' := ?_) ?_ ?_
         rotate_left
         ·show Act.put _ (some 60) _ = _
          simp only [Act.put, s_t, s_z, s_s, i64_w, i32_w]
          rfl
         refine one_ (i := 32) (N := some 61) cD41_ rfl rfl (one_of HT_.out (by kernel_rfl)) (by decide) (fun K hK => ?_)
         refine Kd.R_lit_step (Kd.int .i64) _ 29 ?hg (N := 61) ?hd (xs := ([t124, t126] : List Int)) (inner := [.int .i64 t124, .int .i64 t126]) (ok := fun _ => True) (okp := fun _ => True) ?hr ?hp (fun _ hk => hk) trivial (Below.refl _ _) (Nat.le_refl _) (by simp) ?_; (case hd => rfl); (case hg => rfl); (case hr => first | (go_simp; done) | (go_simp; rfl)); (case hp => exact (Reps.one (show Kd.M (Kd.int .i64) _ _ _ t124 [.int .i64 t124] from rfl) (Reps.one (show Kd.M (Kd.int .i64) _ _ _ t126 [.int .i64 t126] from rfl) (Reps.none _ _))))
         intro v128 w76 ho77 hb hg_ hnew_
         clear hg_ hnew_
         (first | rw [← Ny127.out] at ho77 | (simp only [Int.reduceToNat] at ho77; rw [← Ny127.out] at ho77))
         have n0_ := am_ (Kd.R_lower ho77 (below_size (bs_ HB.out GE111.out)))
         have n1_ := am_ (blk_below (g := gb111) (o := .cells #[.int .i64 ((rd_T46 l0 x24_1).f0), .int .i64 ((rd_T46 l0 x24_1).f1)] 46 (0, 0)) (bk_ BK111.out) hb)
         have n2_ := am_ (below_step (bs_ HB.out GE111.out) hb)
         clear BK111; clear HB; have HO129 := n0_; have BK111 := n1_; have HB := n2_; clear n0_ n1_ n2_; clear hb ho77
         obtain ⟨Ao78, co78, eo78⟩ := Kd.R_slice HO129.out
         (first | subst eo78 | (injection eo78 with f1_ f2_ f3_; have f4_ := f1_.symm; have f5_ := f3_.symm; clear f1_ f2_ f3_; subst f4_; subst f5_))
         refine hK.out _ _ ⟨(blk_cell BK111.out 0).trans rfl, (blk_cell BK111.out 1).trans rfl, ((HB.out.cell (World.block_lt_of_cell? w _ hw125_0)).trans hw125_0), ((HB.out.cell (World.block_lt_of_cell? w _ hw125_1)).trans hw125_1)⟩ (fun hHeld => ?_)
         clear hK K
         refine norm_ (a' := ?_) ?_ ?_
         rotate_left
         ·show Act.put _ (some 61) _ = _
          simp only [Act.put, s_t, s_z, s_s, i64_w, i32_w]
          rfl
         refine one_ (i := 33) (N := some 62) cD42_ rfl rfl (one_of HT_.out (by kernel_rfl)) (by decide) (fun K hK => ?_)
         refine goes_ Tryd.func45 (by kernel_rfl) rfl #[.slice Ao78 y127.length co78] (by rfl) rfl rfl gl_ ?_
         with_reducible refine (Z13.calls k1 _ _ y127 t130 _ ?side1 ?side2 A63.out).mono ?_
         (case side1 => exact cc_ (Kd.R_reads' HO129.out).2.2)
         (case side2 => exact (Kd.R_reads' HO129.out).2.1)
         rintro e w' ⟨rfl, ⟨nd, rfl⟩⟩
         refine ⟨_, rfl, ?_⟩
         refine hK.out _ _ ⟨(blk_cell BK111.out 0).trans rfl, (blk_cell BK111.out 1).trans rfl, ((HB.out.cell (World.block_lt_of_cell? w _ hw125_0)).trans hw125_0), ((HB.out.cell (World.block_lt_of_cell? w _ hw125_1)).trans hw125_1)⟩ (fun hHeld => ?_)
         clear hK K
         refine norm_ (a' := ?_) ?_ ?_
         rotate_left
         ·show Act.put _ (some 62) _ = _
          simp only [Act.put, s_t, s_z, s_s, i64_w, i32_w]
          rfl
         refine px_ 34 8 ?_ ?_ cD43_ HT_.out ?_ ?_ ?_; rotate_left 2; intro w'; go_simp; with_reducible rfl; simp only [Act.put, s_t, s_z, s_s, i64_w, i32_w]; rfl
         refine done_ (done_of HT_.out (by kernel_rfl)) ?_
         try go_wp2
         go_ret
         exact ⟨by first | rfl | (simp [errW_none, errW_some] <;> rfl) | (simp only [← hji58, ← hji59]; first | rfl | (simp [errW_none, errW_some] <;> rfl)) | (simp [*, errW_none, errW_some] <;> rfl), bs_ HB.out GE111.out⟩
       ·rw [if_neg c57] at H
        have c57b0 : decide (0 < x24_1) = false := decide_eq_false c57
        clear c57; replace H := Option.bind_eq_some_iff.mp H; obtain ⟨t131, A790, H⟩ := H; have A79 := am_ A790; clear A790
        obtain ⟨y132, hy132⟩ : ∃ y_ : List Int, y_ = (([t124, t131] : List Int)) := ⟨_, rfl⟩
        replace H : ((Z13.f k1 y132).bind fun t135 => (if t135 = 0 then (Z9.l0 k1 l0 a1 l0 (l0.length : Int) (wrap64 (x24_1 + 1))) else (some t135))) = some r := by first | (rw [hy132]; with_reducible exact H) | (have H2_ := (Option.bind_some _ _).symm.trans H; rw [hy132]; with_reducible exact H2_) | (have H2_ := (Option.bind_some _ _).symm.trans H; with_reducible exact H2_) | with_reducible exact H | (rw [hy132]; exact H) | exact H
        have Ny132 := am_ hy132; clear hy132; replace H := Option.bind_eq_some_iff.mp H; obtain ⟨t135, A800, H⟩ := H; have A80 := am_ A800; clear A800
        by_cases c81 : t135 = 0
        ·rw [if_pos c81] at H
         have c81b0 : (t135 == 0) = true := beq_iff_eq.mpr c81
         have c81b1 : (t135 != 0) = false := bne_eq_false_iff_eq.mpr c81
         clear c81
         have H' := am_ H
         clear H; have p110 : 0 ≤ (x24_1 : Int) := ode_; have q110 : x24_1 < (l0.length : Int) := ode_
         obtain ⟨ad110, e110, hx110_0, hx110_1⟩ := at_T46 HR0.out x24_1 p110 q110
         cases e110
         first | replace hx110_0 := (HB.out.cell (World.block_lt_of_cell? w _ hx110_0)).trans hx110_0 | skip
         first | replace hx110_1 := (HB.out.cell (World.block_lt_of_cell? w _ hx110_1)).trans hx110_1 | skip
         replace p110 := eq_true p110; replace q110 := eq_true q110
         try go_wp2_with (first | ((with_reducible refine gate_dst (N := 7) rfl ?_); (try (refine gate_guard (by rfl) ?_; dsimp only)); refine box_event ?hg (N := 7) ?hd (cs := #[.int .i64 0, .int .i64 0]) (t := 46) ?hr ?_; (case hd => rfl); (case hg => rfl); (case hr => first | (go_simp; done) | (go_simp; rfl)); intro gb111 hg w82 hbox hb; have n0_ := am_ (below_step (bw_ HB.out) hb); have n1_ := am_ (hbox); have n2_ := am_ ((by rw [hg]; exact (below_size (bw_ HB.out)) : w.heap.size ≤ gb111)); have n3_ := am_ ((by rw [hg]; exact (below_size (bw_ HB.out)) : w.heap.size ≤ gb111)); clear HB; have HB := n0_; have BK111 := n1_; have GW111 := n2_; have GE111 := n3_; clear n0_ n1_ n2_ n3_; clear hb hbox hg; have hcz83_0 : w82.cell? ⟨gb111, 0, none⟩ = some (.int .i64 0) := (blk_cell BK111.out 0).trans rfl; have hcz83_1 : w82.cell? ⟨gb111, 1, none⟩ = some (.int .i64 0) := (blk_cell BK111.out 1).trans rfl; have hfz83_0 := blk_frozen BK111.out 0; have hfz83_1 := blk_frozen BK111.out 1))
         have n0_ : Aside0 (((w82.setCell ⟨gb111, 0, none⟩ (.int .i64 ((rd_T46 l0 x24_1).f0))).setCell ⟨gb111, 1, none⟩ (.int .i64 ((rd_T46 l0 x24_1).f1))).heap[gb111]? = some (.cells #[.int .i64 ((rd_T46 l0 x24_1).f0), .int .i64 ((rd_T46 l0 x24_1).f1)] 46 (0, 0))) := ⟨by (with_reducible repeat (first | refine blk_drewN ?_ _ | refine blk_drew ?_ | refine blk_alloc ?_ _)); refine blk_put (cs := #[.int .i64 ((rd_T46 l0 x24_1).f0), .int .i64 0]) ?_ 1 _ rfl; (with_reducible repeat (first | refine blk_drewN ?_ _ | refine blk_drew ?_ | refine blk_alloc ?_ _)); refine blk_put (cs := #[.int .i64 0, .int .i64 0]) ?_ 0 _ rfl; (with_reducible repeat (first | refine blk_drewN ?_ _ | refine blk_drew ?_ | refine blk_alloc ?_ _)); exact BK111.out⟩
         have n1_ : Aside0 (Below w.heap.size w ((w82.setCell ⟨gb111, 0, none⟩ (.int .i64 ((rd_T46 l0 x24_1).f0))).setCell ⟨gb111, 1, none⟩ (.int .i64 ((rd_T46 l0 x24_1).f1)))) := ⟨bs_ HB.out GE111.out⟩
         (try clear BK111)
         (try clear HB)
         generalize ((w82.setCell ⟨gb111, 0, none⟩ (.int .i64 ((rd_T46 l0 x24_1).f0))).setCell ⟨gb111, 1, none⟩ (.int .i64 ((rd_T46 l0 x24_1).f1))) = w84 at n0_ n1_ ⊢
         have BK111 := n0_; have HB := n1_; clear n0_ n1_
         have n0_ := am_ (blk_drew BK111.out)
         have n1_ := am_ (b2_ HB.out)
         clear BK111; clear HB; have BK111 := n0_; have HB := n1_; clear n0_ n1_
         refine start_ (n := 35) (S := fun w' => w'.cell? ⟨gb111, 0, none⟩ = some (.int .i64 ((rd_T46 l0 x24_1).f0)) ∧ w'.cell? ⟨gb111, 1, none⟩ = some (.int .i64 ((rd_T46 l0 x24_1).f1))) (ds := []) cD0_ (by kernel_rfl) rfl rfl ⟨(blk_cell BK111.out 0).trans rfl, (blk_cell BK111.out 1).trans rfl⟩ (fun hHeld => ?_); refine with_tabW Z9.tab7 Z9.bits7 (fun HT_ HW_ => ?_)
         generalize w84.drew = w85 at BK111 HB hHeld ⊢
         refine px_ 0 29 ?_ ?_ cD1_ HT_.out ?_ ?_ ?_; rotate_left 2; intro w'; go_simp; with_reducible rfl; simp only [Act.put, s_t, s_z, s_s, i64_w, i32_w]; rfl
         refine px_ 17 46 ?_ ?_ cD2_ HT_.out ?_ ?_ ?_; rotate_left 2; intro w'; go_simp; with_reducible rfl; simp only [Act.put, s_t, s_z, s_s, i64_w, i32_w]; rfl
         refine px_ 18 47 ?_ ?_ cD3_ HT_.out ?_ ?_ ?_; rotate_left 2; intro w'; go_simp; with_reducible rfl; simp only [Act.put, s_t, s_z, s_s, i64_w, i32_w]; rfl
         refine take_ (i := 1) (N := some 30) (v := ?_) (a' := ?_) cD4_ rfl rfl (take_ofW HT_.out HW_.out (by kernel_rfl)) (fun _ _ _ h => h) (Or.inl ⟨by rfl, ?_⟩) hHeld ?_ ?_
         rotate_left
         ·rintro w' ⟨s0, s1⟩
          go_simp
          with_reducible rfl
         rotate_left
         ·simp only [Act.put, s_t, s_z, s_s, i64_w, i32_w]
          rfl
         refine px_ 2 31 ?_ ?_ cD5_ HT_.out ?_ ?_ ?_; rotate_left 2; intro w'; go_simp; with_reducible rfl; simp only [Act.put, s_t, s_z, s_s, i64_w, i32_w]; rfl
         refine px_ 3 32 ?_ ?_ cD6_ HT_.out ?_ ?_ ?_; rotate_left 2; intro w'; go_simp; with_reducible rfl; simp only [Act.put, s_t, s_z, s_s, i64_w, i32_w]; rfl
         refine px_ 4 33 ?_ ?_ cD7_ HT_.out ?_ ?_ ?_; rotate_left 2; intro w'; go_simp; with_reducible rfl; simp only [Act.put, s_t, s_z, s_s, i64_w, i32_w]; rfl
         refine px_ 6 35 ?_ ?_ cD8_ HT_.out ?_ ?_ ?_; rotate_left 2; intro w'; go_simp; with_reducible rfl; simp only [Act.put, s_t, s_z, s_s, i64_w, i32_w]; rfl
         refine take_ (i := 5) (N := some 34) (v := ?_) (a' := ?_) cD10_ rfl rfl (take_ofW HT_.out HW_.out (by kernel_rfl)) (fun _ _ _ h => h) (Or.inl ⟨by rfl, ?_⟩) hHeld ?_ ?_
         rotate_left
         ·rintro w' ⟨s0, s1⟩
          go_simp
          with_reducible rfl
         rotate_left
         ·simp only [Act.put, s_t, s_z, s_s, i64_w, i32_w]
          rfl
         refine take_ (i := 7) (N := some 36) (v := ?_) (a' := ?_) cD11_ rfl rfl (take_ofW HT_.out HW_.out (by kernel_rfl)) (fun _ _ _ h => h) (Or.inl ⟨by rfl, ?_⟩) hHeld ?_ ?_
         rotate_left
         ·rintro w' ⟨s0, s1⟩
          go_simp
          with_reducible rfl
         rotate_left
         ·simp only [Act.put, s_t, s_z, s_s, i64_w, i32_w]
          rfl
         refine px_ 8 37 ?_ ?_ cD12_ HT_.out ?_ ?_ ?_; rotate_left 2; intro w'; go_simp; with_reducible rfl; simp only [Act.put, s_t, s_z, s_s, i64_w, i32_w]; rfl
         refine px_ 9 38 ?_ ?_ cD13_ HT_.out ?_ ?_ ?_; rotate_left 2; intro w'; go_simp; with_reducible rfl; simp only [Act.put, s_t, s_z, s_s, i64_w, i32_w]; rfl
         refine px_ 10 39 ?_ ?_ cD14_ HT_.out ?_ ?_ ?_; rotate_left 2; intro w'; go_simp; with_reducible rfl; simp only [Act.put, s_t, s_z, s_s, i64_w, i32_w]; rfl
         refine pv_ (i := 11) (N := some 40) (a' := ?_) cD15_ (any_of HT_.out (by kernel_rfl)) ?_ ?_; rotate_left
         ·simp only [Act.put, s_t, s_z, s_s, i64_w, i32_w]; rfl
         refine pv_ (i := 12) (N := some 41) (a' := ?_) cD17_ (any_of HT_.out (by kernel_rfl)) ?_ ?_; rotate_left
         ·simp only [Act.put, s_t, s_z, s_s, i64_w, i32_w]; rfl
         refine pv_ (i := 13) (N := some 42) (a' := ?_) cD18_ (any_of HT_.out (by kernel_rfl)) ?_ ?_; rotate_left
         ·simp only [Act.put, s_t, s_z, s_s, i64_w, i32_w]; rfl
         refine pv_ (i := 14) (N := some 43) (a' := ?_) cD19_ (any_of HT_.out (by kernel_rfl)) ?_ ?_; rotate_left
         ·simp only [Act.put, s_t, s_z, s_s, i64_w, i32_w]; rfl
         refine px_ 15 44 ?_ ?_ cD20_ HT_.out ?_ ?_ ?_; rotate_left 2; intro w'; go_simp; with_reducible rfl; simp only [Act.put, s_t, s_z, s_s, i64_w, i32_w]; rfl
         refine one_ (i := 16) (N := some 45) cD21_ rfl rfl (one_of HT_.out (by kernel_rfl)) (by decide) (fun K hK => ?_)
         refine goes_ Tryd.func46 (by kernel_rfl) rfl #[.bool true, .int .i64 1] (by rfl) rfl rfl gl_ ?_
         with_reducible refine (Z19.calls true 1 t124 _ A56.out).mono ?_
         rintro e w' ⟨rfl, ⟨nd, rfl⟩⟩
         refine ⟨_, rfl, ?_⟩
         refine hK.out _ _ ⟨(blk_cell BK111.out 0).trans rfl, (blk_cell BK111.out 1).trans rfl⟩ (fun hHeld => ?_)
         clear hK K
         refine norm_ (a' := ?_) ?_ ?_
         rotate_left
         ·show Act.put _ (some 45) _ = _
          simp only [Act.put, s_t, s_z, s_s, i64_w, i32_w]
          rfl
         refine px_ 19 48 ?_ ?_ cD22_ HT_.out ?_ ?_ ?_; rotate_left 2; intro w'; go_simp; with_reducible rfl; simp only [Act.put, s_t, s_z, s_s, i64_w, i32_w]; rfl
         refine pv_ (i := 20) (N := some 49) (a' := ?_) cD23_ (any_of HT_.out (by kernel_rfl)) ?_ ?_; rotate_left
         ·simp only [Act.put, s_t, s_z, s_s, i64_w, i32_w]; rfl
         refine pv_ (i := 21) (N := some 50) (a' := ?_) cD30_ (any_of HT_.out (by kernel_rfl)) ?_ ?_; rotate_left
         ·simp only [Act.put, s_t, s_z, s_s, i64_w, i32_w]; rfl
         refine pv_ (i := 22) (N := some 51) (a' := ?_) cD31_ (any_of HT_.out (by kernel_rfl)) ?_ ?_; rotate_left
         ·simp only [Act.put, s_t, s_z, s_s, i64_w, i32_w]; rfl
         refine pv_ (i := 23) (N := some 52) (a' := ?_) cD32_ (any_of HT_.out (by kernel_rfl)) ?_ ?_; rotate_left
         ·simp only [Act.put, s_t, s_z, s_s, i64_w, i32_w]; rfl
         refine pv_ (i := 24) (N := some 53) (a' := ?_) cD33_ (any_of HT_.out (by kernel_rfl)) ?_ ?_; rotate_left
         ·simp only [Act.put, s_t, s_z, s_s, i64_w, i32_w]; rfl
         refine pv_ (i := 25) (N := some 54) (a' := ?_) cD34_ (any_of HT_.out (by kernel_rfl)) ?_ ?_; rotate_left
         ·simp only [Act.put, s_t, s_z, s_s, i64_w, i32_w]; rfl
         refine pv_ (i := 26) (N := some 55) (a' := ?_) cD35_ (any_of HT_.out (by kernel_rfl)) ?_ ?_; rotate_left
         ·simp only [Act.put, s_t, s_z, s_s, i64_w, i32_w]; rfl
         refine pv_ (i := 27) (N := some 56) (a' := ?_) cD36_ (any_of HT_.out (by kernel_rfl)) ?_ ?_; rotate_left
         ·simp only [Act.put, s_t, s_z, s_s, i64_w, i32_w]; rfl
         refine pv_ (i := 28) (N := some 57) (a' := ?_) cD37_ (any_of HT_.out (by kernel_rfl)) ?_ ?_; rotate_left
         ·simp only [Act.put, s_t, s_z, s_s, i64_w, i32_w]; rfl
         refine pv_ (i := 29) (N := some 58) (a' := ?_) cD38_ (any_of HT_.out (by kernel_rfl)) ?_ ?_; rotate_left
         ·simp only [Act.put, s_t, s_z, s_s, i64_w, i32_w]; rfl
         refine px_ 30 59 ?_ ?_ cD39_ HT_.out ?_ ?_ ?_; rotate_left 2; intro w'; go_simp; with_reducible rfl; simp only [Act.put, s_t, s_z, s_s, i64_w, i32_w]; rfl
         refine one_ (i := 31) (N := some 60) cD40_ rfl rfl (one_of HT_.out (by kernel_rfl)) (by decide) (fun K hK => ?_)
         refine goes_ Tryd.func46 (by kernel_rfl) rfl #[.bool false, .int .i64 7] (by rfl) rfl rfl gl_ ?_
         with_reducible refine (Z19.calls false 7 t131 _ A79.out).mono ?_
         rintro e w' ⟨rfl, ⟨nd, rfl⟩⟩
         refine ⟨_, rfl, ?_⟩
         refine hK.out _ _ ⟨(blk_cell BK111.out 0).trans rfl, (blk_cell BK111.out 1).trans rfl⟩ (fun hHeld => ?_)
         clear hK K
         refine norm_ (a' := ?_) ?_ ?_
         rotate_left
         ·show Act.put _ (some 60) _ = _
          simp only [Act.put, s_t, s_z, s_s, i64_w, i32_w]
          rfl
         refine one_ (i := 32) (N := some 61) cD41_ rfl rfl (one_of HT_.out (by kernel_rfl)) (by decide) (fun K hK => ?_)
         refine Kd.R_lit_step (Kd.int .i64) _ 29 ?hg (N := 61) ?hd (xs := ([t124, t131] : List Int)) (inner := [.int .i64 t124, .int .i64 t131]) (ok := fun _ => True) (okp := fun _ => True) ?hr ?hp (fun _ hk => hk) trivial (Below.refl _ _) (Nat.le_refl _) (by simp) ?_; (case hd => rfl); (case hg => rfl); (case hr => first | (go_simp; done) | (go_simp; rfl)); (case hp => exact (Reps.one (show Kd.M (Kd.int .i64) _ _ _ t124 [.int .i64 t124] from rfl) (Reps.one (show Kd.M (Kd.int .i64) _ _ _ t131 [.int .i64 t131] from rfl) (Reps.none _ _))))
         intro v133 w86 ho87 hb hg_ hnew_
         clear hg_ hnew_
         (first | rw [← Ny132.out] at ho87 | (simp only [Int.reduceToNat] at ho87; rw [← Ny132.out] at ho87))
         have n0_ := am_ (Kd.R_lower ho87 (below_size (bs_ HB.out GE111.out)))
         have n1_ := am_ (blk_below (g := gb111) (o := .cells #[.int .i64 ((rd_T46 l0 x24_1).f0), .int .i64 ((rd_T46 l0 x24_1).f1)] 46 (0, 0)) (bk_ BK111.out) hb)
         have n2_ := am_ (below_step (bs_ HB.out GE111.out) hb)
         clear BK111; clear HB; have HO134 := n0_; have BK111 := n1_; have HB := n2_; clear n0_ n1_ n2_; clear hb ho87
         obtain ⟨Ao88, co88, eo88⟩ := Kd.R_slice HO134.out
         (first | subst eo88 | (injection eo88 with f1_ f2_ f3_; have f4_ := f1_.symm; have f5_ := f3_.symm; clear f1_ f2_ f3_; subst f4_; subst f5_))
         refine hK.out _ _ ⟨(blk_cell BK111.out 0).trans rfl, (blk_cell BK111.out 1).trans rfl⟩ (fun hHeld => ?_)
         clear hK K
         refine norm_ (a' := ?_) ?_ ?_
         rotate_left
         ·show Act.put _ (some 61) _ = _
          simp only [Act.put, s_t, s_z, s_s, i64_w, i32_w]
          rfl
         refine one_ (i := 33) (N := some 62) cD42_ rfl rfl (one_of HT_.out (by kernel_rfl)) (by decide) (fun K hK => ?_)
         refine goes_ Tryd.func45 (by kernel_rfl) rfl #[.slice Ao88 y132.length co88] (by rfl) rfl rfl gl_ ?_
         with_reducible refine (Z13.calls k1 _ _ y132 t135 _ ?side1 ?side2 A80.out).mono ?_
         (case side1 => exact cc_ (Kd.R_reads' HO134.out).2.2)
         (case side2 => exact (Kd.R_reads' HO134.out).2.1)
         rintro e w' ⟨rfl, ⟨nd, rfl⟩⟩
         refine ⟨_, rfl, ?_⟩
         refine hK.out _ _ ⟨(blk_cell BK111.out 0).trans rfl, (blk_cell BK111.out 1).trans rfl⟩ (fun hHeld => ?_)
         clear hK K
         refine norm_ (a' := ?_) ?_ ?_
         rotate_left
         ·show Act.put _ (some 62) _ = _
          simp only [Act.put, s_t, s_z, s_s, i64_w, i32_w]
          rfl
         refine px_ 34 8 ?_ ?_ cD43_ HT_.out ?_ ?_ ?_; rotate_left 2; intro w'; go_simp; with_reducible rfl; simp only [Act.put, s_t, s_z, s_s, i64_w, i32_w]; rfl
         refine done_ (done_of HT_.out (by kernel_rfl)) ?_
         try go_wp2
         go_roundg k1
         case measure => have := HK1.out; omega
         case rel => exact ⟨(wrap64 (x24_1 + 1)), tr_, H', ⟨by have := HK1.out; omega⟩, ⟨bs_ HB.out GE111.out⟩⟩
        ·rw [if_neg c81] at H
         have c81b0 : (t135 == 0) = false := beq_eq_false_iff_ne.mpr c81
         have c81b1 : (t135 != 0) = true := bne_iff_ne.mpr c81
         obtain rfl := Option.some.inj H
         have p110 : 0 ≤ (x24_1 : Int) := ode_; have q110 : x24_1 < (l0.length : Int) := ode_
         obtain ⟨ad110, e110, hx110_0, hx110_1⟩ := at_T46 HR0.out x24_1 p110 q110
         cases e110
         first | replace hx110_0 := (HB.out.cell (World.block_lt_of_cell? w _ hx110_0)).trans hx110_0 | skip
         first | replace hx110_1 := (HB.out.cell (World.block_lt_of_cell? w _ hx110_1)).trans hx110_1 | skip
         replace p110 := eq_true p110; replace q110 := eq_true q110
         try go_wp2_with (first | ((with_reducible refine gate_dst (N := 7) rfl ?_); (try (refine gate_guard (by rfl) ?_; dsimp only)); refine box_event ?hg (N := 7) ?hd (cs := #[.int .i64 0, .int .i64 0]) (t := 46) ?hr ?_; (case hd => rfl); (case hg => rfl); (case hr => first | (go_simp; done) | (go_simp; rfl)); intro gb111 hg w89 hbox hb; have n0_ := am_ (below_step (bw_ HB.out) hb); have n1_ := am_ (hbox); have n2_ := am_ ((by rw [hg]; exact (below_size (bw_ HB.out)) : w.heap.size ≤ gb111)); have n3_ := am_ ((by rw [hg]; exact (below_size (bw_ HB.out)) : w.heap.size ≤ gb111)); clear HB; have HB := n0_; have BK111 := n1_; have GW111 := n2_; have GE111 := n3_; clear n0_ n1_ n2_ n3_; clear hb hbox hg; have hcz90_0 : w89.cell? ⟨gb111, 0, none⟩ = some (.int .i64 0) := (blk_cell BK111.out 0).trans rfl; have hcz90_1 : w89.cell? ⟨gb111, 1, none⟩ = some (.int .i64 0) := (blk_cell BK111.out 1).trans rfl; have hfz90_0 := blk_frozen BK111.out 0; have hfz90_1 := blk_frozen BK111.out 1))
         have n0_ : Aside0 (((w89.setCell ⟨gb111, 0, none⟩ (.int .i64 ((rd_T46 l0 x24_1).f0))).setCell ⟨gb111, 1, none⟩ (.int .i64 ((rd_T46 l0 x24_1).f1))).heap[gb111]? = some (.cells #[.int .i64 ((rd_T46 l0 x24_1).f0), .int .i64 ((rd_T46 l0 x24_1).f1)] 46 (0, 0))) := ⟨by (with_reducible repeat (first | refine blk_drewN ?_ _ | refine blk_drew ?_ | refine blk_alloc ?_ _)); refine blk_put (cs := #[.int .i64 ((rd_T46 l0 x24_1).f0), .int .i64 0]) ?_ 1 _ rfl; (with_reducible repeat (first | refine blk_drewN ?_ _ | refine blk_drew ?_ | refine blk_alloc ?_ _)); refine blk_put (cs := #[.int .i64 0, .int .i64 0]) ?_ 0 _ rfl; (with_reducible repeat (first | refine blk_drewN ?_ _ | refine blk_drew ?_ | refine blk_alloc ?_ _)); exact BK111.out⟩
         have n1_ : Aside0 (Below w.heap.size w ((w89.setCell ⟨gb111, 0, none⟩ (.int .i64 ((rd_T46 l0 x24_1).f0))).setCell ⟨gb111, 1, none⟩ (.int .i64 ((rd_T46 l0 x24_1).f1)))) := ⟨bs_ HB.out GE111.out⟩
         (try clear BK111)
         (try clear HB)
         generalize ((w89.setCell ⟨gb111, 0, none⟩ (.int .i64 ((rd_T46 l0 x24_1).f0))).setCell ⟨gb111, 1, none⟩ (.int .i64 ((rd_T46 l0 x24_1).f1))) = w91 at n0_ n1_ ⊢
         have BK111 := n0_; have HB := n1_; clear n0_ n1_
         have n0_ := am_ (blk_drew BK111.out)
         have n1_ := am_ (b2_ HB.out)
         clear BK111; clear HB; have BK111 := n0_; have HB := n1_; clear n0_ n1_
         refine start_ (n := 35) (S := fun w' => w'.cell? ⟨gb111, 0, none⟩ = some (.int .i64 ((rd_T46 l0 x24_1).f0)) ∧ w'.cell? ⟨gb111, 1, none⟩ = some (.int .i64 ((rd_T46 l0 x24_1).f1))) (ds := []) cD0_ (by kernel_rfl) rfl rfl ⟨(blk_cell BK111.out 0).trans rfl, (blk_cell BK111.out 1).trans rfl⟩ (fun hHeld => ?_); refine with_tabW Z9.tab7 Z9.bits7 (fun HT_ HW_ => ?_)
         generalize w91.drew = w92 at BK111 HB hHeld ⊢
         refine px_ 0 29 ?_ ?_ cD1_ HT_.out ?_ ?_ ?_; rotate_left 2; intro w'; go_simp; with_reducible rfl; simp only [Act.put, s_t, s_z, s_s, i64_w, i32_w]; rfl
         refine px_ 17 46 ?_ ?_ cD2_ HT_.out ?_ ?_ ?_; rotate_left 2; intro w'; go_simp; with_reducible rfl; simp only [Act.put, s_t, s_z, s_s, i64_w, i32_w]; rfl
         refine px_ 18 47 ?_ ?_ cD3_ HT_.out ?_ ?_ ?_; rotate_left 2; intro w'; go_simp; with_reducible rfl; simp only [Act.put, s_t, s_z, s_s, i64_w, i32_w]; rfl
         refine take_ (i := 1) (N := some 30) (v := ?_) (a' := ?_) cD4_ rfl rfl (take_ofW HT_.out HW_.out (by kernel_rfl)) (fun _ _ _ h => h) (Or.inl ⟨by rfl, ?_⟩) hHeld ?_ ?_
         rotate_left
         ·rintro w' ⟨s0, s1⟩
          go_simp
          with_reducible rfl
         rotate_left
         ·simp only [Act.put, s_t, s_z, s_s, i64_w, i32_w]
          rfl
         refine px_ 2 31 ?_ ?_ cD5_ HT_.out ?_ ?_ ?_; rotate_left 2; intro w'; go_simp; with_reducible rfl; simp only [Act.put, s_t, s_z, s_s, i64_w, i32_w]; rfl
         refine px_ 3 32 ?_ ?_ cD6_ HT_.out ?_ ?_ ?_; rotate_left 2; intro w'; go_simp; with_reducible rfl; simp only [Act.put, s_t, s_z, s_s, i64_w, i32_w]; rfl
         refine px_ 4 33 ?_ ?_ cD7_ HT_.out ?_ ?_ ?_; rotate_left 2; intro w'; go_simp; with_reducible rfl; simp only [Act.put, s_t, s_z, s_s, i64_w, i32_w]; rfl
         refine px_ 6 35 ?_ ?_ cD8_ HT_.out ?_ ?_ ?_; rotate_left 2; intro w'; go_simp; with_reducible rfl; simp only [Act.put, s_t, s_z, s_s, i64_w, i32_w]; rfl
         refine take_ (i := 5) (N := some 34) (v := ?_) (a' := ?_) cD10_ rfl rfl (take_ofW HT_.out HW_.out (by kernel_rfl)) (fun _ _ _ h => h) (Or.inl ⟨by rfl, ?_⟩) hHeld ?_ ?_
         rotate_left
         ·rintro w' ⟨s0, s1⟩
          go_simp
          with_reducible rfl
         rotate_left
         ·simp only [Act.put, s_t, s_z, s_s, i64_w, i32_w]
          rfl
         refine take_ (i := 7) (N := some 36) (v := ?_) (a' := ?_) cD11_ rfl rfl (take_ofW HT_.out HW_.out (by kernel_rfl)) (fun _ _ _ h => h) (Or.inl ⟨by rfl, ?_⟩) hHeld ?_ ?_
         rotate_left
         ·rintro w' ⟨s0, s1⟩
          go_simp
          with_reducible rfl
         rotate_left
         ·simp only [Act.put, s_t, s_z, s_s, i64_w, i32_w]
          rfl
         refine px_ 8 37 ?_ ?_ cD12_ HT_.out ?_ ?_ ?_; rotate_left 2; intro w'; go_simp; with_reducible rfl; simp only [Act.put, s_t, s_z, s_s, i64_w, i32_w]; rfl
         refine px_ 9 38 ?_ ?_ cD13_ HT_.out ?_ ?_ ?_; rotate_left 2; intro w'; go_simp; with_reducible rfl; simp only [Act.put, s_t, s_z, s_s, i64_w, i32_w]; rfl
         refine px_ 10 39 ?_ ?_ cD14_ HT_.out ?_ ?_ ?_; rotate_left 2; intro w'; go_simp; with_reducible rfl; simp only [Act.put, s_t, s_z, s_s, i64_w, i32_w]; rfl
         refine pv_ (i := 11) (N := some 40) (a' := ?_) cD15_ (any_of HT_.out (by kernel_rfl)) ?_ ?_; rotate_left
         ·simp only [Act.put, s_t, s_z, s_s, i64_w, i32_w]; rfl
         refine pv_ (i := 12) (N := some 41) (a' := ?_) cD17_ (any_of HT_.out (by kernel_rfl)) ?_ ?_; rotate_left
         ·simp only [Act.put, s_t, s_z, s_s, i64_w, i32_w]; rfl
         refine pv_ (i := 13) (N := some 42) (a' := ?_) cD18_ (any_of HT_.out (by kernel_rfl)) ?_ ?_; rotate_left
         ·simp only [Act.put, s_t, s_z, s_s, i64_w, i32_w]; rfl
         refine pv_ (i := 14) (N := some 43) (a' := ?_) cD19_ (any_of HT_.out (by kernel_rfl)) ?_ ?_; rotate_left
         ·simp only [Act.put, s_t, s_z, s_s, i64_w, i32_w]; rfl
         refine px_ 15 44 ?_ ?_ cD20_ HT_.out ?_ ?_ ?_; rotate_left 2; intro w'; go_simp; with_reducible rfl; simp only [Act.put, s_t, s_z, s_s, i64_w, i32_w]; rfl
         refine one_ (i := 16) (N := some 45) cD21_ rfl rfl (one_of HT_.out (by kernel_rfl)) (by decide) (fun K hK => ?_)
         refine goes_ Tryd.func46 (by kernel_rfl) rfl #[.bool true, .int .i64 1] (by rfl) rfl rfl gl_ ?_
         with_reducible refine (Z19.calls true 1 t124 _ A56.out).mono ?_
         rintro e w' ⟨rfl, ⟨nd, rfl⟩⟩
         refine ⟨_, rfl, ?_⟩
         refine hK.out _ _ ⟨(blk_cell BK111.out 0).trans rfl, (blk_cell BK111.out 1).trans rfl⟩ (fun hHeld => ?_)
         clear hK K
         refine norm_ (a' := ?_) ?_ ?_
         rotate_left
         ·show Act.put _ (some 45) _ = _
          simp only [Act.put, s_t, s_z, s_s, i64_w, i32_w]
          rfl
         refine px_ 19 48 ?_ ?_ cD22_ HT_.out ?_ ?_ ?_; rotate_left 2; intro w'; go_simp; with_reducible rfl; simp only [Act.put, s_t, s_z, s_s, i64_w, i32_w]; rfl
         refine pv_ (i := 20) (N := some 49) (a' := ?_) cD23_ (any_of HT_.out (by kernel_rfl)) ?_ ?_; rotate_left
         ·simp only [Act.put, s_t, s_z, s_s, i64_w, i32_w]; rfl
         refine pv_ (i := 21) (N := some 50) (a' := ?_) cD30_ (any_of HT_.out (by kernel_rfl)) ?_ ?_; rotate_left
         ·simp only [Act.put, s_t, s_z, s_s, i64_w, i32_w]; rfl
         refine pv_ (i := 22) (N := some 51) (a' := ?_) cD31_ (any_of HT_.out (by kernel_rfl)) ?_ ?_; rotate_left
         ·simp only [Act.put, s_t, s_z, s_s, i64_w, i32_w]; rfl
         refine pv_ (i := 23) (N := some 52) (a' := ?_) cD32_ (any_of HT_.out (by kernel_rfl)) ?_ ?_; rotate_left
         ·simp only [Act.put, s_t, s_z, s_s, i64_w, i32_w]; rfl
         refine pv_ (i := 24) (N := some 53) (a' := ?_) cD33_ (any_of HT_.out (by kernel_rfl)) ?_ ?_; rotate_left
         ·simp only [Act.put, s_t, s_z, s_s, i64_w, i32_w]; rfl
         refine pv_ (i := 25) (N := some 54) (a' := ?_) cD34_ (any_of HT_.out (by kernel_rfl)) ?_ ?_; rotate_left
         ·simp only [Act.put, s_t, s_z, s_s, i64_w, i32_w]; rfl
         refine pv_ (i := 26) (N := some 55) (a' := ?_) cD35_ (any_of HT_.out (by kernel_rfl)) ?_ ?_; rotate_left
         ·simp only [Act.put, s_t, s_z, s_s, i64_w, i32_w]; rfl
         refine pv_ (i := 27) (N := some 56) (a' := ?_) cD36_ (any_of HT_.out (by kernel_rfl)) ?_ ?_; rotate_left
         ·simp only [Act.put, s_t, s_z, s_s, i64_w, i32_w]; rfl
         refine pv_ (i := 28) (N := some 57) (a' := ?_) cD37_ (any_of HT_.out (by kernel_rfl)) ?_ ?_; rotate_left
         ·simp only [Act.put, s_t, s_z, s_s, i64_w, i32_w]; rfl
         refine pv_ (i := 29) (N := some 58) (a' := ?_) cD38_ (any_of HT_.out (by kernel_rfl)) ?_ ?_; rotate_left
         ·simp only [Act.put, s_t, s_z, s_s, i64_w, i32_w]; rfl
         refine px_ 30 59 ?_ ?_ cD39_ HT_.out ?_ ?_ ?_; rotate_left 2; intro w'; go_simp; with_reducible rfl; simp only [Act.put, s_t, s_z, s_s, i64_w, i32_w]; rfl
         refine one_ (i := 31) (N := some 60) cD40_ rfl rfl (one_of HT_.out (by kernel_rfl)) (by decide) (fun K hK => ?_)
         refine goes_ Tryd.func46 (by kernel_rfl) rfl #[.bool false, .int .i64 7] (by rfl) rfl rfl gl_ ?_
         with_reducible refine (Z19.calls false 7 t131 _ A79.out).mono ?_
         rintro e w' ⟨rfl, ⟨nd, rfl⟩⟩
         refine ⟨_, rfl, ?_⟩
         refine hK.out _ _ ⟨(blk_cell BK111.out 0).trans rfl, (blk_cell BK111.out 1).trans rfl⟩ (fun hHeld => ?_)
         clear hK K
         refine norm_ (a' := ?_) ?_ ?_
         rotate_left
         ·show Act.put _ (some 60) _ = _
          simp only [Act.put, s_t, s_z, s_s, i64_w, i32_w]
          rfl
         refine one_ (i := 32) (N := some 61) cD41_ rfl rfl (one_of HT_.out (by kernel_rfl)) (by decide) (fun K hK => ?_)
         refine Kd.R_lit_step (Kd.int .i64) _ 29 ?hg (N := 61) ?hd (xs := ([t124, t131] : List Int)) (inner := [.int .i64 t124, .int .i64 t131]) (ok := fun _ => True) (okp := fun _ => True) ?hr ?hp (fun _ hk => hk) trivial (Below.refl _ _) (Nat.le_refl _) (by simp) ?_; (case hd => rfl); (case hg => rfl); (case hr => first | (go_simp; done) | (go_simp; rfl)); (case hp => exact (Reps.one (show Kd.M (Kd.int .i64) _ _ _ t124 [.int .i64 t124] from rfl) (Reps.one (show Kd.M (Kd.int .i64) _ _ _ t131 [.int .i64 t131] from rfl) (Reps.none _ _))))
         intro v133 w93 ho94 hb hg_ hnew_
         clear hg_ hnew_
         (first | rw [← Ny132.out] at ho94 | (simp only [Int.reduceToNat] at ho94; rw [← Ny132.out] at ho94))
         have n0_ := am_ (Kd.R_lower ho94 (below_size (bs_ HB.out GE111.out)))
         have n1_ := am_ (blk_below (g := gb111) (o := .cells #[.int .i64 ((rd_T46 l0 x24_1).f0), .int .i64 ((rd_T46 l0 x24_1).f1)] 46 (0, 0)) (bk_ BK111.out) hb)
         have n2_ := am_ (below_step (bs_ HB.out GE111.out) hb)
         clear BK111; clear HB; have HO134 := n0_; have BK111 := n1_; have HB := n2_; clear n0_ n1_ n2_; clear hb ho94
         obtain ⟨Ao95, co95, eo95⟩ := Kd.R_slice HO134.out
         (first | subst eo95 | (injection eo95 with f1_ f2_ f3_; have f4_ := f1_.symm; have f5_ := f3_.symm; clear f1_ f2_ f3_; subst f4_; subst f5_))
         refine hK.out _ _ ⟨(blk_cell BK111.out 0).trans rfl, (blk_cell BK111.out 1).trans rfl⟩ (fun hHeld => ?_)
         clear hK K
         refine norm_ (a' := ?_) ?_ ?_
         rotate_left
         ·show Act.put _ (some 61) _ = _
          simp only [Act.put, s_t, s_z, s_s, i64_w, i32_w]
          rfl
         refine one_ (i := 33) (N := some 62) cD42_ rfl rfl (one_of HT_.out (by kernel_rfl)) (by decide) (fun K hK => ?_)
         refine goes_ Tryd.func45 (by kernel_rfl) rfl #[.slice Ao95 y132.length co95] (by rfl) rfl rfl gl_ ?_
         with_reducible refine (Z13.calls k1 _ _ y132 t135 _ ?side1 ?side2 A80.out).mono ?_
         (case side1 => exact cc_ (Kd.R_reads' HO134.out).2.2)
         (case side2 => exact (Kd.R_reads' HO134.out).2.1)
         rintro e w' ⟨rfl, ⟨nd, rfl⟩⟩
         refine ⟨_, rfl, ?_⟩
         refine hK.out _ _ ⟨(blk_cell BK111.out 0).trans rfl, (blk_cell BK111.out 1).trans rfl⟩ (fun hHeld => ?_)
         clear hK K
         refine norm_ (a' := ?_) ?_ ?_
         rotate_left
         ·show Act.put _ (some 62) _ = _
          simp only [Act.put, s_t, s_z, s_s, i64_w, i32_w]
          rfl
         refine px_ 34 8 ?_ ?_ cD43_ HT_.out ?_ ?_ ?_; rotate_left 2; intro w'; go_simp; with_reducible rfl; simp only [Act.put, s_t, s_z, s_s, i64_w, i32_w]; rfl
         refine done_ (done_of HT_.out (by kernel_rfl)) ?_
         try go_wp2
         go_ret
         exact ⟨by first | rfl | (simp [errW_none, errW_some] <;> rfl) | (simp [*, errW_none, errW_some] <;> rfl), bs_ HB.out GE111.out⟩
      ·rw [if_neg c55] at H
       have c55b0 : decide (((rd_T46 l0 x24_1).f1) ≤ ((rd_T46 l0 x24_1).f0)) = false := decide_eq_false c55
       clear c55; replace H := Option.bind_eq_some_iff.mp H; obtain ⟨t136, A960, H⟩ := H; have A96 := am_ A960; clear A960
       by_cases c97 : x24_1 > 0
       ·rw [if_pos c97] at H
        have c97b0 : decide (0 < x24_1) = true := decide_eq_true c97
        clear c97
        obtain ⟨ji98, hji98⟩ : ∃ j_ : Int, (mx x24_1 1) = j_ := ⟨_, rfl⟩
        replace H : (if 0 ≤ (wrap64 ((ji98) - 1)) then (if (wrap64 ((ji98) - 1)) < (l0.length : Int) then ((Z19.f (decide (((rd_T46 l0 x24_1).f0) ≤ ((rd_T46 l0 (wrap64 ((ji98) - 1))).f1))) 7).bind fun t138 => ((Z13.f k1 (([t136, t138] : List Int))).bind fun t142 => (if t142 = 0 then (Z9.l0 k1 l0 a1 l0 (l0.length : Int) (wrap64 (x24_1 + 1))) else (some t142)))) else (none)) else (none)) = some r := by first | (rw [hji98] at H; exact H) | (simp only [hji98] at H ⊢; exact H)
        (try rw [hji98] at A96)
        have hji98_ : (if x24_1 < 1 then 1 else x24_1) = ji98 := hji98
        obtain ⟨ji99, hji99⟩ : ∃ j_ : Int, (wrap64 ((ji98) - 1)) = j_ := ⟨_, rfl⟩
        replace H : (if 0 ≤ (ji99) then (if (ji99) < (l0.length : Int) then ((Z19.f (decide (((rd_T46 l0 x24_1).f0) ≤ ((rd_T46 l0 (ji99)).f1))) 7).bind fun t138 => ((Z13.f k1 (([t136, t138] : List Int))).bind fun t142 => (if t142 = 0 then (Z9.l0 k1 l0 a1 l0 (l0.length : Int) (wrap64 (x24_1 + 1))) else (some t142)))) else (none)) else (none)) = some r := by first | (rw [hji99] at H; exact H) | (simp only [hji99] at H ⊢; exact H)
        (try rw [hji99] at A96)
        have hji99w : (IntKind.i64.wrap ((ji98) - 1)) = ji99 := (i64_w _).trans hji99
        by_cases c100 : 0 ≤ (ji99)
        case neg => exact (nn_ c100 H).elim
        rw [if_pos c100] at H; have c100b0 := decide_eq_true c100; clear c100
        by_cases c101 : (ji99) < (l0.length : Int)
        case neg => exact (nn_ c101 H).elim
        rw [if_pos c101] at H; have c101b0 := decide_eq_true c101; clear c101; replace H := Option.bind_eq_some_iff.mp H; obtain ⟨t138, A1020, H⟩ := H; have A102 := am_ A1020; clear A1020
        obtain ⟨y139, hy139⟩ : ∃ y_ : List Int, y_ = (([t136, t138] : List Int)) := ⟨_, rfl⟩
        replace H : ((Z13.f k1 y139).bind fun t142 => (if t142 = 0 then (Z9.l0 k1 l0 a1 l0 (l0.length : Int) (wrap64 (x24_1 + 1))) else (some t142))) = some r := by first | (rw [hy139]; with_reducible exact H) | (have H2_ := (Option.bind_some _ _).symm.trans H; rw [hy139]; with_reducible exact H2_) | (have H2_ := (Option.bind_some _ _).symm.trans H; with_reducible exact H2_) | with_reducible exact H | (rw [hy139]; exact H) | exact H
        have Ny139 := am_ hy139; clear hy139; replace H := Option.bind_eq_some_iff.mp H; obtain ⟨t142, A1030, H⟩ := H; have A103 := am_ A1030; clear A1030
        by_cases c104 : t142 = 0
        ·rw [if_pos c104] at H
         have c104b0 : (t142 == 0) = true := beq_iff_eq.mpr c104
         have c104b1 : (t142 != 0) = false := bne_eq_false_iff_eq.mpr c104
         clear c104
         have H' := am_ H
         clear H; have p110 : 0 ≤ (x24_1 : Int) := ode_; have q110 : x24_1 < (l0.length : Int) := ode_
         obtain ⟨ad110, e110, hx110_0, hx110_1⟩ := at_T46 HR0.out x24_1 p110 q110
         cases e110
         first | replace hx110_0 := (HB.out.cell (World.block_lt_of_cell? w _ hx110_0)).trans hx110_0 | skip
         first | replace hx110_1 := (HB.out.cell (World.block_lt_of_cell? w _ hx110_1)).trans hx110_1 | skip
         replace p110 := eq_true p110; replace q110 := eq_true q110
         try go_wp2_with (first | ((with_reducible refine gate_dst (N := 7) rfl ?_); (try (refine gate_guard (by rfl) ?_; dsimp only)); refine box_event ?hg (N := 7) ?hd (cs := #[.int .i64 0, .int .i64 0]) (t := 46) ?hr ?_; (case hd => rfl); (case hg => rfl); (case hr => first | (go_simp; done) | (go_simp; rfl)); intro gb111 hg w105 hbox hb; have n0_ := am_ (below_step (bw_ HB.out) hb); have n1_ := am_ (hbox); have n2_ := am_ ((by rw [hg]; exact (below_size (bw_ HB.out)) : w.heap.size ≤ gb111)); have n3_ := am_ ((by rw [hg]; exact (below_size (bw_ HB.out)) : w.heap.size ≤ gb111)); clear HB; have HB := n0_; have BK111 := n1_; have GW111 := n2_; have GE111 := n3_; clear n0_ n1_ n2_ n3_; clear hb hbox hg; have hcz106_0 : w105.cell? ⟨gb111, 0, none⟩ = some (.int .i64 0) := (blk_cell BK111.out 0).trans rfl; have hcz106_1 : w105.cell? ⟨gb111, 1, none⟩ = some (.int .i64 0) := (blk_cell BK111.out 1).trans rfl; have hfz106_0 := blk_frozen BK111.out 0; have hfz106_1 := blk_frozen BK111.out 1))
         have n0_ : Aside0 (((w105.setCell ⟨gb111, 0, none⟩ (.int .i64 ((rd_T46 l0 x24_1).f0))).setCell ⟨gb111, 1, none⟩ (.int .i64 ((rd_T46 l0 x24_1).f1))).heap[gb111]? = some (.cells #[.int .i64 ((rd_T46 l0 x24_1).f0), .int .i64 ((rd_T46 l0 x24_1).f1)] 46 (0, 0))) := ⟨by (with_reducible repeat (first | refine blk_drewN ?_ _ | refine blk_drew ?_ | refine blk_alloc ?_ _)); refine blk_put (cs := #[.int .i64 ((rd_T46 l0 x24_1).f0), .int .i64 0]) ?_ 1 _ rfl; (with_reducible repeat (first | refine blk_drewN ?_ _ | refine blk_drew ?_ | refine blk_alloc ?_ _)); refine blk_put (cs := #[.int .i64 0, .int .i64 0]) ?_ 0 _ rfl; (with_reducible repeat (first | refine blk_drewN ?_ _ | refine blk_drew ?_ | refine blk_alloc ?_ _)); exact BK111.out⟩
         have n1_ : Aside0 (Below w.heap.size w ((w105.setCell ⟨gb111, 0, none⟩ (.int .i64 ((rd_T46 l0 x24_1).f0))).setCell ⟨gb111, 1, none⟩ (.int .i64 ((rd_T46 l0 x24_1).f1)))) := ⟨bs_ HB.out GE111.out⟩
         (try clear BK111)
         (try clear HB)
         generalize ((w105.setCell ⟨gb111, 0, none⟩ (.int .i64 ((rd_T46 l0 x24_1).f0))).setCell ⟨gb111, 1, none⟩ (.int .i64 ((rd_T46 l0 x24_1).f1))) = w107 at n0_ n1_ ⊢
         have BK111 := n0_; have HB := n1_; clear n0_ n1_
         have n0_ := am_ (blk_drew BK111.out)
         have n1_ := am_ (b2_ HB.out)
         clear BK111; clear HB; have BK111 := n0_; have HB := n1_; clear n0_ n1_; have p137 : 0 ≤ ((ji99) : Int) := ode_; have q137 : (ji99) < (l0.length : Int) := ode_
         obtain ⟨ad137, e137, hx137_0, hx137_1⟩ := at_T46 HR0.out (ji99) p137 q137
         have hw137_1 := hx137_1
         have hw137_0 := hx137_0
         obtain rfl : ad110 = ad137 := (by injection e137)
         first | replace hx137_0 := (HB.out.cell (World.block_lt_of_cell? w _ hx137_0)).trans hx137_0 | skip
         first | replace hx137_1 := (HB.out.cell (World.block_lt_of_cell? w _ hx137_1)).trans hx137_1 | skip
         replace p137 := eq_true p137; replace q137 := eq_true q137
         refine start_ (n := 35) (S := fun w' => w'.cell? ⟨gb111, 0, none⟩ = some (.int .i64 ((rd_T46 l0 x24_1).f0)) ∧ w'.cell? ⟨gb111, 1, none⟩ = some (.int .i64 ((rd_T46 l0 x24_1).f1)) ∧ w'.cell? (ad110.add (((ji99)).toNat * 2)) = some (.int .i64 ((rd_T46 l0 (ji99)).f0)) ∧ w'.cell? ⟨(ad110.add (((ji99)).toNat * 2)).block, (ad110.add (((ji99)).toNat * 2)).off + 1, none⟩ = some (.int .i64 ((rd_T46 l0 (ji99)).f1))) (ds := []) cD0_ (by kernel_rfl) rfl rfl ⟨(blk_cell BK111.out 0).trans rfl, (blk_cell BK111.out 1).trans rfl, ((HB.out.cell (World.block_lt_of_cell? w _ hw137_0)).trans hw137_0), ((HB.out.cell (World.block_lt_of_cell? w _ hw137_1)).trans hw137_1)⟩ (fun hHeld => ?_); refine with_tabW Z9.tab7 Z9.bits7 (fun HT_ HW_ => ?_)
         generalize w107.drew = w108 at BK111 HB hx137_0 hx137_1 hHeld ⊢
         refine px_ 0 29 ?_ ?_ cD1_ HT_.out ?_ ?_ ?_; rotate_left 2; intro w'; go_simp; with_reducible rfl; simp only [Act.put, s_t, s_z, s_s, i64_w, i32_w]; rfl
         refine px_ 17 46 ?_ ?_ cD2_ HT_.out ?_ ?_ ?_; rotate_left 2; intro w'; go_simp; with_reducible rfl; simp only [Act.put, s_t, s_z, s_s, i64_w, i32_w]; rfl
         refine px_ 18 47 ?_ ?_ cD3_ HT_.out ?_ ?_ ?_; rotate_left 2; intro w'; go_simp; with_reducible rfl; simp only [Act.put, s_t, s_z, s_s, i64_w, i32_w]; rfl
         refine take_ (i := 1) (N := some 30) (v := ?_) (a' := ?_) cD4_ rfl rfl (take_ofW HT_.out HW_.out (by kernel_rfl)) (fun _ _ _ h => h) (Or.inl ⟨by rfl, ?_⟩) hHeld ?_ ?_
         rotate_left
         ·rintro w' ⟨s0, s1, s2, s3⟩
          go_simp
          with_reducible rfl
         rotate_left
         ·simp only [Act.put, s_t, s_z, s_s, i64_w, i32_w]
          rfl
         refine px_ 2 31 ?_ ?_ cD5_ HT_.out ?_ ?_ ?_; rotate_left 2; intro w'; go_simp; with_reducible rfl; simp only [Act.put, s_t, s_z, s_s, i64_w, i32_w]; rfl
         refine px_ 3 32 ?_ ?_ cD6_ HT_.out ?_ ?_ ?_; rotate_left 2; intro w'; go_simp; with_reducible rfl; simp only [Act.put, s_t, s_z, s_s, i64_w, i32_w]; rfl
         refine px_ 4 33 ?_ ?_ cD7_ HT_.out ?_ ?_ ?_; rotate_left 2; intro w'; go_simp; with_reducible rfl; simp only [Act.put, s_t, s_z, s_s, i64_w, i32_w]; rfl
         refine px_ 6 35 ?_ ?_ cD8_ HT_.out ?_ ?_ ?_; rotate_left 2; intro w'; go_simp; with_reducible rfl; simp only [Act.put, s_t, s_z, s_s, i64_w, i32_w]; rfl
         refine take_ (i := 5) (N := some 34) (v := ?_) (a' := ?_) cD10_ rfl rfl (take_ofW HT_.out HW_.out (by kernel_rfl)) (fun _ _ _ h => h) (Or.inl ⟨by rfl, ?_⟩) hHeld ?_ ?_
         rotate_left
         ·rintro w' ⟨s0, s1, s2, s3⟩
          go_simp
          with_reducible rfl
         rotate_left
         ·simp only [Act.put, s_t, s_z, s_s, i64_w, i32_w]
          rfl
         refine take_ (i := 7) (N := some 36) (v := ?_) (a' := ?_) cD11_ rfl rfl (take_ofW HT_.out HW_.out (by kernel_rfl)) (fun _ _ _ h => h) (Or.inl ⟨by rfl, ?_⟩) hHeld ?_ ?_
         rotate_left
         ·rintro w' ⟨s0, s1, s2, s3⟩
          go_simp
          with_reducible rfl
         rotate_left
         ·simp only [Act.put, s_t, s_z, s_s, i64_w, i32_w]
          rfl
         refine px_ 8 37 ?_ ?_ cD12_ HT_.out ?_ ?_ ?_; rotate_left 2; intro w'; go_simp; with_reducible rfl; simp only [Act.put, s_t, s_z, s_s, i64_w, i32_w]; rfl
         refine px_ 9 38 ?_ ?_ cD13_ HT_.out ?_ ?_ ?_; rotate_left 2; intro w'; go_simp; with_reducible rfl; simp only [Act.put, s_t, s_z, s_s, i64_w, i32_w]; rfl
         refine px_ 10 39 ?_ ?_ cD14_ HT_.out ?_ ?_ ?_; rotate_left 2; intro w'; go_simp; with_reducible rfl; simp only [Act.put, s_t, s_z, s_s, i64_w, i32_w]; rfl
         refine px_ 11 40 ?_ ?_ cD15_ HT_.out ?_ ?_ ?_; rotate_left 2; intro w'; go_simp; with_reducible rfl; simp only [Act.put, s_t, s_z, s_s, i64_w, i32_w]; rfl
         refine px_ 13 42 ?_ ?_ cD16_ HT_.out ?_ ?_ ?_; rotate_left 2; intro w'; go_simp; with_reducible rfl; simp only [Act.put, s_t, s_z, s_s, i64_w, i32_w]; rfl
         refine take_ (i := 12) (N := some 41) (v := ?_) (a' := ?_) cD18_ rfl rfl (take_ofW HT_.out HW_.out (by kernel_rfl)) (fun _ _ _ h => h) (Or.inl ⟨by rfl, ?_⟩) hHeld ?_ ?_
         rotate_left
         ·rintro w' ⟨s0, s1, s2, s3⟩
          go_simp
          with_reducible rfl
         rotate_left
         ·simp only [Act.put, s_t, s_z, s_s, i64_w, i32_w]
          rfl
         refine px_ 14 43 ?_ ?_ cD19_ HT_.out ?_ ?_ ?_; rotate_left 2; intro w'; go_simp; with_reducible rfl; simp only [Act.put, s_t, s_z, s_s, i64_w, i32_w]; rfl
         refine px_ 15 44 ?_ ?_ cD20_ HT_.out ?_ ?_ ?_; rotate_left 2; intro w'; go_simp; with_reducible rfl; simp only [Act.put, s_t, s_z, s_s, i64_w, i32_w]; rfl
         refine one_ (i := 16) (N := some 45) cD21_ rfl rfl (one_of HT_.out (by kernel_rfl)) (by decide) (fun K hK => ?_)
         refine goes_ Tryd.func46 (by kernel_rfl) rfl #[.bool (decide (((rd_T46 l0 x24_1).f1) > a1)), .int .i64 1] (by rfl) rfl rfl gl_ ?_
         with_reducible refine (Z19.calls (decide (((rd_T46 l0 x24_1).f1) > a1)) 1 t136 _ A96.out).mono ?_
         rintro e w' ⟨rfl, ⟨nd, rfl⟩⟩
         refine ⟨_, rfl, ?_⟩
         refine hK.out _ _ ⟨(blk_cell BK111.out 0).trans rfl, (blk_cell BK111.out 1).trans rfl, ((HB.out.cell (World.block_lt_of_cell? w _ hw137_0)).trans hw137_0), ((HB.out.cell (World.block_lt_of_cell? w _ hw137_1)).trans hw137_1)⟩ (fun hHeld => ?_)
         clear hK K
         refine norm_ (a' := ?_) ?_ ?_
         rotate_left
         ·show Act.put _ (some 45) _ = _
          simp only [Act.put, s_t, s_z, s_s, i64_w, i32_w]
          rfl
         refine px_ 19 48 ?_ ?_ cD22_ HT_.out ?_ ?_ ?_; rotate_left 2; intro w'; go_simp; with_reducible rfl; simp only [Act.put, s_t, s_z, s_s, i64_w, i32_w]; rfl
         refine px_ 20 49 ?_ ?_ cD23_ HT_.out ?_ ?_ ?_; rotate_left 2; intro w'; go_simp; with_reducible rfl; simp only [Act.put, s_t, s_z, s_s, i64_w, i32_w]; rfl
         refine px_ 22 51 ?_ ?_ cD24_ HT_.out ?_ ?_ ?_; rotate_left 2; intro w'; go_simp; with_reducible rfl; simp only [Act.put, s_t, s_z, s_s, i64_w, i32_w]; rfl
         refine px_ 23 52 ?_ ?_ cD25_ HT_.out ?_ ?_ ?_; rotate_left 2; intro w'; go_simp; with_reducible rfl; simp only [Act.put, s_t, s_z, s_s, i64_w, i32_w]; rfl
         refine px_ 24 53 ?_ ?_ cD26_ HT_.out ?_ ?_ ?_; rotate_left 2; intro w'; go_simp; with_reducible rfl; simp only [Act.put, s_t, s_z, s_s, i64_w, i32_w]; rfl
         refine px_ 25 54 ?_ ?_ cD27_ HT_.out ?_ ?_ ?_; rotate_left 2; intro w'; go_simp; with_reducible rfl; simp only [Act.put, s_t, s_z, s_s, i64_w, i32_w]; rfl
         refine px_ 26 55 ?_ ?_ cD28_ HT_.out ?_ ?_ ?_; rotate_left 2; intro w'; go_simp; with_reducible rfl; simp only [Act.put, s_t, s_z, s_s, i64_w, i32_w]; rfl
         refine px_ 27 56 ?_ ?_ cD29_ HT_.out ?_ ?_ ?_; rotate_left 2; intro w'; go_simp; with_reducible rfl; simp only [Act.put, s_t, s_z, s_s, i64_w, i32_w]; rfl
         refine take_ (i := 21) (N := some 50) (v := ?_) (a' := ?_) cD36_ rfl rfl (take_ofW HT_.out HW_.out (by kernel_rfl)) (fun _ _ _ h => h) (Or.inl ⟨by rfl, ?_⟩) hHeld ?_ ?_
         rotate_left
         ·rintro w' ⟨s0, s1, s2, s3⟩
          go_simp
          with_reducible rfl
         rotate_left
         ·simp only [Act.put, s_t, s_z, s_s, i64_w, i32_w]
          rfl
         refine take_ (i := 28) (N := some 57) (v := ?_) (a' := ?_) cD37_ rfl rfl (take_ofW HT_.out HW_.out (by kernel_rfl)) (fun _ _ _ h => h) (Or.inl ⟨by rfl, ?_⟩) hHeld ?_ ?_
         rotate_left
         ·rintro w' ⟨s0, s1, s2, s3⟩
          go_simp
          with_reducible rfl
         rotate_left
         ·simp only [Act.put, s_t, s_z, s_s, i64_w, i32_w]
          rfl
         refine px_ 29 58 ?_ ?_ cD38_ HT_.out ?_ ?_ ?_; rotate_left 2; intro w'; go_simp; with_reducible rfl; simp only [Act.put, s_t, s_z, s_s, i64_w, i32_w]; rfl
         refine px_ 30 59 ?_ ?_ cD39_ HT_.out ?_ ?_ ?_; rotate_left 2; intro w'; go_simp; with_reducible rfl; simp only [Act.put, s_t, s_z, s_s, i64_w, i32_w]; rfl
         refine one_ (i := 31) (N := some 60) cD40_ rfl rfl (one_of HT_.out (by kernel_rfl)) (by decide) (fun K hK => ?_)
         refine goes_ Tryd.func46 (by kernel_rfl) rfl #[.bool (decide (((rd_T46 l0 x24_1).f0) ≤ ((rd_T46 l0 (ji99)).f1))), .int .i64 7] (by rfl) rfl rfl (by (try simp only [m1_, m2_, m3_]); first | done | (simp only [hji99]; rfl) | rfl | (simp only [List.length_drop, List.length_take]; rfl)) ?_
         with_reducible refine (Z19.calls (decide (((rd_T46 l0 x24_1).f0) ≤ ((rd_T46 l0 (ji99)).f1))) 7 t138 _ A102.out).mono ?_
         rintro e w' ⟨rfl, ⟨nd, rfl⟩⟩
         refine ⟨_, rfl, ?_⟩
         refine hK.out _ _ ⟨(blk_cell BK111.out 0).trans rfl, (blk_cell BK111.out 1).trans rfl, ((HB.out.cell (World.block_lt_of_cell? w _ hw137_0)).trans hw137_0), ((HB.out.cell (World.block_lt_of_cell? w _ hw137_1)).trans hw137_1)⟩ (fun hHeld => ?_)
         clear hK K
         refine norm_ (a' := ?_) ?_ ?_
         rotate_left
         ·show Act.put _ (some 60) _ = _
          simp only [Act.put, s_t, s_z, s_s, i64_w, i32_w]
          rfl
         refine one_ (i := 32) (N := some 61) cD41_ rfl rfl (one_of HT_.out (by kernel_rfl)) (by decide) (fun K hK => ?_)
         refine Kd.R_lit_step (Kd.int .i64) _ 29 ?hg (N := 61) ?hd (xs := ([t136, t138] : List Int)) (inner := [.int .i64 t136, .int .i64 t138]) (ok := fun _ => True) (okp := fun _ => True) ?hr ?hp (fun _ hk => hk) trivial (Below.refl _ _) (Nat.le_refl _) (by simp) ?_; (case hd => rfl); (case hg => rfl); (case hr => first | (go_simp; done) | (go_simp; rfl)); (case hp => exact (Reps.one (show Kd.M (Kd.int .i64) _ _ _ t136 [.int .i64 t136] from rfl) (Reps.one (show Kd.M (Kd.int .i64) _ _ _ t138 [.int .i64 t138] from rfl) (Reps.none _ _))))
         intro v140 w109 ho110 hb hg_ hnew_
         clear hg_ hnew_
         (first | rw [← Ny139.out] at ho110 | (simp only [Int.reduceToNat] at ho110; rw [← Ny139.out] at ho110))
         have n0_ := am_ (Kd.R_lower ho110 (below_size (bs_ HB.out GE111.out)))
         have n1_ := am_ (blk_below (g := gb111) (o := .cells #[.int .i64 ((rd_T46 l0 x24_1).f0), .int .i64 ((rd_T46 l0 x24_1).f1)] 46 (0, 0)) (bk_ BK111.out) hb)
         have n2_ := am_ (below_step (bs_ HB.out GE111.out) hb)
         clear BK111; clear HB; have HO141 := n0_; have BK111 := n1_; have HB := n2_; clear n0_ n1_ n2_; clear hb ho110
         obtain ⟨Ao111, co111, eo111⟩ := Kd.R_slice HO141.out
         (first | subst eo111 | (injection eo111 with f1_ f2_ f3_; have f4_ := f1_.symm; have f5_ := f3_.symm; clear f1_ f2_ f3_; subst f4_; subst f5_))
         refine hK.out _ _ ⟨(blk_cell BK111.out 0).trans rfl, (blk_cell BK111.out 1).trans rfl, ((HB.out.cell (World.block_lt_of_cell? w _ hw137_0)).trans hw137_0), ((HB.out.cell (World.block_lt_of_cell? w _ hw137_1)).trans hw137_1)⟩ (fun hHeld => ?_)
         clear hK K
         refine norm_ (a' := ?_) ?_ ?_
         rotate_left
         ·show Act.put _ (some 61) _ = _
          simp only [Act.put, s_t, s_z, s_s, i64_w, i32_w]
          rfl
         refine one_ (i := 33) (N := some 62) cD42_ rfl rfl (one_of HT_.out (by kernel_rfl)) (by decide) (fun K hK => ?_)
         refine goes_ Tryd.func45 (by kernel_rfl) rfl #[.slice Ao111 y139.length co111] (by rfl) rfl rfl gl_ ?_
         with_reducible refine (Z13.calls k1 _ _ y139 t142 _ ?side1 ?side2 A103.out).mono ?_
         (case side1 => exact cc_ (Kd.R_reads' HO141.out).2.2)
         (case side2 => exact (Kd.R_reads' HO141.out).2.1)
         rintro e w' ⟨rfl, ⟨nd, rfl⟩⟩
         refine ⟨_, rfl, ?_⟩
         refine hK.out _ _ ⟨(blk_cell BK111.out 0).trans rfl, (blk_cell BK111.out 1).trans rfl, ((HB.out.cell (World.block_lt_of_cell? w _ hw137_0)).trans hw137_0), ((HB.out.cell (World.block_lt_of_cell? w _ hw137_1)).trans hw137_1)⟩ (fun hHeld => ?_)
         clear hK K
         refine norm_ (a' := ?_) ?_ ?_
         rotate_left
         ·show Act.put _ (some 62) _ = _
          simp only [Act.put, s_t, s_z, s_s, i64_w, i32_w]
          rfl
         refine px_ 34 8 ?_ ?_ cD43_ HT_.out ?_ ?_ ?_; rotate_left 2; intro w'; go_simp; with_reducible rfl; simp only [Act.put, s_t, s_z, s_s, i64_w, i32_w]; rfl
         refine done_ (done_of HT_.out (by kernel_rfl)) ?_
         try go_wp2
         go_roundg k1
         case measure => have := HK1.out; omega
         case rel => exact ⟨(wrap64 (x24_1 + 1)), tr_, H', ⟨by have := HK1.out; omega⟩, ⟨bs_ HB.out GE111.out⟩⟩
        ·rw [if_neg c104] at H
         have c104b0 : (t142 == 0) = false := beq_eq_false_iff_ne.mpr c104
         have c104b1 : (t142 != 0) = true := bne_iff_ne.mpr c104
         obtain rfl := Option.some.inj H
         have p110 : 0 ≤ (x24_1 : Int) := ode_; have q110 : x24_1 < (l0.length : Int) := ode_
         obtain ⟨ad110, e110, hx110_0, hx110_1⟩ := at_T46 HR0.out x24_1 p110 q110
         cases e110
         first | replace hx110_0 := (HB.out.cell (World.block_lt_of_cell? w _ hx110_0)).trans hx110_0 | skip
         first | replace hx110_1 := (HB.out.cell (World.block_lt_of_cell? w _ hx110_1)).trans hx110_1 | skip
         replace p110 := eq_true p110; replace q110 := eq_true q110
         try go_wp2_with (first | ((with_reducible refine gate_dst (N := 7) rfl ?_); (try (refine gate_guard (by rfl) ?_; dsimp only)); refine box_event ?hg (N := 7) ?hd (cs := #[.int .i64 0, .int .i64 0]) (t := 46) ?hr ?_; (case hd => rfl); (case hg => rfl); (case hr => first | (go_simp; done) | (go_simp; rfl)); intro gb111 hg w112 hbox hb; have n0_ := am_ (below_step (bw_ HB.out) hb); have n1_ := am_ (hbox); have n2_ := am_ ((by rw [hg]; exact (below_size (bw_ HB.out)) : w.heap.size ≤ gb111)); have n3_ := am_ ((by rw [hg]; exact (below_size (bw_ HB.out)) : w.heap.size ≤ gb111)); clear HB; have HB := n0_; have BK111 := n1_; have GW111 := n2_; have GE111 := n3_; clear n0_ n1_ n2_ n3_; clear hb hbox hg; have hcz113_0 : w112.cell? ⟨gb111, 0, none⟩ = some (.int .i64 0) := (blk_cell BK111.out 0).trans rfl; have hcz113_1 : w112.cell? ⟨gb111, 1, none⟩ = some (.int .i64 0) := (blk_cell BK111.out 1).trans rfl; have hfz113_0 := blk_frozen BK111.out 0; have hfz113_1 := blk_frozen BK111.out 1))
         have n0_ : Aside0 (((w112.setCell ⟨gb111, 0, none⟩ (.int .i64 ((rd_T46 l0 x24_1).f0))).setCell ⟨gb111, 1, none⟩ (.int .i64 ((rd_T46 l0 x24_1).f1))).heap[gb111]? = some (.cells #[.int .i64 ((rd_T46 l0 x24_1).f0), .int .i64 ((rd_T46 l0 x24_1).f1)] 46 (0, 0))) := ⟨by (with_reducible repeat (first | refine blk_drewN ?_ _ | refine blk_drew ?_ | refine blk_alloc ?_ _)); refine blk_put (cs := #[.int .i64 ((rd_T46 l0 x24_1).f0), .int .i64 0]) ?_ 1 _ rfl; (with_reducible repeat (first | refine blk_drewN ?_ _ | refine blk_drew ?_ | refine blk_alloc ?_ _)); refine blk_put (cs := #[.int .i64 0, .int .i64 0]) ?_ 0 _ rfl; (with_reducible repeat (first | refine blk_drewN ?_ _ | refine blk_drew ?_ | refine blk_alloc ?_ _)); exact BK111.out⟩
         have n1_ : Aside0 (Below w.heap.size w ((w112.setCell ⟨gb111, 0, none⟩ (.int .i64 ((rd_T46 l0 x24_1).f0))).setCell ⟨gb111, 1, none⟩ (.int .i64 ((rd_T46 l0 x24_1).f1)))) := ⟨bs_ HB.out GE111.out⟩
         (try clear BK111)
         (try clear HB)
         generalize ((w112.setCell ⟨gb111, 0, none⟩ (.int .i64 ((rd_T46 l0 x24_1).f0))).setCell ⟨gb111, 1, none⟩ (.int .i64 ((rd_T46 l0 x24_1).f1))) = w114 at n0_ n1_ ⊢
         have BK111 := n0_; have HB := n1_; clear n0_ n1_
         have n0_ := am_ (blk_drew BK111.out)
         have n1_ := am_ (b2_ HB.out)
         clear BK111; clear HB; have BK111 := n0_; have HB := n1_; clear n0_ n1_; have p137 : 0 ≤ ((ji99) : Int) := ode_; have q137 : (ji99) < (l0.length : Int) := ode_
         obtain ⟨ad137, e137, hx137_0, hx137_1⟩ := at_T46 HR0.out (ji99) p137 q137
         have hw137_1 := hx137_1
         have hw137_0 := hx137_0
         obtain rfl : ad110 = ad137 := (by injection e137)
         first | replace hx137_0 := (HB.out.cell (World.block_lt_of_cell? w _ hx137_0)).trans hx137_0 | skip
         first | replace hx137_1 := (HB.out.cell (World.block_lt_of_cell? w _ hx137_1)).trans hx137_1 | skip
         replace p137 := eq_true p137; replace q137 := eq_true q137
         refine start_ (n := 35) (S := fun w' => w'.cell? ⟨gb111, 0, none⟩ = some (.int .i64 ((rd_T46 l0 x24_1).f0)) ∧ w'.cell? ⟨gb111, 1, none⟩ = some (.int .i64 ((rd_T46 l0 x24_1).f1)) ∧ w'.cell? (ad110.add (((ji99)).toNat * 2)) = some (.int .i64 ((rd_T46 l0 (ji99)).f0)) ∧ w'.cell? ⟨(ad110.add (((ji99)).toNat * 2)).block, (ad110.add (((ji99)).toNat * 2)).off + 1, none⟩ = some (.int .i64 ((rd_T46 l0 (ji99)).f1))) (ds := []) cD0_ (by kernel_rfl) rfl rfl ⟨(blk_cell BK111.out 0).trans rfl, (blk_cell BK111.out 1).trans rfl, ((HB.out.cell (World.block_lt_of_cell? w _ hw137_0)).trans hw137_0), ((HB.out.cell (World.block_lt_of_cell? w _ hw137_1)).trans hw137_1)⟩ (fun hHeld => ?_); refine with_tabW Z9.tab7 Z9.bits7 (fun HT_ HW_ => ?_)
         generalize w114.drew = w115 at BK111 HB hx137_0 hx137_1 hHeld ⊢
         refine px_ 0 29 ?_ ?_ cD1_ HT_.out ?_ ?_ ?_; rotate_left 2; intro w'; go_simp; with_reducible rfl; simp only [Act.put, s_t, s_z, s_s, i64_w, i32_w]; rfl
         refine px_ 17 46 ?_ ?_ cD2_ HT_.out ?_ ?_ ?_; rotate_left 2; intro w'; go_simp; with_reducible rfl; simp only [Act.put, s_t, s_z, s_s, i64_w, i32_w]; rfl
         refine px_ 18 47 ?_ ?_ cD3_ HT_.out ?_ ?_ ?_; rotate_left 2; intro w'; go_simp; with_reducible rfl; simp only [Act.put, s_t, s_z, s_s, i64_w, i32_w]; rfl
         refine take_ (i := 1) (N := some 30) (v := ?_) (a' := ?_) cD4_ rfl rfl (take_ofW HT_.out HW_.out (by kernel_rfl)) (fun _ _ _ h => h) (Or.inl ⟨by rfl, ?_⟩) hHeld ?_ ?_
         rotate_left
         ·rintro w' ⟨s0, s1, s2, s3⟩
          go_simp
          with_reducible rfl
         rotate_left
         ·simp only [Act.put, s_t, s_z, s_s, i64_w, i32_w]
          rfl
         refine px_ 2 31 ?_ ?_ cD5_ HT_.out ?_ ?_ ?_; rotate_left 2; intro w'; go_simp; with_reducible rfl; simp only [Act.put, s_t, s_z, s_s, i64_w, i32_w]; rfl
         refine px_ 3 32 ?_ ?_ cD6_ HT_.out ?_ ?_ ?_; rotate_left 2; intro w'; go_simp; with_reducible rfl; simp only [Act.put, s_t, s_z, s_s, i64_w, i32_w]; rfl
         refine px_ 4 33 ?_ ?_ cD7_ HT_.out ?_ ?_ ?_; rotate_left 2; intro w'; go_simp; with_reducible rfl; simp only [Act.put, s_t, s_z, s_s, i64_w, i32_w]; rfl
         refine px_ 6 35 ?_ ?_ cD8_ HT_.out ?_ ?_ ?_; rotate_left 2; intro w'; go_simp; with_reducible rfl; simp only [Act.put, s_t, s_z, s_s, i64_w, i32_w]; rfl
         refine take_ (i := 5) (N := some 34) (v := ?_) (a' := ?_) cD10_ rfl rfl (take_ofW HT_.out HW_.out (by kernel_rfl)) (fun _ _ _ h => h) (Or.inl ⟨by rfl, ?_⟩) hHeld ?_ ?_
         rotate_left
         ·rintro w' ⟨s0, s1, s2, s3⟩
          go_simp
          with_reducible rfl
         rotate_left
         ·simp only [Act.put, s_t, s_z, s_s, i64_w, i32_w]
          rfl
         refine take_ (i := 7) (N := some 36) (v := ?_) (a' := ?_) cD11_ rfl rfl (take_ofW HT_.out HW_.out (by kernel_rfl)) (fun _ _ _ h => h) (Or.inl ⟨by rfl, ?_⟩) hHeld ?_ ?_
         rotate_left
         ·rintro w' ⟨s0, s1, s2, s3⟩
          go_simp
          with_reducible rfl
         rotate_left
         ·simp only [Act.put, s_t, s_z, s_s, i64_w, i32_w]
          rfl
         refine px_ 8 37 ?_ ?_ cD12_ HT_.out ?_ ?_ ?_; rotate_left 2; intro w'; go_simp; with_reducible rfl; simp only [Act.put, s_t, s_z, s_s, i64_w, i32_w]; rfl
         refine px_ 9 38 ?_ ?_ cD13_ HT_.out ?_ ?_ ?_; rotate_left 2; intro w'; go_simp; with_reducible rfl; simp only [Act.put, s_t, s_z, s_s, i64_w, i32_w]; rfl
         refine px_ 10 39 ?_ ?_ cD14_ HT_.out ?_ ?_ ?_; rotate_left 2; intro w'; go_simp; with_reducible rfl; simp only [Act.put, s_t, s_z, s_s, i64_w, i32_w]; rfl
         refine px_ 11 40 ?_ ?_ cD15_ HT_.out ?_ ?_ ?_; rotate_left 2; intro w'; go_simp; with_reducible rfl; simp only [Act.put, s_t, s_z, s_s, i64_w, i32_w]; rfl
         refine px_ 13 42 ?_ ?_ cD16_ HT_.out ?_ ?_ ?_; rotate_left 2; intro w'; go_simp; with_reducible rfl; simp only [Act.put, s_t, s_z, s_s, i64_w, i32_w]; rfl
         refine take_ (i := 12) (N := some 41) (v := ?_) (a' := ?_) cD18_ rfl rfl (take_ofW HT_.out HW_.out (by kernel_rfl)) (fun _ _ _ h => h) (Or.inl ⟨by rfl, ?_⟩) hHeld ?_ ?_
         rotate_left
         ·rintro w' ⟨s0, s1, s2, s3⟩
          go_simp
          with_reducible rfl
         rotate_left
         ·simp only [Act.put, s_t, s_z, s_s, i64_w, i32_w]
          rfl
         refine px_ 14 43 ?_ ?_ cD19_ HT_.out ?_ ?_ ?_; rotate_left 2; intro w'; go_simp; with_reducible rfl; simp only [Act.put, s_t, s_z, s_s, i64_w, i32_w]; rfl
         refine px_ 15 44 ?_ ?_ cD20_ HT_.out ?_ ?_ ?_; rotate_left 2; intro w'; go_simp; with_reducible rfl; simp only [Act.put, s_t, s_z, s_s, i64_w, i32_w]; rfl
         refine one_ (i := 16) (N := some 45) cD21_ rfl rfl (one_of HT_.out (by kernel_rfl)) (by decide) (fun K hK => ?_)
         refine goes_ Tryd.func46 (by kernel_rfl) rfl #[.bool (decide (((rd_T46 l0 x24_1).f1) > a1)), .int .i64 1] (by rfl) rfl rfl gl_ ?_
         with_reducible refine (Z19.calls (decide (((rd_T46 l0 x24_1).f1) > a1)) 1 t136 _ A96.out).mono ?_
         rintro e w' ⟨rfl, ⟨nd, rfl⟩⟩
         refine ⟨_, rfl, ?_⟩
         refine hK.out _ _ ⟨(blk_cell BK111.out 0).trans rfl, (blk_cell BK111.out 1).trans rfl, ((HB.out.cell (World.block_lt_of_cell? w _ hw137_0)).trans hw137_0), ((HB.out.cell (World.block_lt_of_cell? w _ hw137_1)).trans hw137_1)⟩ (fun hHeld => ?_)
         clear hK K
         refine norm_ (a' := ?_) ?_ ?_
         rotate_left
         ·show Act.put _ (some 45) _ = _
          simp only [Act.put, s_t, s_z, s_s, i64_w, i32_w]
          rfl
         refine px_ 19 48 ?_ ?_ cD22_ HT_.out ?_ ?_ ?_; rotate_left 2; intro w'; go_simp; with_reducible rfl; simp only [Act.put, s_t, s_z, s_s, i64_w, i32_w]; rfl
         refine px_ 20 49 ?_ ?_ cD23_ HT_.out ?_ ?_ ?_; rotate_left 2; intro w'; go_simp; with_reducible rfl; simp only [Act.put, s_t, s_z, s_s, i64_w, i32_w]; rfl
         refine px_ 22 51 ?_ ?_ cD24_ HT_.out ?_ ?_ ?_; rotate_left 2; intro w'; go_simp; with_reducible rfl; simp only [Act.put, s_t, s_z, s_s, i64_w, i32_w]; rfl
         refine px_ 23 52 ?_ ?_ cD25_ HT_.out ?_ ?_ ?_; rotate_left 2; intro w'; go_simp; with_reducible rfl; simp only [Act.put, s_t, s_z, s_s, i64_w, i32_w]; rfl
         refine px_ 24 53 ?_ ?_ cD26_ HT_.out ?_ ?_ ?_; rotate_left 2; intro w'; go_simp; with_reducible rfl; simp only [Act.put, s_t, s_z, s_s, i64_w, i32_w]; rfl
         refine px_ 25 54 ?_ ?_ cD27_ HT_.out ?_ ?_ ?_; rotate_left 2; intro w'; go_simp; with_reducible rfl; simp only [Act.put, s_t, s_z, s_s, i64_w, i32_w]; rfl
         refine px_ 26 55 ?_ ?_ cD28_ HT_.out ?_ ?_ ?_; rotate_left 2; intro w'; go_simp; with_reducible rfl; simp only [Act.put, s_t, s_z, s_s, i64_w, i32_w]; rfl
         refine px_ 27 56 ?_ ?_ cD29_ HT_.out ?_ ?_ ?_; rotate_left 2; intro w'; go_simp; with_reducible rfl; simp only [Act.put, s_t, s_z, s_s, i64_w, i32_w]; rfl
         refine take_ (i := 21) (N := some 50) (v := ?_) (a' := ?_) cD36_ rfl rfl (take_ofW HT_.out HW_.out (by kernel_rfl)) (fun _ _ _ h => h) (Or.inl ⟨by rfl, ?_⟩) hHeld ?_ ?_
         rotate_left
         ·rintro w' ⟨s0, s1, s2, s3⟩
          go_simp
          with_reducible rfl
         rotate_left
         ·simp only [Act.put, s_t, s_z, s_s, i64_w, i32_w]
          rfl
         refine take_ (i := 28) (N := some 57) (v := ?_) (a' := ?_) cD37_ rfl rfl (take_ofW HT_.out HW_.out (by kernel_rfl)) (fun _ _ _ h => h) (Or.inl ⟨by rfl, ?_⟩) hHeld ?_ ?_
         rotate_left
         ·rintro w' ⟨s0, s1, s2, s3⟩
          go_simp
          with_reducible rfl
         rotate_left
         ·simp only [Act.put, s_t, s_z, s_s, i64_w, i32_w]
          rfl
         refine px_ 29 58 ?_ ?_ cD38_ HT_.out ?_ ?_ ?_; rotate_left 2; intro w'; go_simp; with_reducible rfl; simp only [Act.put, s_t, s_z, s_s, i64_w, i32_w]; rfl
         refine px_ 30 59 ?_ ?_ cD39_ HT_.out ?_ ?_ ?_; rotate_left 2; intro w'; go_simp; with_reducible rfl; simp only [Act.put, s_t, s_z, s_s, i64_w, i32_w]; rfl
         refine one_ (i := 31) (N := some 60) cD40_ rfl rfl (one_of HT_.out (by kernel_rfl)) (by decide) (fun K hK => ?_)
         refine goes_ Tryd.func46 (by kernel_rfl) rfl #[.bool (decide (((rd_T46 l0 x24_1).f0) ≤ ((rd_T46 l0 (ji99)).f1))), .int .i64 7] (by rfl) rfl rfl (by (try simp only [m1_, m2_, m3_]); first | done | (simp only [hji99]; rfl) | rfl | (simp only [List.length_drop, List.length_take]; rfl)) ?_
         with_reducible refine (Z19.calls (decide (((rd_T46 l0 x24_1).f0) ≤ ((rd_T46 l0 (ji99)).f1))) 7 t138 _ A102.out).mono ?_
         rintro e w' ⟨rfl, ⟨nd, rfl⟩⟩
         refine ⟨_, rfl, ?_⟩
         refine hK.out _ _ ⟨(blk_cell BK111.out 0).trans rfl, (blk_cell BK111.out 1).trans rfl, ((HB.out.cell (World.block_lt_of_cell? w _ hw137_0)).trans hw137_0), ((HB.out.cell (World.block_lt_of_cell? w _ hw137_1)).trans hw137_1)⟩ (fun hHeld => ?_)
         clear hK K
         refine norm_ (a' := ?_) ?_ ?_
         rotate_left
         ·show Act.put _ (some 60) _ = _
          simp only [Act.put, s_t, s_z, s_s, i64_w, i32_w]
          rfl
         refine one_ (i := 32) (N := some 61) cD41_ rfl rfl (one_of HT_.out (by kernel_rfl)) (by decide) (fun K hK => ?_)
         refine Kd.R_lit_step (Kd.int .i64) _ 29 ?hg (N := 61) ?hd (xs := ([t136, t138] : List Int)) (inner := [.int .i64 t136, .int .i64 t138]) (ok := fun _ => True) (okp := fun _ => True) ?hr ?hp (fun _ hk => hk) trivial (Below.refl _ _) (Nat.le_refl _) (by simp) ?_; (case hd => rfl); (case hg => rfl); (case hr => first | (go_simp; done) | (go_simp; rfl)); (case hp => exact (Reps.one (show Kd.M (Kd.int .i64) _ _ _ t136 [.int .i64 t136] from rfl) (Reps.one (show Kd.M (Kd.int .i64) _ _ _ t138 [.int .i64 t138] from rfl) (Reps.none _ _))))
         intro v140 w116 ho117 hb hg_ hnew_
         clear hg_ hnew_
         (first | rw [← Ny139.out] at ho117 | (simp only [Int.reduceToNat] at ho117; rw [← Ny139.out] at ho117))
         have n0_ := am_ (Kd.R_lower ho117 (below_size (bs_ HB.out GE111.out)))
         have n1_ := am_ (blk_below (g := gb111) (o := .cells #[.int .i64 ((rd_T46 l0 x24_1).f0), .int .i64 ((rd_T46 l0 x24_1).f1)] 46 (0, 0)) (bk_ BK111.out) hb)
         have n2_ := am_ (below_step (bs_ HB.out GE111.out) hb)
         clear BK111; clear HB; have HO141 := n0_; have BK111 := n1_; have HB := n2_; clear n0_ n1_ n2_; clear hb ho117
         obtain ⟨Ao118, co118, eo118⟩ := Kd.R_slice HO141.out
         (first | subst eo118 | (injection eo118 with f1_ f2_ f3_; have f4_ := f1_.symm; have f5_ := f3_.symm; clear f1_ f2_ f3_; subst f4_; subst f5_))
         refine hK.out _ _ ⟨(blk_cell BK111.out 0).trans rfl, (blk_cell BK111.out 1).trans rfl, ((HB.out.cell (World.block_lt_of_cell? w _ hw137_0)).trans hw137_0), ((HB.out.cell (World.block_lt_of_cell? w _ hw137_1)).trans hw137_1)⟩ (fun hHeld => ?_)
         clear hK K
         refine norm_ (a' := ?_) ?_ ?_
         rotate_left
         ·show Act.put _ (some 61) _ = _
          simp only [Act.put, s_t, s_z, s_s, i64_w, i32_w]
          rfl
         refine one_ (i := 33) (N := some 62) cD42_ rfl rfl (one_of HT_.out (by kernel_rfl)) (by decide) (fun K hK => ?_)
         refine goes_ Tryd.func45 (by kernel_rfl) rfl #[.slice Ao118 y139.length co118] (by rfl) rfl rfl gl_ ?_
         with_reducible refine (Z13.calls k1 _ _ y139 t142 _ ?side1 ?side2 A103.out).mono ?_
         (case side1 => exact cc_ (Kd.R_reads' HO141.out).2.2)
         (case side2 => exact (Kd.R_reads' HO141.out).2.1)
         rintro e w' ⟨rfl, ⟨nd, rfl⟩⟩
         refine ⟨_, rfl, ?_⟩
         refine hK.out _ _ ⟨(blk_cell BK111.out 0).trans rfl, (blk_cell BK111.out 1).trans rfl, ((HB.out.cell (World.block_lt_of_cell? w _ hw137_0)).trans hw137_0), ((HB.out.cell (World.block_lt_of_cell? w _ hw137_1)).trans hw137_1)⟩ (fun hHeld => ?_)
         clear hK K
         refine norm_ (a' := ?_) ?_ ?_
         rotate_left
         ·show Act.put _ (some 62) _ = _
          simp only [Act.put, s_t, s_z, s_s, i64_w, i32_w]
          rfl
         refine px_ 34 8 ?_ ?_ cD43_ HT_.out ?_ ?_ ?_; rotate_left 2; intro w'; go_simp; with_reducible rfl; simp only [Act.put, s_t, s_z, s_s, i64_w, i32_w]; rfl
         refine done_ (done_of HT_.out (by kernel_rfl)) ?_
         try go_wp2
         go_ret
         exact ⟨by first | rfl | (simp [errW_none, errW_some] <;> rfl) | (simp only [← hji98, ← hji99]; first | rfl | (simp [errW_none, errW_some] <;> rfl)) | (simp [*, errW_none, errW_some] <;> rfl), bs_ HB.out GE111.out⟩
       ·rw [if_neg c97] at H
        have c97b0 : decide (0 < x24_1) = false := decide_eq_false c97
        clear c97; replace H := Option.bind_eq_some_iff.mp H; obtain ⟨t143, A1190, H⟩ := H; have A119 := am_ A1190; clear A1190
        obtain ⟨y144, hy144⟩ : ∃ y_ : List Int, y_ = (([t136, t143] : List Int)) := ⟨_, rfl⟩
        replace H : ((Z13.f k1 y144).bind fun t147 => (if t147 = 0 then (Z9.l0 k1 l0 a1 l0 (l0.length : Int) (wrap64 (x24_1 + 1))) else (some t147))) = some r := by first | (rw [hy144]; with_reducible exact H) | (have H2_ := (Option.bind_some _ _).symm.trans H; rw [hy144]; with_reducible exact H2_) | (have H2_ := (Option.bind_some _ _).symm.trans H; with_reducible exact H2_) | with_reducible exact H | (rw [hy144]; exact H) | exact H
        have Ny144 := am_ hy144; clear hy144; replace H := Option.bind_eq_some_iff.mp H; obtain ⟨t147, A1200, H⟩ := H; have A120 := am_ A1200; clear A1200
        by_cases c121 : t147 = 0
        ·rw [if_pos c121] at H
         have c121b0 : (t147 == 0) = true := beq_iff_eq.mpr c121
         have c121b1 : (t147 != 0) = false := bne_eq_false_iff_eq.mpr c121
         clear c121
         have H' := am_ H
         clear H; have p110 : 0 ≤ (x24_1 : Int) := ode_; have q110 : x24_1 < (l0.length : Int) := ode_
         obtain ⟨ad110, e110, hx110_0, hx110_1⟩ := at_T46 HR0.out x24_1 p110 q110
         cases e110
         first | replace hx110_0 := (HB.out.cell (World.block_lt_of_cell? w _ hx110_0)).trans hx110_0 | skip
         first | replace hx110_1 := (HB.out.cell (World.block_lt_of_cell? w _ hx110_1)).trans hx110_1 | skip
         replace p110 := eq_true p110; replace q110 := eq_true q110
         try go_wp2_with (first | ((with_reducible refine gate_dst (N := 7) rfl ?_); (try (refine gate_guard (by rfl) ?_; dsimp only)); refine box_event ?hg (N := 7) ?hd (cs := #[.int .i64 0, .int .i64 0]) (t := 46) ?hr ?_; (case hd => rfl); (case hg => rfl); (case hr => first | (go_simp; done) | (go_simp; rfl)); intro gb111 hg w122 hbox hb; have n0_ := am_ (below_step (bw_ HB.out) hb); have n1_ := am_ (hbox); have n2_ := am_ ((by rw [hg]; exact (below_size (bw_ HB.out)) : w.heap.size ≤ gb111)); have n3_ := am_ ((by rw [hg]; exact (below_size (bw_ HB.out)) : w.heap.size ≤ gb111)); clear HB; have HB := n0_; have BK111 := n1_; have GW111 := n2_; have GE111 := n3_; clear n0_ n1_ n2_ n3_; clear hb hbox hg; have hcz123_0 : w122.cell? ⟨gb111, 0, none⟩ = some (.int .i64 0) := (blk_cell BK111.out 0).trans rfl; have hcz123_1 : w122.cell? ⟨gb111, 1, none⟩ = some (.int .i64 0) := (blk_cell BK111.out 1).trans rfl; have hfz123_0 := blk_frozen BK111.out 0; have hfz123_1 := blk_frozen BK111.out 1))
         have n0_ : Aside0 (((w122.setCell ⟨gb111, 0, none⟩ (.int .i64 ((rd_T46 l0 x24_1).f0))).setCell ⟨gb111, 1, none⟩ (.int .i64 ((rd_T46 l0 x24_1).f1))).heap[gb111]? = some (.cells #[.int .i64 ((rd_T46 l0 x24_1).f0), .int .i64 ((rd_T46 l0 x24_1).f1)] 46 (0, 0))) := ⟨by (with_reducible repeat (first | refine blk_drewN ?_ _ | refine blk_drew ?_ | refine blk_alloc ?_ _)); refine blk_put (cs := #[.int .i64 ((rd_T46 l0 x24_1).f0), .int .i64 0]) ?_ 1 _ rfl; (with_reducible repeat (first | refine blk_drewN ?_ _ | refine blk_drew ?_ | refine blk_alloc ?_ _)); refine blk_put (cs := #[.int .i64 0, .int .i64 0]) ?_ 0 _ rfl; (with_reducible repeat (first | refine blk_drewN ?_ _ | refine blk_drew ?_ | refine blk_alloc ?_ _)); exact BK111.out⟩
         have n1_ : Aside0 (Below w.heap.size w ((w122.setCell ⟨gb111, 0, none⟩ (.int .i64 ((rd_T46 l0 x24_1).f0))).setCell ⟨gb111, 1, none⟩ (.int .i64 ((rd_T46 l0 x24_1).f1)))) := ⟨bs_ HB.out GE111.out⟩
         (try clear BK111)
         (try clear HB)
         generalize ((w122.setCell ⟨gb111, 0, none⟩ (.int .i64 ((rd_T46 l0 x24_1).f0))).setCell ⟨gb111, 1, none⟩ (.int .i64 ((rd_T46 l0 x24_1).f1))) = w124 at n0_ n1_ ⊢
         have BK111 := n0_; have HB := n1_; clear n0_ n1_
         have n0_ := am_ (blk_drew BK111.out)
         have n1_ := am_ (b2_ HB.out)
         clear BK111; clear HB; have BK111 := n0_; have HB := n1_; clear n0_ n1_
         refine start_ (n := 35) (S := fun w' => w'.cell? ⟨gb111, 0, none⟩ = some (.int .i64 ((rd_T46 l0 x24_1).f0)) ∧ w'.cell? ⟨gb111, 1, none⟩ = some (.int .i64 ((rd_T46 l0 x24_1).f1))) (ds := []) cD0_ (by kernel_rfl) rfl rfl ⟨(blk_cell BK111.out 0).trans rfl, (blk_cell BK111.out 1).trans rfl⟩ (fun hHeld => ?_); refine with_tabW Z9.tab7 Z9.bits7 (fun HT_ HW_ => ?_)
         generalize w124.drew = w125 at BK111 HB hHeld ⊢
         refine px_ 0 29 ?_ ?_ cD1_ HT_.out ?_ ?_ ?_; rotate_left 2; intro w'; go_simp; with_reducible rfl; simp only [Act.put, s_t, s_z, s_s, i64_w, i32_w]; rfl
         refine px_ 17 46 ?_ ?_ cD2_ HT_.out ?_ ?_ ?_; rotate_left 2; intro w'; go_simp; with_reducible rfl; simp only [Act.put, s_t, s_z, s_s, i64_w, i32_w]; rfl
         refine px_ 18 47 ?_ ?_ cD3_ HT_.out ?_ ?_ ?_; rotate_left 2; intro w'; go_simp; with_reducible rfl; simp only [Act.put, s_t, s_z, s_s, i64_w, i32_w]; rfl
         refine take_ (i := 1) (N := some 30) (v := ?_) (a' := ?_) cD4_ rfl rfl (take_ofW HT_.out HW_.out (by kernel_rfl)) (fun _ _ _ h => h) (Or.inl ⟨by rfl, ?_⟩) hHeld ?_ ?_
         rotate_left
         ·rintro w' ⟨s0, s1⟩
          go_simp
          with_reducible rfl
         rotate_left
         ·simp only [Act.put, s_t, s_z, s_s, i64_w, i32_w]
          rfl
         refine px_ 2 31 ?_ ?_ cD5_ HT_.out ?_ ?_ ?_; rotate_left 2; intro w'; go_simp; with_reducible rfl; simp only [Act.put, s_t, s_z, s_s, i64_w, i32_w]; rfl
         refine px_ 3 32 ?_ ?_ cD6_ HT_.out ?_ ?_ ?_; rotate_left 2; intro w'; go_simp; with_reducible rfl; simp only [Act.put, s_t, s_z, s_s, i64_w, i32_w]; rfl
         refine px_ 4 33 ?_ ?_ cD7_ HT_.out ?_ ?_ ?_; rotate_left 2; intro w'; go_simp; with_reducible rfl; simp only [Act.put, s_t, s_z, s_s, i64_w, i32_w]; rfl
         refine px_ 6 35 ?_ ?_ cD8_ HT_.out ?_ ?_ ?_; rotate_left 2; intro w'; go_simp; with_reducible rfl; simp only [Act.put, s_t, s_z, s_s, i64_w, i32_w]; rfl
         refine take_ (i := 5) (N := some 34) (v := ?_) (a' := ?_) cD10_ rfl rfl (take_ofW HT_.out HW_.out (by kernel_rfl)) (fun _ _ _ h => h) (Or.inl ⟨by rfl, ?_⟩) hHeld ?_ ?_
         rotate_left
         ·rintro w' ⟨s0, s1⟩
          go_simp
          with_reducible rfl
         rotate_left
         ·simp only [Act.put, s_t, s_z, s_s, i64_w, i32_w]
          rfl
         refine take_ (i := 7) (N := some 36) (v := ?_) (a' := ?_) cD11_ rfl rfl (take_ofW HT_.out HW_.out (by kernel_rfl)) (fun _ _ _ h => h) (Or.inl ⟨by rfl, ?_⟩) hHeld ?_ ?_
         rotate_left
         ·rintro w' ⟨s0, s1⟩
          go_simp
          with_reducible rfl
         rotate_left
         ·simp only [Act.put, s_t, s_z, s_s, i64_w, i32_w]
          rfl
         refine px_ 8 37 ?_ ?_ cD12_ HT_.out ?_ ?_ ?_; rotate_left 2; intro w'; go_simp; with_reducible rfl; simp only [Act.put, s_t, s_z, s_s, i64_w, i32_w]; rfl
         refine px_ 9 38 ?_ ?_ cD13_ HT_.out ?_ ?_ ?_; rotate_left 2; intro w'; go_simp; with_reducible rfl; simp only [Act.put, s_t, s_z, s_s, i64_w, i32_w]; rfl
         refine px_ 10 39 ?_ ?_ cD14_ HT_.out ?_ ?_ ?_; rotate_left 2; intro w'; go_simp; with_reducible rfl; simp only [Act.put, s_t, s_z, s_s, i64_w, i32_w]; rfl
         refine px_ 11 40 ?_ ?_ cD15_ HT_.out ?_ ?_ ?_; rotate_left 2; intro w'; go_simp; with_reducible rfl; simp only [Act.put, s_t, s_z, s_s, i64_w, i32_w]; rfl
         refine px_ 13 42 ?_ ?_ cD16_ HT_.out ?_ ?_ ?_; rotate_left 2; intro w'; go_simp; with_reducible rfl; simp only [Act.put, s_t, s_z, s_s, i64_w, i32_w]; rfl
         refine take_ (i := 12) (N := some 41) (v := ?_) (a' := ?_) cD18_ rfl rfl (take_ofW HT_.out HW_.out (by kernel_rfl)) (fun _ _ _ h => h) (Or.inl ⟨by rfl, ?_⟩) hHeld ?_ ?_
         rotate_left
         ·rintro w' ⟨s0, s1⟩
          go_simp
          with_reducible rfl
         rotate_left
         ·simp only [Act.put, s_t, s_z, s_s, i64_w, i32_w]
          rfl
         refine px_ 14 43 ?_ ?_ cD19_ HT_.out ?_ ?_ ?_; rotate_left 2; intro w'; go_simp; with_reducible rfl; simp only [Act.put, s_t, s_z, s_s, i64_w, i32_w]; rfl
         refine px_ 15 44 ?_ ?_ cD20_ HT_.out ?_ ?_ ?_; rotate_left 2; intro w'; go_simp; with_reducible rfl; simp only [Act.put, s_t, s_z, s_s, i64_w, i32_w]; rfl
         refine one_ (i := 16) (N := some 45) cD21_ rfl rfl (one_of HT_.out (by kernel_rfl)) (by decide) (fun K hK => ?_)
         refine goes_ Tryd.func46 (by kernel_rfl) rfl #[.bool (decide (((rd_T46 l0 x24_1).f1) > a1)), .int .i64 1] (by rfl) rfl rfl gl_ ?_
         with_reducible refine (Z19.calls (decide (((rd_T46 l0 x24_1).f1) > a1)) 1 t136 _ A96.out).mono ?_
         rintro e w' ⟨rfl, ⟨nd, rfl⟩⟩
         refine ⟨_, rfl, ?_⟩
         refine hK.out _ _ ⟨(blk_cell BK111.out 0).trans rfl, (blk_cell BK111.out 1).trans rfl⟩ (fun hHeld => ?_)
         clear hK K
         refine norm_ (a' := ?_) ?_ ?_
         rotate_left
         ·show Act.put _ (some 45) _ = _
          simp only [Act.put, s_t, s_z, s_s, i64_w, i32_w]
          rfl
         refine px_ 19 48 ?_ ?_ cD22_ HT_.out ?_ ?_ ?_; rotate_left 2; intro w'; go_simp; with_reducible rfl; simp only [Act.put, s_t, s_z, s_s, i64_w, i32_w]; rfl
         refine pv_ (i := 20) (N := some 49) (a' := ?_) cD23_ (any_of HT_.out (by kernel_rfl)) ?_ ?_; rotate_left
         ·simp only [Act.put, s_t, s_z, s_s, i64_w, i32_w]; rfl
         refine pv_ (i := 21) (N := some 50) (a' := ?_) cD30_ (any_of HT_.out (by kernel_rfl)) ?_ ?_; rotate_left
         ·simp only [Act.put, s_t, s_z, s_s, i64_w, i32_w]; rfl
         refine pv_ (i := 22) (N := some 51) (a' := ?_) cD31_ (any_of HT_.out (by kernel_rfl)) ?_ ?_; rotate_left
         ·simp only [Act.put, s_t, s_z, s_s, i64_w, i32_w]; rfl
         refine pv_ (i := 23) (N := some 52) (a' := ?_) cD32_ (any_of HT_.out (by kernel_rfl)) ?_ ?_; rotate_left
         ·simp only [Act.put, s_t, s_z, s_s, i64_w, i32_w]; rfl
         refine pv_ (i := 24) (N := some 53) (a' := ?_) cD33_ (any_of HT_.out (by kernel_rfl)) ?_ ?_; rotate_left
         ·simp only [Act.put, s_t, s_z, s_s, i64_w, i32_w]; rfl
         refine pv_ (i := 25) (N := some 54) (a' := ?_) cD34_ (any_of HT_.out (by kernel_rfl)) ?_ ?_; rotate_left
         ·simp only [Act.put, s_t, s_z, s_s, i64_w, i32_w]; rfl
         refine pv_ (i := 26) (N := some 55) (a' := ?_) cD35_ (any_of HT_.out (by kernel_rfl)) ?_ ?_; rotate_left
         ·simp only [Act.put, s_t, s_z, s_s, i64_w, i32_w]; rfl
         refine pv_ (i := 27) (N := some 56) (a' := ?_) cD36_ (any_of HT_.out (by kernel_rfl)) ?_ ?_; rotate_left
         ·simp only [Act.put, s_t, s_z, s_s, i64_w, i32_w]; rfl
         refine pv_ (i := 28) (N := some 57) (a' := ?_) cD37_ (any_of HT_.out (by kernel_rfl)) ?_ ?_; rotate_left
         ·simp only [Act.put, s_t, s_z, s_s, i64_w, i32_w]; rfl
         refine pv_ (i := 29) (N := some 58) (a' := ?_) cD38_ (any_of HT_.out (by kernel_rfl)) ?_ ?_; rotate_left
         ·simp only [Act.put, s_t, s_z, s_s, i64_w, i32_w]; rfl
         refine px_ 30 59 ?_ ?_ cD39_ HT_.out ?_ ?_ ?_; rotate_left 2; intro w'; go_simp; with_reducible rfl; simp only [Act.put, s_t, s_z, s_s, i64_w, i32_w]; rfl
         refine one_ (i := 31) (N := some 60) cD40_ rfl rfl (one_of HT_.out (by kernel_rfl)) (by decide) (fun K hK => ?_)
         refine goes_ Tryd.func46 (by kernel_rfl) rfl #[.bool false, .int .i64 7] (by rfl) rfl rfl gl_ ?_
         with_reducible refine (Z19.calls false 7 t143 _ A119.out).mono ?_
         rintro e w' ⟨rfl, ⟨nd, rfl⟩⟩
         refine ⟨_, rfl, ?_⟩
         refine hK.out _ _ ⟨(blk_cell BK111.out 0).trans rfl, (blk_cell BK111.out 1).trans rfl⟩ (fun hHeld => ?_)
         clear hK K
         refine norm_ (a' := ?_) ?_ ?_
         rotate_left
         ·show Act.put _ (some 60) _ = _
          simp only [Act.put, s_t, s_z, s_s, i64_w, i32_w]
          rfl
         refine one_ (i := 32) (N := some 61) cD41_ rfl rfl (one_of HT_.out (by kernel_rfl)) (by decide) (fun K hK => ?_)
         refine Kd.R_lit_step (Kd.int .i64) _ 29 ?hg (N := 61) ?hd (xs := ([t136, t143] : List Int)) (inner := [.int .i64 t136, .int .i64 t143]) (ok := fun _ => True) (okp := fun _ => True) ?hr ?hp (fun _ hk => hk) trivial (Below.refl _ _) (Nat.le_refl _) (by simp) ?_; (case hd => rfl); (case hg => rfl); (case hr => first | (go_simp; done) | (go_simp; rfl)); (case hp => exact (Reps.one (show Kd.M (Kd.int .i64) _ _ _ t136 [.int .i64 t136] from rfl) (Reps.one (show Kd.M (Kd.int .i64) _ _ _ t143 [.int .i64 t143] from rfl) (Reps.none _ _))))
         intro v145 w126 ho127 hb hg_ hnew_
         clear hg_ hnew_
         (first | rw [← Ny144.out] at ho127 | (simp only [Int.reduceToNat] at ho127; rw [← Ny144.out] at ho127))
         have n0_ := am_ (Kd.R_lower ho127 (below_size (bs_ HB.out GE111.out)))
         have n1_ := am_ (blk_below (g := gb111) (o := .cells #[.int .i64 ((rd_T46 l0 x24_1).f0), .int .i64 ((rd_T46 l0 x24_1).f1)] 46 (0, 0)) (bk_ BK111.out) hb)
         have n2_ := am_ (below_step (bs_ HB.out GE111.out) hb)
         clear BK111; clear HB; have HO146 := n0_; have BK111 := n1_; have HB := n2_; clear n0_ n1_ n2_; clear hb ho127
         obtain ⟨Ao128, co128, eo128⟩ := Kd.R_slice HO146.out
         (first | subst eo128 | (injection eo128 with f1_ f2_ f3_; have f4_ := f1_.symm; have f5_ := f3_.symm; clear f1_ f2_ f3_; subst f4_; subst f5_))
         refine hK.out _ _ ⟨(blk_cell BK111.out 0).trans rfl, (blk_cell BK111.out 1).trans rfl⟩ (fun hHeld => ?_)
         clear hK K
         refine norm_ (a' := ?_) ?_ ?_
         rotate_left
         ·show Act.put _ (some 61) _ = _
          simp only [Act.put, s_t, s_z, s_s, i64_w, i32_w]
          rfl
         refine one_ (i := 33) (N := some 62) cD42_ rfl rfl (one_of HT_.out (by kernel_rfl)) (by decide) (fun K hK => ?_)
         refine goes_ Tryd.func45 (by kernel_rfl) rfl #[.slice Ao128 y144.length co128] (by rfl) rfl rfl gl_ ?_
         with_reducible refine (Z13.calls k1 _ _ y144 t147 _ ?side1 ?side2 A120.out).mono ?_
         (case side1 => exact cc_ (Kd.R_reads' HO146.out).2.2)
         (case side2 => exact (Kd.R_reads' HO146.out).2.1)
         rintro e w' ⟨rfl, ⟨nd, rfl⟩⟩
         refine ⟨_, rfl, ?_⟩
         refine hK.out _ _ ⟨(blk_cell BK111.out 0).trans rfl, (blk_cell BK111.out 1).trans rfl⟩ (fun hHeld => ?_)
         clear hK K
         refine norm_ (a' := ?_) ?_ ?_
         rotate_left
         ·show Act.put _ (some 62) _ = _
          simp only [Act.put, s_t, s_z, s_s, i64_w, i32_w]
          rfl
         refine px_ 34 8 ?_ ?_ cD43_ HT_.out ?_ ?_ ?_; rotate_left 2; intro w'; go_simp; with_reducible rfl; simp only [Act.put, s_t, s_z, s_s, i64_w, i32_w]; rfl
         refine done_ (done_of HT_.out (by kernel_rfl)) ?_
         try go_wp2
         go_roundg k1
         case measure => have := HK1.out; omega
         case rel => exact ⟨(wrap64 (x24_1 + 1)), tr_, H', ⟨by have := HK1.out; omega⟩, ⟨bs_ HB.out GE111.out⟩⟩
        ·rw [if_neg c121] at H
         have c121b0 : (t147 == 0) = false := beq_eq_false_iff_ne.mpr c121
         have c121b1 : (t147 != 0) = true := bne_iff_ne.mpr c121
         obtain rfl := Option.some.inj H
         have p110 : 0 ≤ (x24_1 : Int) := ode_; have q110 : x24_1 < (l0.length : Int) := ode_
         obtain ⟨ad110, e110, hx110_0, hx110_1⟩ := at_T46 HR0.out x24_1 p110 q110
         cases e110
         first | replace hx110_0 := (HB.out.cell (World.block_lt_of_cell? w _ hx110_0)).trans hx110_0 | skip
         first | replace hx110_1 := (HB.out.cell (World.block_lt_of_cell? w _ hx110_1)).trans hx110_1 | skip
         replace p110 := eq_true p110; replace q110 := eq_true q110
         try go_wp2_with (first | ((with_reducible refine gate_dst (N := 7) rfl ?_); (try (refine gate_guard (by rfl) ?_; dsimp only)); refine box_event ?hg (N := 7) ?hd (cs := #[.int .i64 0, .int .i64 0]) (t := 46) ?hr ?_; (case hd => rfl); (case hg => rfl); (case hr => first | (go_simp; done) | (go_simp; rfl)); intro gb111 hg w129 hbox hb; have n0_ := am_ (below_step (bw_ HB.out) hb); have n1_ := am_ (hbox); have n2_ := am_ ((by rw [hg]; exact (below_size (bw_ HB.out)) : w.heap.size ≤ gb111)); have n3_ := am_ ((by rw [hg]; exact (below_size (bw_ HB.out)) : w.heap.size ≤ gb111)); clear HB; have HB := n0_; have BK111 := n1_; have GW111 := n2_; have GE111 := n3_; clear n0_ n1_ n2_ n3_; clear hb hbox hg; have hcz130_0 : w129.cell? ⟨gb111, 0, none⟩ = some (.int .i64 0) := (blk_cell BK111.out 0).trans rfl; have hcz130_1 : w129.cell? ⟨gb111, 1, none⟩ = some (.int .i64 0) := (blk_cell BK111.out 1).trans rfl; have hfz130_0 := blk_frozen BK111.out 0; have hfz130_1 := blk_frozen BK111.out 1))
         have n0_ : Aside0 (((w129.setCell ⟨gb111, 0, none⟩ (.int .i64 ((rd_T46 l0 x24_1).f0))).setCell ⟨gb111, 1, none⟩ (.int .i64 ((rd_T46 l0 x24_1).f1))).heap[gb111]? = some (.cells #[.int .i64 ((rd_T46 l0 x24_1).f0), .int .i64 ((rd_T46 l0 x24_1).f1)] 46 (0, 0))) := ⟨by (with_reducible repeat (first | refine blk_drewN ?_ _ | refine blk_drew ?_ | refine blk_alloc ?_ _)); refine blk_put (cs := #[.int .i64 ((rd_T46 l0 x24_1).f0), .int .i64 0]) ?_ 1 _ rfl; (with_reducible repeat (first | refine blk_drewN ?_ _ | refine blk_drew ?_ | refine blk_alloc ?_ _)); refine blk_put (cs := #[.int .i64 0, .int .i64 0]) ?_ 0 _ rfl; (with_reducible repeat (first | refine blk_drewN ?_ _ | refine blk_drew ?_ | refine blk_alloc ?_ _)); exact BK111.out⟩
         have n1_ : Aside0 (Below w.heap.size w ((w129.setCell ⟨gb111, 0, none⟩ (.int .i64 ((rd_T46 l0 x24_1).f0))).setCell ⟨gb111, 1, none⟩ (.int .i64 ((rd_T46 l0 x24_1).f1)))) := ⟨bs_ HB.out GE111.out⟩
         (try clear BK111)
         (try clear HB)
         generalize ((w129.setCell ⟨gb111, 0, none⟩ (.int .i64 ((rd_T46 l0 x24_1).f0))).setCell ⟨gb111, 1, none⟩ (.int .i64 ((rd_T46 l0 x24_1).f1))) = w131 at n0_ n1_ ⊢
         have BK111 := n0_; have HB := n1_; clear n0_ n1_
         have n0_ := am_ (blk_drew BK111.out)
         have n1_ := am_ (b2_ HB.out)
         clear BK111; clear HB; have BK111 := n0_; have HB := n1_; clear n0_ n1_
         refine start_ (n := 35) (S := fun w' => w'.cell? ⟨gb111, 0, none⟩ = some (.int .i64 ((rd_T46 l0 x24_1).f0)) ∧ w'.cell? ⟨gb111, 1, none⟩ = some (.int .i64 ((rd_T46 l0 x24_1).f1))) (ds := []) cD0_ (by kernel_rfl) rfl rfl ⟨(blk_cell BK111.out 0).trans rfl, (blk_cell BK111.out 1).trans rfl⟩ (fun hHeld => ?_); refine with_tabW Z9.tab7 Z9.bits7 (fun HT_ HW_ => ?_)
         generalize w131.drew = w132 at BK111 HB hHeld ⊢
         refine px_ 0 29 ?_ ?_ cD1_ HT_.out ?_ ?_ ?_; rotate_left 2; intro w'; go_simp; with_reducible rfl; simp only [Act.put, s_t, s_z, s_s, i64_w, i32_w]; rfl
         refine px_ 17 46 ?_ ?_ cD2_ HT_.out ?_ ?_ ?_; rotate_left 2; intro w'; go_simp; with_reducible rfl; simp only [Act.put, s_t, s_z, s_s, i64_w, i32_w]; rfl
         refine px_ 18 47 ?_ ?_ cD3_ HT_.out ?_ ?_ ?_; rotate_left 2; intro w'; go_simp; with_reducible rfl; simp only [Act.put, s_t, s_z, s_s, i64_w, i32_w]; rfl
         refine take_ (i := 1) (N := some 30) (v := ?_) (a' := ?_) cD4_ rfl rfl (take_ofW HT_.out HW_.out (by kernel_rfl)) (fun _ _ _ h => h) (Or.inl ⟨by rfl, ?_⟩) hHeld ?_ ?_
         rotate_left
         ·rintro w' ⟨s0, s1⟩
          go_simp
          with_reducible rfl
         rotate_left
         ·simp only [Act.put, s_t, s_z, s_s, i64_w, i32_w]
          rfl
         refine px_ 2 31 ?_ ?_ cD5_ HT_.out ?_ ?_ ?_; rotate_left 2; intro w'; go_simp; with_reducible rfl; simp only [Act.put, s_t, s_z, s_s, i64_w, i32_w]; rfl
         refine px_ 3 32 ?_ ?_ cD6_ HT_.out ?_ ?_ ?_; rotate_left 2; intro w'; go_simp; with_reducible rfl; simp only [Act.put, s_t, s_z, s_s, i64_w, i32_w]; rfl
         refine px_ 4 33 ?_ ?_ cD7_ HT_.out ?_ ?_ ?_; rotate_left 2; intro w'; go_simp; with_reducible rfl; simp only [Act.put, s_t, s_z, s_s, i64_w, i32_w]; rfl
         refine px_ 6 35 ?_ ?_ cD8_ HT_.out ?_ ?_ ?_; rotate_left 2; intro w'; go_simp; with_reducible rfl; simp only [Act.put, s_t, s_z, s_s, i64_w, i32_w]; rfl
         refine take_ (i := 5) (N := some 34) (v := ?_) (a' := ?_) cD10_ rfl rfl (take_ofW HT_.out HW_.out (by kernel_rfl)) (fun _ _ _ h => h) (Or.inl ⟨by rfl, ?_⟩) hHeld ?_ ?_
         rotate_left
         ·rintro w' ⟨s0, s1⟩
          go_simp
          with_reducible rfl
         rotate_left
         ·simp only [Act.put, s_t, s_z, s_s, i64_w, i32_w]
          rfl
         refine take_ (i := 7) (N := some 36) (v := ?_) (a' := ?_) cD11_ rfl rfl (take_ofW HT_.out HW_.out (by kernel_rfl)) (fun _ _ _ h => h) (Or.inl ⟨by rfl, ?_⟩) hHeld ?_ ?_
         rotate_left
         ·rintro w' ⟨s0, s1⟩
          go_simp
          with_reducible rfl
         rotate_left
         ·simp only [Act.put, s_t, s_z, s_s, i64_w, i32_w]
          rfl
         refine px_ 8 37 ?_ ?_ cD12_ HT_.out ?_ ?_ ?_; rotate_left 2; intro w'; go_simp; with_reducible rfl; simp only [Act.put, s_t, s_z, s_s, i64_w, i32_w]; rfl
         refine px_ 9 38 ?_ ?_ cD13_ HT_.out ?_ ?_ ?_; rotate_left 2; intro w'; go_simp; with_reducible rfl; simp only [Act.put, s_t, s_z, s_s, i64_w, i32_w]; rfl
         refine px_ 10 39 ?_ ?_ cD14_ HT_.out ?_ ?_ ?_; rotate_left 2; intro w'; go_simp; with_reducible rfl; simp only [Act.put, s_t, s_z, s_s, i64_w, i32_w]; rfl
         refine px_ 11 40 ?_ ?_ cD15_ HT_.out ?_ ?_ ?_; rotate_left 2; intro w'; go_simp; with_reducible rfl; simp only [Act.put, s_t, s_z, s_s, i64_w, i32_w]; rfl
         refine px_ 13 42 ?_ ?_ cD16_ HT_.out ?_ ?_ ?_; rotate_left 2; intro w'; go_simp; with_reducible rfl; simp only [Act.put, s_t, s_z, s_s, i64_w, i32_w]; rfl
         refine take_ (i := 12) (N := some 41) (v := ?_) (a' := ?_) cD18_ rfl rfl (take_ofW HT_.out HW_.out (by kernel_rfl)) (fun _ _ _ h => h) (Or.inl ⟨by rfl, ?_⟩) hHeld ?_ ?_
         rotate_left
         ·rintro w' ⟨s0, s1⟩
          go_simp
          with_reducible rfl
         rotate_left
         ·simp only [Act.put, s_t, s_z, s_s, i64_w, i32_w]
          rfl
         refine px_ 14 43 ?_ ?_ cD19_ HT_.out ?_ ?_ ?_; rotate_left 2; intro w'; go_simp; with_reducible rfl; simp only [Act.put, s_t, s_z, s_s, i64_w, i32_w]; rfl
         refine px_ 15 44 ?_ ?_ cD20_ HT_.out ?_ ?_ ?_; rotate_left 2; intro w'; go_simp; with_reducible rfl; simp only [Act.put, s_t, s_z, s_s, i64_w, i32_w]; rfl
         refine one_ (i := 16) (N := some 45) cD21_ rfl rfl (one_of HT_.out (by kernel_rfl)) (by decide) (fun K hK => ?_)
         refine goes_ Tryd.func46 (by kernel_rfl) rfl #[.bool (decide (((rd_T46 l0 x24_1).f1) > a1)), .int .i64 1] (by rfl) rfl rfl gl_ ?_
         with_reducible refine (Z19.calls (decide (((rd_T46 l0 x24_1).f1) > a1)) 1 t136 _ A96.out).mono ?_
         rintro e w' ⟨rfl, ⟨nd, rfl⟩⟩
         refine ⟨_, rfl, ?_⟩
         refine hK.out _ _ ⟨(blk_cell BK111.out 0).trans rfl, (blk_cell BK111.out 1).trans rfl⟩ (fun hHeld => ?_)
         clear hK K
         refine norm_ (a' := ?_) ?_ ?_
         rotate_left
         ·show Act.put _ (some 45) _ = _
          simp only [Act.put, s_t, s_z, s_s, i64_w, i32_w]
          rfl
         refine px_ 19 48 ?_ ?_ cD22_ HT_.out ?_ ?_ ?_; rotate_left 2; intro w'; go_simp; with_reducible rfl; simp only [Act.put, s_t, s_z, s_s, i64_w, i32_w]; rfl
         refine pv_ (i := 20) (N := some 49) (a' := ?_) cD23_ (any_of HT_.out (by kernel_rfl)) ?_ ?_; rotate_left
         ·simp only [Act.put, s_t, s_z, s_s, i64_w, i32_w]; rfl
         refine pv_ (i := 21) (N := some 50) (a' := ?_) cD30_ (any_of HT_.out (by kernel_rfl)) ?_ ?_; rotate_left
         ·simp only [Act.put, s_t, s_z, s_s, i64_w, i32_w]; rfl
         refine pv_ (i := 22) (N := some 51) (a' := ?_) cD31_ (any_of HT_.out (by kernel_rfl)) ?_ ?_; rotate_left
         ·simp only [Act.put, s_t, s_z, s_s, i64_w, i32_w]; rfl
         refine pv_ (i := 23) (N := some 52) (a' := ?_) cD32_ (any_of HT_.out (by kernel_rfl)) ?_ ?_; rotate_left
         ·simp only [Act.put, s_t, s_z, s_s, i64_w, i32_w]; rfl
         refine pv_ (i := 24) (N := some 53) (a' := ?_) cD33_ (any_of HT_.out (by kernel_rfl)) ?_ ?_; rotate_left
         ·simp only [Act.put, s_t, s_z, s_s, i64_w, i32_w]; rfl
         refine pv_ (i := 25) (N := some 54) (a' := ?_) cD34_ (any_of HT_.out (by kernel_rfl)) ?_ ?_; rotate_left
         ·simp only [Act.put, s_t, s_z, s_s, i64_w, i32_w]; rfl
         refine pv_ (i := 26) (N := some 55) (a' := ?_) cD35_ (any_of HT_.out (by kernel_rfl)) ?_ ?_; rotate_left
         ·simp only [Act.put, s_t, s_z, s_s, i64_w, i32_w]; rfl
         refine pv_ (i := 27) (N := some 56) (a' := ?_) cD36_ (any_of HT_.out (by kernel_rfl)) ?_ ?_; rotate_left
         ·simp only [Act.put, s_t, s_z, s_s, i64_w, i32_w]; rfl
         refine pv_ (i := 28) (N := some 57) (a' := ?_) cD37_ (any_of HT_.out (by kernel_rfl)) ?_ ?_; rotate_left
         ·simp only [Act.put, s_t, s_z, s_s, i64_w, i32_w]; rfl
         refine pv_ (i := 29) (N := some 58) (a' := ?_) cD38_ (any_of HT_.out (by kernel_rfl)) ?_ ?_; rotate_left
         ·simp only [Act.put, s_t, s_z, s_s, i64_w, i32_w]; rfl
         refine px_ 30 59 ?_ ?_ cD39_ HT_.out ?_ ?_ ?_; rotate_left 2; intro w'; go_simp; with_reducible rfl; simp only [Act.put, s_t, s_z, s_s, i64_w, i32_w]; rfl
         refine one_ (i := 31) (N := some 60) cD40_ rfl rfl (one_of HT_.out (by kernel_rfl)) (by decide) (fun K hK => ?_)
         refine goes_ Tryd.func46 (by kernel_rfl) rfl #[.bool false, .int .i64 7] (by rfl) rfl rfl gl_ ?_
         with_reducible refine (Z19.calls false 7 t143 _ A119.out).mono ?_
         rintro e w' ⟨rfl, ⟨nd, rfl⟩⟩
         refine ⟨_, rfl, ?_⟩
         refine hK.out _ _ ⟨(blk_cell BK111.out 0).trans rfl, (blk_cell BK111.out 1).trans rfl⟩ (fun hHeld => ?_)
         clear hK K
         refine norm_ (a' := ?_) ?_ ?_
         rotate_left
         ·show Act.put _ (some 60) _ = _
          simp only [Act.put, s_t, s_z, s_s, i64_w, i32_w]
          rfl
         refine one_ (i := 32) (N := some 61) cD41_ rfl rfl (one_of HT_.out (by kernel_rfl)) (by decide) (fun K hK => ?_)
         refine Kd.R_lit_step (Kd.int .i64) _ 29 ?hg (N := 61) ?hd (xs := ([t136, t143] : List Int)) (inner := [.int .i64 t136, .int .i64 t143]) (ok := fun _ => True) (okp := fun _ => True) ?hr ?hp (fun _ hk => hk) trivial (Below.refl _ _) (Nat.le_refl _) (by simp) ?_; (case hd => rfl); (case hg => rfl); (case hr => first | (go_simp; done) | (go_simp; rfl)); (case hp => exact (Reps.one (show Kd.M (Kd.int .i64) _ _ _ t136 [.int .i64 t136] from rfl) (Reps.one (show Kd.M (Kd.int .i64) _ _ _ t143 [.int .i64 t143] from rfl) (Reps.none _ _))))
         intro v145 w133 ho134 hb hg_ hnew_
         clear hg_ hnew_
         (first | rw [← Ny144.out] at ho134 | (simp only [Int.reduceToNat] at ho134; rw [← Ny144.out] at ho134))
         have n0_ := am_ (Kd.R_lower ho134 (below_size (bs_ HB.out GE111.out)))
         have n1_ := am_ (blk_below (g := gb111) (o := .cells #[.int .i64 ((rd_T46 l0 x24_1).f0), .int .i64 ((rd_T46 l0 x24_1).f1)] 46 (0, 0)) (bk_ BK111.out) hb)
         have n2_ := am_ (below_step (bs_ HB.out GE111.out) hb)
         clear BK111; clear HB; have HO146 := n0_; have BK111 := n1_; have HB := n2_; clear n0_ n1_ n2_; clear hb ho134
         obtain ⟨Ao135, co135, eo135⟩ := Kd.R_slice HO146.out
         (first | subst eo135 | (injection eo135 with f1_ f2_ f3_; have f4_ := f1_.symm; have f5_ := f3_.symm; clear f1_ f2_ f3_; subst f4_; subst f5_))
         refine hK.out _ _ ⟨(blk_cell BK111.out 0).trans rfl, (blk_cell BK111.out 1).trans rfl⟩ (fun hHeld => ?_)
         clear hK K
         refine norm_ (a' := ?_) ?_ ?_
         rotate_left
         ·show Act.put _ (some 61) _ = _
          simp only [Act.put, s_t, s_z, s_s, i64_w, i32_w]
          rfl
         refine one_ (i := 33) (N := some 62) cD42_ rfl rfl (one_of HT_.out (by kernel_rfl)) (by decide) (fun K hK => ?_)
         refine goes_ Tryd.func45 (by kernel_rfl) rfl #[.slice Ao135 y144.length co135] (by rfl) rfl rfl gl_ ?_
         with_reducible refine (Z13.calls k1 _ _ y144 t147 _ ?side1 ?side2 A120.out).mono ?_
         (case side1 => exact cc_ (Kd.R_reads' HO146.out).2.2)
         (case side2 => exact (Kd.R_reads' HO146.out).2.1)
         rintro e w' ⟨rfl, ⟨nd, rfl⟩⟩
         refine ⟨_, rfl, ?_⟩
         refine hK.out _ _ ⟨(blk_cell BK111.out 0).trans rfl, (blk_cell BK111.out 1).trans rfl⟩ (fun hHeld => ?_)
         clear hK K
         refine norm_ (a' := ?_) ?_ ?_
         rotate_left
         ·show Act.put _ (some 62) _ = _
          simp only [Act.put, s_t, s_z, s_s, i64_w, i32_w]
          rfl
         refine px_ 34 8 ?_ ?_ cD43_ HT_.out ?_ ?_ ?_; rotate_left 2; intro w'; go_simp; with_reducible rfl; simp only [Act.put, s_t, s_z, s_s, i64_w, i32_w]; rfl
         refine done_ (done_of HT_.out (by kernel_rfl)) ?_
         try go_wp2
         go_ret
         exact ⟨by first | rfl | (simp [errW_none, errW_some] <;> rfl) | (simp [*, errW_none, errW_some] <;> rfl), bs_ HB.out GE111.out⟩
    ·rw [if_neg c11] at H
     have c11b0 : decide (x24_1 < (l0.length : Int)) = false := decide_eq_false c11
     clear c11
     obtain rfl := Option.some.inj H
     go_wp2
     go_ret
     exact ⟨by first | rfl | (simp [errW_none, errW_some] <;> rfl) | (simp [*, errW_none, errW_some] <;> rfl), bw_ HB.out⟩
 ·rw [if_neg c7] at H
  have c7b0 : (t109 == 0) = false := beq_eq_false_iff_ne.mpr c7
  have c7b1 : (t109 != 0) = true := bne_iff_ne.mpr c7
  obtain rfl := Option.some.inj H
  go_enter Tryd.func55, Tryd.ntmps55
  go_wp2_with (first | ((with_reducible refine gate_callee (f := 44) rfl ?_); refine goesL_ (some 10) rfl rfl Tryd.func44 (by kernel_rfl) rfl #[.int .i64 a1, .int .i64 0, .int .i64 200000] rfl gl_ ?_; (with_reducible refine (Z51.calls a1 0 200000 t103 _ A3.out).mono ?_); rintro e w' ⟨rfl, ⟨nd, rfl⟩⟩; refine ⟨_, rfl, ?_⟩) | ((with_reducible refine gate_callee (f := 46) rfl ?_); refine goesL_ (some 12) rfl rfl Tryd.func46 (by kernel_rfl) rfl #[.bool (!t103), .int .i64 1] rfl gl_ ?_; (with_reducible refine (Z19.calls (!t103) 1 t104 _ A4.out).mono ?_); rintro e w' ⟨rfl, ⟨nd, rfl⟩⟩; refine ⟨_, rfl, ?_⟩) | ((with_reducible refine gate_callee (f := 46) rfl ?_); refine goesL_ (some 16) rfl rfl Tryd.func46 (by kernel_rfl) rfl #[.bool (decide ((l0.length : Int) > 1000)), .int .i64 2] rfl gl_ ?_; (with_reducible refine (Z19.calls (decide ((l0.length : Int) > 1000)) 2 t105 _ A5.out).mono ?_); rintro e w' ⟨rfl, ⟨nd, rfl⟩⟩; refine ⟨_, rfl, ?_⟩) | ((with_reducible refine gate_dst (N := 17) rfl ?_); (try (refine gate_guard (by rfl) ?_; dsimp only)); refine Kd.R_lit (Kd.int .i64) _ 29 ?hg (N := 17) ?hd (xs := ([t104, t105] : List Int)) (inner := [.int .i64 t104, .int .i64 t105]) (ok := fun _ => True) (okp := fun _ => True) ?hr ?hp (fun _ hk => hk) trivial (Below.refl _ _) (Nat.le_refl _) (by simp) ?_; (case hd => rfl); (case hg => rfl); (case hr => first | (go_simp; done) | (go_simp; rfl)); (case hp => exact (Reps.one (show Kd.M (Kd.int .i64) _ _ _ t104 [.int .i64 t104] from rfl) (Reps.one (show Kd.M (Kd.int .i64) _ _ _ t105 [.int .i64 t105] from rfl) (Reps.none _ _)))); intro v107 w136 ho137 hb hg_ hnew_; clear hg_ hnew_; (first | rw [← Ny106.out] at ho137 | (simp only [Int.reduceToNat] at ho137; rw [← Ny106.out] at ho137)); have n0_ := am_ (Kd.R_lower ho137 (below_size (bw_ HB.out))); have n1_ := am_ (below_step (bw_ HB.out) hb); clear HB; have HO108 := n0_; have HB := n1_; clear n0_ n1_; clear hb ho137; obtain ⟨Ao138, co138, eo138⟩ := Kd.R_slice HO108.out; subst eo138) | ((with_reducible refine gate_callee (f := 45) rfl ?_); refine goesL_ (some 18) rfl rfl Tryd.func45 (by kernel_rfl) rfl #[.slice Ao138 y106.length co138] rfl gl_ ?_; (with_reducible refine (Z13.calls k _ _ y106 t109 _ ?side1 ?side2 A6.out).mono ?_); (case side1 => exact cc_ (Kd.R_reads' HO108.out).2.2); (case side2 => exact (Kd.R_reads' HO108.out).2.1); rintro e w' ⟨rfl, ⟨nd, rfl⟩⟩; refine ⟨_, rfl, ?_⟩))
  go_ret
  exact ⟨by first | rfl | (simp [errW_none, errW_some] <;> rfl) | (simp [*, errW_none, errW_some] <;> rfl), bw_ HB.out⟩
end Go.Proofs.YtolcpmdojlbhcaaDoor.Px
