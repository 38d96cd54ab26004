/- Part of the proof that the law coveredIsHidden is true for every input. No conditions. Laid by a program of this session over the kit's print and words; declarations that nothing names are left out. -/
import Derived.Test.YtolcpmdojlbhcaaDoorZvPcx0
import Derived.Test.YtolcpmdojlbhcaaDoorZvPcx3
namespace Go.Proofs.YtolcpmdojlbhcaaDoor.Pc
open Go.RowKit Go.Proofs.YtolcpmdojlbhcaaDoor.GBase Go.Proofs.YtolcpmdojlbhcaaDoorW.PrintWords Go.Proofs.YtolcpmdojlbhcaaDoorW.PrintLast Go.Proofs.YtolcpmdojlbhcaaDoorW.PrintMore
attribute [local go_sem] str_leq max2_int min2_int max_two min_two max_three min_three max_four min_four
set_option linter.unusedVariables false
set_option linter.unusedSimpArgs false
set_option maxHeartbeats 8000000 in
set_option maxRecDepth 100000 in
theorem privilege_CheckSpans.calls (k : Nat) (A0 : Option Addr) (c0 : Nat) (l0 : List (S46)) (a1 : Int) (r : Int) (w : World) (hr0 : Kd.C k46 w A0 l0.length l0) (hc0 : l0.length ≤ c0) (h : privilege_CheckSpans.f k l0 a1 = some r) :
  Calls Tryd.prog 55 #[.slice A0 l0.length c0, .int .i64 a1] w fun e w' => e = .returned (.int .i64 r) ∧ Below w.heap.size w w' := by
 have hu46 := Tryd.underlying46
 have HR0 := Aside0.mk hr0
 have HC0 := Aside0.mk hc0
 clear hr0 hc0
 have HB := Aside0.mk (Below.refl w.heap.size w)
 have H : ((base_In.f a1 0 200000).bind fun t138 => ((base_When.f (!t138) 1).bind fun t139 => ((base_When.f (decide ((l0.length : Int) > 1000)) 2).bind fun t140 => ((base_First.f k (([t139, t140] : List Int))).bind fun t144 => (if t144 = 0 then (privilege_CheckSpans.l0 k l0 a1 l0 (l0.length : Int) 0) else (some t144)))))) = some r := h
 clear h
 replace H := Option.bind_eq_some_iff.mp H
 obtain ⟨t138, A30, H⟩ := H
 replace H : ((base_When.f (!t138) 1).bind fun t139 => ((base_When.f (decide ((l0.length : Int) > 1000)) 2).bind fun t140 => ((base_First.f k (([t139, t140] : List Int))).bind fun t144 => (if t144 = 0 then (privilege_CheckSpans.l0 k l0 a1 l0 (l0.length : Int) 0) else (some t144))))) = some r := H
 have A3 := Aside0.mk A30
 clear A30
 replace H := Option.bind_eq_some_iff.mp H
 obtain ⟨t139, A40, H⟩ := H
 replace H : ((base_When.f (decide ((l0.length : Int) > 1000)) 2).bind fun t140 => ((base_First.f k (([t139, t140] : List Int))).bind fun t144 => (if t144 = 0 then (privilege_CheckSpans.l0 k l0 a1 l0 (l0.length : Int) 0) else (some t144)))) = some r := H
 have A4 := Aside0.mk A40
 clear A40
 replace H := Option.bind_eq_some_iff.mp H
 obtain ⟨t140, A50, H⟩ := H
 replace H : ((base_First.f k (([t139, t140] : List Int))).bind fun t144 => (if t144 = 0 then (privilege_CheckSpans.l0 k l0 a1 l0 (l0.length : Int) 0) else (some t144))) = some r := H
 have A5 := Aside0.mk A50
 clear A50
 obtain ⟨y141, hy141⟩ : ∃ y_ : List Int, y_ = (([t139, t140] : List Int)) := ⟨_, rfl⟩
 replace H : ((base_First.f k y141).bind fun t144 => (if t144 = 0 then (privilege_CheckSpans.l0 k l0 a1 l0 (l0.length : Int) 0) else (some t144))) = some r := by first | (rw [hy141]; with_reducible exact H) | (have H2_ := (Option.bind_some _ _).symm.trans H; rw [hy141]; with_reducible exact H2_) | (have H2_ := (Option.bind_some _ _).symm.trans H; with_reducible exact H2_) | with_reducible exact H | (rw [hy141]; exact H) | exact H
 have Ny141 := Aside0.mk hy141
 clear hy141
 replace H := Option.bind_eq_some_iff.mp H
 obtain ⟨t144, A60, H⟩ := H
 replace H : (if t144 = 0 then (privilege_CheckSpans.l0 k l0 a1 l0 (l0.length : Int) 0) else (some t144)) = some r := H
 have A6 := Aside0.mk A60
 clear A60
 by_cases c7 : t144 = 0
 ·rw [if_pos c7] at H
  have c7b0 : (t144 == 0) = true := beq_iff_eq.mpr c7
  have c7b1 : (t144 != 0) = false := bne_eq_false_iff_eq.mpr c7
  clear c7
  have H' := Aside0.mk H
  clear H
  go_enter Tryd.func55, Tryd.ntmps55
  go_wp2_with (first | ((with_reducible refine gate_callee (f := 44) rfl ?_); refine goesL_ (some 10) rfl rfl Tryd.func44 (by kernel_rfl) rfl #[.int .i64 a1, .int .i64 0, .int .i64 200000] rfl (by (try simp only [List.map_toArray, List.map_cons, List.map_nil]); first | done | rfl | (simp only [List.length_drop, List.length_take]; rfl)) ?_; (with_reducible refine (base_In.calls a1 0 200000 t138 _ A3.out).mono ?_); rintro e w' ⟨rfl, ⟨nd, rfl⟩⟩; refine ⟨_, rfl, ?_⟩) | ((with_reducible refine gate_callee (f := 46) rfl ?_); refine goesL_ (some 12) rfl rfl Tryd.func46 (by kernel_rfl) rfl #[.bool (!t138), .int .i64 1] rfl (by (try simp only [List.map_toArray, List.map_cons, List.map_nil]); first | done | rfl | (simp only [List.length_drop, List.length_take]; rfl)) ?_; (with_reducible refine (base_When.calls (!t138) 1 t139 _ A4.out).mono ?_); rintro e w' ⟨rfl, ⟨nd, rfl⟩⟩; refine ⟨_, rfl, ?_⟩) | ((with_reducible refine gate_callee (f := 46) rfl ?_); refine goesL_ (some 16) rfl rfl Tryd.func46 (by kernel_rfl) rfl #[.bool (decide ((l0.length : Int) > 1000)), .int .i64 2] rfl (by (try simp only [List.map_toArray, List.map_cons, List.map_nil]); first | done | rfl | (simp only [List.length_drop, List.length_take]; rfl)) ?_; (with_reducible refine (base_When.calls (decide ((l0.length : Int) > 1000)) 2 t140 _ A5.out).mono ?_); rintro e w' ⟨rfl, ⟨nd, rfl⟩⟩; refine ⟨_, rfl, ?_⟩) | ((with_reducible refine gate_dst (N := 17) rfl ?_); (try (refine gate_guard (by rfl) ?_; dsimp only)); refine Kd.R_lit (Kd.int .i64) _ 29 ?hg (N := 17) ?hd (xs := ([t139, t140] : List Int)) (inner := [.int .i64 t139, .int .i64 t140]) (ok := fun _ => True) (okp := fun _ => True) ?hr ?hp (fun _ hk => hk) trivial (Below.refl _ _) (Nat.le_refl _) (by simp) ?_; (case hd => rfl); (case hg => rfl); (case hr => first | (go_simp; done) | (go_simp; rfl)); (case hp => exact (Reps.one (show Kd.M (Kd.int .i64) _ _ _ t139 [.int .i64 t139] from rfl) (Reps.one (show Kd.M (Kd.int .i64) _ _ _ t140 [.int .i64 t140] from rfl) (Reps.none _ _)))); intro v142 w8 ho9 hb hg_ hnew_; clear hg_ hnew_; (first | rw [← Ny141.out] at ho9 | (simp only [Int.reduceToNat] at ho9; rw [← Ny141.out] at ho9)); have n0_ := Aside0.mk (Kd.R_lower ho9 (below_size (by repeat (first | (with_reducible first | exact HB.out | apply below_alloc | apply pw_below_drewN | apply below_drew1) | exact HB.out)))); have n1_ := Aside0.mk (below_step (by repeat (first | (with_reducible first | exact HB.out | apply below_alloc | apply pw_below_drewN | apply below_drew1) | exact HB.out)) hb); clear HB; have HO143 := n0_; have HB := n1_; clear n0_ n1_; clear hb ho9; obtain ⟨Ao10, co10, eo10⟩ := Kd.R_slice HO143.out; subst eo10) | ((with_reducible refine gate_callee (f := 45) rfl ?_); refine goesL_ (some 18) rfl rfl Tryd.func45 (by kernel_rfl) rfl #[.slice Ao10 y141.length co10] rfl (by (try simp only [List.map_toArray, List.map_cons, List.map_nil]); first | done | rfl | (simp only [List.length_drop, List.length_take]; rfl)) ?_; (with_reducible refine (base_First.calls k _ _ y141 t144 _ ?side1 ?side2 A6.out).mono ?_); (case side1 => repeat (first | exact (Kd.R_reads' HO143.out).2.2 | (with_reducible refine Kd.C_alloc ?_ _) | (with_reducible refine Kd.C_drewN ?_ _) | (with_reducible refine Kd.C_drew ?_))); (case side2 => exact (Kd.R_reads' HO143.out).2.1); rintro e w' ⟨rfl, ⟨nd, rfl⟩⟩; refine ⟨_, rfl, ?_⟩))
  go_loopg [24] k (fun kq v24 w' => ∃ (x24_1 : Int), v24 = .int .i64 x24_1 ∧ Aside0 (privilege_CheckSpans.l0 kq l0 a1 l0 (l0.length : Int) x24_1 = some r) ∧ Aside0 (kq ≤ k) ∧ Aside0 (Below w.heap.size w w'))
  case atStart => exact ⟨(0), (by first | rfl | (simp; done) | (simp [*]; done)), H', ⟨Nat.le_refl _⟩, ⟨by repeat (first | (with_reducible first | exact HB.out | apply below_alloc | apply pw_below_drewN | apply below_drew1) | exact HB.out)⟩⟩
  case round =>
   clear H'
   try clear p2
   try clear c4
   try clear c5
   try clear c7
   try clear c7b0
   try clear c7b1
   obtain ⟨x24_1, rfl, HA, HK1, HB⟩ := hrel
   cases gk with
   | zero => exact absurd HA.out (by simp [privilege_CheckSpans.l0])
   | succ k1 =>
    have H := HA.out
    clear HA
    simp only [privilege_CheckSpans.l0] at H
    by_cases c11 : x24_1 < (l0.length : Int)
    ·rw [if_pos c11] at H
     have c11b0 : decide (x24_1 < (l0.length : Int)) = true := decide_eq_true c11
     clear c11
     by_cases c12 : 0 ≤ x24_1
     ·rw [if_pos c12] at H
      have c12b0 : decide (0 ≤ x24_1) = true := decide_eq_true c12
      clear c12
      by_cases c13 : x24_1 < (l0.length : Int)
      ·rw [if_pos c13] at H
       have c13b0 : decide (x24_1 < (l0.length : Int)) = true := decide_eq_true c13
       clear c13
       by_cases c14 : ((rd_T46 l0 x24_1).f0) < 0
       ·rw [if_pos c14] at H
        have c14b0 : decide (((rd_T46 l0 x24_1).f0) < 0) = true := decide_eq_true c14
        clear c14
        replace H := Option.bind_eq_some_iff.mp H
        obtain ⟨t147, A150, H⟩ := H
        replace H : (if x24_1 > 0 then (if 0 ≤ (wrap64 ((mx x24_1 1) - 1)) then (if (wrap64 ((mx x24_1 1) - 1)) < (l0.length : Int) then ((base_When.f (decide (((rd_T46 l0 x24_1).f0) ≤ ((rd_T46 l0 (wrap64 ((mx x24_1 1) - 1))).f1))) 7).bind fun t149 => ((base_First.f k1 (([t147, t149] : List Int))).bind fun t153 => (if t153 = 0 then (privilege_CheckSpans.l0 k1 l0 a1 l0 (l0.length : Int) (wrap64 (x24_1 + 1))) else (some t153)))) else (none)) else (none)) else ((base_When.f false 7).bind fun t154 => ((base_First.f k1 (([t147, t154] : List Int))).bind fun t158 => (if t158 = 0 then (privilege_CheckSpans.l0 k1 l0 a1 l0 (l0.length : Int) (wrap64 (x24_1 + 1))) else (some t158))))) = some r := H
        have A15 := Aside0.mk A150
        clear A150
        by_cases c16 : x24_1 > 0
        ·rw [if_pos c16] at H
         have c16b0 : decide (0 < x24_1) = true := decide_eq_true c16
         clear c16
         obtain ⟨ji17, hji17⟩ : ∃ j_ : Int, (mx x24_1 1) = j_ := ⟨_, rfl⟩
         replace H : (if 0 ≤ (wrap64 ((ji17) - 1)) then (if (wrap64 ((ji17) - 1)) < (l0.length : Int) then ((base_When.f (decide (((rd_T46 l0 x24_1).f0) ≤ ((rd_T46 l0 (wrap64 ((ji17) - 1))).f1))) 7).bind fun t149 => ((base_First.f k1 (([t147, t149] : List Int))).bind fun t153 => (if t153 = 0 then (privilege_CheckSpans.l0 k1 l0 a1 l0 (l0.length : Int) (wrap64 (x24_1 + 1))) else (some t153)))) else (none)) else (none)) = some r := by first | (rw [hji17] at H; exact H) | (simp only [hji17] at H ⊢; exact H)
         (try rw [hji17] at A15)
         have hji17_ : (if x24_1 < 1 then 1 else x24_1) = ji17 := hji17
         obtain ⟨ji18, hji18⟩ : ∃ j_ : Int, (wrap64 ((ji17) - 1)) = j_ := ⟨_, rfl⟩
         replace H : (if 0 ≤ (ji18) then (if (ji18) < (l0.length : Int) then ((base_When.f (decide (((rd_T46 l0 x24_1).f0) ≤ ((rd_T46 l0 (ji18)).f1))) 7).bind fun t149 => ((base_First.f k1 (([t147, t149] : List Int))).bind fun t153 => (if t153 = 0 then (privilege_CheckSpans.l0 k1 l0 a1 l0 (l0.length : Int) (wrap64 (x24_1 + 1))) else (some t153)))) else (none)) else (none)) = some r := by first | (rw [hji18] at H; exact H) | (simp only [hji18] at H ⊢; exact H)
         (try rw [hji18] at A15)
         have hji18w : (IntKind.i64.wrap ((ji17) - 1)) = ji18 := (i64_w _).trans hji18
         by_cases c19 : 0 ≤ (ji18)
         ·rw [if_pos c19] at H
          have c19b0 : decide (0 ≤ (ji18)) = true := decide_eq_true c19
          clear c19
          by_cases c20 : (ji18) < (l0.length : Int)
          ·rw [if_pos c20] at H
           have c20b0 : decide ((ji18) < (l0.length : Int)) = true := decide_eq_true c20
           clear c20
           replace H := Option.bind_eq_some_iff.mp H
           obtain ⟨t149, A210, H⟩ := H
           replace H : ((base_First.f k1 (([t147, t149] : List Int))).bind fun t153 => (if t153 = 0 then (privilege_CheckSpans.l0 k1 l0 a1 l0 (l0.length : Int) (wrap64 (x24_1 + 1))) else (some t153))) = some r := H
           have A21 := Aside0.mk A210
           clear A210
           obtain ⟨y150, hy150⟩ : ∃ y_ : List Int, y_ = (([t147, t149] : List Int)) := ⟨_, rfl⟩
           replace H : ((base_First.f k1 y150).bind fun t153 => (if t153 = 0 then (privilege_CheckSpans.l0 k1 l0 a1 l0 (l0.length : Int) (wrap64 (x24_1 + 1))) else (some t153))) = some r := by first | (rw [hy150]; with_reducible exact H) | (have H2_ := (Option.bind_some _ _).symm.trans H; rw [hy150]; with_reducible exact H2_) | (have H2_ := (Option.bind_some _ _).symm.trans H; with_reducible exact H2_) | with_reducible exact H | (rw [hy150]; exact H) | exact H
           have Ny150 := Aside0.mk hy150
           clear hy150
           replace H := Option.bind_eq_some_iff.mp H
           obtain ⟨t153, A220, H⟩ := H
           replace H : (if t153 = 0 then (privilege_CheckSpans.l0 k1 l0 a1 l0 (l0.length : Int) (wrap64 (x24_1 + 1))) else (some t153)) = some r := H
           have A22 := Aside0.mk A220
           clear A220
           by_cases c23 : t153 = 0
           ·rw [if_pos c23] at H
            have c23b0 : (t153 == 0) = true := beq_iff_eq.mpr c23
            have c23b1 : (t153 != 0) = false := bne_eq_false_iff_eq.mpr c23
            clear c23
            have H' := Aside0.mk H
            clear H
            have p145 : 0 ≤ (x24_1 : Int) := of_decide_eq_true (by first | (with_reducible assumption) | assumption)
            have q145 : x24_1 < (l0.length : Int) := of_decide_eq_true (by first | (with_reducible assumption) | assumption)
            obtain ⟨ad145, e145, hx145_0, hx145_1⟩ := at_T46 HR0.out x24_1 p145 q145
            cases e145
            first | replace hx145_0 := (HB.out.cell (World.block_lt_of_cell? w _ hx145_0)).trans hx145_0 | skip
            first | replace hx145_1 := (HB.out.cell (World.block_lt_of_cell? w _ hx145_1)).trans hx145_1 | skip
            replace p145 := eq_true p145
            replace q145 := eq_true q145
            try go_wp2_with (first | ((with_reducible refine gate_dst (N := 7) rfl ?_); (try (refine gate_guard (by rfl) ?_; dsimp only)); refine box_event ?hg (N := 7) ?hd (cs := #[.int .i64 0, .int .i64 0]) (t := 46) ?hr ?_; (case hd => rfl); (case hg => rfl); (case hr => first | (go_simp; done) | (go_simp; rfl)); intro gb146 hg w24 hbox hb; have n0_ := Aside0.mk (below_step (by repeat (first | (with_reducible first | exact HB.out | apply below_alloc | apply pw_below_drewN | apply below_drew1) | exact HB.out)) hb); have n1_ := Aside0.mk (hbox); have n2_ := Aside0.mk ((by rw [hg]; exact (below_size (by repeat (first | (with_reducible first | exact HB.out | apply below_alloc | apply pw_below_drewN | apply below_drew1) | exact HB.out))) : w.heap.size ≤ gb146)); have n3_ := Aside0.mk ((by rw [hg]; exact (below_size (by repeat (first | (with_reducible first | exact HB.out | apply below_alloc | apply pw_below_drewN | apply below_drew1) | exact HB.out))) : w.heap.size ≤ gb146)); clear HB; have HB := n0_; have BK146 := n1_; have GW146 := n2_; have GE146 := n3_; clear n0_ n1_ n2_ n3_; clear hb hbox hg; have hcz25_0 : w24.cell? ⟨gb146, 0, none⟩ = some (.int .i64 0) := (blk_cell BK146.out 0).trans rfl; have hcz25_1 : w24.cell? ⟨gb146, 1, none⟩ = some (.int .i64 0) := (blk_cell BK146.out 1).trans rfl; have hfz25_0 := blk_frozen BK146.out 0; have hfz25_1 := blk_frozen BK146.out 1))
            have n0_ : Aside0 (((w24.setCell ⟨gb146, 0, none⟩ (.int .i64 ((rd_T46 l0 x24_1).f0))).setCell ⟨gb146, 1, none⟩ (.int .i64 ((rd_T46 l0 x24_1).f1))).heap[gb146]? = some (.cells #[.int .i64 ((rd_T46 l0 x24_1).f0), .int .i64 ((rd_T46 l0 x24_1).f1)] 46 (0, 0))) := ⟨by (with_reducible repeat (first | refine blk_drewN ?_ _ | refine blk_drew ?_ | refine blk_alloc ?_ _)); refine blk_put (cs := #[.int .i64 ((rd_T46 l0 x24_1).f0), .int .i64 0]) ?_ 1 _ rfl; (with_reducible repeat (first | refine blk_drewN ?_ _ | refine blk_drew ?_ | refine blk_alloc ?_ _)); refine blk_put (cs := #[.int .i64 0, .int .i64 0]) ?_ 0 _ rfl; (with_reducible repeat (first | refine blk_drewN ?_ _ | refine blk_drew ?_ | refine blk_alloc ?_ _)); exact BK146.out⟩
            have n1_ : Aside0 (Below w.heap.size w ((w24.setCell ⟨gb146, 0, none⟩ (.int .i64 ((rd_T46 l0 x24_1).f0))).setCell ⟨gb146, 1, none⟩ (.int .i64 ((rd_T46 l0 x24_1).f1)))) := ⟨by repeat (first | (with_reducible first | exact HB.out | apply below_alloc | apply pw_below_drewN | apply below_drew1 | refine below_set ?_ GE146.out) | exact HB.out)⟩
            (try clear BK146)
            (try clear HB)
            generalize ((w24.setCell ⟨gb146, 0, none⟩ (.int .i64 ((rd_T46 l0 x24_1).f0))).setCell ⟨gb146, 1, none⟩ (.int .i64 ((rd_T46 l0 x24_1).f1))) = w26 at n0_ n1_ ⊢
            have BK146 := n0_
            have HB := n1_
            clear n0_ n1_
            have n0_ := Aside0.mk (blk_drew BK146.out)
            have n1_ := Aside0.mk (below_drew1 HB.out)
            clear BK146
            clear HB
            have BK146 := n0_
            have HB := n1_
            clear n0_ n1_
            have p148 : 0 ≤ ((ji18) : Int) := of_decide_eq_true (by first | (with_reducible assumption) | assumption)
            have q148 : (ji18) < (l0.length : Int) := of_decide_eq_true (by first | (with_reducible assumption) | assumption)
            obtain ⟨ad148, e148, hx148_0, hx148_1⟩ := at_T46 HR0.out (ji18) p148 q148
            have hw148_1 := hx148_1
            have hw148_0 := hx148_0
            obtain rfl : ad145 = ad148 := (by injection e148)
            first | replace hx148_0 := (HB.out.cell (World.block_lt_of_cell? w _ hx148_0)).trans hx148_0 | skip
            first | replace hx148_1 := (HB.out.cell (World.block_lt_of_cell? w _ hx148_1)).trans hx148_1 | skip
            replace p148 := eq_true p148
            replace q148 := eq_true q148
            refine start_ (n := 35) (S := fun w' => w'.cell? ⟨gb146, 0, none⟩ = some (.int .i64 ((rd_T46 l0 x24_1).f0)) ∧ w'.cell? ⟨gb146, 1, none⟩ = some (.int .i64 ((rd_T46 l0 x24_1).f1)) ∧ w'.cell? (ad145.add (((ji18)).toNat * 2)) = some (.int .i64 ((rd_T46 l0 (ji18)).f0)) ∧ w'.cell? ⟨(ad145.add (((ji18)).toNat * 2)).block, (ad145.add (((ji18)).toNat * 2)).off + 1, none⟩ = some (.int .i64 ((rd_T46 l0 (ji18)).f1))) (ds := []) privilege_CheckSpans.D0 (by kernel_rfl) rfl rfl ⟨(blk_cell BK146.out 0).trans rfl, (blk_cell BK146.out 1).trans rfl, ((HB.out.cell (World.block_lt_of_cell? w _ hw148_0)).trans hw148_0), ((HB.out.cell (World.block_lt_of_cell? w _ hw148_1)).trans hw148_1)⟩ (fun hHeld => ?_); refine with_tabW privilege_CheckSpans.tab7 privilege_CheckSpans.bits7 (fun HT_ HW_ => ?_)
            generalize w26.drew = w27 at BK146 HB hx148_0 hx148_1 hHeld ⊢
            refine pu_ (i := 0) (N := some 29) (v := ?_) (a' := ?_) privilege_CheckSpans.D1 (any_of HT_.out (by kernel_rfl)) ?_ ?_ ?_; rotate_left 2
            ·intro w'; go_simp; with_reducible rfl
            ·simp only [Act.put, s_t, s_z, s_s, i64_w, i32_w]; rfl
            refine pu_ (i := 17) (N := some 46) (v := ?_) (a' := ?_) privilege_CheckSpans.D2 (any_of HT_.out (by kernel_rfl)) ?_ ?_ ?_; rotate_left 2
            ·intro w'; go_simp; with_reducible rfl
            ·simp only [Act.put, s_t, s_z, s_s, i64_w, i32_w]; rfl
            refine pu_ (i := 18) (N := some 47) (v := ?_) (a' := ?_) privilege_CheckSpans.D3 (any_of HT_.out (by kernel_rfl)) ?_ ?_ ?_; rotate_left 2
            ·intro w'; go_simp; with_reducible rfl
            ·simp only [Act.put, s_t, s_z, s_s, i64_w, i32_w]; rfl
            refine take_ (i := 1) (N := some 30) (v := ?_) (a' := ?_) privilege_CheckSpans.D4 rfl rfl (take_ofW HT_.out HW_.out (by kernel_rfl)) (fun _ _ _ h => h) (Or.inl ⟨by rfl, ?_⟩) hHeld ?_ ?_
            rotate_left
            ·rintro w' ⟨s0, s1, s2, s3⟩
             go_simp
             with_reducible rfl
            rotate_left
            ·simp only [Act.put, List.setIfInBounds_toArray, List.set_cons_zero, List.set_cons_succ, i64_w, i32_w]
             rfl
            refine pu_ (i := 2) (N := some 31) (v := ?_) (a' := ?_) privilege_CheckSpans.D5 (any_of HT_.out (by kernel_rfl)) ?_ ?_ ?_; rotate_left 2
            ·intro w'; go_simp; with_reducible rfl
            ·simp only [Act.put, s_t, s_z, s_s, i64_w, i32_w]; rfl
            refine pu_ (i := 3) (N := some 32) (v := ?_) (a' := ?_) privilege_CheckSpans.D6 (any_of HT_.out (by kernel_rfl)) ?_ ?_ ?_; rotate_left 2
            ·intro w'; go_simp; with_reducible rfl
            ·simp only [Act.put, s_t, s_z, s_s, i64_w, i32_w]; rfl
            refine pv_ (i := 4) (N := some 33) (a' := ?_) privilege_CheckSpans.D7 (any_of HT_.out (by kernel_rfl)) ?_ ?_; rotate_left
            ·simp only [Act.put, s_t, s_z, s_s, i64_w, i32_w]; rfl
            refine pv_ (i := 5) (N := some 34) (a' := ?_) privilege_CheckSpans.D9 (any_of HT_.out (by kernel_rfl)) ?_ ?_; rotate_left
            ·simp only [Act.put, s_t, s_z, s_s, i64_w, i32_w]; rfl
            refine pv_ (i := 6) (N := some 35) (a' := ?_) privilege_CheckSpans.D10 (any_of HT_.out (by kernel_rfl)) ?_ ?_; rotate_left
            ·simp only [Act.put, s_t, s_z, s_s, i64_w, i32_w]; rfl
            refine pv_ (i := 7) (N := some 36) (a' := ?_) privilege_CheckSpans.D11 (any_of HT_.out (by kernel_rfl)) ?_ ?_; rotate_left
            ·simp only [Act.put, s_t, s_z, s_s, i64_w, i32_w]; rfl
            refine pv_ (i := 8) (N := some 37) (a' := ?_) privilege_CheckSpans.D12 (any_of HT_.out (by kernel_rfl)) ?_ ?_; rotate_left
            ·simp only [Act.put, s_t, s_z, s_s, i64_w, i32_w]; rfl
            refine pu_ (i := 9) (N := some 38) (v := ?_) (a' := ?_) privilege_CheckSpans.D13 (any_of HT_.out (by kernel_rfl)) ?_ ?_ ?_; rotate_left 2
            ·intro w'; go_simp; with_reducible rfl
            ·simp only [Act.put, s_t, s_z, s_s, i64_w, i32_w]; rfl
            refine pu_ (i := 10) (N := some 39) (v := ?_) (a' := ?_) privilege_CheckSpans.D14 (any_of HT_.out (by kernel_rfl)) ?_ ?_ ?_; rotate_left 2
            ·intro w'; go_simp; with_reducible rfl
            ·simp only [Act.put, s_t, s_z, s_s, i64_w, i32_w]; rfl
            refine pv_ (i := 11) (N := some 40) (a' := ?_) privilege_CheckSpans.D15 (any_of HT_.out (by kernel_rfl)) ?_ ?_; rotate_left
            ·simp only [Act.put, s_t, s_z, s_s, i64_w, i32_w]; rfl
            refine pv_ (i := 12) (N := some 41) (a' := ?_) privilege_CheckSpans.D17 (any_of HT_.out (by kernel_rfl)) ?_ ?_; rotate_left
            ·simp only [Act.put, s_t, s_z, s_s, i64_w, i32_w]; rfl
            refine pv_ (i := 13) (N := some 42) (a' := ?_) privilege_CheckSpans.D18 (any_of HT_.out (by kernel_rfl)) ?_ ?_; rotate_left
            ·simp only [Act.put, s_t, s_z, s_s, i64_w, i32_w]; rfl
            refine pv_ (i := 14) (N := some 43) (a' := ?_) privilege_CheckSpans.D19 (any_of HT_.out (by kernel_rfl)) ?_ ?_; rotate_left
            ·simp only [Act.put, s_t, s_z, s_s, i64_w, i32_w]; rfl
            refine pu_ (i := 15) (N := some 44) (v := ?_) (a' := ?_) privilege_CheckSpans.D20 (any_of HT_.out (by kernel_rfl)) ?_ ?_ ?_; rotate_left 2
            ·intro w'; go_simp; with_reducible rfl
            ·simp only [Act.put, s_t, s_z, s_s, i64_w, i32_w]; rfl
            refine one_ (i := 16) (N := some 45) privilege_CheckSpans.D21 rfl rfl (one_of HT_.out (by kernel_rfl)) (by decide) (fun K hK => ?_)
            refine goes_ Tryd.func46 (by kernel_rfl) rfl #[.bool true, .int .i64 1] (by rfl) rfl rfl (by (try simp only [List.map_toArray, List.map_cons, List.map_nil]); first | done | rfl | (simp only [List.length_drop, List.length_take]; rfl)) ?_
            with_reducible refine (base_When.calls true 1 t147 _ A15.out).mono ?_
            rintro e w' ⟨rfl, ⟨nd, rfl⟩⟩
            refine ⟨_, rfl, ?_⟩
            refine hK.out _ _ ⟨(blk_cell BK146.out 0).trans rfl, (blk_cell BK146.out 1).trans rfl, ((HB.out.cell (World.block_lt_of_cell? w _ hw148_0)).trans hw148_0), ((HB.out.cell (World.block_lt_of_cell? w _ hw148_1)).trans hw148_1)⟩ (fun hHeld => ?_)
            clear hK K
            refine norm_ (a' := ?_) ?_ ?_
            rotate_left
            ·show Act.put _ (some 45) _ = _
             simp only [Act.put, List.setIfInBounds_toArray, List.set_cons_zero, List.set_cons_succ, i64_w, i32_w]
             rfl
            refine pu_ (i := 19) (N := some 48) (v := ?_) (a' := ?_) privilege_CheckSpans.D22 (any_of HT_.out (by kernel_rfl)) ?_ ?_ ?_; rotate_left 2
            ·intro w'; go_simp; with_reducible rfl
            ·simp only [Act.put, s_t, s_z, s_s, i64_w, i32_w]; rfl
            refine pu_ (i := 20) (N := some 49) (v := ?_) (a' := ?_) privilege_CheckSpans.D23 (any_of HT_.out (by kernel_rfl)) ?_ ?_ ?_; rotate_left 2
            ·intro w'; go_simp; with_reducible rfl
            ·simp only [Act.put, s_t, s_z, s_s, i64_w, i32_w]; rfl
            refine pu_ (i := 22) (N := some 51) (v := ?_) (a' := ?_) privilege_CheckSpans.D24 (any_of HT_.out (by kernel_rfl)) ?_ ?_ ?_; rotate_left 2
            ·intro w'; go_simp; with_reducible rfl
            ·simp only [Act.put, s_t, s_z, s_s, i64_w, i32_w]; rfl
            refine pu_ (i := 23) (N := some 52) (v := ?_) (a' := ?_) privilege_CheckSpans.D25 (any_of HT_.out (by kernel_rfl)) ?_ ?_ ?_; rotate_left 2
            ·intro w'; go_simp; with_reducible rfl
            ·simp only [Act.put, s_t, s_z, s_s, i64_w, i32_w]; rfl
            refine pu_ (i := 24) (N := some 53) (v := ?_) (a' := ?_) privilege_CheckSpans.D26 (any_of HT_.out (by kernel_rfl)) ?_ ?_ ?_; rotate_left 2
            ·intro w'; go_simp; with_reducible rfl
            ·simp only [Act.put, s_t, s_z, s_s, i64_w, i32_w]; rfl
            refine pu_ (i := 25) (N := some 54) (v := ?_) (a' := ?_) privilege_CheckSpans.D27 (any_of HT_.out (by kernel_rfl)) ?_ ?_ ?_; rotate_left 2
            ·intro w'; go_simp; with_reducible rfl
            ·simp only [Act.put, s_t, s_z, s_s, i64_w, i32_w]; rfl
            refine pu_ (i := 26) (N := some 55) (v := ?_) (a' := ?_) privilege_CheckSpans.D28 (any_of HT_.out (by kernel_rfl)) ?_ ?_ ?_; rotate_left 2
            ·intro w'; go_simp; with_reducible rfl
            ·simp only [Act.put, s_t, s_z, s_s, i64_w, i32_w]; rfl
            refine pu_ (i := 27) (N := some 56) (v := ?_) (a' := ?_) privilege_CheckSpans.D29 (any_of HT_.out (by kernel_rfl)) ?_ ?_ ?_; rotate_left 2
            ·intro w'; go_simp; with_reducible rfl
            ·simp only [Act.put, s_t, s_z, s_s, i64_w, i32_w]; rfl
            refine take_ (i := 21) (N := some 50) (v := ?_) (a' := ?_) privilege_CheckSpans.D36 rfl rfl (take_ofW HT_.out HW_.out (by kernel_rfl)) (fun _ _ _ h => h) (Or.inl ⟨by rfl, ?_⟩) hHeld ?_ ?_
            rotate_left
            ·rintro w' ⟨s0, s1, s2, s3⟩
             go_simp
             with_reducible rfl
            rotate_left
            ·simp only [Act.put, List.setIfInBounds_toArray, List.set_cons_zero, List.set_cons_succ, i64_w, i32_w]
             rfl
            refine take_ (i := 28) (N := some 57) (v := ?_) (a' := ?_) privilege_CheckSpans.D37 rfl rfl (take_ofW HT_.out HW_.out (by kernel_rfl)) (fun _ _ _ h => h) (Or.inl ⟨by rfl, ?_⟩) hHeld ?_ ?_
            rotate_left
            ·rintro w' ⟨s0, s1, s2, s3⟩
             go_simp
             with_reducible rfl
            rotate_left
            ·simp only [Act.put, List.setIfInBounds_toArray, List.set_cons_zero, List.set_cons_succ, i64_w, i32_w]
             rfl
            refine pu_ (i := 29) (N := some 58) (v := ?_) (a' := ?_) privilege_CheckSpans.D38 (any_of HT_.out (by kernel_rfl)) ?_ ?_ ?_; rotate_left 2
            ·intro w'; go_simp; with_reducible rfl
            ·simp only [Act.put, s_t, s_z, s_s, i64_w, i32_w]; rfl
            refine pu_ (i := 30) (N := some 59) (v := ?_) (a' := ?_) privilege_CheckSpans.D39 (any_of HT_.out (by kernel_rfl)) ?_ ?_ ?_; rotate_left 2
            ·intro w'; go_simp; with_reducible rfl
            ·simp only [Act.put, s_t, s_z, s_s, i64_w, i32_w]; rfl
            refine one_ (i := 31) (N := some 60) privilege_CheckSpans.D40 rfl rfl (one_of HT_.out (by kernel_rfl)) (by decide) (fun K hK => ?_)
            refine goes_ Tryd.func46 (by kernel_rfl) rfl #[.bool (decide (((rd_T46 l0 x24_1).f0) ≤ ((rd_T46 l0 (ji18)).f1))), .int .i64 7] (by rfl) rfl rfl (by (try simp only [List.map_toArray, List.map_cons, List.map_nil]); first | done | (simp only [hji18]; rfl) | rfl | (simp only [List.length_drop, List.length_take]; rfl)) ?_
            with_reducible refine (base_When.calls (decide (((rd_T46 l0 x24_1).f0) ≤ ((rd_T46 l0 (ji18)).f1))) 7 t149 _ A21.out).mono ?_
            rintro e w' ⟨rfl, ⟨nd, rfl⟩⟩
            refine ⟨_, rfl, ?_⟩
            refine hK.out _ _ ⟨(blk_cell BK146.out 0).trans rfl, (blk_cell BK146.out 1).trans rfl, ((HB.out.cell (World.block_lt_of_cell? w _ hw148_0)).trans hw148_0), ((HB.out.cell (World.block_lt_of_cell? w _ hw148_1)).trans hw148_1)⟩ (fun hHeld => ?_)
            clear hK K
            refine norm_ (a' := ?_) ?_ ?_
            rotate_left
            ·show Act.put _ (some 60) _ = _
             simp only [Act.put, List.setIfInBounds_toArray, List.set_cons_zero, List.set_cons_succ, i64_w, i32_w]
             rfl
            refine one_ (i := 32) (N := some 61) privilege_CheckSpans.D41 rfl rfl (one_of HT_.out (by kernel_rfl)) (by decide) (fun K hK => ?_)
            refine Kd.R_lit_step (Kd.int .i64) _ 29 ?hg (N := 61) ?hd (xs := ([t147, t149] : List Int)) (inner := [.int .i64 t147, .int .i64 t149]) (ok := fun _ => True) (okp := fun _ => True) ?hr ?hp (fun _ hk => hk) trivial (Below.refl _ _) (Nat.le_refl _) (by simp) ?_; (case hd => rfl); (case hg => rfl); (case hr => first | (go_simp; done) | (go_simp; rfl)); (case hp => exact (Reps.one (show Kd.M (Kd.int .i64) _ _ _ t147 [.int .i64 t147] from rfl) (Reps.one (show Kd.M (Kd.int .i64) _ _ _ t149 [.int .i64 t149] from rfl) (Reps.none _ _))))
            intro v151 w28 ho29 hb hg_ hnew_
            clear hg_ hnew_
            (first | rw [← Ny150.out] at ho29 | (simp only [Int.reduceToNat] at ho29; rw [← Ny150.out] at ho29))
            have n0_ := Aside0.mk (Kd.R_lower ho29 (below_size (by repeat (first | (with_reducible first | exact HB.out | apply below_alloc | apply pw_below_drewN | apply below_drew1 | refine below_set ?_ GE146.out) | exact HB.out))))
            have n1_ := Aside0.mk (blk_below (g := gb146) (o := .cells #[.int .i64 ((rd_T46 l0 x24_1).f0), .int .i64 ((rd_T46 l0 x24_1).f1)] 46 (0, 0)) (by (with_reducible repeat (first | refine blk_drewN ?_ _ | refine blk_drew ?_ | refine blk_alloc ?_ _)); exact BK146.out) hb)
            have n2_ := Aside0.mk (below_step (by repeat (first | (with_reducible first | exact HB.out | apply below_alloc | apply pw_below_drewN | apply below_drew1 | refine below_set ?_ GE146.out) | exact HB.out)) hb)
            clear BK146
            clear HB
            have HO152 := n0_
            have BK146 := n1_
            have HB := n2_
            clear n0_ n1_ n2_
            clear hb ho29
            obtain ⟨Ao30, co30, eo30⟩ := Kd.R_slice HO152.out
            (first | subst eo30 | (injection eo30 with f1_ f2_ f3_; have f4_ := f1_.symm; have f5_ := f3_.symm; clear f1_ f2_ f3_; subst f4_; subst f5_))
            refine hK.out _ _ ⟨(blk_cell BK146.out 0).trans rfl, (blk_cell BK146.out 1).trans rfl, ((HB.out.cell (World.block_lt_of_cell? w _ hw148_0)).trans hw148_0), ((HB.out.cell (World.block_lt_of_cell? w _ hw148_1)).trans hw148_1)⟩ (fun hHeld => ?_)
            clear hK K
            refine norm_ (a' := ?_) ?_ ?_
            rotate_left
            ·show Act.put _ (some 61) _ = _
             simp only [Act.put, List.setIfInBounds_toArray, List.set_cons_zero, List.set_cons_succ, i64_w, i32_w]
             rfl
            refine one_ (i := 33) (N := some 62) privilege_CheckSpans.D42 rfl rfl (one_of HT_.out (by kernel_rfl)) (by decide) (fun K hK => ?_)
            refine goes_ Tryd.func45 (by kernel_rfl) rfl #[.slice Ao30 y150.length co30] (by rfl) rfl rfl (by (try simp only [List.map_toArray, List.map_cons, List.map_nil]); first | done | rfl | (simp only [List.length_drop, List.length_take]; rfl)) ?_
            with_reducible refine (base_First.calls k1 _ _ y150 t153 _ ?side1 ?side2 A22.out).mono ?_
            (case side1 => repeat (first | exact (Kd.R_reads' HO152.out).2.2 | (with_reducible refine Kd.C_alloc ?_ _) | (with_reducible refine Kd.C_drewN ?_ _) | (with_reducible refine Kd.C_drew ?_)))
            (case side2 => exact (Kd.R_reads' HO152.out).2.1)
            rintro e w' ⟨rfl, ⟨nd, rfl⟩⟩
            refine ⟨_, rfl, ?_⟩
            refine hK.out _ _ ⟨(blk_cell BK146.out 0).trans rfl, (blk_cell BK146.out 1).trans rfl, ((HB.out.cell (World.block_lt_of_cell? w _ hw148_0)).trans hw148_0), ((HB.out.cell (World.block_lt_of_cell? w _ hw148_1)).trans hw148_1)⟩ (fun hHeld => ?_)
            clear hK K
            refine norm_ (a' := ?_) ?_ ?_
            rotate_left
            ·show Act.put _ (some 62) _ = _
             simp only [Act.put, List.setIfInBounds_toArray, List.set_cons_zero, List.set_cons_succ, i64_w, i32_w]
             rfl
            refine pu_ (i := 34) (N := some 8) (v := ?_) (a' := ?_) privilege_CheckSpans.D43 (any_of HT_.out (by kernel_rfl)) ?_ ?_ ?_; rotate_left 2
            ·intro w'; go_simp; with_reducible rfl
            ·simp only [Act.put, s_t, s_z, s_s, i64_w, i32_w]; rfl
            refine done_ (done_of HT_.out (by kernel_rfl)) ?_
            try go_wp2
            go_roundg k1
            case measure => have := HK1.out; omega
            case rel => exact ⟨(wrap64 (x24_1 + 1)), (by first | rfl | (simp; done) | (simp [*]; done)), H', ⟨by have := HK1.out; omega⟩, ⟨by repeat (first | (with_reducible first | exact HB.out | apply below_alloc | apply pw_below_drewN | apply below_drew1 | refine below_set ?_ GE146.out) | exact HB.out)⟩⟩
           ·rw [if_neg c23] at H
            have c23b0 : (t153 == 0) = false := beq_eq_false_iff_ne.mpr c23
            have c23b1 : (t153 != 0) = true := bne_iff_ne.mpr c23
            obtain rfl := Option.some.inj H
            have p145 : 0 ≤ (x24_1 : Int) := of_decide_eq_true (by first | (with_reducible assumption) | assumption)
            have q145 : x24_1 < (l0.length : Int) := of_decide_eq_true (by first | (with_reducible assumption) | assumption)
            obtain ⟨ad145, e145, hx145_0, hx145_1⟩ := at_T46 HR0.out x24_1 p145 q145
            cases e145
            first | replace hx145_0 := (HB.out.cell (World.block_lt_of_cell? w _ hx145_0)).trans hx145_0 | skip
            first | replace hx145_1 := (HB.out.cell (World.block_lt_of_cell? w _ hx145_1)).trans hx145_1 | skip
            replace p145 := eq_true p145
            replace q145 := eq_true q145
            try go_wp2_with (first | ((with_reducible refine gate_dst (N := 7) rfl ?_); (try (refine gate_guard (by rfl) ?_; dsimp only)); refine box_event ?hg (N := 7) ?hd (cs := #[.int .i64 0, .int .i64 0]) (t := 46) ?hr ?_; (case hd => rfl); (case hg => rfl); (case hr => first | (go_simp; done) | (go_simp; rfl)); intro gb146 hg w31 hbox hb; have n0_ := Aside0.mk (below_step (by repeat (first | (with_reducible first | exact HB.out | apply below_alloc | apply pw_below_drewN | apply below_drew1) | exact HB.out)) hb); have n1_ := Aside0.mk (hbox); have n2_ := Aside0.mk ((by rw [hg]; exact (below_size (by repeat (first | (with_reducible first | exact HB.out | apply below_alloc | apply pw_below_drewN | apply below_drew1) | exact HB.out))) : w.heap.size ≤ gb146)); have n3_ := Aside0.mk ((by rw [hg]; exact (below_size (by repeat (first | (with_reducible first | exact HB.out | apply below_alloc | apply pw_below_drewN | apply below_drew1) | exact HB.out))) : w.heap.size ≤ gb146)); clear HB; have HB := n0_; have BK146 := n1_; have GW146 := n2_; have GE146 := n3_; clear n0_ n1_ n2_ n3_; clear hb hbox hg; have hcz32_0 : w31.cell? ⟨gb146, 0, none⟩ = some (.int .i64 0) := (blk_cell BK146.out 0).trans rfl; have hcz32_1 : w31.cell? ⟨gb146, 1, none⟩ = some (.int .i64 0) := (blk_cell BK146.out 1).trans rfl; have hfz32_0 := blk_frozen BK146.out 0; have hfz32_1 := blk_frozen BK146.out 1))
            have n0_ : Aside0 (((w31.setCell ⟨gb146, 0, none⟩ (.int .i64 ((rd_T46 l0 x24_1).f0))).setCell ⟨gb146, 1, none⟩ (.int .i64 ((rd_T46 l0 x24_1).f1))).heap[gb146]? = some (.cells #[.int .i64 ((rd_T46 l0 x24_1).f0), .int .i64 ((rd_T46 l0 x24_1).f1)] 46 (0, 0))) := ⟨by (with_reducible repeat (first | refine blk_drewN ?_ _ | refine blk_drew ?_ | refine blk_alloc ?_ _)); refine blk_put (cs := #[.int .i64 ((rd_T46 l0 x24_1).f0), .int .i64 0]) ?_ 1 _ rfl; (with_reducible repeat (first | refine blk_drewN ?_ _ | refine blk_drew ?_ | refine blk_alloc ?_ _)); refine blk_put (cs := #[.int .i64 0, .int .i64 0]) ?_ 0 _ rfl; (with_reducible repeat (first | refine blk_drewN ?_ _ | refine blk_drew ?_ | refine blk_alloc ?_ _)); exact BK146.out⟩
            have n1_ : Aside0 (Below w.heap.size w ((w31.setCell ⟨gb146, 0, none⟩ (.int .i64 ((rd_T46 l0 x24_1).f0))).setCell ⟨gb146, 1, none⟩ (.int .i64 ((rd_T46 l0 x24_1).f1)))) := ⟨by repeat (first | (with_reducible first | exact HB.out | apply below_alloc | apply pw_below_drewN | apply below_drew1 | refine below_set ?_ GE146.out) | exact HB.out)⟩
            (try clear BK146)
            (try clear HB)
            generalize ((w31.setCell ⟨gb146, 0, none⟩ (.int .i64 ((rd_T46 l0 x24_1).f0))).setCell ⟨gb146, 1, none⟩ (.int .i64 ((rd_T46 l0 x24_1).f1))) = w33 at n0_ n1_ ⊢
            have BK146 := n0_
            have HB := n1_
            clear n0_ n1_
            have n0_ := Aside0.mk (blk_drew BK146.out)
            have n1_ := Aside0.mk (below_drew1 HB.out)
            clear BK146
            clear HB
            have BK146 := n0_
            have HB := n1_
            clear n0_ n1_
            have p148 : 0 ≤ ((ji18) : Int) := of_decide_eq_true (by first | (with_reducible assumption) | assumption)
            have q148 : (ji18) < (l0.length : Int) := of_decide_eq_true (by first | (with_reducible assumption) | assumption)
            obtain ⟨ad148, e148, hx148_0, hx148_1⟩ := at_T46 HR0.out (ji18) p148 q148
            have hw148_1 := hx148_1
            have hw148_0 := hx148_0
            obtain rfl : ad145 = ad148 := (by injection e148)
            first | replace hx148_0 := (HB.out.cell (World.block_lt_of_cell? w _ hx148_0)).trans hx148_0 | skip
            first | replace hx148_1 := (HB.out.cell (World.block_lt_of_cell? w _ hx148_1)).trans hx148_1 | skip
            replace p148 := eq_true p148
            replace q148 := eq_true q148
            refine start_ (n := 35) (S := fun w' => w'.cell? ⟨gb146, 0, none⟩ = some (.int .i64 ((rd_T46 l0 x24_1).f0)) ∧ w'.cell? ⟨gb146, 1, none⟩ = some (.int .i64 ((rd_T46 l0 x24_1).f1)) ∧ w'.cell? (ad145.add (((ji18)).toNat * 2)) = some (.int .i64 ((rd_T46 l0 (ji18)).f0)) ∧ w'.cell? ⟨(ad145.add (((ji18)).toNat * 2)).block, (ad145.add (((ji18)).toNat * 2)).off + 1, none⟩ = some (.int .i64 ((rd_T46 l0 (ji18)).f1))) (ds := []) privilege_CheckSpans.D0 (by kernel_rfl) rfl rfl ⟨(blk_cell BK146.out 0).trans rfl, (blk_cell BK146.out 1).trans rfl, ((HB.out.cell (World.block_lt_of_cell? w _ hw148_0)).trans hw148_0), ((HB.out.cell (World.block_lt_of_cell? w _ hw148_1)).trans hw148_1)⟩ (fun hHeld => ?_); refine with_tabW privilege_CheckSpans.tab7 privilege_CheckSpans.bits7 (fun HT_ HW_ => ?_)
            generalize w33.drew = w34 at BK146 HB hx148_0 hx148_1 hHeld ⊢
            refine pu_ (i := 0) (N := some 29) (v := ?_) (a' := ?_) privilege_CheckSpans.D1 (any_of HT_.out (by kernel_rfl)) ?_ ?_ ?_; rotate_left 2
            ·intro w'; go_simp; with_reducible rfl
            ·simp only [Act.put, s_t, s_z, s_s, i64_w, i32_w]; rfl
            refine pu_ (i := 17) (N := some 46) (v := ?_) (a' := ?_) privilege_CheckSpans.D2 (any_of HT_.out (by kernel_rfl)) ?_ ?_ ?_; rotate_left 2
            ·intro w'; go_simp; with_reducible rfl
            ·simp only [Act.put, s_t, s_z, s_s, i64_w, i32_w]; rfl
            refine pu_ (i := 18) (N := some 47) (v := ?_) (a' := ?_) privilege_CheckSpans.D3 (any_of HT_.out (by kernel_rfl)) ?_ ?_ ?_; rotate_left 2
            ·intro w'; go_simp; with_reducible rfl
            ·simp only [Act.put, s_t, s_z, s_s, i64_w, i32_w]; rfl
            refine take_ (i := 1) (N := some 30) (v := ?_) (a' := ?_) privilege_CheckSpans.D4 rfl rfl (take_ofW HT_.out HW_.out (by kernel_rfl)) (fun _ _ _ h => h) (Or.inl ⟨by rfl, ?_⟩) hHeld ?_ ?_
            rotate_left
            ·rintro w' ⟨s0, s1, s2, s3⟩
             go_simp
             with_reducible rfl
            rotate_left
            ·simp only [Act.put, List.setIfInBounds_toArray, List.set_cons_zero, List.set_cons_succ, i64_w, i32_w]
             rfl
            refine pu_ (i := 2) (N := some 31) (v := ?_) (a' := ?_) privilege_CheckSpans.D5 (any_of HT_.out (by kernel_rfl)) ?_ ?_ ?_; rotate_left 2
            ·intro w'; go_simp; with_reducible rfl
            ·simp only [Act.put, s_t, s_z, s_s, i64_w, i32_w]; rfl
            refine pu_ (i := 3) (N := some 32) (v := ?_) (a' := ?_) privilege_CheckSpans.D6 (any_of HT_.out (by kernel_rfl)) ?_ ?_ ?_; rotate_left 2
            ·intro w'; go_simp; with_reducible rfl
            ·simp only [Act.put, s_t, s_z, s_s, i64_w, i32_w]; rfl
            refine pv_ (i := 4) (N := some 33) (a' := ?_) privilege_CheckSpans.D7 (any_of HT_.out (by kernel_rfl)) ?_ ?_; rotate_left
            ·simp only [Act.put, s_t, s_z, s_s, i64_w, i32_w]; rfl
            refine pv_ (i := 5) (N := some 34) (a' := ?_) privilege_CheckSpans.D9 (any_of HT_.out (by kernel_rfl)) ?_ ?_; rotate_left
            ·simp only [Act.put, s_t, s_z, s_s, i64_w, i32_w]; rfl
            refine pv_ (i := 6) (N := some 35) (a' := ?_) privilege_CheckSpans.D10 (any_of HT_.out (by kernel_rfl)) ?_ ?_; rotate_left
            ·simp only [Act.put, s_t, s_z, s_s, i64_w, i32_w]; rfl
            refine pv_ (i := 7) (N := some 36) (a' := ?_) privilege_CheckSpans.D11 (any_of HT_.out (by kernel_rfl)) ?_ ?_; rotate_left
            ·simp only [Act.put, s_t, s_z, s_s, i64_w, i32_w]; rfl
            refine pv_ (i := 8) (N := some 37) (a' := ?_) privilege_CheckSpans.D12 (any_of HT_.out (by kernel_rfl)) ?_ ?_; rotate_left
            ·simp only [Act.put, s_t, s_z, s_s, i64_w, i32_w]; rfl
            refine pu_ (i := 9) (N := some 38) (v := ?_) (a' := ?_) privilege_CheckSpans.D13 (any_of HT_.out (by kernel_rfl)) ?_ ?_ ?_; rotate_left 2
            ·intro w'; go_simp; with_reducible rfl
            ·simp only [Act.put, s_t, s_z, s_s, i64_w, i32_w]; rfl
            refine pu_ (i := 10) (N := some 39) (v := ?_) (a' := ?_) privilege_CheckSpans.D14 (any_of HT_.out (by kernel_rfl)) ?_ ?_ ?_; rotate_left 2
            ·intro w'; go_simp; with_reducible rfl
            ·simp only [Act.put, s_t, s_z, s_s, i64_w, i32_w]; rfl
            refine pv_ (i := 11) (N := some 40) (a' := ?_) privilege_CheckSpans.D15 (any_of HT_.out (by kernel_rfl)) ?_ ?_; rotate_left
            ·simp only [Act.put, s_t, s_z, s_s, i64_w, i32_w]; rfl
            refine pv_ (i := 12) (N := some 41) (a' := ?_) privilege_CheckSpans.D17 (any_of HT_.out (by kernel_rfl)) ?_ ?_; rotate_left
            ·simp only [Act.put, s_t, s_z, s_s, i64_w, i32_w]; rfl
            refine pv_ (i := 13) (N := some 42) (a' := ?_) privilege_CheckSpans.D18 (any_of HT_.out (by kernel_rfl)) ?_ ?_; rotate_left
            ·simp only [Act.put, s_t, s_z, s_s, i64_w, i32_w]; rfl
            refine pv_ (i := 14) (N := some 43) (a' := ?_) privilege_CheckSpans.D19 (any_of HT_.out (by kernel_rfl)) ?_ ?_; rotate_left
            ·simp only [Act.put, s_t, s_z, s_s, i64_w, i32_w]; rfl
            refine pu_ (i := 15) (N := some 44) (v := ?_) (a' := ?_) privilege_CheckSpans.D20 (any_of HT_.out (by kernel_rfl)) ?_ ?_ ?_; rotate_left 2
            ·intro w'; go_simp; with_reducible rfl
            ·simp only [Act.put, s_t, s_z, s_s, i64_w, i32_w]; rfl
            refine one_ (i := 16) (N := some 45) privilege_CheckSpans.D21 rfl rfl (one_of HT_.out (by kernel_rfl)) (by decide) (fun K hK => ?_)
            refine goes_ Tryd.func46 (by kernel_rfl) rfl #[.bool true, .int .i64 1] (by rfl) rfl rfl (by (try simp only [List.map_toArray, List.map_cons, List.map_nil]); first | done | rfl | (simp only [List.length_drop, List.length_take]; rfl)) ?_
            with_reducible refine (base_When.calls true 1 t147 _ A15.out).mono ?_
            rintro e w' ⟨rfl, ⟨nd, rfl⟩⟩
            refine ⟨_, rfl, ?_⟩
            refine hK.out _ _ ⟨(blk_cell BK146.out 0).trans rfl, (blk_cell BK146.out 1).trans rfl, ((HB.out.cell (World.block_lt_of_cell? w _ hw148_0)).trans hw148_0), ((HB.out.cell (World.block_lt_of_cell? w _ hw148_1)).trans hw148_1)⟩ (fun hHeld => ?_)
            clear hK K
            refine norm_ (a' := ?_) ?_ ?_
            rotate_left
            ·show Act.put _ (some 45) _ = _
             simp only [Act.put, List.setIfInBounds_toArray, List.set_cons_zero, List.set_cons_succ, i64_w, i32_w]
             rfl
            refine pu_ (i := 19) (N := some 48) (v := ?_) (a' := ?_) privilege_CheckSpans.D22 (any_of HT_.out (by kernel_rfl)) ?_ ?_ ?_; rotate_left 2
            ·intro w'; go_simp; with_reducible rfl
            ·simp only [Act.put, s_t, s_z, s_s, i64_w, i32_w]; rfl
            refine pu_ (i := 20) (N := some 49) (v := ?_) (a' := ?_) privilege_CheckSpans.D23 (any_of HT_.out (by kernel_rfl)) ?_ ?_ ?_; rotate_left 2
            ·intro w'; go_simp; with_reducible rfl
            ·simp only [Act.put, s_t, s_z, s_s, i64_w, i32_w]; rfl
            refine pu_ (i := 22) (N := some 51) (v := ?_) (a' := ?_) privilege_CheckSpans.D24 (any_of HT_.out (by kernel_rfl)) ?_ ?_ ?_; rotate_left 2
            ·intro w'; go_simp; with_reducible rfl
            ·simp only [Act.put, s_t, s_z, s_s, i64_w, i32_w]; rfl
            refine pu_ (i := 23) (N := some 52) (v := ?_) (a' := ?_) privilege_CheckSpans.D25 (any_of HT_.out (by kernel_rfl)) ?_ ?_ ?_; rotate_left 2
            ·intro w'; go_simp; with_reducible rfl
            ·simp only [Act.put, s_t, s_z, s_s, i64_w, i32_w]; rfl
            refine pu_ (i := 24) (N := some 53) (v := ?_) (a' := ?_) privilege_CheckSpans.D26 (any_of HT_.out (by kernel_rfl)) ?_ ?_ ?_; rotate_left 2
            ·intro w'; go_simp; with_reducible rfl
            ·simp only [Act.put, s_t, s_z, s_s, i64_w, i32_w]; rfl
            refine pu_ (i := 25) (N := some 54) (v := ?_) (a' := ?_) privilege_CheckSpans.D27 (any_of HT_.out (by kernel_rfl)) ?_ ?_ ?_; rotate_left 2
            ·intro w'; go_simp; with_reducible rfl
            ·simp only [Act.put, s_t, s_z, s_s, i64_w, i32_w]; rfl
            refine pu_ (i := 26) (N := some 55) (v := ?_) (a' := ?_) privilege_CheckSpans.D28 (any_of HT_.out (by kernel_rfl)) ?_ ?_ ?_; rotate_left 2
            ·intro w'; go_simp; with_reducible rfl
            ·simp only [Act.put, s_t, s_z, s_s, i64_w, i32_w]; rfl
            refine pu_ (i := 27) (N := some 56) (v := ?_) (a' := ?_) privilege_CheckSpans.D29 (any_of HT_.out (by kernel_rfl)) ?_ ?_ ?_; rotate_left 2
            ·intro w'; go_simp; with_reducible rfl
            ·simp only [Act.put, s_t, s_z, s_s, i64_w, i32_w]; rfl
            refine take_ (i := 21) (N := some 50) (v := ?_) (a' := ?_) privilege_CheckSpans.D36 rfl rfl (take_ofW HT_.out HW_.out (by kernel_rfl)) (fun _ _ _ h => h) (Or.inl ⟨by rfl, ?_⟩) hHeld ?_ ?_
            rotate_left
            ·rintro w' ⟨s0, s1, s2, s3⟩
             go_simp
             with_reducible rfl
            rotate_left
            ·simp only [Act.put, List.setIfInBounds_toArray, List.set_cons_zero, List.set_cons_succ, i64_w, i32_w]
             rfl
            refine take_ (i := 28) (N := some 57) (v := ?_) (a' := ?_) privilege_CheckSpans.D37 rfl rfl (take_ofW HT_.out HW_.out (by kernel_rfl)) (fun _ _ _ h => h) (Or.inl ⟨by rfl, ?_⟩) hHeld ?_ ?_
            rotate_left
            ·rintro w' ⟨s0, s1, s2, s3⟩
             go_simp
             with_reducible rfl
            rotate_left
            ·simp only [Act.put, List.setIfInBounds_toArray, List.set_cons_zero, List.set_cons_succ, i64_w, i32_w]
             rfl
            refine pu_ (i := 29) (N := some 58) (v := ?_) (a' := ?_) privilege_CheckSpans.D38 (any_of HT_.out (by kernel_rfl)) ?_ ?_ ?_; rotate_left 2
            ·intro w'; go_simp; with_reducible rfl
            ·simp only [Act.put, s_t, s_z, s_s, i64_w, i32_w]; rfl
            refine pu_ (i := 30) (N := some 59) (v := ?_) (a' := ?_) privilege_CheckSpans.D39 (any_of HT_.out (by kernel_rfl)) ?_ ?_ ?_; rotate_left 2
            ·intro w'; go_simp; with_reducible rfl
            ·simp only [Act.put, s_t, s_z, s_s, i64_w, i32_w]; rfl
            refine one_ (i := 31) (N := some 60) privilege_CheckSpans.D40 rfl rfl (one_of HT_.out (by kernel_rfl)) (by decide) (fun K hK => ?_)
            refine goes_ Tryd.func46 (by kernel_rfl) rfl #[.bool (decide (((rd_T46 l0 x24_1).f0) ≤ ((rd_T46 l0 (ji18)).f1))), .int .i64 7] (by rfl) rfl rfl (by (try simp only [List.map_toArray, List.map_cons, List.map_nil]); first | done | (simp only [hji18]; rfl) | rfl | (simp only [List.length_drop, List.length_take]; rfl)) ?_
            with_reducible refine (base_When.calls (decide (((rd_T46 l0 x24_1).f0) ≤ ((rd_T46 l0 (ji18)).f1))) 7 t149 _ A21.out).mono ?_
            rintro e w' ⟨rfl, ⟨nd, rfl⟩⟩
            refine ⟨_, rfl, ?_⟩
            refine hK.out _ _ ⟨(blk_cell BK146.out 0).trans rfl, (blk_cell BK146.out 1).trans rfl, ((HB.out.cell (World.block_lt_of_cell? w _ hw148_0)).trans hw148_0), ((HB.out.cell (World.block_lt_of_cell? w _ hw148_1)).trans hw148_1)⟩ (fun hHeld => ?_)
            clear hK K
            refine norm_ (a' := ?_) ?_ ?_
            rotate_left
            ·show Act.put _ (some 60) _ = _
             simp only [Act.put, List.setIfInBounds_toArray, List.set_cons_zero, List.set_cons_succ, i64_w, i32_w]
             rfl
            refine one_ (i := 32) (N := some 61) privilege_CheckSpans.D41 rfl rfl (one_of HT_.out (by kernel_rfl)) (by decide) (fun K hK => ?_)
            refine Kd.R_lit_step (Kd.int .i64) _ 29 ?hg (N := 61) ?hd (xs := ([t147, t149] : List Int)) (inner := [.int .i64 t147, .int .i64 t149]) (ok := fun _ => True) (okp := fun _ => True) ?hr ?hp (fun _ hk => hk) trivial (Below.refl _ _) (Nat.le_refl _) (by simp) ?_; (case hd => rfl); (case hg => rfl); (case hr => first | (go_simp; done) | (go_simp; rfl)); (case hp => exact (Reps.one (show Kd.M (Kd.int .i64) _ _ _ t147 [.int .i64 t147] from rfl) (Reps.one (show Kd.M (Kd.int .i64) _ _ _ t149 [.int .i64 t149] from rfl) (Reps.none _ _))))
            intro v151 w35 ho36 hb hg_ hnew_
            clear hg_ hnew_
            (first | rw [← Ny150.out] at ho36 | (simp only [Int.reduceToNat] at ho36; rw [← Ny150.out] at ho36))
            have n0_ := Aside0.mk (Kd.R_lower ho36 (below_size (by repeat (first | (with_reducible first | exact HB.out | apply below_alloc | apply pw_below_drewN | apply below_drew1 | refine below_set ?_ GE146.out) | exact HB.out))))
            have n1_ := Aside0.mk (blk_below (g := gb146) (o := .cells #[.int .i64 ((rd_T46 l0 x24_1).f0), .int .i64 ((rd_T46 l0 x24_1).f1)] 46 (0, 0)) (by (with_reducible repeat (first | refine blk_drewN ?_ _ | refine blk_drew ?_ | refine blk_alloc ?_ _)); exact BK146.out) hb)
            have n2_ := Aside0.mk (below_step (by repeat (first | (with_reducible first | exact HB.out | apply below_alloc | apply pw_below_drewN | apply below_drew1 | refine below_set ?_ GE146.out) | exact HB.out)) hb)
            clear BK146
            clear HB
            have HO152 := n0_
            have BK146 := n1_
            have HB := n2_
            clear n0_ n1_ n2_
            clear hb ho36
            obtain ⟨Ao37, co37, eo37⟩ := Kd.R_slice HO152.out
            (first | subst eo37 | (injection eo37 with f1_ f2_ f3_; have f4_ := f1_.symm; have f5_ := f3_.symm; clear f1_ f2_ f3_; subst f4_; subst f5_))
            refine hK.out _ _ ⟨(blk_cell BK146.out 0).trans rfl, (blk_cell BK146.out 1).trans rfl, ((HB.out.cell (World.block_lt_of_cell? w _ hw148_0)).trans hw148_0), ((HB.out.cell (World.block_lt_of_cell? w _ hw148_1)).trans hw148_1)⟩ (fun hHeld => ?_)
            clear hK K
            refine norm_ (a' := ?_) ?_ ?_
            rotate_left
            ·show Act.put _ (some 61) _ = _
             simp only [Act.put, List.setIfInBounds_toArray, List.set_cons_zero, List.set_cons_succ, i64_w, i32_w]
             rfl
            refine one_ (i := 33) (N := some 62) privilege_CheckSpans.D42 rfl rfl (one_of HT_.out (by kernel_rfl)) (by decide) (fun K hK => ?_)
            refine goes_ Tryd.func45 (by kernel_rfl) rfl #[.slice Ao37 y150.length co37] (by rfl) rfl rfl (by (try simp only [List.map_toArray, List.map_cons, List.map_nil]); first | done | rfl | (simp only [List.length_drop, List.length_take]; rfl)) ?_
            with_reducible refine (base_First.calls k1 _ _ y150 t153 _ ?side1 ?side2 A22.out).mono ?_
            (case side1 => repeat (first | exact (Kd.R_reads' HO152.out).2.2 | (with_reducible refine Kd.C_alloc ?_ _) | (with_reducible refine Kd.C_drewN ?_ _) | (with_reducible refine Kd.C_drew ?_)))
            (case side2 => exact (Kd.R_reads' HO152.out).2.1)
            rintro e w' ⟨rfl, ⟨nd, rfl⟩⟩
            refine ⟨_, rfl, ?_⟩
            refine hK.out _ _ ⟨(blk_cell BK146.out 0).trans rfl, (blk_cell BK146.out 1).trans rfl, ((HB.out.cell (World.block_lt_of_cell? w _ hw148_0)).trans hw148_0), ((HB.out.cell (World.block_lt_of_cell? w _ hw148_1)).trans hw148_1)⟩ (fun hHeld => ?_)
            clear hK K
            refine norm_ (a' := ?_) ?_ ?_
            rotate_left
            ·show Act.put _ (some 62) _ = _
             simp only [Act.put, List.setIfInBounds_toArray, List.set_cons_zero, List.set_cons_succ, i64_w, i32_w]
             rfl
            refine pu_ (i := 34) (N := some 8) (v := ?_) (a' := ?_) privilege_CheckSpans.D43 (any_of HT_.out (by kernel_rfl)) ?_ ?_ ?_; rotate_left 2
            ·intro w'; go_simp; with_reducible rfl
            ·simp only [Act.put, s_t, s_z, s_s, i64_w, i32_w]; rfl
            refine done_ (done_of HT_.out (by kernel_rfl)) ?_
            try go_wp2
            go_ret
            exact ⟨by first | rfl | (simp [errW_none, errW_some] <;> rfl) | (simp only [← hji17, ← hji18]; first | rfl | (simp [errW_none, errW_some] <;> rfl)) | (simp [*, errW_none, errW_some] <;> rfl), by repeat (first | (with_reducible first | exact HB.out | apply below_alloc | apply pw_below_drewN | apply below_drew1 | refine below_set ?_ GE146.out) | exact HB.out)⟩
          ·rw [if_neg c20] at H
           exact absurd H (by simp)
         ·rw [if_neg c19] at H
          exact absurd H (by simp)
        ·rw [if_neg c16] at H
         have c16b0 : decide (0 < x24_1) = false := decide_eq_false c16
         clear c16
         replace H := Option.bind_eq_some_iff.mp H
         obtain ⟨t154, A380, H⟩ := H
         replace H : ((base_First.f k1 (([t147, t154] : List Int))).bind fun t158 => (if t158 = 0 then (privilege_CheckSpans.l0 k1 l0 a1 l0 (l0.length : Int) (wrap64 (x24_1 + 1))) else (some t158))) = some r := H
         have A38 := Aside0.mk A380
         clear A380
         obtain ⟨y155, hy155⟩ : ∃ y_ : List Int, y_ = (([t147, t154] : List Int)) := ⟨_, rfl⟩
         replace H : ((base_First.f k1 y155).bind fun t158 => (if t158 = 0 then (privilege_CheckSpans.l0 k1 l0 a1 l0 (l0.length : Int) (wrap64 (x24_1 + 1))) else (some t158))) = some r := by first | (rw [hy155]; with_reducible exact H) | (have H2_ := (Option.bind_some _ _).symm.trans H; rw [hy155]; with_reducible exact H2_) | (have H2_ := (Option.bind_some _ _).symm.trans H; with_reducible exact H2_) | with_reducible exact H | (rw [hy155]; exact H) | exact H
         have Ny155 := Aside0.mk hy155
         clear hy155
         replace H := Option.bind_eq_some_iff.mp H
         obtain ⟨t158, A390, H⟩ := H
         replace H : (if t158 = 0 then (privilege_CheckSpans.l0 k1 l0 a1 l0 (l0.length : Int) (wrap64 (x24_1 + 1))) else (some t158)) = some r := H
         have A39 := Aside0.mk A390
         clear A390
         by_cases c40 : t158 = 0
         ·rw [if_pos c40] at H
          have c40b0 : (t158 == 0) = true := beq_iff_eq.mpr c40
          have c40b1 : (t158 != 0) = false := bne_eq_false_iff_eq.mpr c40
          clear c40
          have H' := Aside0.mk H
          clear H
          have p145 : 0 ≤ (x24_1 : Int) := of_decide_eq_true (by first | (with_reducible assumption) | assumption)
          have q145 : x24_1 < (l0.length : Int) := of_decide_eq_true (by first | (with_reducible assumption) | assumption)
          obtain ⟨ad145, e145, hx145_0, hx145_1⟩ := at_T46 HR0.out x24_1 p145 q145
          cases e145
          first | replace hx145_0 := (HB.out.cell (World.block_lt_of_cell? w _ hx145_0)).trans hx145_0 | skip
          first | replace hx145_1 := (HB.out.cell (World.block_lt_of_cell? w _ hx145_1)).trans hx145_1 | skip
          replace p145 := eq_true p145
          replace q145 := eq_true q145
          try go_wp2_with (first | ((with_reducible refine gate_dst (N := 7) rfl ?_); (try (refine gate_guard (by rfl) ?_; dsimp only)); refine box_event ?hg (N := 7) ?hd (cs := #[.int .i64 0, .int .i64 0]) (t := 46) ?hr ?_; (case hd => rfl); (case hg => rfl); (case hr => first | (go_simp; done) | (go_simp; rfl)); intro gb146 hg w41 hbox hb; have n0_ := Aside0.mk (below_step (by repeat (first | (with_reducible first | exact HB.out | apply below_alloc | apply pw_below_drewN | apply below_drew1) | exact HB.out)) hb); have n1_ := Aside0.mk (hbox); have n2_ := Aside0.mk ((by rw [hg]; exact (below_size (by repeat (first | (with_reducible first | exact HB.out | apply below_alloc | apply pw_below_drewN | apply below_drew1) | exact HB.out))) : w.heap.size ≤ gb146)); have n3_ := Aside0.mk ((by rw [hg]; exact (below_size (by repeat (first | (with_reducible first | exact HB.out | apply below_alloc | apply pw_below_drewN | apply below_drew1) | exact HB.out))) : w.heap.size ≤ gb146)); clear HB; have HB := n0_; have BK146 := n1_; have GW146 := n2_; have GE146 := n3_; clear n0_ n1_ n2_ n3_; clear hb hbox hg; have hcz42_0 : w41.cell? ⟨gb146, 0, none⟩ = some (.int .i64 0) := (blk_cell BK146.out 0).trans rfl; have hcz42_1 : w41.cell? ⟨gb146, 1, none⟩ = some (.int .i64 0) := (blk_cell BK146.out 1).trans rfl; have hfz42_0 := blk_frozen BK146.out 0; have hfz42_1 := blk_frozen BK146.out 1))
          have n0_ : Aside0 (((w41.setCell ⟨gb146, 0, none⟩ (.int .i64 ((rd_T46 l0 x24_1).f0))).setCell ⟨gb146, 1, none⟩ (.int .i64 ((rd_T46 l0 x24_1).f1))).heap[gb146]? = some (.cells #[.int .i64 ((rd_T46 l0 x24_1).f0), .int .i64 ((rd_T46 l0 x24_1).f1)] 46 (0, 0))) := ⟨by (with_reducible repeat (first | refine blk_drewN ?_ _ | refine blk_drew ?_ | refine blk_alloc ?_ _)); refine blk_put (cs := #[.int .i64 ((rd_T46 l0 x24_1).f0), .int .i64 0]) ?_ 1 _ rfl; (with_reducible repeat (first | refine blk_drewN ?_ _ | refine blk_drew ?_ | refine blk_alloc ?_ _)); refine blk_put (cs := #[.int .i64 0, .int .i64 0]) ?_ 0 _ rfl; (with_reducible repeat (first | refine blk_drewN ?_ _ | refine blk_drew ?_ | refine blk_alloc ?_ _)); exact BK146.out⟩
          have n1_ : Aside0 (Below w.heap.size w ((w41.setCell ⟨gb146, 0, none⟩ (.int .i64 ((rd_T46 l0 x24_1).f0))).setCell ⟨gb146, 1, none⟩ (.int .i64 ((rd_T46 l0 x24_1).f1)))) := ⟨by repeat (first | (with_reducible first | exact HB.out | apply below_alloc | apply pw_below_drewN | apply below_drew1 | refine below_set ?_ GE146.out) | exact HB.out)⟩
          (try clear BK146)
          (try clear HB)
          generalize ((w41.setCell ⟨gb146, 0, none⟩ (.int .i64 ((rd_T46 l0 x24_1).f0))).setCell ⟨gb146, 1, none⟩ (.int .i64 ((rd_T46 l0 x24_1).f1))) = w43 at n0_ n1_ ⊢
          have BK146 := n0_
          have HB := n1_
          clear n0_ n1_
          have n0_ := Aside0.mk (blk_drew BK146.out)
          have n1_ := Aside0.mk (below_drew1 HB.out)
          clear BK146
          clear HB
          have BK146 := n0_
          have HB := n1_
          clear n0_ n1_
          refine start_ (n := 35) (S := fun w' => w'.cell? ⟨gb146, 0, none⟩ = some (.int .i64 ((rd_T46 l0 x24_1).f0)) ∧ w'.cell? ⟨gb146, 1, none⟩ = some (.int .i64 ((rd_T46 l0 x24_1).f1))) (ds := []) privilege_CheckSpans.D0 (by kernel_rfl) rfl rfl ⟨(blk_cell BK146.out 0).trans rfl, (blk_cell BK146.out 1).trans rfl⟩ (fun hHeld => ?_); refine with_tabW privilege_CheckSpans.tab7 privilege_CheckSpans.bits7 (fun HT_ HW_ => ?_)
          generalize w43.drew = w44 at BK146 HB hHeld ⊢
          refine pu_ (i := 0) (N := some 29) (v := ?_) (a' := ?_) privilege_CheckSpans.D1 (any_of HT_.out (by kernel_rfl)) ?_ ?_ ?_; rotate_left 2
          ·intro w'; go_simp; with_reducible rfl
          ·simp only [Act.put, s_t, s_z, s_s, i64_w, i32_w]; rfl
          refine pu_ (i := 17) (N := some 46) (v := ?_) (a' := ?_) privilege_CheckSpans.D2 (any_of HT_.out (by kernel_rfl)) ?_ ?_ ?_; rotate_left 2
          ·intro w'; go_simp; with_reducible rfl
          ·simp only [Act.put, s_t, s_z, s_s, i64_w, i32_w]; rfl
          refine pu_ (i := 18) (N := some 47) (v := ?_) (a' := ?_) privilege_CheckSpans.D3 (any_of HT_.out (by kernel_rfl)) ?_ ?_ ?_; rotate_left 2
          ·intro w'; go_simp; with_reducible rfl
          ·simp only [Act.put, s_t, s_z, s_s, i64_w, i32_w]; rfl
          refine take_ (i := 1) (N := some 30) (v := ?_) (a' := ?_) privilege_CheckSpans.D4 rfl rfl (take_ofW HT_.out HW_.out (by kernel_rfl)) (fun _ _ _ h => h) (Or.inl ⟨by rfl, ?_⟩) hHeld ?_ ?_
          rotate_left
          ·rintro w' ⟨s0, s1⟩
           go_simp
           with_reducible rfl
          rotate_left
          ·simp only [Act.put, List.setIfInBounds_toArray, List.set_cons_zero, List.set_cons_succ, i64_w, i32_w]
           rfl
          refine pu_ (i := 2) (N := some 31) (v := ?_) (a' := ?_) privilege_CheckSpans.D5 (any_of HT_.out (by kernel_rfl)) ?_ ?_ ?_; rotate_left 2
          ·intro w'; go_simp; with_reducible rfl
          ·simp only [Act.put, s_t, s_z, s_s, i64_w, i32_w]; rfl
          refine pu_ (i := 3) (N := some 32) (v := ?_) (a' := ?_) privilege_CheckSpans.D6 (any_of HT_.out (by kernel_rfl)) ?_ ?_ ?_; rotate_left 2
          ·intro w'; go_simp; with_reducible rfl
          ·simp only [Act.put, s_t, s_z, s_s, i64_w, i32_w]; rfl
          refine pv_ (i := 4) (N := some 33) (a' := ?_) privilege_CheckSpans.D7 (any_of HT_.out (by kernel_rfl)) ?_ ?_; rotate_left
          ·simp only [Act.put, s_t, s_z, s_s, i64_w, i32_w]; rfl
          refine pv_ (i := 5) (N := some 34) (a' := ?_) privilege_CheckSpans.D9 (any_of HT_.out (by kernel_rfl)) ?_ ?_; rotate_left
          ·simp only [Act.put, s_t, s_z, s_s, i64_w, i32_w]; rfl
          refine pv_ (i := 6) (N := some 35) (a' := ?_) privilege_CheckSpans.D10 (any_of HT_.out (by kernel_rfl)) ?_ ?_; rotate_left
          ·simp only [Act.put, s_t, s_z, s_s, i64_w, i32_w]; rfl
          refine pv_ (i := 7) (N := some 36) (a' := ?_) privilege_CheckSpans.D11 (any_of HT_.out (by kernel_rfl)) ?_ ?_; rotate_left
          ·simp only [Act.put, s_t, s_z, s_s, i64_w, i32_w]; rfl
          refine pv_ (i := 8) (N := some 37) (a' := ?_) privilege_CheckSpans.D12 (any_of HT_.out (by kernel_rfl)) ?_ ?_; rotate_left
          ·simp only [Act.put, s_t, s_z, s_s, i64_w, i32_w]; rfl
          refine pu_ (i := 9) (N := some 38) (v := ?_) (a' := ?_) privilege_CheckSpans.D13 (any_of HT_.out (by kernel_rfl)) ?_ ?_ ?_; rotate_left 2
          ·intro w'; go_simp; with_reducible rfl
          ·simp only [Act.put, s_t, s_z, s_s, i64_w, i32_w]; rfl
          refine pu_ (i := 10) (N := some 39) (v := ?_) (a' := ?_) privilege_CheckSpans.D14 (any_of HT_.out (by kernel_rfl)) ?_ ?_ ?_; rotate_left 2
          ·intro w'; go_simp; with_reducible rfl
          ·simp only [Act.put, s_t, s_z, s_s, i64_w, i32_w]; rfl
          refine pv_ (i := 11) (N := some 40) (a' := ?_) privilege_CheckSpans.D15 (any_of HT_.out (by kernel_rfl)) ?_ ?_; rotate_left
          ·simp only [Act.put, s_t, s_z, s_s, i64_w, i32_w]; rfl
          refine pv_ (i := 12) (N := some 41) (a' := ?_) privilege_CheckSpans.D17 (any_of HT_.out (by kernel_rfl)) ?_ ?_; rotate_left
          ·simp only [Act.put, s_t, s_z, s_s, i64_w, i32_w]; rfl
          refine pv_ (i := 13) (N := some 42) (a' := ?_) privilege_CheckSpans.D18 (any_of HT_.out (by kernel_rfl)) ?_ ?_; rotate_left
          ·simp only [Act.put, s_t, s_z, s_s, i64_w, i32_w]; rfl
          refine pv_ (i := 14) (N := some 43) (a' := ?_) privilege_CheckSpans.D19 (any_of HT_.out (by kernel_rfl)) ?_ ?_; rotate_left
          ·simp only [Act.put, s_t, s_z, s_s, i64_w, i32_w]; rfl
          refine pu_ (i := 15) (N := some 44) (v := ?_) (a' := ?_) privilege_CheckSpans.D20 (any_of HT_.out (by kernel_rfl)) ?_ ?_ ?_; rotate_left 2
          ·intro w'; go_simp; with_reducible rfl
          ·simp only [Act.put, s_t, s_z, s_s, i64_w, i32_w]; rfl
          refine one_ (i := 16) (N := some 45) privilege_CheckSpans.D21 rfl rfl (one_of HT_.out (by kernel_rfl)) (by decide) (fun K hK => ?_)
          refine goes_ Tryd.func46 (by kernel_rfl) rfl #[.bool true, .int .i64 1] (by rfl) rfl rfl (by (try simp only [List.map_toArray, List.map_cons, List.map_nil]); first | done | rfl | (simp only [List.length_drop, List.length_take]; rfl)) ?_
          with_reducible refine (base_When.calls true 1 t147 _ A15.out).mono ?_
          rintro e w' ⟨rfl, ⟨nd, rfl⟩⟩
          refine ⟨_, rfl, ?_⟩
          refine hK.out _ _ ⟨(blk_cell BK146.out 0).trans rfl, (blk_cell BK146.out 1).trans rfl⟩ (fun hHeld => ?_)
          clear hK K
          refine norm_ (a' := ?_) ?_ ?_
          rotate_left
          ·show Act.put _ (some 45) _ = _
           simp only [Act.put, List.setIfInBounds_toArray, List.set_cons_zero, List.set_cons_succ, i64_w, i32_w]
           rfl
          refine pu_ (i := 19) (N := some 48) (v := ?_) (a' := ?_) privilege_CheckSpans.D22 (any_of HT_.out (by kernel_rfl)) ?_ ?_ ?_; rotate_left 2
          ·intro w'; go_simp; with_reducible rfl
          ·simp only [Act.put, s_t, s_z, s_s, i64_w, i32_w]; rfl
          refine pv_ (i := 20) (N := some 49) (a' := ?_) privilege_CheckSpans.D23 (any_of HT_.out (by kernel_rfl)) ?_ ?_; rotate_left
          ·simp only [Act.put, s_t, s_z, s_s, i64_w, i32_w]; rfl
          refine pv_ (i := 21) (N := some 50) (a' := ?_) privilege_CheckSpans.D30 (any_of HT_.out (by kernel_rfl)) ?_ ?_; rotate_left
          ·simp only [Act.put, s_t, s_z, s_s, i64_w, i32_w]; rfl
          refine pv_ (i := 22) (N := some 51) (a' := ?_) privilege_CheckSpans.D31 (any_of HT_.out (by kernel_rfl)) ?_ ?_; rotate_left
          ·simp only [Act.put, s_t, s_z, s_s, i64_w, i32_w]; rfl
          refine pv_ (i := 23) (N := some 52) (a' := ?_) privilege_CheckSpans.D32 (any_of HT_.out (by kernel_rfl)) ?_ ?_; rotate_left
          ·simp only [Act.put, s_t, s_z, s_s, i64_w, i32_w]; rfl
          refine pv_ (i := 24) (N := some 53) (a' := ?_) privilege_CheckSpans.D33 (any_of HT_.out (by kernel_rfl)) ?_ ?_; rotate_left
          ·simp only [Act.put, s_t, s_z, s_s, i64_w, i32_w]; rfl
          refine pv_ (i := 25) (N := some 54) (a' := ?_) privilege_CheckSpans.D34 (any_of HT_.out (by kernel_rfl)) ?_ ?_; rotate_left
          ·simp only [Act.put, s_t, s_z, s_s, i64_w, i32_w]; rfl
          refine pv_ (i := 26) (N := some 55) (a' := ?_) privilege_CheckSpans.D35 (any_of HT_.out (by kernel_rfl)) ?_ ?_; rotate_left
          ·simp only [Act.put, s_t, s_z, s_s, i64_w, i32_w]; rfl
          refine pv_ (i := 27) (N := some 56) (a' := ?_) privilege_CheckSpans.D36 (any_of HT_.out (by kernel_rfl)) ?_ ?_; rotate_left
          ·simp only [Act.put, s_t, s_z, s_s, i64_w, i32_w]; rfl
          refine pv_ (i := 28) (N := some 57) (a' := ?_) privilege_CheckSpans.D37 (any_of HT_.out (by kernel_rfl)) ?_ ?_; rotate_left
          ·simp only [Act.put, s_t, s_z, s_s, i64_w, i32_w]; rfl
          refine pv_ (i := 29) (N := some 58) (a' := ?_) privilege_CheckSpans.D38 (any_of HT_.out (by kernel_rfl)) ?_ ?_; rotate_left
          ·simp only [Act.put, s_t, s_z, s_s, i64_w, i32_w]; rfl
          refine pu_ (i := 30) (N := some 59) (v := ?_) (a' := ?_) privilege_CheckSpans.D39 (any_of HT_.out (by kernel_rfl)) ?_ ?_ ?_; rotate_left 2
          ·intro w'; go_simp; with_reducible rfl
          ·simp only [Act.put, s_t, s_z, s_s, i64_w, i32_w]; rfl
          refine one_ (i := 31) (N := some 60) privilege_CheckSpans.D40 rfl rfl (one_of HT_.out (by kernel_rfl)) (by decide) (fun K hK => ?_)
          refine goes_ Tryd.func46 (by kernel_rfl) rfl #[.bool false, .int .i64 7] (by rfl) rfl rfl (by (try simp only [List.map_toArray, List.map_cons, List.map_nil]); first | done | rfl | (simp only [List.length_drop, List.length_take]; rfl)) ?_
          with_reducible refine (base_When.calls false 7 t154 _ A38.out).mono ?_
          rintro e w' ⟨rfl, ⟨nd, rfl⟩⟩
          refine ⟨_, rfl, ?_⟩
          refine hK.out _ _ ⟨(blk_cell BK146.out 0).trans rfl, (blk_cell BK146.out 1).trans rfl⟩ (fun hHeld => ?_)
          clear hK K
          refine norm_ (a' := ?_) ?_ ?_
          rotate_left
          ·show Act.put _ (some 60) _ = _
           simp only [Act.put, List.setIfInBounds_toArray, List.set_cons_zero, List.set_cons_succ, i64_w, i32_w]
           rfl
          refine one_ (i := 32) (N := some 61) privilege_CheckSpans.D41 rfl rfl (one_of HT_.out (by kernel_rfl)) (by decide) (fun K hK => ?_)
          refine Kd.R_lit_step (Kd.int .i64) _ 29 ?hg (N := 61) ?hd (xs := ([t147, t154] : List Int)) (inner := [.int .i64 t147, .int .i64 t154]) (ok := fun _ => True) (okp := fun _ => True) ?hr ?hp (fun _ hk => hk) trivial (Below.refl _ _) (Nat.le_refl _) (by simp) ?_; (case hd => rfl); (case hg => rfl); (case hr => first | (go_simp; done) | (go_simp; rfl)); (case hp => exact (Reps.one (show Kd.M (Kd.int .i64) _ _ _ t147 [.int .i64 t147] from rfl) (Reps.one (show Kd.M (Kd.int .i64) _ _ _ t154 [.int .i64 t154] from rfl) (Reps.none _ _))))
          intro v156 w45 ho46 hb hg_ hnew_
          clear hg_ hnew_
          (first | rw [← Ny155.out] at ho46 | (simp only [Int.reduceToNat] at ho46; rw [← Ny155.out] at ho46))
          have n0_ := Aside0.mk (Kd.R_lower ho46 (below_size (by repeat (first | (with_reducible first | exact HB.out | apply below_alloc | apply pw_below_drewN | apply below_drew1 | refine below_set ?_ GE146.out) | exact HB.out))))
          have n1_ := Aside0.mk (blk_below (g := gb146) (o := .cells #[.int .i64 ((rd_T46 l0 x24_1).f0), .int .i64 ((rd_T46 l0 x24_1).f1)] 46 (0, 0)) (by (with_reducible repeat (first | refine blk_drewN ?_ _ | refine blk_drew ?_ | refine blk_alloc ?_ _)); exact BK146.out) hb)
          have n2_ := Aside0.mk (below_step (by repeat (first | (with_reducible first | exact HB.out | apply below_alloc | apply pw_below_drewN | apply below_drew1 | refine below_set ?_ GE146.out) | exact HB.out)) hb)
          clear BK146
          clear HB
          have HO157 := n0_
          have BK146 := n1_
          have HB := n2_
          clear n0_ n1_ n2_
          clear hb ho46
          obtain ⟨Ao47, co47, eo47⟩ := Kd.R_slice HO157.out
          (first | subst eo47 | (injection eo47 with f1_ f2_ f3_; have f4_ := f1_.symm; have f5_ := f3_.symm; clear f1_ f2_ f3_; subst f4_; subst f5_))
          refine hK.out _ _ ⟨(blk_cell BK146.out 0).trans rfl, (blk_cell BK146.out 1).trans rfl⟩ (fun hHeld => ?_)
          clear hK K
          refine norm_ (a' := ?_) ?_ ?_
          rotate_left
          ·show Act.put _ (some 61) _ = _
           simp only [Act.put, List.setIfInBounds_toArray, List.set_cons_zero, List.set_cons_succ, i64_w, i32_w]
           rfl
          refine one_ (i := 33) (N := some 62) privilege_CheckSpans.D42 rfl rfl (one_of HT_.out (by kernel_rfl)) (by decide) (fun K hK => ?_)
          refine goes_ Tryd.func45 (by kernel_rfl) rfl #[.slice Ao47 y155.length co47] (by rfl) rfl rfl (by (try simp only [List.map_toArray, List.map_cons, List.map_nil]); first | done | rfl | (simp only [List.length_drop, List.length_take]; rfl)) ?_
          with_reducible refine (base_First.calls k1 _ _ y155 t158 _ ?side1 ?side2 A39.out).mono ?_
          (case side1 => repeat (first | exact (Kd.R_reads' HO157.out).2.2 | (with_reducible refine Kd.C_alloc ?_ _) | (with_reducible refine Kd.C_drewN ?_ _) | (with_reducible refine Kd.C_drew ?_)))
          (case side2 => exact (Kd.R_reads' HO157.out).2.1)
          rintro e w' ⟨rfl, ⟨nd, rfl⟩⟩
          refine ⟨_, rfl, ?_⟩
          refine hK.out _ _ ⟨(blk_cell BK146.out 0).trans rfl, (blk_cell BK146.out 1).trans rfl⟩ (fun hHeld => ?_)
          clear hK K
          refine norm_ (a' := ?_) ?_ ?_
          rotate_left
          ·show Act.put _ (some 62) _ = _
           simp only [Act.put, List.setIfInBounds_toArray, List.set_cons_zero, List.set_cons_succ, i64_w, i32_w]
           rfl
          refine pu_ (i := 34) (N := some 8) (v := ?_) (a' := ?_) privilege_CheckSpans.D43 (any_of HT_.out (by kernel_rfl)) ?_ ?_ ?_; rotate_left 2
          ·intro w'; go_simp; with_reducible rfl
          ·simp only [Act.put, s_t, s_z, s_s, i64_w, i32_w]; rfl
          refine done_ (done_of HT_.out (by kernel_rfl)) ?_
          try go_wp2
          go_roundg k1
          case measure => have := HK1.out; omega
          case rel => exact ⟨(wrap64 (x24_1 + 1)), (by first | rfl | (simp; done) | (simp [*]; done)), H', ⟨by have := HK1.out; omega⟩, ⟨by repeat (first | (with_reducible first | exact HB.out | apply below_alloc | apply pw_below_drewN | apply below_drew1 | refine below_set ?_ GE146.out) | exact HB.out)⟩⟩
         ·rw [if_neg c40] at H
          have c40b0 : (t158 == 0) = false := beq_eq_false_iff_ne.mpr c40
          have c40b1 : (t158 != 0) = true := bne_iff_ne.mpr c40
          obtain rfl := Option.some.inj H
          have p145 : 0 ≤ (x24_1 : Int) := of_decide_eq_true (by first | (with_reducible assumption) | assumption)
          have q145 : x24_1 < (l0.length : Int) := of_decide_eq_true (by first | (with_reducible assumption) | assumption)
          obtain ⟨ad145, e145, hx145_0, hx145_1⟩ := at_T46 HR0.out x24_1 p145 q145
          cases e145
          first | replace hx145_0 := (HB.out.cell (World.block_lt_of_cell? w _ hx145_0)).trans hx145_0 | skip
          first | replace hx145_1 := (HB.out.cell (World.block_lt_of_cell? w _ hx145_1)).trans hx145_1 | skip
          replace p145 := eq_true p145
          replace q145 := eq_true q145
          try go_wp2_with (first | ((with_reducible refine gate_dst (N := 7) rfl ?_); (try (refine gate_guard (by rfl) ?_; dsimp only)); refine box_event ?hg (N := 7) ?hd (cs := #[.int .i64 0, .int .i64 0]) (t := 46) ?hr ?_; (case hd => rfl); (case hg => rfl); (case hr => first | (go_simp; done) | (go_simp; rfl)); intro gb146 hg w48 hbox hb; have n0_ := Aside0.mk (below_step (by repeat (first | (with_reducible first | exact HB.out | apply below_alloc | apply pw_below_drewN | apply below_drew1) | exact HB.out)) hb); have n1_ := Aside0.mk (hbox); have n2_ := Aside0.mk ((by rw [hg]; exact (below_size (by repeat (first | (with_reducible first | exact HB.out | apply below_alloc | apply pw_below_drewN | apply below_drew1) | exact HB.out))) : w.heap.size ≤ gb146)); have n3_ := Aside0.mk ((by rw [hg]; exact (below_size (by repeat (first | (with_reducible first | exact HB.out | apply below_alloc | apply pw_below_drewN | apply below_drew1) | exact HB.out))) : w.heap.size ≤ gb146)); clear HB; have HB := n0_; have BK146 := n1_; have GW146 := n2_; have GE146 := n3_; clear n0_ n1_ n2_ n3_; clear hb hbox hg; have hcz49_0 : w48.cell? ⟨gb146, 0, none⟩ = some (.int .i64 0) := (blk_cell BK146.out 0).trans rfl; have hcz49_1 : w48.cell? ⟨gb146, 1, none⟩ = some (.int .i64 0) := (blk_cell BK146.out 1).trans rfl; have hfz49_0 := blk_frozen BK146.out 0; have hfz49_1 := blk_frozen BK146.out 1))
          have n0_ : Aside0 (((w48.setCell ⟨gb146, 0, none⟩ (.int .i64 ((rd_T46 l0 x24_1).f0))).setCell ⟨gb146, 1, none⟩ (.int .i64 ((rd_T46 l0 x24_1).f1))).heap[gb146]? = some (.cells #[.int .i64 ((rd_T46 l0 x24_1).f0), .int .i64 ((rd_T46 l0 x24_1).f1)] 46 (0, 0))) := ⟨by (with_reducible repeat (first | refine blk_drewN ?_ _ | refine blk_drew ?_ | refine blk_alloc ?_ _)); refine blk_put (cs := #[.int .i64 ((rd_T46 l0 x24_1).f0), .int .i64 0]) ?_ 1 _ rfl; (with_reducible repeat (first | refine blk_drewN ?_ _ | refine blk_drew ?_ | refine blk_alloc ?_ _)); refine blk_put (cs := #[.int .i64 0, .int .i64 0]) ?_ 0 _ rfl; (with_reducible repeat (first | refine blk_drewN ?_ _ | refine blk_drew ?_ | refine blk_alloc ?_ _)); exact BK146.out⟩
          have n1_ : Aside0 (Below w.heap.size w ((w48.setCell ⟨gb146, 0, none⟩ (.int .i64 ((rd_T46 l0 x24_1).f0))).setCell ⟨gb146, 1, none⟩ (.int .i64 ((rd_T46 l0 x24_1).f1)))) := ⟨by repeat (first | (with_reducible first | exact HB.out | apply below_alloc | apply pw_below_drewN | apply below_drew1 | refine below_set ?_ GE146.out) | exact HB.out)⟩
          (try clear BK146)
          (try clear HB)
          generalize ((w48.setCell ⟨gb146, 0, none⟩ (.int .i64 ((rd_T46 l0 x24_1).f0))).setCell ⟨gb146, 1, none⟩ (.int .i64 ((rd_T46 l0 x24_1).f1))) = w50 at n0_ n1_ ⊢
          have BK146 := n0_
          have HB := n1_
          clear n0_ n1_
          have n0_ := Aside0.mk (blk_drew BK146.out)
          have n1_ := Aside0.mk (below_drew1 HB.out)
          clear BK146
          clear HB
          have BK146 := n0_
          have HB := n1_
          clear n0_ n1_
          refine start_ (n := 35) (S := fun w' => w'.cell? ⟨gb146, 0, none⟩ = some (.int .i64 ((rd_T46 l0 x24_1).f0)) ∧ w'.cell? ⟨gb146, 1, none⟩ = some (.int .i64 ((rd_T46 l0 x24_1).f1))) (ds := []) privilege_CheckSpans.D0 (by kernel_rfl) rfl rfl ⟨(blk_cell BK146.out 0).trans rfl, (blk_cell BK146.out 1).trans rfl⟩ (fun hHeld => ?_); refine with_tabW privilege_CheckSpans.tab7 privilege_CheckSpans.bits7 (fun HT_ HW_ => ?_)
          generalize w50.drew = w51 at BK146 HB hHeld ⊢
          refine pu_ (i := 0) (N := some 29) (v := ?_) (a' := ?_) privilege_CheckSpans.D1 (any_of HT_.out (by kernel_rfl)) ?_ ?_ ?_; rotate_left 2
          ·intro w'; go_simp; with_reducible rfl
          ·simp only [Act.put, s_t, s_z, s_s, i64_w, i32_w]; rfl
          refine pu_ (i := 17) (N := some 46) (v := ?_) (a' := ?_) privilege_CheckSpans.D2 (any_of HT_.out (by kernel_rfl)) ?_ ?_ ?_; rotate_left 2
          ·intro w'; go_simp; with_reducible rfl
          ·simp only [Act.put, s_t, s_z, s_s, i64_w, i32_w]; rfl
          refine pu_ (i := 18) (N := some 47) (v := ?_) (a' := ?_) privilege_CheckSpans.D3 (any_of HT_.out (by kernel_rfl)) ?_ ?_ ?_; rotate_left 2
          ·intro w'; go_simp; with_reducible rfl
          ·simp only [Act.put, s_t, s_z, s_s, i64_w, i32_w]; rfl
          refine take_ (i := 1) (N := some 30) (v := ?_) (a' := ?_) privilege_CheckSpans.D4 rfl rfl (take_ofW HT_.out HW_.out (by kernel_rfl)) (fun _ _ _ h => h) (Or.inl ⟨by rfl, ?_⟩) hHeld ?_ ?_
          rotate_left
          ·rintro w' ⟨s0, s1⟩
           go_simp
           with_reducible rfl
          rotate_left
          ·simp only [Act.put, List.setIfInBounds_toArray, List.set_cons_zero, List.set_cons_succ, i64_w, i32_w]
           rfl
          refine pu_ (i := 2) (N := some 31) (v := ?_) (a' := ?_) privilege_CheckSpans.D5 (any_of HT_.out (by kernel_rfl)) ?_ ?_ ?_; rotate_left 2
          ·intro w'; go_simp; with_reducible rfl
          ·simp only [Act.put, s_t, s_z, s_s, i64_w, i32_w]; rfl
          refine pu_ (i := 3) (N := some 32) (v := ?_) (a' := ?_) privilege_CheckSpans.D6 (any_of HT_.out (by kernel_rfl)) ?_ ?_ ?_; rotate_left 2
          ·intro w'; go_simp; with_reducible rfl
          ·simp only [Act.put, s_t, s_z, s_s, i64_w, i32_w]; rfl
          refine pv_ (i := 4) (N := some 33) (a' := ?_) privilege_CheckSpans.D7 (any_of HT_.out (by kernel_rfl)) ?_ ?_; rotate_left
          ·simp only [Act.put, s_t, s_z, s_s, i64_w, i32_w]; rfl
          refine pv_ (i := 5) (N := some 34) (a' := ?_) privilege_CheckSpans.D9 (any_of HT_.out (by kernel_rfl)) ?_ ?_; rotate_left
          ·simp only [Act.put, s_t, s_z, s_s, i64_w, i32_w]; rfl
          refine pv_ (i := 6) (N := some 35) (a' := ?_) privilege_CheckSpans.D10 (any_of HT_.out (by kernel_rfl)) ?_ ?_; rotate_left
          ·simp only [Act.put, s_t, s_z, s_s, i64_w, i32_w]; rfl
          refine pv_ (i := 7) (N := some 36) (a' := ?_) privilege_CheckSpans.D11 (any_of HT_.out (by kernel_rfl)) ?_ ?_; rotate_left
          ·simp only [Act.put, s_t, s_z, s_s, i64_w, i32_w]; rfl
          refine pv_ (i := 8) (N := some 37) (a' := ?_) privilege_CheckSpans.D12 (any_of HT_.out (by kernel_rfl)) ?_ ?_; rotate_left
          ·simp only [Act.put, s_t, s_z, s_s, i64_w, i32_w]; rfl
          refine pu_ (i := 9) (N := some 38) (v := ?_) (a' := ?_) privilege_CheckSpans.D13 (any_of HT_.out (by kernel_rfl)) ?_ ?_ ?_; rotate_left 2
          ·intro w'; go_simp; with_reducible rfl
          ·simp only [Act.put, s_t, s_z, s_s, i64_w, i32_w]; rfl
          refine pu_ (i := 10) (N := some 39) (v := ?_) (a' := ?_) privilege_CheckSpans.D14 (any_of HT_.out (by kernel_rfl)) ?_ ?_ ?_; rotate_left 2
          ·intro w'; go_simp; with_reducible rfl
          ·simp only [Act.put, s_t, s_z, s_s, i64_w, i32_w]; rfl
          refine pv_ (i := 11) (N := some 40) (a' := ?_) privilege_CheckSpans.D15 (any_of HT_.out (by kernel_rfl)) ?_ ?_; rotate_left
          ·simp only [Act.put, s_t, s_z, s_s, i64_w, i32_w]; rfl
          refine pv_ (i := 12) (N := some 41) (a' := ?_) privilege_CheckSpans.D17 (any_of HT_.out (by kernel_rfl)) ?_ ?_; rotate_left
          ·simp only [Act.put, s_t, s_z, s_s, i64_w, i32_w]; rfl
          refine pv_ (i := 13) (N := some 42) (a' := ?_) privilege_CheckSpans.D18 (any_of HT_.out (by kernel_rfl)) ?_ ?_; rotate_left
          ·simp only [Act.put, s_t, s_z, s_s, i64_w, i32_w]; rfl
          refine pv_ (i := 14) (N := some 43) (a' := ?_) privilege_CheckSpans.D19 (any_of HT_.out (by kernel_rfl)) ?_ ?_; rotate_left
          ·simp only [Act.put, s_t, s_z, s_s, i64_w, i32_w]; rfl
          refine pu_ (i := 15) (N := some 44) (v := ?_) (a' := ?_) privilege_CheckSpans.D20 (any_of HT_.out (by kernel_rfl)) ?_ ?_ ?_; rotate_left 2
          ·intro w'; go_simp; with_reducible rfl
          ·simp only [Act.put, s_t, s_z, s_s, i64_w, i32_w]; rfl
          refine one_ (i := 16) (N := some 45) privilege_CheckSpans.D21 rfl rfl (one_of HT_.out (by kernel_rfl)) (by decide) (fun K hK => ?_)
          refine goes_ Tryd.func46 (by kernel_rfl) rfl #[.bool true, .int .i64 1] (by rfl) rfl rfl (by (try simp only [List.map_toArray, List.map_cons, List.map_nil]); first | done | rfl | (simp only [List.length_drop, List.length_take]; rfl)) ?_
          with_reducible refine (base_When.calls true 1 t147 _ A15.out).mono ?_
          rintro e w' ⟨rfl, ⟨nd, rfl⟩⟩
          refine ⟨_, rfl, ?_⟩
          refine hK.out _ _ ⟨(blk_cell BK146.out 0).trans rfl, (blk_cell BK146.out 1).trans rfl⟩ (fun hHeld => ?_)
          clear hK K
          refine norm_ (a' := ?_) ?_ ?_
          rotate_left
          ·show Act.put _ (some 45) _ = _
           simp only [Act.put, List.setIfInBounds_toArray, List.set_cons_zero, List.set_cons_succ, i64_w, i32_w]
           rfl
          refine pu_ (i := 19) (N := some 48) (v := ?_) (a' := ?_) privilege_CheckSpans.D22 (any_of HT_.out (by kernel_rfl)) ?_ ?_ ?_; rotate_left 2
          ·intro w'; go_simp; with_reducible rfl
          ·simp only [Act.put, s_t, s_z, s_s, i64_w, i32_w]; rfl
          refine pv_ (i := 20) (N := some 49) (a' := ?_) privilege_CheckSpans.D23 (any_of HT_.out (by kernel_rfl)) ?_ ?_; rotate_left
          ·simp only [Act.put, s_t, s_z, s_s, i64_w, i32_w]; rfl
          refine pv_ (i := 21) (N := some 50) (a' := ?_) privilege_CheckSpans.D30 (any_of HT_.out (by kernel_rfl)) ?_ ?_; rotate_left
          ·simp only [Act.put, s_t, s_z, s_s, i64_w, i32_w]; rfl
          refine pv_ (i := 22) (N := some 51) (a' := ?_) privilege_CheckSpans.D31 (any_of HT_.out (by kernel_rfl)) ?_ ?_; rotate_left
          ·simp only [Act.put, s_t, s_z, s_s, i64_w, i32_w]; rfl
          refine pv_ (i := 23) (N := some 52) (a' := ?_) privilege_CheckSpans.D32 (any_of HT_.out (by kernel_rfl)) ?_ ?_; rotate_left
          ·simp only [Act.put, s_t, s_z, s_s, i64_w, i32_w]; rfl
          refine pv_ (i := 24) (N := some 53) (a' := ?_) privilege_CheckSpans.D33 (any_of HT_.out (by kernel_rfl)) ?_ ?_; rotate_left
          ·simp only [Act.put, s_t, s_z, s_s, i64_w, i32_w]; rfl
          refine pv_ (i := 25) (N := some 54) (a' := ?_) privilege_CheckSpans.D34 (any_of HT_.out (by kernel_rfl)) ?_ ?_; rotate_left
          ·simp only [Act.put, s_t, s_z, s_s, i64_w, i32_w]; rfl
          refine pv_ (i := 26) (N := some 55) (a' := ?_) privilege_CheckSpans.D35 (any_of HT_.out (by kernel_rfl)) ?_ ?_; rotate_left
          ·simp only [Act.put, s_t, s_z, s_s, i64_w, i32_w]; rfl
          refine pv_ (i := 27) (N := some 56) (a' := ?_) privilege_CheckSpans.D36 (any_of HT_.out (by kernel_rfl)) ?_ ?_; rotate_left
          ·simp only [Act.put, s_t, s_z, s_s, i64_w, i32_w]; rfl
          refine pv_ (i := 28) (N := some 57) (a' := ?_) privilege_CheckSpans.D37 (any_of HT_.out (by kernel_rfl)) ?_ ?_; rotate_left
          ·simp only [Act.put, s_t, s_z, s_s, i64_w, i32_w]; rfl
          refine pv_ (i := 29) (N := some 58) (a' := ?_) privilege_CheckSpans.D38 (any_of HT_.out (by kernel_rfl)) ?_ ?_; rotate_left
          ·simp only [Act.put, s_t, s_z, s_s, i64_w, i32_w]; rfl
          refine pu_ (i := 30) (N := some 59) (v := ?_) (a' := ?_) privilege_CheckSpans.D39 (any_of HT_.out (by kernel_rfl)) ?_ ?_ ?_; rotate_left 2
          ·intro w'; go_simp; with_reducible rfl
          ·simp only [Act.put, s_t, s_z, s_s, i64_w, i32_w]; rfl
          refine one_ (i := 31) (N := some 60) privilege_CheckSpans.D40 rfl rfl (one_of HT_.out (by kernel_rfl)) (by decide) (fun K hK => ?_)
          refine goes_ Tryd.func46 (by kernel_rfl) rfl #[.bool false, .int .i64 7] (by rfl) rfl rfl (by (try simp only [List.map_toArray, List.map_cons, List.map_nil]); first | done | rfl | (simp only [List.length_drop, List.length_take]; rfl)) ?_
          with_reducible refine (base_When.calls false 7 t154 _ A38.out).mono ?_
          rintro e w' ⟨rfl, ⟨nd, rfl⟩⟩
          refine ⟨_, rfl, ?_⟩
          refine hK.out _ _ ⟨(blk_cell BK146.out 0).trans rfl, (blk_cell BK146.out 1).trans rfl⟩ (fun hHeld => ?_)
          clear hK K
          refine norm_ (a' := ?_) ?_ ?_
          rotate_left
          ·show Act.put _ (some 60) _ = _
           simp only [Act.put, List.setIfInBounds_toArray, List.set_cons_zero, List.set_cons_succ, i64_w, i32_w]
           rfl
          refine one_ (i := 32) (N := some 61) privilege_CheckSpans.D41 rfl rfl (one_of HT_.out (by kernel_rfl)) (by decide) (fun K hK => ?_)
          refine Kd.R_lit_step (Kd.int .i64) _ 29 ?hg (N := 61) ?hd (xs := ([t147, t154] : List Int)) (inner := [.int .i64 t147, .int .i64 t154]) (ok := fun _ => True) (okp := fun _ => True) ?hr ?hp (fun _ hk => hk) trivial (Below.refl _ _) (Nat.le_refl _) (by simp) ?_; (case hd => rfl); (case hg => rfl); (case hr => first | (go_simp; done) | (go_simp; rfl)); (case hp => exact (Reps.one (show Kd.M (Kd.int .i64) _ _ _ t147 [.int .i64 t147] from rfl) (Reps.one (show Kd.M (Kd.int .i64) _ _ _ t154 [.int .i64 t154] from rfl) (Reps.none _ _))))
          intro v156 w52 ho53 hb hg_ hnew_
          clear hg_ hnew_
          (first | rw [← Ny155.out] at ho53 | (simp only [Int.reduceToNat] at ho53; rw [← Ny155.out] at ho53))
          have n0_ := Aside0.mk (Kd.R_lower ho53 (below_size (by repeat (first | (with_reducible first | exact HB.out | apply below_alloc | apply pw_below_drewN | apply below_drew1 | refine below_set ?_ GE146.out) | exact HB.out))))
          have n1_ := Aside0.mk (blk_below (g := gb146) (o := .cells #[.int .i64 ((rd_T46 l0 x24_1).f0), .int .i64 ((rd_T46 l0 x24_1).f1)] 46 (0, 0)) (by (with_reducible repeat (first | refine blk_drewN ?_ _ | refine blk_drew ?_ | refine blk_alloc ?_ _)); exact BK146.out) hb)
          have n2_ := Aside0.mk (below_step (by repeat (first | (with_reducible first | exact HB.out | apply below_alloc | apply pw_below_drewN | apply below_drew1 | refine below_set ?_ GE146.out) | exact HB.out)) hb)
          clear BK146
          clear HB
          have HO157 := n0_
          have BK146 := n1_
          have HB := n2_
          clear n0_ n1_ n2_
          clear hb ho53
          obtain ⟨Ao54, co54, eo54⟩ := Kd.R_slice HO157.out
          (first | subst eo54 | (injection eo54 with f1_ f2_ f3_; have f4_ := f1_.symm; have f5_ := f3_.symm; clear f1_ f2_ f3_; subst f4_; subst f5_))
          refine hK.out _ _ ⟨(blk_cell BK146.out 0).trans rfl, (blk_cell BK146.out 1).trans rfl⟩ (fun hHeld => ?_)
          clear hK K
          refine norm_ (a' := ?_) ?_ ?_
          rotate_left
          ·show Act.put _ (some 61) _ = _
           simp only [Act.put, List.setIfInBounds_toArray, List.set_cons_zero, List.set_cons_succ, i64_w, i32_w]
           rfl
          refine one_ (i := 33) (N := some 62) privilege_CheckSpans.D42 rfl rfl (one_of HT_.out (by kernel_rfl)) (by decide) (fun K hK => ?_)
          refine goes_ Tryd.func45 (by kernel_rfl) rfl #[.slice Ao54 y155.length co54] (by rfl) rfl rfl (by (try simp only [List.map_toArray, List.map_cons, List.map_nil]); first | done | rfl | (simp only [List.length_drop, List.length_take]; rfl)) ?_
          with_reducible refine (base_First.calls k1 _ _ y155 t158 _ ?side1 ?side2 A39.out).mono ?_
          (case side1 => repeat (first | exact (Kd.R_reads' HO157.out).2.2 | (with_reducible refine Kd.C_alloc ?_ _) | (with_reducible refine Kd.C_drewN ?_ _) | (with_reducible refine Kd.C_drew ?_)))
          (case side2 => exact (Kd.R_reads' HO157.out).2.1)
          rintro e w' ⟨rfl, ⟨nd, rfl⟩⟩
          refine ⟨_, rfl, ?_⟩
          refine hK.out _ _ ⟨(blk_cell BK146.out 0).trans rfl, (blk_cell BK146.out 1).trans rfl⟩ (fun hHeld => ?_)
          clear hK K
          refine norm_ (a' := ?_) ?_ ?_
          rotate_left
          ·show Act.put _ (some 62) _ = _
           simp only [Act.put, List.setIfInBounds_toArray, List.set_cons_zero, List.set_cons_succ, i64_w, i32_w]
           rfl
          refine pu_ (i := 34) (N := some 8) (v := ?_) (a' := ?_) privilege_CheckSpans.D43 (any_of HT_.out (by kernel_rfl)) ?_ ?_ ?_; rotate_left 2
          ·intro w'; go_simp; with_reducible rfl
          ·simp only [Act.put, s_t, s_z, s_s, i64_w, i32_w]; rfl
          refine done_ (done_of HT_.out (by kernel_rfl)) ?_
          try go_wp2
          go_ret
          exact ⟨by first | rfl | (simp [errW_none, errW_some] <;> rfl) | (simp [*, errW_none, errW_some] <;> rfl), by repeat (first | (with_reducible first | exact HB.out | apply below_alloc | apply pw_below_drewN | apply below_drew1 | refine below_set ?_ GE146.out) | exact HB.out)⟩
       ·rw [if_neg c14] at H
        have c14b0 : decide (((rd_T46 l0 x24_1).f0) < 0) = false := decide_eq_false c14
        clear c14
        by_cases c55 : ((rd_T46 l0 x24_1).f0) ≥ ((rd_T46 l0 x24_1).f1)
        ·rw [if_pos c55] at H
         have c55b0 : decide (((rd_T46 l0 x24_1).f1) ≤ ((rd_T46 l0 x24_1).f0)) = true := decide_eq_true c55
         clear c55
         replace H := Option.bind_eq_some_iff.mp H
         obtain ⟨t159, A560, H⟩ := H
         replace H : (if x24_1 > 0 then (if 0 ≤ (wrap64 ((mx x24_1 1) - 1)) then (if (wrap64 ((mx x24_1 1) - 1)) < (l0.length : Int) then ((base_When.f (decide (((rd_T46 l0 x24_1).f0) ≤ ((rd_T46 l0 (wrap64 ((mx x24_1 1) - 1))).f1))) 7).bind fun t161 => ((base_First.f k1 (([t159, t161] : List Int))).bind fun t165 => (if t165 = 0 then (privilege_CheckSpans.l0 k1 l0 a1 l0 (l0.length : Int) (wrap64 (x24_1 + 1))) else (some t165)))) else (none)) else (none)) else ((base_When.f false 7).bind fun t166 => ((base_First.f k1 (([t159, t166] : List Int))).bind fun t170 => (if t170 = 0 then (privilege_CheckSpans.l0 k1 l0 a1 l0 (l0.length : Int) (wrap64 (x24_1 + 1))) else (some t170))))) = some r := H
         have A56 := Aside0.mk A560
         clear A560
         by_cases c57 : x24_1 > 0
         ·rw [if_pos c57] at H
          have c57b0 : decide (0 < x24_1) = true := decide_eq_true c57
          clear c57
          obtain ⟨ji58, hji58⟩ : ∃ j_ : Int, (mx x24_1 1) = j_ := ⟨_, rfl⟩
          replace H : (if 0 ≤ (wrap64 ((ji58) - 1)) then (if (wrap64 ((ji58) - 1)) < (l0.length : Int) then ((base_When.f (decide (((rd_T46 l0 x24_1).f0) ≤ ((rd_T46 l0 (wrap64 ((ji58) - 1))).f1))) 7).bind fun t161 => ((base_First.f k1 (([t159, t161] : List Int))).bind fun t165 => (if t165 = 0 then (privilege_CheckSpans.l0 k1 l0 a1 l0 (l0.length : Int) (wrap64 (x24_1 + 1))) else (some t165)))) else (none)) else (none)) = some r := by first | (rw [hji58] at H; exact H) | (simp only [hji58] at H ⊢; exact H)
          (try rw [hji58] at A56)
          have hji58_ : (if x24_1 < 1 then 1 else x24_1) = ji58 := hji58
          obtain ⟨ji59, hji59⟩ : ∃ j_ : Int, (wrap64 ((ji58) - 1)) = j_ := ⟨_, rfl⟩
          replace H : (if 0 ≤ (ji59) then (if (ji59) < (l0.length : Int) then ((base_When.f (decide (((rd_T46 l0 x24_1).f0) ≤ ((rd_T46 l0 (ji59)).f1))) 7).bind fun t161 => ((base_First.f k1 (([t159, t161] : List Int))).bind fun t165 => (if t165 = 0 then (privilege_CheckSpans.l0 k1 l0 a1 l0 (l0.length : Int) (wrap64 (x24_1 + 1))) else (some t165)))) else (none)) else (none)) = some r := by first | (rw [hji59] at H; exact H) | (simp only [hji59] at H ⊢; exact H)
          (try rw [hji59] at A56)
          have hji59w : (IntKind.i64.wrap ((ji58) - 1)) = ji59 := (i64_w _).trans hji59
          by_cases c60 : 0 ≤ (ji59)
          ·rw [if_pos c60] at H
           have c60b0 : decide (0 ≤ (ji59)) = true := decide_eq_true c60
           clear c60
           by_cases c61 : (ji59) < (l0.length : Int)
           ·rw [if_pos c61] at H
            have c61b0 : decide ((ji59) < (l0.length : Int)) = true := decide_eq_true c61
            clear c61
            replace H := Option.bind_eq_some_iff.mp H
            obtain ⟨t161, A620, H⟩ := H
            replace H : ((base_First.f k1 (([t159, t161] : List Int))).bind fun t165 => (if t165 = 0 then (privilege_CheckSpans.l0 k1 l0 a1 l0 (l0.length : Int) (wrap64 (x24_1 + 1))) else (some t165))) = some r := H
            have A62 := Aside0.mk A620
            clear A620
            obtain ⟨y162, hy162⟩ : ∃ y_ : List Int, y_ = (([t159, t161] : List Int)) := ⟨_, rfl⟩
            replace H : ((base_First.f k1 y162).bind fun t165 => (if t165 = 0 then (privilege_CheckSpans.l0 k1 l0 a1 l0 (l0.length : Int) (wrap64 (x24_1 + 1))) else (some t165))) = some r := by first | (rw [hy162]; with_reducible exact H) | (have H2_ := (Option.bind_some _ _).symm.trans H; rw [hy162]; with_reducible exact H2_) | (have H2_ := (Option.bind_some _ _).symm.trans H; with_reducible exact H2_) | with_reducible exact H | (rw [hy162]; exact H) | exact H
            have Ny162 := Aside0.mk hy162
            clear hy162
            replace H := Option.bind_eq_some_iff.mp H
            obtain ⟨t165, A630, H⟩ := H
            replace H : (if t165 = 0 then (privilege_CheckSpans.l0 k1 l0 a1 l0 (l0.length : Int) (wrap64 (x24_1 + 1))) else (some t165)) = some r := H
            have A63 := Aside0.mk A630
            clear A630
            by_cases c64 : t165 = 0
            ·rw [if_pos c64] at H
             have c64b0 : (t165 == 0) = true := beq_iff_eq.mpr c64
             have c64b1 : (t165 != 0) = false := bne_eq_false_iff_eq.mpr c64
             clear c64
             have H' := Aside0.mk H
             clear H
             have p145 : 0 ≤ (x24_1 : Int) := of_decide_eq_true (by first | (with_reducible assumption) | assumption)
             have q145 : x24_1 < (l0.length : Int) := of_decide_eq_true (by first | (with_reducible assumption) | assumption)
             obtain ⟨ad145, e145, hx145_0, hx145_1⟩ := at_T46 HR0.out x24_1 p145 q145
             cases e145
             first | replace hx145_0 := (HB.out.cell (World.block_lt_of_cell? w _ hx145_0)).trans hx145_0 | skip
             first | replace hx145_1 := (HB.out.cell (World.block_lt_of_cell? w _ hx145_1)).trans hx145_1 | skip
             replace p145 := eq_true p145
             replace q145 := eq_true q145
             try go_wp2_with (first | ((with_reducible refine gate_dst (N := 7) rfl ?_); (try (refine gate_guard (by rfl) ?_; dsimp only)); refine box_event ?hg (N := 7) ?hd (cs := #[.int .i64 0, .int .i64 0]) (t := 46) ?hr ?_; (case hd => rfl); (case hg => rfl); (case hr => first | (go_simp; done) | (go_simp; rfl)); intro gb146 hg w65 hbox hb; have n0_ := Aside0.mk (below_step (by repeat (first | (with_reducible first | exact HB.out | apply below_alloc | apply pw_below_drewN | apply below_drew1) | exact HB.out)) hb); have n1_ := Aside0.mk (hbox); have n2_ := Aside0.mk ((by rw [hg]; exact (below_size (by repeat (first | (with_reducible first | exact HB.out | apply below_alloc | apply pw_below_drewN | apply below_drew1) | exact HB.out))) : w.heap.size ≤ gb146)); have n3_ := Aside0.mk ((by rw [hg]; exact (below_size (by repeat (first | (with_reducible first | exact HB.out | apply below_alloc | apply pw_below_drewN | apply below_drew1) | exact HB.out))) : w.heap.size ≤ gb146)); clear HB; have HB := n0_; have BK146 := n1_; have GW146 := n2_; have GE146 := n3_; clear n0_ n1_ n2_ n3_; clear hb hbox hg; have hcz66_0 : w65.cell? ⟨gb146, 0, none⟩ = some (.int .i64 0) := (blk_cell BK146.out 0).trans rfl; have hcz66_1 : w65.cell? ⟨gb146, 1, none⟩ = some (.int .i64 0) := (blk_cell BK146.out 1).trans rfl; have hfz66_0 := blk_frozen BK146.out 0; have hfz66_1 := blk_frozen BK146.out 1))
             have n0_ : Aside0 (((w65.setCell ⟨gb146, 0, none⟩ (.int .i64 ((rd_T46 l0 x24_1).f0))).setCell ⟨gb146, 1, none⟩ (.int .i64 ((rd_T46 l0 x24_1).f1))).heap[gb146]? = some (.cells #[.int .i64 ((rd_T46 l0 x24_1).f0), .int .i64 ((rd_T46 l0 x24_1).f1)] 46 (0, 0))) := ⟨by (with_reducible repeat (first | refine blk_drewN ?_ _ | refine blk_drew ?_ | refine blk_alloc ?_ _)); refine blk_put (cs := #[.int .i64 ((rd_T46 l0 x24_1).f0), .int .i64 0]) ?_ 1 _ rfl; (with_reducible repeat (first | refine blk_drewN ?_ _ | refine blk_drew ?_ | refine blk_alloc ?_ _)); refine blk_put (cs := #[.int .i64 0, .int .i64 0]) ?_ 0 _ rfl; (with_reducible repeat (first | refine blk_drewN ?_ _ | refine blk_drew ?_ | refine blk_alloc ?_ _)); exact BK146.out⟩
             have n1_ : Aside0 (Below w.heap.size w ((w65.setCell ⟨gb146, 0, none⟩ (.int .i64 ((rd_T46 l0 x24_1).f0))).setCell ⟨gb146, 1, none⟩ (.int .i64 ((rd_T46 l0 x24_1).f1)))) := ⟨by repeat (first | (with_reducible first | exact HB.out | apply below_alloc | apply pw_below_drewN | apply below_drew1 | refine below_set ?_ GE146.out) | exact HB.out)⟩
             (try clear BK146)
             (try clear HB)
             generalize ((w65.setCell ⟨gb146, 0, none⟩ (.int .i64 ((rd_T46 l0 x24_1).f0))).setCell ⟨gb146, 1, none⟩ (.int .i64 ((rd_T46 l0 x24_1).f1))) = w67 at n0_ n1_ ⊢
             have BK146 := n0_
             have HB := n1_
             clear n0_ n1_
             have n0_ := Aside0.mk (blk_drew BK146.out)
             have n1_ := Aside0.mk (below_drew1 HB.out)
             clear BK146
             clear HB
             have BK146 := n0_
             have HB := n1_
             clear n0_ n1_
             have p160 : 0 ≤ ((ji59) : Int) := of_decide_eq_true (by first | (with_reducible assumption) | assumption)
             have q160 : (ji59) < (l0.length : Int) := of_decide_eq_true (by first | (with_reducible assumption) | assumption)
             obtain ⟨ad160, e160, hx160_0, hx160_1⟩ := at_T46 HR0.out (ji59) p160 q160
             have hw160_1 := hx160_1
             have hw160_0 := hx160_0
             obtain rfl : ad145 = ad160 := (by injection e160)
             first | replace hx160_0 := (HB.out.cell (World.block_lt_of_cell? w _ hx160_0)).trans hx160_0 | skip
             first | replace hx160_1 := (HB.out.cell (World.block_lt_of_cell? w _ hx160_1)).trans hx160_1 | skip
             replace p160 := eq_true p160
             replace q160 := eq_true q160
             refine start_ (n := 35) (S := fun w' => w'.cell? ⟨gb146, 0, none⟩ = some (.int .i64 ((rd_T46 l0 x24_1).f0)) ∧ w'.cell? ⟨gb146, 1, none⟩ = some (.int .i64 ((rd_T46 l0 x24_1).f1)) ∧ w'.cell? (ad145.add (((ji59)).toNat * 2)) = some (.int .i64 ((rd_T46 l0 (ji59)).f0)) ∧ w'.cell? ⟨(ad145.add (((ji59)).toNat * 2)).block, (ad145.add (((ji59)).toNat * 2)).off + 1, none⟩ = some (.int .i64 ((rd_T46 l0 (ji59)).f1))) (ds := []) privilege_CheckSpans.D0 (by kernel_rfl) rfl rfl ⟨(blk_cell BK146.out 0).trans rfl, (blk_cell BK146.out 1).trans rfl, ((HB.out.cell (World.block_lt_of_cell? w _ hw160_0)).trans hw160_0), ((HB.out.cell (World.block_lt_of_cell? w _ hw160_1)).trans hw160_1)⟩ (fun hHeld => ?_); refine with_tabW privilege_CheckSpans.tab7 privilege_CheckSpans.bits7 (fun HT_ HW_ => ?_)
             generalize w67.drew = w68 at BK146 HB hx160_0 hx160_1 hHeld ⊢
             refine pu_ (i := 0) (N := some 29) (v := ?_) (a' := ?_) privilege_CheckSpans.D1 (any_of HT_.out (by kernel_rfl)) ?_ ?_ ?_; rotate_left 2
             ·intro w'; go_simp; with_reducible rfl
             ·simp only [Act.put, s_t, s_z, s_s, i64_w, i32_w]; rfl
             refine pu_ (i := 17) (N := some 46) (v := ?_) (a' := ?_) privilege_CheckSpans.D2 (any_of HT_.out (by kernel_rfl)) ?_ ?_ ?_; rotate_left 2
             ·intro w'; go_simp; with_reducible rfl
             ·simp only [Act.put, s_t, s_z, s_s, i64_w, i32_w]; rfl
             refine pu_ (i := 18) (N := some 47) (v := ?_) (a' := ?_) privilege_CheckSpans.D3 (any_of HT_.out (by kernel_rfl)) ?_ ?_ ?_; rotate_left 2
             ·intro w'; go_simp; with_reducible rfl
             ·simp only [Act.put, s_t, s_z, s_s, i64_w, i32_w]; rfl
             refine take_ (i := 1) (N := some 30) (v := ?_) (a' := ?_) privilege_CheckSpans.D4 rfl rfl (take_ofW HT_.out HW_.out (by kernel_rfl)) (fun _ _ _ h => h) (Or.inl ⟨by rfl, ?_⟩) hHeld ?_ ?_
             rotate_left
             ·rintro w' ⟨s0, s1, s2, s3⟩
              go_simp
              with_reducible rfl
             rotate_left
             ·simp only [Act.put, List.setIfInBounds_toArray, List.set_cons_zero, List.set_cons_succ, i64_w, i32_w]
              rfl
             refine pu_ (i := 2) (N := some 31) (v := ?_) (a' := ?_) privilege_CheckSpans.D5 (any_of HT_.out (by kernel_rfl)) ?_ ?_ ?_; rotate_left 2
             ·intro w'; go_simp; with_reducible rfl
             ·simp only [Act.put, s_t, s_z, s_s, i64_w, i32_w]; rfl
             refine pu_ (i := 3) (N := some 32) (v := ?_) (a' := ?_) privilege_CheckSpans.D6 (any_of HT_.out (by kernel_rfl)) ?_ ?_ ?_; rotate_left 2
             ·intro w'; go_simp; with_reducible rfl
             ·simp only [Act.put, s_t, s_z, s_s, i64_w, i32_w]; rfl
             refine pu_ (i := 4) (N := some 33) (v := ?_) (a' := ?_) privilege_CheckSpans.D7 (any_of HT_.out (by kernel_rfl)) ?_ ?_ ?_; rotate_left 2
             ·intro w'; go_simp; with_reducible rfl
             ·simp only [Act.put, s_t, s_z, s_s, i64_w, i32_w]; rfl
             refine pu_ (i := 6) (N := some 35) (v := ?_) (a' := ?_) privilege_CheckSpans.D8 (any_of HT_.out (by kernel_rfl)) ?_ ?_ ?_; rotate_left 2
             ·intro w'; go_simp; with_reducible rfl
             ·simp only [Act.put, s_t, s_z, s_s, i64_w, i32_w]; rfl
             refine take_ (i := 5) (N := some 34) (v := ?_) (a' := ?_) privilege_CheckSpans.D10 rfl rfl (take_ofW HT_.out HW_.out (by kernel_rfl)) (fun _ _ _ h => h) (Or.inl ⟨by rfl, ?_⟩) hHeld ?_ ?_
             rotate_left
             ·rintro w' ⟨s0, s1, s2, s3⟩
              go_simp
              with_reducible rfl
             rotate_left
             ·simp only [Act.put, List.setIfInBounds_toArray, List.set_cons_zero, List.set_cons_succ, i64_w, i32_w]
              rfl
             refine take_ (i := 7) (N := some 36) (v := ?_) (a' := ?_) privilege_CheckSpans.D11 rfl rfl (take_ofW HT_.out HW_.out (by kernel_rfl)) (fun _ _ _ h => h) (Or.inl ⟨by rfl, ?_⟩) hHeld ?_ ?_
             rotate_left
             ·rintro w' ⟨s0, s1, s2, s3⟩
              go_simp
              with_reducible rfl
             rotate_left
             ·simp only [Act.put, List.setIfInBounds_toArray, List.set_cons_zero, List.set_cons_succ, i64_w, i32_w]
              rfl
             refine pu_ (i := 8) (N := some 37) (v := ?_) (a' := ?_) privilege_CheckSpans.D12 (any_of HT_.out (by kernel_rfl)) ?_ ?_ ?_; rotate_left 2
             ·intro w'; go_simp; with_reducible rfl
             ·simp only [Act.put, s_t, s_z, s_s, i64_w, i32_w]; rfl
             refine pu_ (i := 9) (N := some 38) (v := ?_) (a' := ?_) privilege_CheckSpans.D13 (any_of HT_.out (by kernel_rfl)) ?_ ?_ ?_; rotate_left 2
             ·intro w'; go_simp; with_reducible rfl
             ·simp only [Act.put, s_t, s_z, s_s, i64_w, i32_w]; rfl
             refine pu_ (i := 10) (N := some 39) (v := ?_) (a' := ?_) privilege_CheckSpans.D14 (any_of HT_.out (by kernel_rfl)) ?_ ?_ ?_; rotate_left 2
             ·intro w'; go_simp; with_reducible rfl
             ·simp only [Act.put, s_t, s_z, s_s, i64_w, i32_w]; rfl
             refine pv_ (i := 11) (N := some 40) (a' := ?_) privilege_CheckSpans.D15 (any_of HT_.out (by kernel_rfl)) ?_ ?_; rotate_left
             ·simp only [Act.put, s_t, s_z, s_s, i64_w, i32_w]; rfl
             refine pv_ (i := 12) (N := some 41) (a' := ?_) privilege_CheckSpans.D17 (any_of HT_.out (by kernel_rfl)) ?_ ?_; rotate_left
             ·simp only [Act.put, s_t, s_z, s_s, i64_w, i32_w]; rfl
             refine pv_ (i := 13) (N := some 42) (a' := ?_) privilege_CheckSpans.D18 (any_of HT_.out (by kernel_rfl)) ?_ ?_; rotate_left
             ·simp only [Act.put, s_t, s_z, s_s, i64_w, i32_w]; rfl
             refine pv_ (i := 14) (N := some 43) (a' := ?_) privilege_CheckSpans.D19 (any_of HT_.out (by kernel_rfl)) ?_ ?_; rotate_left
             ·simp only [Act.put, s_t, s_z, s_s, i64_w, i32_w]; rfl
             refine pu_ (i := 15) (N := some 44) (v := ?_) (a' := ?_) privilege_CheckSpans.D20 (any_of HT_.out (by kernel_rfl)) ?_ ?_ ?_; rotate_left 2
             ·intro w'; go_simp; with_reducible rfl
             ·simp only [Act.put, s_t, s_z, s_s, i64_w, i32_w]; rfl
             refine one_ (i := 16) (N := some 45) privilege_CheckSpans.D21 rfl rfl (one_of HT_.out (by kernel_rfl)) (by decide) (fun K hK => ?_)
             refine goes_ Tryd.func46 (by kernel_rfl) rfl #[.bool true, .int .i64 1] (by rfl) rfl rfl (by (try simp only [List.map_toArray, List.map_cons, List.map_nil]); first | done | rfl | (simp only [List.length_drop, List.length_take]; rfl)) ?_
             with_reducible refine (base_When.calls true 1 t159 _ A56.out).mono ?_
             rintro e w' ⟨rfl, ⟨nd, rfl⟩⟩
             refine ⟨_, rfl, ?_⟩
             refine hK.out _ _ ⟨(blk_cell BK146.out 0).trans rfl, (blk_cell BK146.out 1).trans rfl, ((HB.out.cell (World.block_lt_of_cell? w _ hw160_0)).trans hw160_0), ((HB.out.cell (World.block_lt_of_cell? w _ hw160_1)).trans hw160_1)⟩ (fun hHeld => ?_)
             clear hK K
             refine norm_ (a' := ?_) ?_ ?_
             rotate_left
             ·show Act.put _ (some 45) _ = _
              simp only [Act.put, List.setIfInBounds_toArray, List.set_cons_zero, List.set_cons_succ, i64_w, i32_w]
              rfl
             refine pu_ (i := 19) (N := some 48) (v := ?_) (a' := ?_) privilege_CheckSpans.D22 (any_of HT_.out (by kernel_rfl)) ?_ ?_ ?_; rotate_left 2
             ·intro w'; go_simp; with_reducible rfl
             ·simp only [Act.put, s_t, s_z, s_s, i64_w, i32_w]; rfl
             refine pu_ (i := 20) (N := some 49) (v := ?_) (a' := ?_) privilege_CheckSpans.D23 (any_of HT_.out (by kernel_rfl)) ?_ ?_ ?_; rotate_left 2
             ·intro w'; go_simp; with_reducible rfl
             ·simp only [Act.put, s_t, s_z, s_s, i64_w, i32_w]; rfl
             refine pu_ (i := 22) (N := some 51) (v := ?_) (a' := ?_) privilege_CheckSpans.D24 (any_of HT_.out (by kernel_rfl)) ?_ ?_ ?_; rotate_left 2
             ·intro w'; go_simp; with_reducible rfl
             ·simp only [Act.put, s_t, s_z, s_s, i64_w, i32_w]; rfl
             refine pu_ (i := 23) (N := some 52) (v := ?_) (a' := ?_) privilege_CheckSpans.D25 (any_of HT_.out (by kernel_rfl)) ?_ ?_ ?_; rotate_left 2
             ·intro w'; go_simp; with_reducible rfl
             ·simp only [Act.put, s_t, s_z, s_s, i64_w, i32_w]; rfl
             refine pu_ (i := 24) (N := some 53) (v := ?_) (a' := ?_) privilege_CheckSpans.D26 (any_of HT_.out (by kernel_rfl)) ?_ ?_ ?_; rotate_left 2
             ·intro w'; go_simp; with_reducible rfl
             ·simp only [Act.put, s_t, s_z, s_s, i64_w, i32_w]; rfl
             refine pu_ (i := 25) (N := some 54) (v := ?_) (a' := ?_) privilege_CheckSpans.D27 (any_of HT_.out (by kernel_rfl)) ?_ ?_ ?_; rotate_left 2
             ·intro w'; go_simp; with_reducible rfl
             ·simp only [Act.put, s_t, s_z, s_s, i64_w, i32_w]; rfl
             refine pu_ (i := 26) (N := some 55) (v := ?_) (a' := ?_) privilege_CheckSpans.D28 (any_of HT_.out (by kernel_rfl)) ?_ ?_ ?_; rotate_left 2
             ·intro w'; go_simp; with_reducible rfl
             ·simp only [Act.put, s_t, s_z, s_s, i64_w, i32_w]; rfl
             refine pu_ (i := 27) (N := some 56) (v := ?_) (a' := ?_) privilege_CheckSpans.D29 (any_of HT_.out (by kernel_rfl)) ?_ ?_ ?_; rotate_left 2
             ·intro w'; go_simp; with_reducible rfl
             ·simp only [Act.put, s_t, s_z, s_s, i64_w, i32_w]; rfl
             refine take_ (i := 21) (N := some 50) (v := ?_) (a' := ?_) privilege_CheckSpans.D36 rfl rfl (take_ofW HT_.out HW_.out (by kernel_rfl)) (fun _ _ _ h => h) (Or.inl ⟨by rfl, ?_⟩) hHeld ?_ ?_
             rotate_left
             ·rintro w' ⟨s0, s1, s2, s3⟩
              go_simp
              with_reducible rfl
             rotate_left
             ·simp only [Act.put, List.setIfInBounds_toArray, List.set_cons_zero, List.set_cons_succ, i64_w, i32_w]
              rfl
             refine take_ (i := 28) (N := some 57) (v := ?_) (a' := ?_) privilege_CheckSpans.D37 rfl rfl (take_ofW HT_.out HW_.out (by kernel_rfl)) (fun _ _ _ h => h) (Or.inl ⟨by rfl, ?_⟩) hHeld ?_ ?_
             rotate_left
             ·rintro w' ⟨s0, s1, s2, s3⟩
              go_simp
              with_reducible rfl
             rotate_left
             ·simp only [Act.put, List.setIfInBounds_toArray, List.set_cons_zero, List.set_cons_succ, i64_w, i32_w]
              rfl
             refine pu_ (i := 29) (N := some 58) (v := ?_) (a' := ?_) privilege_CheckSpans.D38 (any_of HT_.out (by kernel_rfl)) ?_ ?_ ?_; rotate_left 2
             ·intro w'; go_simp; with_reducible rfl
             ·simp only [Act.put, s_t, s_z, s_s, i64_w, i32_w]; rfl
             refine pu_ (i := 30) (N := some 59) (v := ?_) (a' := ?_) privilege_CheckSpans.D39 (any_of HT_.out (by kernel_rfl)) ?_ ?_ ?_; rotate_left 2
             ·intro w'; go_simp; with_reducible rfl
             ·simp only [Act.put, s_t, s_z, s_s, i64_w, i32_w]; rfl
             refine one_ (i := 31) (N := some 60) privilege_CheckSpans.D40 rfl rfl (one_of HT_.out (by kernel_rfl)) (by decide) (fun K hK => ?_)
             refine goes_ Tryd.func46 (by kernel_rfl) rfl #[.bool (decide (((rd_T46 l0 x24_1).f0) ≤ ((rd_T46 l0 (ji59)).f1))), .int .i64 7] (by rfl) rfl rfl (by (try simp only [List.map_toArray, List.map_cons, List.map_nil]); first | done | (simp only [hji59]; rfl) | rfl | (simp only [List.length_drop, List.length_take]; rfl)) ?_
             with_reducible refine (base_When.calls (decide (((rd_T46 l0 x24_1).f0) ≤ ((rd_T46 l0 (ji59)).f1))) 7 t161 _ A62.out).mono ?_
             rintro e w' ⟨rfl, ⟨nd, rfl⟩⟩
             refine ⟨_, rfl, ?_⟩
             refine hK.out _ _ ⟨(blk_cell BK146.out 0).trans rfl, (blk_cell BK146.out 1).trans rfl, ((HB.out.cell (World.block_lt_of_cell? w _ hw160_0)).trans hw160_0), ((HB.out.cell (World.block_lt_of_cell? w _ hw160_1)).trans hw160_1)⟩ (fun hHeld => ?_)
             clear hK K
             refine norm_ (a' := ?_) ?_ ?_
             rotate_left
             ·show Act.put _ (some 60) _ = _
              simp only [Act.put, List.setIfInBounds_toArray, List.set_cons_zero, List.set_cons_succ, i64_w, i32_w]
              rfl
             refine one_ (i := 32) (N := some 61) privilege_CheckSpans.D41 rfl rfl (one_of HT_.out (by kernel_rfl)) (by decide) (fun K hK => ?_)
             refine Kd.R_lit_step (Kd.int .i64) _ 29 ?hg (N := 61) ?hd (xs := ([t159, t161] : List Int)) (inner := [.int .i64 t159, .int .i64 t161]) (ok := fun _ => True) (okp := fun _ => True) ?hr ?hp (fun _ hk => hk) trivial (Below.refl _ _) (Nat.le_refl _) (by simp) ?_; (case hd => rfl); (case hg => rfl); (case hr => first | (go_simp; done) | (go_simp; rfl)); (case hp => exact (Reps.one (show Kd.M (Kd.int .i64) _ _ _ t159 [.int .i64 t159] from rfl) (Reps.one (show Kd.M (Kd.int .i64) _ _ _ t161 [.int .i64 t161] from rfl) (Reps.none _ _))))
             intro v163 w69 ho70 hb hg_ hnew_
             clear hg_ hnew_
             (first | rw [← Ny162.out] at ho70 | (simp only [Int.reduceToNat] at ho70; rw [← Ny162.out] at ho70))
             have n0_ := Aside0.mk (Kd.R_lower ho70 (below_size (by repeat (first | (with_reducible first | exact HB.out | apply below_alloc | apply pw_below_drewN | apply below_drew1 | refine below_set ?_ GE146.out) | exact HB.out))))
             have n1_ := Aside0.mk (blk_below (g := gb146) (o := .cells #[.int .i64 ((rd_T46 l0 x24_1).f0), .int .i64 ((rd_T46 l0 x24_1).f1)] 46 (0, 0)) (by (with_reducible repeat (first | refine blk_drewN ?_ _ | refine blk_drew ?_ | refine blk_alloc ?_ _)); exact BK146.out) hb)
             have n2_ := Aside0.mk (below_step (by repeat (first | (with_reducible first | exact HB.out | apply below_alloc | apply pw_below_drewN | apply below_drew1 | refine below_set ?_ GE146.out) | exact HB.out)) hb)
             clear BK146
             clear HB
             have HO164 := n0_
             have BK146 := n1_
             have HB := n2_
             clear n0_ n1_ n2_
             clear hb ho70
             obtain ⟨Ao71, co71, eo71⟩ := Kd.R_slice HO164.out
             (first | subst eo71 | (injection eo71 with f1_ f2_ f3_; have f4_ := f1_.symm; have f5_ := f3_.symm; clear f1_ f2_ f3_; subst f4_; subst f5_))
             refine hK.out _ _ ⟨(blk_cell BK146.out 0).trans rfl, (blk_cell BK146.out 1).trans rfl, ((HB.out.cell (World.block_lt_of_cell? w _ hw160_0)).trans hw160_0), ((HB.out.cell (World.block_lt_of_cell? w _ hw160_1)).trans hw160_1)⟩ (fun hHeld => ?_)
             clear hK K
             refine norm_ (a' := ?_) ?_ ?_
             rotate_left
             ·show Act.put _ (some 61) _ = _
              simp only [Act.put, List.setIfInBounds_toArray, List.set_cons_zero, List.set_cons_succ, i64_w, i32_w]
              rfl
             refine one_ (i := 33) (N := some 62) privilege_CheckSpans.D42 rfl rfl (one_of HT_.out (by kernel_rfl)) (by decide) (fun K hK => ?_)
             refine goes_ Tryd.func45 (by kernel_rfl) rfl #[.slice Ao71 y162.length co71] (by rfl) rfl rfl (by (try simp only [List.map_toArray, List.map_cons, List.map_nil]); first | done | rfl | (simp only [List.length_drop, List.length_take]; rfl)) ?_
             with_reducible refine (base_First.calls k1 _ _ y162 t165 _ ?side1 ?side2 A63.out).mono ?_
             (case side1 => repeat (first | exact (Kd.R_reads' HO164.out).2.2 | (with_reducible refine Kd.C_alloc ?_ _) | (with_reducible refine Kd.C_drewN ?_ _) | (with_reducible refine Kd.C_drew ?_)))
             (case side2 => exact (Kd.R_reads' HO164.out).2.1)
             rintro e w' ⟨rfl, ⟨nd, rfl⟩⟩
             refine ⟨_, rfl, ?_⟩
             refine hK.out _ _ ⟨(blk_cell BK146.out 0).trans rfl, (blk_cell BK146.out 1).trans rfl, ((HB.out.cell (World.block_lt_of_cell? w _ hw160_0)).trans hw160_0), ((HB.out.cell (World.block_lt_of_cell? w _ hw160_1)).trans hw160_1)⟩ (fun hHeld => ?_)
             clear hK K
             refine norm_ (a' := ?_) ?_ ?_
             rotate_left
             ·show Act.put _ (some 62) _ = _
              simp only [Act.put, List.setIfInBounds_toArray, List.set_cons_zero, List.set_cons_succ, i64_w, i32_w]
              rfl
             refine pu_ (i := 34) (N := some 8) (v := ?_) (a' := ?_) privilege_CheckSpans.D43 (any_of HT_.out (by kernel_rfl)) ?_ ?_ ?_; rotate_left 2
             ·intro w'; go_simp; with_reducible rfl
             ·simp only [Act.put, s_t, s_z, s_s, i64_w, i32_w]; rfl
             refine done_ (done_of HT_.out (by kernel_rfl)) ?_
             try go_wp2
             go_roundg k1
             case measure => have := HK1.out; omega
             case rel => exact ⟨(wrap64 (x24_1 + 1)), (by first | rfl | (simp; done) | (simp [*]; done)), H', ⟨by have := HK1.out; omega⟩, ⟨by repeat (first | (with_reducible first | exact HB.out | apply below_alloc | apply pw_below_drewN | apply below_drew1 | refine below_set ?_ GE146.out) | exact HB.out)⟩⟩
            ·rw [if_neg c64] at H
             have c64b0 : (t165 == 0) = false := beq_eq_false_iff_ne.mpr c64
             have c64b1 : (t165 != 0) = true := bne_iff_ne.mpr c64
             obtain rfl := Option.some.inj H
             have p145 : 0 ≤ (x24_1 : Int) := of_decide_eq_true (by first | (with_reducible assumption) | assumption)
             have q145 : x24_1 < (l0.length : Int) := of_decide_eq_true (by first | (with_reducible assumption) | assumption)
             obtain ⟨ad145, e145, hx145_0, hx145_1⟩ := at_T46 HR0.out x24_1 p145 q145
             cases e145
             first | replace hx145_0 := (HB.out.cell (World.block_lt_of_cell? w _ hx145_0)).trans hx145_0 | skip
             first | replace hx145_1 := (HB.out.cell (World.block_lt_of_cell? w _ hx145_1)).trans hx145_1 | skip
             replace p145 := eq_true p145
             replace q145 := eq_true q145
             try go_wp2_with (first | ((with_reducible refine gate_dst (N := 7) rfl ?_); (try (refine gate_guard (by rfl) ?_; dsimp only)); refine box_event ?hg (N := 7) ?hd (cs := #[.int .i64 0, .int .i64 0]) (t := 46) ?hr ?_; (case hd => rfl); (case hg => rfl); (case hr => first | (go_simp; done) | (go_simp; rfl)); intro gb146 hg w72 hbox hb; have n0_ := Aside0.mk (below_step (by repeat (first | (with_reducible first | exact HB.out | apply below_alloc | apply pw_below_drewN | apply below_drew1) | exact HB.out)) hb); have n1_ := Aside0.mk (hbox); have n2_ := Aside0.mk ((by rw [hg]; exact (below_size (by repeat (first | (with_reducible first | exact HB.out | apply below_alloc | apply pw_below_drewN | apply below_drew1) | exact HB.out))) : w.heap.size ≤ gb146)); have n3_ := Aside0.mk ((by rw [hg]; exact (below_size (by repeat (first | (with_reducible first | exact HB.out | apply below_alloc | apply pw_below_drewN | apply below_drew1) | exact HB.out))) : w.heap.size ≤ gb146)); clear HB; have HB := n0_; have BK146 := n1_; have GW146 := n2_; have GE146 := n3_; clear n0_ n1_ n2_ n3_; clear hb hbox hg; have hcz73_0 : w72.cell? ⟨gb146, 0, none⟩ = some (.int .i64 0) := (blk_cell BK146.out 0).trans rfl; have hcz73_1 : w72.cell? ⟨gb146, 1, none⟩ = some (.int .i64 0) := (blk_cell BK146.out 1).trans rfl; have hfz73_0 := blk_frozen BK146.out 0; have hfz73_1 := blk_frozen BK146.out 1))
             have n0_ : Aside0 (((w72.setCell ⟨gb146, 0, none⟩ (.int .i64 ((rd_T46 l0 x24_1).f0))).setCell ⟨gb146, 1, none⟩ (.int .i64 ((rd_T46 l0 x24_1).f1))).heap[gb146]? = some (.cells #[.int .i64 ((rd_T46 l0 x24_1).f0), .int .i64 ((rd_T46 l0 x24_1).f1)] 46 (0, 0))) := ⟨by (with_reducible repeat (first | refine blk_drewN ?_ _ | refine blk_drew ?_ | refine blk_alloc ?_ _)); refine blk_put (cs := #[.int .i64 ((rd_T46 l0 x24_1).f0), .int .i64 0]) ?_ 1 _ rfl; (with_reducible repeat (first | refine blk_drewN ?_ _ | refine blk_drew ?_ | refine blk_alloc ?_ _)); refine blk_put (cs := #[.int .i64 0, .int .i64 0]) ?_ 0 _ rfl; (with_reducible repeat (first | refine blk_drewN ?_ _ | refine blk_drew ?_ | refine blk_alloc ?_ _)); exact BK146.out⟩
             have n1_ : Aside0 (Below w.heap.size w ((w72.setCell ⟨gb146, 0, none⟩ (.int .i64 ((rd_T46 l0 x24_1).f0))).setCell ⟨gb146, 1, none⟩ (.int .i64 ((rd_T46 l0 x24_1).f1)))) := ⟨by repeat (first | (with_reducible first | exact HB.out | apply below_alloc | apply pw_below_drewN | apply below_drew1 | refine below_set ?_ GE146.out) | exact HB.out)⟩
             (try clear BK146)
             (try clear HB)
             generalize ((w72.setCell ⟨gb146, 0, none⟩ (.int .i64 ((rd_T46 l0 x24_1).f0))).setCell ⟨gb146, 1, none⟩ (.int .i64 ((rd_T46 l0 x24_1).f1))) = w74 at n0_ n1_ ⊢
             have BK146 := n0_
             have HB := n1_
             clear n0_ n1_
             have n0_ := Aside0.mk (blk_drew BK146.out)
             have n1_ := Aside0.mk (below_drew1 HB.out)
             clear BK146
             clear HB
             have BK146 := n0_
             have HB := n1_
             clear n0_ n1_
             have p160 : 0 ≤ ((ji59) : Int) := of_decide_eq_true (by first | (with_reducible assumption) | assumption)
             have q160 : (ji59) < (l0.length : Int) := of_decide_eq_true (by first | (with_reducible assumption) | assumption)
             obtain ⟨ad160, e160, hx160_0, hx160_1⟩ := at_T46 HR0.out (ji59) p160 q160
             have hw160_1 := hx160_1
             have hw160_0 := hx160_0
             obtain rfl : ad145 = ad160 := (by injection e160)
             first | replace hx160_0 := (HB.out.cell (World.block_lt_of_cell? w _ hx160_0)).trans hx160_0 | skip
             first | replace hx160_1 := (HB.out.cell (World.block_lt_of_cell? w _ hx160_1)).trans hx160_1 | skip
             replace p160 := eq_true p160
             replace q160 := eq_true q160
             refine start_ (n := 35) (S := fun w' => w'.cell? ⟨gb146, 0, none⟩ = some (.int .i64 ((rd_T46 l0 x24_1).f0)) ∧ w'.cell? ⟨gb146, 1, none⟩ = some (.int .i64 ((rd_T46 l0 x24_1).f1)) ∧ w'.cell? (ad145.add (((ji59)).toNat * 2)) = some (.int .i64 ((rd_T46 l0 (ji59)).f0)) ∧ w'.cell? ⟨(ad145.add (((ji59)).toNat * 2)).block, (ad145.add (((ji59)).toNat * 2)).off + 1, none⟩ = some (.int .i64 ((rd_T46 l0 (ji59)).f1))) (ds := []) privilege_CheckSpans.D0 (by kernel_rfl) rfl rfl ⟨(blk_cell BK146.out 0).trans rfl, (blk_cell BK146.out 1).trans rfl, ((HB.out.cell (World.block_lt_of_cell? w _ hw160_0)).trans hw160_0), ((HB.out.cell (World.block_lt_of_cell? w _ hw160_1)).trans hw160_1)⟩ (fun hHeld => ?_); refine with_tabW privilege_CheckSpans.tab7 privilege_CheckSpans.bits7 (fun HT_ HW_ => ?_)
             generalize w74.drew = w75 at BK146 HB hx160_0 hx160_1 hHeld ⊢
             refine pu_ (i := 0) (N := some 29) (v := ?_) (a' := ?_) privilege_CheckSpans.D1 (any_of HT_.out (by kernel_rfl)) ?_ ?_ ?_; rotate_left 2
             ·intro w'; go_simp; with_reducible rfl
             ·simp only [Act.put, s_t, s_z, s_s, i64_w, i32_w]; rfl
             refine pu_ (i := 17) (N := some 46) (v := ?_) (a' := ?_) privilege_CheckSpans.D2 (any_of HT_.out (by kernel_rfl)) ?_ ?_ ?_; rotate_left 2
             ·intro w'; go_simp; with_reducible rfl
             ·simp only [Act.put, s_t, s_z, s_s, i64_w, i32_w]; rfl
             refine pu_ (i := 18) (N := some 47) (v := ?_) (a' := ?_) privilege_CheckSpans.D3 (any_of HT_.out (by kernel_rfl)) ?_ ?_ ?_; rotate_left 2
             ·intro w'; go_simp; with_reducible rfl
             ·simp only [Act.put, s_t, s_z, s_s, i64_w, i32_w]; rfl
             refine take_ (i := 1) (N := some 30) (v := ?_) (a' := ?_) privilege_CheckSpans.D4 rfl rfl (take_ofW HT_.out HW_.out (by kernel_rfl)) (fun _ _ _ h => h) (Or.inl ⟨by rfl, ?_⟩) hHeld ?_ ?_
             rotate_left
             ·rintro w' ⟨s0, s1, s2, s3⟩
              go_simp
              with_reducible rfl
             rotate_left
             ·simp only [Act.put, List.setIfInBounds_toArray, List.set_cons_zero, List.set_cons_succ, i64_w, i32_w]
              rfl
             refine pu_ (i := 2) (N := some 31) (v := ?_) (a' := ?_) privilege_CheckSpans.D5 (any_of HT_.out (by kernel_rfl)) ?_ ?_ ?_; rotate_left 2
             ·intro w'; go_simp; with_reducible rfl
             ·simp only [Act.put, s_t, s_z, s_s, i64_w, i32_w]; rfl
             refine pu_ (i := 3) (N := some 32) (v := ?_) (a' := ?_) privilege_CheckSpans.D6 (any_of HT_.out (by kernel_rfl)) ?_ ?_ ?_; rotate_left 2
             ·intro w'; go_simp; with_reducible rfl
             ·simp only [Act.put, s_t, s_z, s_s, i64_w, i32_w]; rfl
             refine pu_ (i := 4) (N := some 33) (v := ?_) (a' := ?_) privilege_CheckSpans.D7 (any_of HT_.out (by kernel_rfl)) ?_ ?_ ?_; rotate_left 2
             ·intro w'; go_simp; with_reducible rfl
             ·simp only [Act.put, s_t, s_z, s_s, i64_w, i32_w]; rfl
             refine pu_ (i := 6) (N := some 35) (v := ?_) (a' := ?_) privilege_CheckSpans.D8 (any_of HT_.out (by kernel_rfl)) ?_ ?_ ?_; rotate_left 2
             ·intro w'; go_simp; with_reducible rfl
             ·simp only [Act.put, s_t, s_z, s_s, i64_w, i32_w]; rfl
             refine take_ (i := 5) (N := some 34) (v := ?_) (a' := ?_) privilege_CheckSpans.D10 rfl rfl (take_ofW HT_.out HW_.out (by kernel_rfl)) (fun _ _ _ h => h) (Or.inl ⟨by rfl, ?_⟩) hHeld ?_ ?_
             rotate_left
             ·rintro w' ⟨s0, s1, s2, s3⟩
              go_simp
              with_reducible rfl
             rotate_left
             ·simp only [Act.put, List.setIfInBounds_toArray, List.set_cons_zero, List.set_cons_succ, i64_w, i32_w]
              rfl
             refine take_ (i := 7) (N := some 36) (v := ?_) (a' := ?_) privilege_CheckSpans.D11 rfl rfl (take_ofW HT_.out HW_.out (by kernel_rfl)) (fun _ _ _ h => h) (Or.inl ⟨by rfl, ?_⟩) hHeld ?_ ?_
             rotate_left
             ·rintro w' ⟨s0, s1, s2, s3⟩
              go_simp
              with_reducible rfl
             rotate_left
             ·simp only [Act.put, List.setIfInBounds_toArray, List.set_cons_zero, List.set_cons_succ, i64_w, i32_w]
              rfl
             refine pu_ (i := 8) (N := some 37) (v := ?_) (a' := ?_) privilege_CheckSpans.D12 (any_of HT_.out (by kernel_rfl)) ?_ ?_ ?_; rotate_left 2
             ·intro w'; go_simp; with_reducible rfl
             ·simp only [Act.put, s_t, s_z, s_s, i64_w, i32_w]; rfl
             refine pu_ (i := 9) (N := some 38) (v := ?_) (a' := ?_) privilege_CheckSpans.D13 (any_of HT_.out (by kernel_rfl)) ?_ ?_ ?_; rotate_left 2
             ·intro w'; go_simp; with_reducible rfl
             ·simp only [Act.put, s_t, s_z, s_s, i64_w, i32_w]; rfl
             refine pu_ (i := 10) (N := some 39) (v := ?_) (a' := ?_) privilege_CheckSpans.D14 (any_of HT_.out (by kernel_rfl)) ?_ ?_ ?_; rotate_left 2
             ·intro w'; go_simp; with_reducible rfl
             ·simp only [Act.put, s_t, s_z, s_s, i64_w, i32_w]; rfl
             refine pv_ (i := 11) (N := some 40) (a' := ?_) privilege_CheckSpans.D15 (any_of HT_.out (by kernel_rfl)) ?_ ?_; rotate_left
             ·simp only [Act.put, s_t, s_z, s_s, i64_w, i32_w]; rfl
             refine pv_ (i := 12) (N := some 41) (a' := ?_) privilege_CheckSpans.D17 (any_of HT_.out (by kernel_rfl)) ?_ ?_; rotate_left
             ·simp only [Act.put, s_t, s_z, s_s, i64_w, i32_w]; rfl
             refine pv_ (i := 13) (N := some 42) (a' := ?_) privilege_CheckSpans.D18 (any_of HT_.out (by kernel_rfl)) ?_ ?_; rotate_left
             ·simp only [Act.put, s_t, s_z, s_s, i64_w, i32_w]; rfl
             refine pv_ (i := 14) (N := some 43) (a' := ?_) privilege_CheckSpans.D19 (any_of HT_.out (by kernel_rfl)) ?_ ?_; rotate_left
             ·simp only [Act.put, s_t, s_z, s_s, i64_w, i32_w]; rfl
             refine pu_ (i := 15) (N := some 44) (v := ?_) (a' := ?_) privilege_CheckSpans.D20 (any_of HT_.out (by kernel_rfl)) ?_ ?_ ?_; rotate_left 2
             ·intro w'; go_simp; with_reducible rfl
             ·simp only [Act.put, s_t, s_z, s_s, i64_w, i32_w]; rfl
             refine one_ (i := 16) (N := some 45) privilege_CheckSpans.D21 rfl rfl (one_of HT_.out (by kernel_rfl)) (by decide) (fun K hK => ?_)
             refine goes_ Tryd.func46 (by kernel_rfl) rfl #[.bool true, .int .i64 1] (by rfl) rfl rfl (by (try simp only [List.map_toArray, List.map_cons, List.map_nil]); first | done | rfl | (simp only [List.length_drop, List.length_take]; rfl)) ?_
             with_reducible refine (base_When.calls true 1 t159 _ A56.out).mono ?_
             rintro e w' ⟨rfl, ⟨nd, rfl⟩⟩
             refine ⟨_, rfl, ?_⟩
             refine hK.out _ _ ⟨(blk_cell BK146.out 0).trans rfl, (blk_cell BK146.out 1).trans rfl, ((HB.out.cell (World.block_lt_of_cell? w _ hw160_0)).trans hw160_0), ((HB.out.cell (World.block_lt_of_cell? w _ hw160_1)).trans hw160_1)⟩ (fun hHeld => ?_)
             clear hK K
             refine norm_ (a' := ?_) ?_ ?_
             rotate_left
             ·show Act.put _ (some 45) _ = _
              simp only [Act.put, List.setIfInBounds_toArray, List.set_cons_zero, List.set_cons_succ, i64_w, i32_w]
              rfl
             refine pu_ (i := 19) (N := some 48) (v := ?_) (a' := ?_) privilege_CheckSpans.D22 (any_of HT_.out (by kernel_rfl)) ?_ ?_ ?_; rotate_left 2
             ·intro w'; go_simp; with_reducible rfl
             ·simp only [Act.put, s_t, s_z, s_s, i64_w, i32_w]; rfl
             refine pu_ (i := 20) (N := some 49) (v := ?_) (a' := ?_) privilege_CheckSpans.D23 (any_of HT_.out (by kernel_rfl)) ?_ ?_ ?_; rotate_left 2
             ·intro w'; go_simp; with_reducible rfl
             ·simp only [Act.put, s_t, s_z, s_s, i64_w, i32_w]; rfl
             refine pu_ (i := 22) (N := some 51) (v := ?_) (a' := ?_) privilege_CheckSpans.D24 (any_of HT_.out (by kernel_rfl)) ?_ ?_ ?_; rotate_left 2
             ·intro w'; go_simp; with_reducible rfl
             ·simp only [Act.put, s_t, s_z, s_s, i64_w, i32_w]; rfl
             refine pu_ (i := 23) (N := some 52) (v := ?_) (a' := ?_) privilege_CheckSpans.D25 (any_of HT_.out (by kernel_rfl)) ?_ ?_ ?_; rotate_left 2
             ·intro w'; go_simp; with_reducible rfl
             ·simp only [Act.put, s_t, s_z, s_s, i64_w, i32_w]; rfl
             refine pu_ (i := 24) (N := some 53) (v := ?_) (a' := ?_) privilege_CheckSpans.D26 (any_of HT_.out (by kernel_rfl)) ?_ ?_ ?_; rotate_left 2
             ·intro w'; go_simp; with_reducible rfl
             ·simp only [Act.put, s_t, s_z, s_s, i64_w, i32_w]; rfl
             refine pu_ (i := 25) (N := some 54) (v := ?_) (a' := ?_) privilege_CheckSpans.D27 (any_of HT_.out (by kernel_rfl)) ?_ ?_ ?_; rotate_left 2
             ·intro w'; go_simp; with_reducible rfl
             ·simp only [Act.put, s_t, s_z, s_s, i64_w, i32_w]; rfl
             refine pu_ (i := 26) (N := some 55) (v := ?_) (a' := ?_) privilege_CheckSpans.D28 (any_of HT_.out (by kernel_rfl)) ?_ ?_ ?_; rotate_left 2
             ·intro w'; go_simp; with_reducible rfl
             ·simp only [Act.put, s_t, s_z, s_s, i64_w, i32_w]; rfl
             refine pu_ (i := 27) (N := some 56) (v := ?_) (a' := ?_) privilege_CheckSpans.D29 (any_of HT_.out (by kernel_rfl)) ?_ ?_ ?_; rotate_left 2
             ·intro w'; go_simp; with_reducible rfl
             ·simp only [Act.put, s_t, s_z, s_s, i64_w, i32_w]; rfl
             refine take_ (i := 21) (N := some 50) (v := ?_) (a' := ?_) privilege_CheckSpans.D36 rfl rfl (take_ofW HT_.out HW_.out (by kernel_rfl)) (fun _ _ _ h => h) (Or.inl ⟨by rfl, ?_⟩) hHeld ?_ ?_
             rotate_left
             ·rintro w' ⟨s0, s1, s2, s3⟩
              go_simp
              with_reducible rfl
             rotate_left
             ·simp only [Act.put, List.setIfInBounds_toArray, List.set_cons_zero, List.set_cons_succ, i64_w, i32_w]
              rfl
             refine take_ (i := 28) (N := some 57) (v := ?_) (a' := ?_) privilege_CheckSpans.D37 rfl rfl (take_ofW HT_.out HW_.out (by kernel_rfl)) (fun _ _ _ h => h) (Or.inl ⟨by rfl, ?_⟩) hHeld ?_ ?_
             rotate_left
             ·rintro w' ⟨s0, s1, s2, s3⟩
              go_simp
              with_reducible rfl
             rotate_left
             ·simp only [Act.put, List.setIfInBounds_toArray, List.set_cons_zero, List.set_cons_succ, i64_w, i32_w]
              rfl
             refine pu_ (i := 29) (N := some 58) (v := ?_) (a' := ?_) privilege_CheckSpans.D38 (any_of HT_.out (by kernel_rfl)) ?_ ?_ ?_; rotate_left 2
             ·intro w'; go_simp; with_reducible rfl
             ·simp only [Act.put, s_t, s_z, s_s, i64_w, i32_w]; rfl
             refine pu_ (i := 30) (N := some 59) (v := ?_) (a' := ?_) privilege_CheckSpans.D39 (any_of HT_.out (by kernel_rfl)) ?_ ?_ ?_; rotate_left 2
             ·intro w'; go_simp; with_reducible rfl
             ·simp only [Act.put, s_t, s_z, s_s, i64_w, i32_w]; rfl
             refine one_ (i := 31) (N := some 60) privilege_CheckSpans.D40 rfl rfl (one_of HT_.out (by kernel_rfl)) (by decide) (fun K hK => ?_)
             refine goes_ Tryd.func46 (by kernel_rfl) rfl #[.bool (decide (((rd_T46 l0 x24_1).f0) ≤ ((rd_T46 l0 (ji59)).f1))), .int .i64 7] (by rfl) rfl rfl (by (try simp only [List.map_toArray, List.map_cons, List.map_nil]); first | done | (simp only [hji59]; rfl) | rfl | (simp only [List.length_drop, List.length_take]; rfl)) ?_
             with_reducible refine (base_When.calls (decide (((rd_T46 l0 x24_1).f0) ≤ ((rd_T46 l0 (ji59)).f1))) 7 t161 _ A62.out).mono ?_
             rintro e w' ⟨rfl, ⟨nd, rfl⟩⟩
             refine ⟨_, rfl, ?_⟩
             refine hK.out _ _ ⟨(blk_cell BK146.out 0).trans rfl, (blk_cell BK146.out 1).trans rfl, ((HB.out.cell (World.block_lt_of_cell? w _ hw160_0)).trans hw160_0), ((HB.out.cell (World.block_lt_of_cell? w _ hw160_1)).trans hw160_1)⟩ (fun hHeld => ?_)
             clear hK K
             refine norm_ (a' := ?_) ?_ ?_
             rotate_left
             ·show Act.put _ (some 60) _ = _
              simp only [Act.put, List.setIfInBounds_toArray, List.set_cons_zero, List.set_cons_succ, i64_w, i32_w]
              rfl
             refine one_ (i := 32) (N := some 61) privilege_CheckSpans.D41 rfl rfl (one_of HT_.out (by kernel_rfl)) (by decide) (fun K hK => ?_)
             refine Kd.R_lit_step (Kd.int .i64) _ 29 ?hg (N := 61) ?hd (xs := ([t159, t161] : List Int)) (inner := [.int .i64 t159, .int .i64 t161]) (ok := fun _ => True) (okp := fun _ => True) ?hr ?hp (fun _ hk => hk) trivial (Below.refl _ _) (Nat.le_refl _) (by simp) ?_; (case hd => rfl); (case hg => rfl); (case hr => first | (go_simp; done) | (go_simp; rfl)); (case hp => exact (Reps.one (show Kd.M (Kd.int .i64) _ _ _ t159 [.int .i64 t159] from rfl) (Reps.one (show Kd.M (Kd.int .i64) _ _ _ t161 [.int .i64 t161] from rfl) (Reps.none _ _))))
             intro v163 w76 ho77 hb hg_ hnew_
             clear hg_ hnew_
             (first | rw [← Ny162.out] at ho77 | (simp only [Int.reduceToNat] at ho77; rw [← Ny162.out] at ho77))
             have n0_ := Aside0.mk (Kd.R_lower ho77 (below_size (by repeat (first | (with_reducible first | exact HB.out | apply below_alloc | apply pw_below_drewN | apply below_drew1 | refine below_set ?_ GE146.out) | exact HB.out))))
             have n1_ := Aside0.mk (blk_below (g := gb146) (o := .cells #[.int .i64 ((rd_T46 l0 x24_1).f0), .int .i64 ((rd_T46 l0 x24_1).f1)] 46 (0, 0)) (by (with_reducible repeat (first | refine blk_drewN ?_ _ | refine blk_drew ?_ | refine blk_alloc ?_ _)); exact BK146.out) hb)
             have n2_ := Aside0.mk (below_step (by repeat (first | (with_reducible first | exact HB.out | apply below_alloc | apply pw_below_drewN | apply below_drew1 | refine below_set ?_ GE146.out) | exact HB.out)) hb)
             clear BK146
             clear HB
             have HO164 := n0_
             have BK146 := n1_
             have HB := n2_
             clear n0_ n1_ n2_
             clear hb ho77
             obtain ⟨Ao78, co78, eo78⟩ := Kd.R_slice HO164.out
             (first | subst eo78 | (injection eo78 with f1_ f2_ f3_; have f4_ := f1_.symm; have f5_ := f3_.symm; clear f1_ f2_ f3_; subst f4_; subst f5_))
             refine hK.out _ _ ⟨(blk_cell BK146.out 0).trans rfl, (blk_cell BK146.out 1).trans rfl, ((HB.out.cell (World.block_lt_of_cell? w _ hw160_0)).trans hw160_0), ((HB.out.cell (World.block_lt_of_cell? w _ hw160_1)).trans hw160_1)⟩ (fun hHeld => ?_)
             clear hK K
             refine norm_ (a' := ?_) ?_ ?_
             rotate_left
             ·show Act.put _ (some 61) _ = _
              simp only [Act.put, List.setIfInBounds_toArray, List.set_cons_zero, List.set_cons_succ, i64_w, i32_w]
              rfl
             refine one_ (i := 33) (N := some 62) privilege_CheckSpans.D42 rfl rfl (one_of HT_.out (by kernel_rfl)) (by decide) (fun K hK => ?_)
             refine goes_ Tryd.func45 (by kernel_rfl) rfl #[.slice Ao78 y162.length co78] (by rfl) rfl rfl (by (try simp only [List.map_toArray, List.map_cons, List.map_nil]); first | done | rfl | (simp only [List.length_drop, List.length_take]; rfl)) ?_
             with_reducible refine (base_First.calls k1 _ _ y162 t165 _ ?side1 ?side2 A63.out).mono ?_
             (case side1 => repeat (first | exact (Kd.R_reads' HO164.out).2.2 | (with_reducible refine Kd.C_alloc ?_ _) | (with_reducible refine Kd.C_drewN ?_ _) | (with_reducible refine Kd.C_drew ?_)))
             (case side2 => exact (Kd.R_reads' HO164.out).2.1)
             rintro e w' ⟨rfl, ⟨nd, rfl⟩⟩
             refine ⟨_, rfl, ?_⟩
             refine hK.out _ _ ⟨(blk_cell BK146.out 0).trans rfl, (blk_cell BK146.out 1).trans rfl, ((HB.out.cell (World.block_lt_of_cell? w _ hw160_0)).trans hw160_0), ((HB.out.cell (World.block_lt_of_cell? w _ hw160_1)).trans hw160_1)⟩ (fun hHeld => ?_)
             clear hK K
             refine norm_ (a' := ?_) ?_ ?_
             rotate_left
             ·show Act.put _ (some 62) _ = _
              simp only [Act.put, List.setIfInBounds_toArray, List.set_cons_zero, List.set_cons_succ, i64_w, i32_w]
              rfl
             refine pu_ (i := 34) (N := some 8) (v := ?_) (a' := ?_) privilege_CheckSpans.D43 (any_of HT_.out (by kernel_rfl)) ?_ ?_ ?_; rotate_left 2
             ·intro w'; go_simp; with_reducible rfl
             ·simp only [Act.put, s_t, s_z, s_s, i64_w, i32_w]; rfl
             refine done_ (done_of HT_.out (by kernel_rfl)) ?_
             try go_wp2
             go_ret
             exact ⟨by first | rfl | (simp [errW_none, errW_some] <;> rfl) | (simp only [← hji58, ← hji59]; first | rfl | (simp [errW_none, errW_some] <;> rfl)) | (simp [*, errW_none, errW_some] <;> rfl), by repeat (first | (with_reducible first | exact HB.out | apply below_alloc | apply pw_below_drewN | apply below_drew1 | refine below_set ?_ GE146.out) | exact HB.out)⟩
           ·rw [if_neg c61] at H
            exact absurd H (by simp)
          ·rw [if_neg c60] at H
           exact absurd H (by simp)
         ·rw [if_neg c57] at H
          have c57b0 : decide (0 < x24_1) = false := decide_eq_false c57
          clear c57
          replace H := Option.bind_eq_some_iff.mp H
          obtain ⟨t166, A790, H⟩ := H
          replace H : ((base_First.f k1 (([t159, t166] : List Int))).bind fun t170 => (if t170 = 0 then (privilege_CheckSpans.l0 k1 l0 a1 l0 (l0.length : Int) (wrap64 (x24_1 + 1))) else (some t170))) = some r := H
          have A79 := Aside0.mk A790
          clear A790
          obtain ⟨y167, hy167⟩ : ∃ y_ : List Int, y_ = (([t159, t166] : List Int)) := ⟨_, rfl⟩
          replace H : ((base_First.f k1 y167).bind fun t170 => (if t170 = 0 then (privilege_CheckSpans.l0 k1 l0 a1 l0 (l0.length : Int) (wrap64 (x24_1 + 1))) else (some t170))) = some r := by first | (rw [hy167]; with_reducible exact H) | (have H2_ := (Option.bind_some _ _).symm.trans H; rw [hy167]; with_reducible exact H2_) | (have H2_ := (Option.bind_some _ _).symm.trans H; with_reducible exact H2_) | with_reducible exact H | (rw [hy167]; exact H) | exact H
          have Ny167 := Aside0.mk hy167
          clear hy167
          replace H := Option.bind_eq_some_iff.mp H
          obtain ⟨t170, A800, H⟩ := H
          replace H : (if t170 = 0 then (privilege_CheckSpans.l0 k1 l0 a1 l0 (l0.length : Int) (wrap64 (x24_1 + 1))) else (some t170)) = some r := H
          have A80 := Aside0.mk A800
          clear A800
          by_cases c81 : t170 = 0
          ·rw [if_pos c81] at H
           have c81b0 : (t170 == 0) = true := beq_iff_eq.mpr c81
           have c81b1 : (t170 != 0) = false := bne_eq_false_iff_eq.mpr c81
           clear c81
           have H' := Aside0.mk H
           clear H
           have p145 : 0 ≤ (x24_1 : Int) := of_decide_eq_true (by first | (with_reducible assumption) | assumption)
           have q145 : x24_1 < (l0.length : Int) := of_decide_eq_true (by first | (with_reducible assumption) | assumption)
           obtain ⟨ad145, e145, hx145_0, hx145_1⟩ := at_T46 HR0.out x24_1 p145 q145
           cases e145
           first | replace hx145_0 := (HB.out.cell (World.block_lt_of_cell? w _ hx145_0)).trans hx145_0 | skip
           first | replace hx145_1 := (HB.out.cell (World.block_lt_of_cell? w _ hx145_1)).trans hx145_1 | skip
           replace p145 := eq_true p145
           replace q145 := eq_true q145
           try go_wp2_with (first | ((with_reducible refine gate_dst (N := 7) rfl ?_); (try (refine gate_guard (by rfl) ?_; dsimp only)); refine box_event ?hg (N := 7) ?hd (cs := #[.int .i64 0, .int .i64 0]) (t := 46) ?hr ?_; (case hd => rfl); (case hg => rfl); (case hr => first | (go_simp; done) | (go_simp; rfl)); intro gb146 hg w82 hbox hb; have n0_ := Aside0.mk (below_step (by repeat (first | (with_reducible first | exact HB.out | apply below_alloc | apply pw_below_drewN | apply below_drew1) | exact HB.out)) hb); have n1_ := Aside0.mk (hbox); have n2_ := Aside0.mk ((by rw [hg]; exact (below_size (by repeat (first | (with_reducible first | exact HB.out | apply below_alloc | apply pw_below_drewN | apply below_drew1) | exact HB.out))) : w.heap.size ≤ gb146)); have n3_ := Aside0.mk ((by rw [hg]; exact (below_size (by repeat (first | (with_reducible first | exact HB.out | apply below_alloc | apply pw_below_drewN | apply below_drew1) | exact HB.out))) : w.heap.size ≤ gb146)); clear HB; have HB := n0_; have BK146 := n1_; have GW146 := n2_; have GE146 := n3_; clear n0_ n1_ n2_ n3_; clear hb hbox hg; have hcz83_0 : w82.cell? ⟨gb146, 0, none⟩ = some (.int .i64 0) := (blk_cell BK146.out 0).trans rfl; have hcz83_1 : w82.cell? ⟨gb146, 1, none⟩ = some (.int .i64 0) := (blk_cell BK146.out 1).trans rfl; have hfz83_0 := blk_frozen BK146.out 0; have hfz83_1 := blk_frozen BK146.out 1))
           have n0_ : Aside0 (((w82.setCell ⟨gb146, 0, none⟩ (.int .i64 ((rd_T46 l0 x24_1).f0))).setCell ⟨gb146, 1, none⟩ (.int .i64 ((rd_T46 l0 x24_1).f1))).heap[gb146]? = some (.cells #[.int .i64 ((rd_T46 l0 x24_1).f0), .int .i64 ((rd_T46 l0 x24_1).f1)] 46 (0, 0))) := ⟨by (with_reducible repeat (first | refine blk_drewN ?_ _ | refine blk_drew ?_ | refine blk_alloc ?_ _)); refine blk_put (cs := #[.int .i64 ((rd_T46 l0 x24_1).f0), .int .i64 0]) ?_ 1 _ rfl; (with_reducible repeat (first | refine blk_drewN ?_ _ | refine blk_drew ?_ | refine blk_alloc ?_ _)); refine blk_put (cs := #[.int .i64 0, .int .i64 0]) ?_ 0 _ rfl; (with_reducible repeat (first | refine blk_drewN ?_ _ | refine blk_drew ?_ | refine blk_alloc ?_ _)); exact BK146.out⟩
           have n1_ : Aside0 (Below w.heap.size w ((w82.setCell ⟨gb146, 0, none⟩ (.int .i64 ((rd_T46 l0 x24_1).f0))).setCell ⟨gb146, 1, none⟩ (.int .i64 ((rd_T46 l0 x24_1).f1)))) := ⟨by repeat (first | (with_reducible first | exact HB.out | apply below_alloc | apply pw_below_drewN | apply below_drew1 | refine below_set ?_ GE146.out) | exact HB.out)⟩
           (try clear BK146)
           (try clear HB)
           generalize ((w82.setCell ⟨gb146, 0, none⟩ (.int .i64 ((rd_T46 l0 x24_1).f0))).setCell ⟨gb146, 1, none⟩ (.int .i64 ((rd_T46 l0 x24_1).f1))) = w84 at n0_ n1_ ⊢
           have BK146 := n0_
           have HB := n1_
           clear n0_ n1_
           have n0_ := Aside0.mk (blk_drew BK146.out)
           have n1_ := Aside0.mk (below_drew1 HB.out)
           clear BK146
           clear HB
           have BK146 := n0_
           have HB := n1_
           clear n0_ n1_
           refine start_ (n := 35) (S := fun w' => w'.cell? ⟨gb146, 0, none⟩ = some (.int .i64 ((rd_T46 l0 x24_1).f0)) ∧ w'.cell? ⟨gb146, 1, none⟩ = some (.int .i64 ((rd_T46 l0 x24_1).f1))) (ds := []) privilege_CheckSpans.D0 (by kernel_rfl) rfl rfl ⟨(blk_cell BK146.out 0).trans rfl, (blk_cell BK146.out 1).trans rfl⟩ (fun hHeld => ?_); refine with_tabW privilege_CheckSpans.tab7 privilege_CheckSpans.bits7 (fun HT_ HW_ => ?_)
           generalize w84.drew = w85 at BK146 HB hHeld ⊢
           refine pu_ (i := 0) (N := some 29) (v := ?_) (a' := ?_) privilege_CheckSpans.D1 (any_of HT_.out (by kernel_rfl)) ?_ ?_ ?_; rotate_left 2
           ·intro w'; go_simp; with_reducible rfl
           ·simp only [Act.put, s_t, s_z, s_s, i64_w, i32_w]; rfl
           refine pu_ (i := 17) (N := some 46) (v := ?_) (a' := ?_) privilege_CheckSpans.D2 (any_of HT_.out (by kernel_rfl)) ?_ ?_ ?_; rotate_left 2
           ·intro w'; go_simp; with_reducible rfl
           ·simp only [Act.put, s_t, s_z, s_s, i64_w, i32_w]; rfl
           refine pu_ (i := 18) (N := some 47) (v := ?_) (a' := ?_) privilege_CheckSpans.D3 (any_of HT_.out (by kernel_rfl)) ?_ ?_ ?_; rotate_left 2
           ·intro w'; go_simp; with_reducible rfl
           ·simp only [Act.put, s_t, s_z, s_s, i64_w, i32_w]; rfl
           refine take_ (i := 1) (N := some 30) (v := ?_) (a' := ?_) privilege_CheckSpans.D4 rfl rfl (take_ofW HT_.out HW_.out (by kernel_rfl)) (fun _ _ _ h => h) (Or.inl ⟨by rfl, ?_⟩) hHeld ?_ ?_
           rotate_left
           ·rintro w' ⟨s0, s1⟩
            go_simp
            with_reducible rfl
           rotate_left
           ·simp only [Act.put, List.setIfInBounds_toArray, List.set_cons_zero, List.set_cons_succ, i64_w, i32_w]
            rfl
           refine pu_ (i := 2) (N := some 31) (v := ?_) (a' := ?_) privilege_CheckSpans.D5 (any_of HT_.out (by kernel_rfl)) ?_ ?_ ?_; rotate_left 2
           ·intro w'; go_simp; with_reducible rfl
           ·simp only [Act.put, s_t, s_z, s_s, i64_w, i32_w]; rfl
           refine pu_ (i := 3) (N := some 32) (v := ?_) (a' := ?_) privilege_CheckSpans.D6 (any_of HT_.out (by kernel_rfl)) ?_ ?_ ?_; rotate_left 2
           ·intro w'; go_simp; with_reducible rfl
           ·simp only [Act.put, s_t, s_z, s_s, i64_w, i32_w]; rfl
           refine pu_ (i := 4) (N := some 33) (v := ?_) (a' := ?_) privilege_CheckSpans.D7 (any_of HT_.out (by kernel_rfl)) ?_ ?_ ?_; rotate_left 2
           ·intro w'; go_simp; with_reducible rfl
           ·simp only [Act.put, s_t, s_z, s_s, i64_w, i32_w]; rfl
           refine pu_ (i := 6) (N := some 35) (v := ?_) (a' := ?_) privilege_CheckSpans.D8 (any_of HT_.out (by kernel_rfl)) ?_ ?_ ?_; rotate_left 2
           ·intro w'; go_simp; with_reducible rfl
           ·simp only [Act.put, s_t, s_z, s_s, i64_w, i32_w]; rfl
           refine take_ (i := 5) (N := some 34) (v := ?_) (a' := ?_) privilege_CheckSpans.D10 rfl rfl (take_ofW HT_.out HW_.out (by kernel_rfl)) (fun _ _ _ h => h) (Or.inl ⟨by rfl, ?_⟩) hHeld ?_ ?_
           rotate_left
           ·rintro w' ⟨s0, s1⟩
            go_simp
            with_reducible rfl
           rotate_left
           ·simp only [Act.put, List.setIfInBounds_toArray, List.set_cons_zero, List.set_cons_succ, i64_w, i32_w]
            rfl
           refine take_ (i := 7) (N := some 36) (v := ?_) (a' := ?_) privilege_CheckSpans.D11 rfl rfl (take_ofW HT_.out HW_.out (by kernel_rfl)) (fun _ _ _ h => h) (Or.inl ⟨by rfl, ?_⟩) hHeld ?_ ?_
           rotate_left
           ·rintro w' ⟨s0, s1⟩
            go_simp
            with_reducible rfl
           rotate_left
           ·simp only [Act.put, List.setIfInBounds_toArray, List.set_cons_zero, List.set_cons_succ, i64_w, i32_w]
            rfl
           refine pu_ (i := 8) (N := some 37) (v := ?_) (a' := ?_) privilege_CheckSpans.D12 (any_of HT_.out (by kernel_rfl)) ?_ ?_ ?_; rotate_left 2
           ·intro w'; go_simp; with_reducible rfl
           ·simp only [Act.put, s_t, s_z, s_s, i64_w, i32_w]; rfl
           refine pu_ (i := 9) (N := some 38) (v := ?_) (a' := ?_) privilege_CheckSpans.D13 (any_of HT_.out (by kernel_rfl)) ?_ ?_ ?_; rotate_left 2
           ·intro w'; go_simp; with_reducible rfl
           ·simp only [Act.put, s_t, s_z, s_s, i64_w, i32_w]; rfl
           refine pu_ (i := 10) (N := some 39) (v := ?_) (a' := ?_) privilege_CheckSpans.D14 (any_of HT_.out (by kernel_rfl)) ?_ ?_ ?_; rotate_left 2
           ·intro w'; go_simp; with_reducible rfl
           ·simp only [Act.put, s_t, s_z, s_s, i64_w, i32_w]; rfl
           refine pv_ (i := 11) (N := some 40) (a' := ?_) privilege_CheckSpans.D15 (any_of HT_.out (by kernel_rfl)) ?_ ?_; rotate_left
           ·simp only [Act.put, s_t, s_z, s_s, i64_w, i32_w]; rfl
           refine pv_ (i := 12) (N := some 41) (a' := ?_) privilege_CheckSpans.D17 (any_of HT_.out (by kernel_rfl)) ?_ ?_; rotate_left
           ·simp only [Act.put, s_t, s_z, s_s, i64_w, i32_w]; rfl
           refine pv_ (i := 13) (N := some 42) (a' := ?_) privilege_CheckSpans.D18 (any_of HT_.out (by kernel_rfl)) ?_ ?_; rotate_left
           ·simp only [Act.put, s_t, s_z, s_s, i64_w, i32_w]; rfl
           refine pv_ (i := 14) (N := some 43) (a' := ?_) privilege_CheckSpans.D19 (any_of HT_.out (by kernel_rfl)) ?_ ?_; rotate_left
           ·simp only [Act.put, s_t, s_z, s_s, i64_w, i32_w]; rfl
           refine pu_ (i := 15) (N := some 44) (v := ?_) (a' := ?_) privilege_CheckSpans.D20 (any_of HT_.out (by kernel_rfl)) ?_ ?_ ?_; rotate_left 2
           ·intro w'; go_simp; with_reducible rfl
           ·simp only [Act.put, s_t, s_z, s_s, i64_w, i32_w]; rfl
           refine one_ (i := 16) (N := some 45) privilege_CheckSpans.D21 rfl rfl (one_of HT_.out (by kernel_rfl)) (by decide) (fun K hK => ?_)
           refine goes_ Tryd.func46 (by kernel_rfl) rfl #[.bool true, .int .i64 1] (by rfl) rfl rfl (by (try simp only [List.map_toArray, List.map_cons, List.map_nil]); first | done | rfl | (simp only [List.length_drop, List.length_take]; rfl)) ?_
           with_reducible refine (base_When.calls true 1 t159 _ A56.out).mono ?_
           rintro e w' ⟨rfl, ⟨nd, rfl⟩⟩
           refine ⟨_, rfl, ?_⟩
           refine hK.out _ _ ⟨(blk_cell BK146.out 0).trans rfl, (blk_cell BK146.out 1).trans rfl⟩ (fun hHeld => ?_)
           clear hK K
           refine norm_ (a' := ?_) ?_ ?_
           rotate_left
           ·show Act.put _ (some 45) _ = _
            simp only [Act.put, List.setIfInBounds_toArray, List.set_cons_zero, List.set_cons_succ, i64_w, i32_w]
            rfl
           refine pu_ (i := 19) (N := some 48) (v := ?_) (a' := ?_) privilege_CheckSpans.D22 (any_of HT_.out (by kernel_rfl)) ?_ ?_ ?_; rotate_left 2
           ·intro w'; go_simp; with_reducible rfl
           ·simp only [Act.put, s_t, s_z, s_s, i64_w, i32_w]; rfl
           refine pv_ (i := 20) (N := some 49) (a' := ?_) privilege_CheckSpans.D23 (any_of HT_.out (by kernel_rfl)) ?_ ?_; rotate_left
           ·simp only [Act.put, s_t, s_z, s_s, i64_w, i32_w]; rfl
           refine pv_ (i := 21) (N := some 50) (a' := ?_) privilege_CheckSpans.D30 (any_of HT_.out (by kernel_rfl)) ?_ ?_; rotate_left
           ·simp only [Act.put, s_t, s_z, s_s, i64_w, i32_w]; rfl
           refine pv_ (i := 22) (N := some 51) (a' := ?_) privilege_CheckSpans.D31 (any_of HT_.out (by kernel_rfl)) ?_ ?_; rotate_left
           ·simp only [Act.put, s_t, s_z, s_s, i64_w, i32_w]; rfl
           refine pv_ (i := 23) (N := some 52) (a' := ?_) privilege_CheckSpans.D32 (any_of HT_.out (by kernel_rfl)) ?_ ?_; rotate_left
           ·simp only [Act.put, s_t, s_z, s_s, i64_w, i32_w]; rfl
           refine pv_ (i := 24) (N := some 53) (a' := ?_) privilege_CheckSpans.D33 (any_of HT_.out (by kernel_rfl)) ?_ ?_; rotate_left
           ·simp only [Act.put, s_t, s_z, s_s, i64_w, i32_w]; rfl
           refine pv_ (i := 25) (N := some 54) (a' := ?_) privilege_CheckSpans.D34 (any_of HT_.out (by kernel_rfl)) ?_ ?_; rotate_left
           ·simp only [Act.put, s_t, s_z, s_s, i64_w, i32_w]; rfl
           refine pv_ (i := 26) (N := some 55) (a' := ?_) privilege_CheckSpans.D35 (any_of HT_.out (by kernel_rfl)) ?_ ?_; rotate_left
           ·simp only [Act.put, s_t, s_z, s_s, i64_w, i32_w]; rfl
           refine pv_ (i := 27) (N := some 56) (a' := ?_) privilege_CheckSpans.D36 (any_of HT_.out (by kernel_rfl)) ?_ ?_; rotate_left
           ·simp only [Act.put, s_t, s_z, s_s, i64_w, i32_w]; rfl
           refine pv_ (i := 28) (N := some 57) (a' := ?_) privilege_CheckSpans.D37 (any_of HT_.out (by kernel_rfl)) ?_ ?_; rotate_left
           ·simp only [Act.put, s_t, s_z, s_s, i64_w, i32_w]; rfl
           refine pv_ (i := 29) (N := some 58) (a' := ?_) privilege_CheckSpans.D38 (any_of HT_.out (by kernel_rfl)) ?_ ?_; rotate_left
           ·simp only [Act.put, s_t, s_z, s_s, i64_w, i32_w]; rfl
           refine pu_ (i := 30) (N := some 59) (v := ?_) (a' := ?_) privilege_CheckSpans.D39 (any_of HT_.out (by kernel_rfl)) ?_ ?_ ?_; rotate_left 2
           ·intro w'; go_simp; with_reducible rfl
           ·simp only [Act.put, s_t, s_z, s_s, i64_w, i32_w]; rfl
           refine one_ (i := 31) (N := some 60) privilege_CheckSpans.D40 rfl rfl (one_of HT_.out (by kernel_rfl)) (by decide) (fun K hK => ?_)
           refine goes_ Tryd.func46 (by kernel_rfl) rfl #[.bool false, .int .i64 7] (by rfl) rfl rfl (by (try simp only [List.map_toArray, List.map_cons, List.map_nil]); first | done | rfl | (simp only [List.length_drop, List.length_take]; rfl)) ?_
           with_reducible refine (base_When.calls false 7 t166 _ A79.out).mono ?_
           rintro e w' ⟨rfl, ⟨nd, rfl⟩⟩
           refine ⟨_, rfl, ?_⟩
           refine hK.out _ _ ⟨(blk_cell BK146.out 0).trans rfl, (blk_cell BK146.out 1).trans rfl⟩ (fun hHeld => ?_)
           clear hK K
           refine norm_ (a' := ?_) ?_ ?_
           rotate_left
           ·show Act.put _ (some 60) _ = _
            simp only [Act.put, List.setIfInBounds_toArray, List.set_cons_zero, List.set_cons_succ, i64_w, i32_w]
            rfl
           refine one_ (i := 32) (N := some 61) privilege_CheckSpans.D41 rfl rfl (one_of HT_.out (by kernel_rfl)) (by decide) (fun K hK => ?_)
           refine Kd.R_lit_step (Kd.int .i64) _ 29 ?hg (N := 61) ?hd (xs := ([t159, t166] : List Int)) (inner := [.int .i64 t159, .int .i64 t166]) (ok := fun _ => True) (okp := fun _ => True) ?hr ?hp (fun _ hk => hk) trivial (Below.refl _ _) (Nat.le_refl _) (by simp) ?_; (case hd => rfl); (case hg => rfl); (case hr => first | (go_simp; done) | (go_simp; rfl)); (case hp => exact (Reps.one (show Kd.M (Kd.int .i64) _ _ _ t159 [.int .i64 t159] from rfl) (Reps.one (show Kd.M (Kd.int .i64) _ _ _ t166 [.int .i64 t166] from rfl) (Reps.none _ _))))
           intro v168 w86 ho87 hb hg_ hnew_
           clear hg_ hnew_
           (first | rw [← Ny167.out] at ho87 | (simp only [Int.reduceToNat] at ho87; rw [← Ny167.out] at ho87))
           have n0_ := Aside0.mk (Kd.R_lower ho87 (below_size (by repeat (first | (with_reducible first | exact HB.out | apply below_alloc | apply pw_below_drewN | apply below_drew1 | refine below_set ?_ GE146.out) | exact HB.out))))
           have n1_ := Aside0.mk (blk_below (g := gb146) (o := .cells #[.int .i64 ((rd_T46 l0 x24_1).f0), .int .i64 ((rd_T46 l0 x24_1).f1)] 46 (0, 0)) (by (with_reducible repeat (first | refine blk_drewN ?_ _ | refine blk_drew ?_ | refine blk_alloc ?_ _)); exact BK146.out) hb)
           have n2_ := Aside0.mk (below_step (by repeat (first | (with_reducible first | exact HB.out | apply below_alloc | apply pw_below_drewN | apply below_drew1 | refine below_set ?_ GE146.out) | exact HB.out)) hb)
           clear BK146
           clear HB
           have HO169 := n0_
           have BK146 := n1_
           have HB := n2_
           clear n0_ n1_ n2_
           clear hb ho87
           obtain ⟨Ao88, co88, eo88⟩ := Kd.R_slice HO169.out
           (first | subst eo88 | (injection eo88 with f1_ f2_ f3_; have f4_ := f1_.symm; have f5_ := f3_.symm; clear f1_ f2_ f3_; subst f4_; subst f5_))
           refine hK.out _ _ ⟨(blk_cell BK146.out 0).trans rfl, (blk_cell BK146.out 1).trans rfl⟩ (fun hHeld => ?_)
           clear hK K
           refine norm_ (a' := ?_) ?_ ?_
           rotate_left
           ·show Act.put _ (some 61) _ = _
            simp only [Act.put, List.setIfInBounds_toArray, List.set_cons_zero, List.set_cons_succ, i64_w, i32_w]
            rfl
           refine one_ (i := 33) (N := some 62) privilege_CheckSpans.D42 rfl rfl (one_of HT_.out (by kernel_rfl)) (by decide) (fun K hK => ?_)
           refine goes_ Tryd.func45 (by kernel_rfl) rfl #[.slice Ao88 y167.length co88] (by rfl) rfl rfl (by (try simp only [List.map_toArray, List.map_cons, List.map_nil]); first | done | rfl | (simp only [List.length_drop, List.length_take]; rfl)) ?_
           with_reducible refine (base_First.calls k1 _ _ y167 t170 _ ?side1 ?side2 A80.out).mono ?_
           (case side1 => repeat (first | exact (Kd.R_reads' HO169.out).2.2 | (with_reducible refine Kd.C_alloc ?_ _) | (with_reducible refine Kd.C_drewN ?_ _) | (with_reducible refine Kd.C_drew ?_)))
           (case side2 => exact (Kd.R_reads' HO169.out).2.1)
           rintro e w' ⟨rfl, ⟨nd, rfl⟩⟩
           refine ⟨_, rfl, ?_⟩
           refine hK.out _ _ ⟨(blk_cell BK146.out 0).trans rfl, (blk_cell BK146.out 1).trans rfl⟩ (fun hHeld => ?_)
           clear hK K
           refine norm_ (a' := ?_) ?_ ?_
           rotate_left
           ·show Act.put _ (some 62) _ = _
            simp only [Act.put, List.setIfInBounds_toArray, List.set_cons_zero, List.set_cons_succ, i64_w, i32_w]
            rfl
           refine pu_ (i := 34) (N := some 8) (v := ?_) (a' := ?_) privilege_CheckSpans.D43 (any_of HT_.out (by kernel_rfl)) ?_ ?_ ?_; rotate_left 2
           ·intro w'; go_simp; with_reducible rfl
           ·simp only [Act.put, s_t, s_z, s_s, i64_w, i32_w]; rfl
           refine done_ (done_of HT_.out (by kernel_rfl)) ?_
           try go_wp2
           go_roundg k1
           case measure => have := HK1.out; omega
           case rel => exact ⟨(wrap64 (x24_1 + 1)), (by first | rfl | (simp; done) | (simp [*]; done)), H', ⟨by have := HK1.out; omega⟩, ⟨by repeat (first | (with_reducible first | exact HB.out | apply below_alloc | apply pw_below_drewN | apply below_drew1 | refine below_set ?_ GE146.out) | exact HB.out)⟩⟩
          ·rw [if_neg c81] at H
           have c81b0 : (t170 == 0) = false := beq_eq_false_iff_ne.mpr c81
           have c81b1 : (t170 != 0) = true := bne_iff_ne.mpr c81
           obtain rfl := Option.some.inj H
           have p145 : 0 ≤ (x24_1 : Int) := of_decide_eq_true (by first | (with_reducible assumption) | assumption)
           have q145 : x24_1 < (l0.length : Int) := of_decide_eq_true (by first | (with_reducible assumption) | assumption)
           obtain ⟨ad145, e145, hx145_0, hx145_1⟩ := at_T46 HR0.out x24_1 p145 q145
           cases e145
           first | replace hx145_0 := (HB.out.cell (World.block_lt_of_cell? w _ hx145_0)).trans hx145_0 | skip
           first | replace hx145_1 := (HB.out.cell (World.block_lt_of_cell? w _ hx145_1)).trans hx145_1 | skip
           replace p145 := eq_true p145
           replace q145 := eq_true q145
           try go_wp2_with (first | ((with_reducible refine gate_dst (N := 7) rfl ?_); (try (refine gate_guard (by rfl) ?_; dsimp only)); refine box_event ?hg (N := 7) ?hd (cs := #[.int .i64 0, .int .i64 0]) (t := 46) ?hr ?_; (case hd => rfl); (case hg => rfl); (case hr => first | (go_simp; done) | (go_simp; rfl)); intro gb146 hg w89 hbox hb; have n0_ := Aside0.mk (below_step (by repeat (first | (with_reducible first | exact HB.out | apply below_alloc | apply pw_below_drewN | apply below_drew1) | exact HB.out)) hb); have n1_ := Aside0.mk (hbox); have n2_ := Aside0.mk ((by rw [hg]; exact (below_size (by repeat (first | (with_reducible first | exact HB.out | apply below_alloc | apply pw_below_drewN | apply below_drew1) | exact HB.out))) : w.heap.size ≤ gb146)); have n3_ := Aside0.mk ((by rw [hg]; exact (below_size (by repeat (first | (with_reducible first | exact HB.out | apply below_alloc | apply pw_below_drewN | apply below_drew1) | exact HB.out))) : w.heap.size ≤ gb146)); clear HB; have HB := n0_; have BK146 := n1_; have GW146 := n2_; have GE146 := n3_; clear n0_ n1_ n2_ n3_; clear hb hbox hg; have hcz90_0 : w89.cell? ⟨gb146, 0, none⟩ = some (.int .i64 0) := (blk_cell BK146.out 0).trans rfl; have hcz90_1 : w89.cell? ⟨gb146, 1, none⟩ = some (.int .i64 0) := (blk_cell BK146.out 1).trans rfl; have hfz90_0 := blk_frozen BK146.out 0; have hfz90_1 := blk_frozen BK146.out 1))
           have n0_ : Aside0 (((w89.setCell ⟨gb146, 0, none⟩ (.int .i64 ((rd_T46 l0 x24_1).f0))).setCell ⟨gb146, 1, none⟩ (.int .i64 ((rd_T46 l0 x24_1).f1))).heap[gb146]? = some (.cells #[.int .i64 ((rd_T46 l0 x24_1).f0), .int .i64 ((rd_T46 l0 x24_1).f1)] 46 (0, 0))) := ⟨by (with_reducible repeat (first | refine blk_drewN ?_ _ | refine blk_drew ?_ | refine blk_alloc ?_ _)); refine blk_put (cs := #[.int .i64 ((rd_T46 l0 x24_1).f0), .int .i64 0]) ?_ 1 _ rfl; (with_reducible repeat (first | refine blk_drewN ?_ _ | refine blk_drew ?_ | refine blk_alloc ?_ _)); refine blk_put (cs := #[.int .i64 0, .int .i64 0]) ?_ 0 _ rfl; (with_reducible repeat (first | refine blk_drewN ?_ _ | refine blk_drew ?_ | refine blk_alloc ?_ _)); exact BK146.out⟩
           have n1_ : Aside0 (Below w.heap.size w ((w89.setCell ⟨gb146, 0, none⟩ (.int .i64 ((rd_T46 l0 x24_1).f0))).setCell ⟨gb146, 1, none⟩ (.int .i64 ((rd_T46 l0 x24_1).f1)))) := ⟨by repeat (first | (with_reducible first | exact HB.out | apply below_alloc | apply pw_below_drewN | apply below_drew1 | refine below_set ?_ GE146.out) | exact HB.out)⟩
           (try clear BK146)
           (try clear HB)
           generalize ((w89.setCell ⟨gb146, 0, none⟩ (.int .i64 ((rd_T46 l0 x24_1).f0))).setCell ⟨gb146, 1, none⟩ (.int .i64 ((rd_T46 l0 x24_1).f1))) = w91 at n0_ n1_ ⊢
           have BK146 := n0_
           have HB := n1_
           clear n0_ n1_
           have n0_ := Aside0.mk (blk_drew BK146.out)
           have n1_ := Aside0.mk (below_drew1 HB.out)
           clear BK146
           clear HB
           have BK146 := n0_
           have HB := n1_
           clear n0_ n1_
           refine start_ (n := 35) (S := fun w' => w'.cell? ⟨gb146, 0, none⟩ = some (.int .i64 ((rd_T46 l0 x24_1).f0)) ∧ w'.cell? ⟨gb146, 1, none⟩ = some (.int .i64 ((rd_T46 l0 x24_1).f1))) (ds := []) privilege_CheckSpans.D0 (by kernel_rfl) rfl rfl ⟨(blk_cell BK146.out 0).trans rfl, (blk_cell BK146.out 1).trans rfl⟩ (fun hHeld => ?_); refine with_tabW privilege_CheckSpans.tab7 privilege_CheckSpans.bits7 (fun HT_ HW_ => ?_)
           generalize w91.drew = w92 at BK146 HB hHeld ⊢
           refine pu_ (i := 0) (N := some 29) (v := ?_) (a' := ?_) privilege_CheckSpans.D1 (any_of HT_.out (by kernel_rfl)) ?_ ?_ ?_; rotate_left 2
           ·intro w'; go_simp; with_reducible rfl
           ·simp only [Act.put, s_t, s_z, s_s, i64_w, i32_w]; rfl
           refine pu_ (i := 17) (N := some 46) (v := ?_) (a' := ?_) privilege_CheckSpans.D2 (any_of HT_.out (by kernel_rfl)) ?_ ?_ ?_; rotate_left 2
           ·intro w'; go_simp; with_reducible rfl
           ·simp only [Act.put, s_t, s_z, s_s, i64_w, i32_w]; rfl
           refine pu_ (i := 18) (N := some 47) (v := ?_) (a' := ?_) privilege_CheckSpans.D3 (any_of HT_.out (by kernel_rfl)) ?_ ?_ ?_; rotate_left 2
           ·intro w'; go_simp; with_reducible rfl
           ·simp only [Act.put, s_t, s_z, s_s, i64_w, i32_w]; rfl
           refine take_ (i := 1) (N := some 30) (v := ?_) (a' := ?_) privilege_CheckSpans.D4 rfl rfl (take_ofW HT_.out HW_.out (by kernel_rfl)) (fun _ _ _ h => h) (Or.inl ⟨by rfl, ?_⟩) hHeld ?_ ?_
           rotate_left
           ·rintro w' ⟨s0, s1⟩
            go_simp
            with_reducible rfl
           rotate_left
           ·simp only [Act.put, List.setIfInBounds_toArray, List.set_cons_zero, List.set_cons_succ, i64_w, i32_w]
            rfl
           refine pu_ (i := 2) (N := some 31) (v := ?_) (a' := ?_) privilege_CheckSpans.D5 (any_of HT_.out (by kernel_rfl)) ?_ ?_ ?_; rotate_left 2
           ·intro w'; go_simp; with_reducible rfl
           ·simp only [Act.put, s_t, s_z, s_s, i64_w, i32_w]; rfl
           refine pu_ (i := 3) (N := some 32) (v := ?_) (a' := ?_) privilege_CheckSpans.D6 (any_of HT_.out (by kernel_rfl)) ?_ ?_ ?_; rotate_left 2
           ·intro w'; go_simp; with_reducible rfl
           ·simp only [Act.put, s_t, s_z, s_s, i64_w, i32_w]; rfl
           refine pu_ (i := 4) (N := some 33) (v := ?_) (a' := ?_) privilege_CheckSpans.D7 (any_of HT_.out (by kernel_rfl)) ?_ ?_ ?_; rotate_left 2
           ·intro w'; go_simp; with_reducible rfl
           ·simp only [Act.put, s_t, s_z, s_s, i64_w, i32_w]; rfl
           refine pu_ (i := 6) (N := some 35) (v := ?_) (a' := ?_) privilege_CheckSpans.D8 (any_of HT_.out (by kernel_rfl)) ?_ ?_ ?_; rotate_left 2
           ·intro w'; go_simp; with_reducible rfl
           ·simp only [Act.put, s_t, s_z, s_s, i64_w, i32_w]; rfl
           refine take_ (i := 5) (N := some 34) (v := ?_) (a' := ?_) privilege_CheckSpans.D10 rfl rfl (take_ofW HT_.out HW_.out (by kernel_rfl)) (fun _ _ _ h => h) (Or.inl ⟨by rfl, ?_⟩) hHeld ?_ ?_
           rotate_left
           ·rintro w' ⟨s0, s1⟩
            go_simp
            with_reducible rfl
           rotate_left
           ·simp only [Act.put, List.setIfInBounds_toArray, List.set_cons_zero, List.set_cons_succ, i64_w, i32_w]
            rfl
           refine take_ (i := 7) (N := some 36) (v := ?_) (a' := ?_) privilege_CheckSpans.D11 rfl rfl (take_ofW HT_.out HW_.out (by kernel_rfl)) (fun _ _ _ h => h) (Or.inl ⟨by rfl, ?_⟩) hHeld ?_ ?_
           rotate_left
           ·rintro w' ⟨s0, s1⟩
            go_simp
            with_reducible rfl
           rotate_left
           ·simp only [Act.put, List.setIfInBounds_toArray, List.set_cons_zero, List.set_cons_succ, i64_w, i32_w]
            rfl
           refine pu_ (i := 8) (N := some 37) (v := ?_) (a' := ?_) privilege_CheckSpans.D12 (any_of HT_.out (by kernel_rfl)) ?_ ?_ ?_; rotate_left 2
           ·intro w'; go_simp; with_reducible rfl
           ·simp only [Act.put, s_t, s_z, s_s, i64_w, i32_w]; rfl
           refine pu_ (i := 9) (N := some 38) (v := ?_) (a' := ?_) privilege_CheckSpans.D13 (any_of HT_.out (by kernel_rfl)) ?_ ?_ ?_; rotate_left 2
           ·intro w'; go_simp; with_reducible rfl
           ·simp only [Act.put, s_t, s_z, s_s, i64_w, i32_w]; rfl
           refine pu_ (i := 10) (N := some 39) (v := ?_) (a' := ?_) privilege_CheckSpans.D14 (any_of HT_.out (by kernel_rfl)) ?_ ?_ ?_; rotate_left 2
           ·intro w'; go_simp; with_reducible rfl
           ·simp only [Act.put, s_t, s_z, s_s, i64_w, i32_w]; rfl
           refine pv_ (i := 11) (N := some 40) (a' := ?_) privilege_CheckSpans.D15 (any_of HT_.out (by kernel_rfl)) ?_ ?_; rotate_left
           ·simp only [Act.put, s_t, s_z, s_s, i64_w, i32_w]; rfl
           refine pv_ (i := 12) (N := some 41) (a' := ?_) privilege_CheckSpans.D17 (any_of HT_.out (by kernel_rfl)) ?_ ?_; rotate_left
           ·simp only [Act.put, s_t, s_z, s_s, i64_w, i32_w]; rfl
           refine pv_ (i := 13) (N := some 42) (a' := ?_) privilege_CheckSpans.D18 (any_of HT_.out (by kernel_rfl)) ?_ ?_; rotate_left
           ·simp only [Act.put, s_t, s_z, s_s, i64_w, i32_w]; rfl
           refine pv_ (i := 14) (N := some 43) (a' := ?_) privilege_CheckSpans.D19 (any_of HT_.out (by kernel_rfl)) ?_ ?_; rotate_left
           ·simp only [Act.put, s_t, s_z, s_s, i64_w, i32_w]; rfl
           refine pu_ (i := 15) (N := some 44) (v := ?_) (a' := ?_) privilege_CheckSpans.D20 (any_of HT_.out (by kernel_rfl)) ?_ ?_ ?_; rotate_left 2
           ·intro w'; go_simp; with_reducible rfl
           ·simp only [Act.put, s_t, s_z, s_s, i64_w, i32_w]; rfl
           refine one_ (i := 16) (N := some 45) privilege_CheckSpans.D21 rfl rfl (one_of HT_.out (by kernel_rfl)) (by decide) (fun K hK => ?_)
           refine goes_ Tryd.func46 (by kernel_rfl) rfl #[.bool true, .int .i64 1] (by rfl) rfl rfl (by (try simp only [List.map_toArray, List.map_cons, List.map_nil]); first | done | rfl | (simp only [List.length_drop, List.length_take]; rfl)) ?_
           with_reducible refine (base_When.calls true 1 t159 _ A56.out).mono ?_
           rintro e w' ⟨rfl, ⟨nd, rfl⟩⟩
           refine ⟨_, rfl, ?_⟩
           refine hK.out _ _ ⟨(blk_cell BK146.out 0).trans rfl, (blk_cell BK146.out 1).trans rfl⟩ (fun hHeld => ?_)
           clear hK K
           refine norm_ (a' := ?_) ?_ ?_
           rotate_left
           ·show Act.put _ (some 45) _ = _
            simp only [Act.put, List.setIfInBounds_toArray, List.set_cons_zero, List.set_cons_succ, i64_w, i32_w]
            rfl
           refine pu_ (i := 19) (N := some 48) (v := ?_) (a' := ?_) privilege_CheckSpans.D22 (any_of HT_.out (by kernel_rfl)) ?_ ?_ ?_; rotate_left 2
           ·intro w'; go_simp; with_reducible rfl
           ·simp only [Act.put, s_t, s_z, s_s, i64_w, i32_w]; rfl
           refine pv_ (i := 20) (N := some 49) (a' := ?_) privilege_CheckSpans.D23 (any_of HT_.out (by kernel_rfl)) ?_ ?_; rotate_left
           ·simp only [Act.put, s_t, s_z, s_s, i64_w, i32_w]; rfl
           refine pv_ (i := 21) (N := some 50) (a' := ?_) privilege_CheckSpans.D30 (any_of HT_.out (by kernel_rfl)) ?_ ?_; rotate_left
           ·simp only [Act.put, s_t, s_z, s_s, i64_w, i32_w]; rfl
           refine pv_ (i := 22) (N := some 51) (a' := ?_) privilege_CheckSpans.D31 (any_of HT_.out (by kernel_rfl)) ?_ ?_; rotate_left
           ·simp only [Act.put, s_t, s_z, s_s, i64_w, i32_w]; rfl
           refine pv_ (i := 23) (N := some 52) (a' := ?_) privilege_CheckSpans.D32 (any_of HT_.out (by kernel_rfl)) ?_ ?_; rotate_left
           ·simp only [Act.put, s_t, s_z, s_s, i64_w, i32_w]; rfl
           refine pv_ (i := 24) (N := some 53) (a' := ?_) privilege_CheckSpans.D33 (any_of HT_.out (by kernel_rfl)) ?_ ?_; rotate_left
           ·simp only [Act.put, s_t, s_z, s_s, i64_w, i32_w]; rfl
           refine pv_ (i := 25) (N := some 54) (a' := ?_) privilege_CheckSpans.D34 (any_of HT_.out (by kernel_rfl)) ?_ ?_; rotate_left
           ·simp only [Act.put, s_t, s_z, s_s, i64_w, i32_w]; rfl
           refine pv_ (i := 26) (N := some 55) (a' := ?_) privilege_CheckSpans.D35 (any_of HT_.out (by kernel_rfl)) ?_ ?_; rotate_left
           ·simp only [Act.put, s_t, s_z, s_s, i64_w, i32_w]; rfl
           refine pv_ (i := 27) (N := some 56) (a' := ?_) privilege_CheckSpans.D36 (any_of HT_.out (by kernel_rfl)) ?_ ?_; rotate_left
           ·simp only [Act.put, s_t, s_z, s_s, i64_w, i32_w]; rfl
           refine pv_ (i := 28) (N := some 57) (a' := ?_) privilege_CheckSpans.D37 (any_of HT_.out (by kernel_rfl)) ?_ ?_; rotate_left
           ·simp only [Act.put, s_t, s_z, s_s, i64_w, i32_w]; rfl
           refine pv_ (i := 29) (N := some 58) (a' := ?_) privilege_CheckSpans.D38 (any_of HT_.out (by kernel_rfl)) ?_ ?_; rotate_left
           ·simp only [Act.put, s_t, s_z, s_s, i64_w, i32_w]; rfl
           refine pu_ (i := 30) (N := some 59) (v := ?_) (a' := ?_) privilege_CheckSpans.D39 (any_of HT_.out (by kernel_rfl)) ?_ ?_ ?_; rotate_left 2
           ·intro w'; go_simp; with_reducible rfl
           ·simp only [Act.put, s_t, s_z, s_s, i64_w, i32_w]; rfl
           refine one_ (i := 31) (N := some 60) privilege_CheckSpans.D40 rfl rfl (one_of HT_.out (by kernel_rfl)) (by decide) (fun K hK => ?_)
           refine goes_ Tryd.func46 (by kernel_rfl) rfl #[.bool false, .int .i64 7] (by rfl) rfl rfl (by (try simp only [List.map_toArray, List.map_cons, List.map_nil]); first | done | rfl | (simp only [List.length_drop, List.length_take]; rfl)) ?_
           with_reducible refine (base_When.calls false 7 t166 _ A79.out).mono ?_
           rintro e w' ⟨rfl, ⟨nd, rfl⟩⟩
           refine ⟨_, rfl, ?_⟩
           refine hK.out _ _ ⟨(blk_cell BK146.out 0).trans rfl, (blk_cell BK146.out 1).trans rfl⟩ (fun hHeld => ?_)
           clear hK K
           refine norm_ (a' := ?_) ?_ ?_
           rotate_left
           ·show Act.put _ (some 60) _ = _
            simp only [Act.put, List.setIfInBounds_toArray, List.set_cons_zero, List.set_cons_succ, i64_w, i32_w]
            rfl
           refine one_ (i := 32) (N := some 61) privilege_CheckSpans.D41 rfl rfl (one_of HT_.out (by kernel_rfl)) (by decide) (fun K hK => ?_)
           refine Kd.R_lit_step (Kd.int .i64) _ 29 ?hg (N := 61) ?hd (xs := ([t159, t166] : List Int)) (inner := [.int .i64 t159, .int .i64 t166]) (ok := fun _ => True) (okp := fun _ => True) ?hr ?hp (fun _ hk => hk) trivial (Below.refl _ _) (Nat.le_refl _) (by simp) ?_; (case hd => rfl); (case hg => rfl); (case hr => first | (go_simp; done) | (go_simp; rfl)); (case hp => exact (Reps.one (show Kd.M (Kd.int .i64) _ _ _ t159 [.int .i64 t159] from rfl) (Reps.one (show Kd.M (Kd.int .i64) _ _ _ t166 [.int .i64 t166] from rfl) (Reps.none _ _))))
           intro v168 w93 ho94 hb hg_ hnew_
           clear hg_ hnew_
           (first | rw [← Ny167.out] at ho94 | (simp only [Int.reduceToNat] at ho94; rw [← Ny167.out] at ho94))
           have n0_ := Aside0.mk (Kd.R_lower ho94 (below_size (by repeat (first | (with_reducible first | exact HB.out | apply below_alloc | apply pw_below_drewN | apply below_drew1 | refine below_set ?_ GE146.out) | exact HB.out))))
           have n1_ := Aside0.mk (blk_below (g := gb146) (o := .cells #[.int .i64 ((rd_T46 l0 x24_1).f0), .int .i64 ((rd_T46 l0 x24_1).f1)] 46 (0, 0)) (by (with_reducible repeat (first | refine blk_drewN ?_ _ | refine blk_drew ?_ | refine blk_alloc ?_ _)); exact BK146.out) hb)
           have n2_ := Aside0.mk (below_step (by repeat (first | (with_reducible first | exact HB.out | apply below_alloc | apply pw_below_drewN | apply below_drew1 | refine below_set ?_ GE146.out) | exact HB.out)) hb)
           clear BK146
           clear HB
           have HO169 := n0_
           have BK146 := n1_
           have HB := n2_
           clear n0_ n1_ n2_
           clear hb ho94
           obtain ⟨Ao95, co95, eo95⟩ := Kd.R_slice HO169.out
           (first | subst eo95 | (injection eo95 with f1_ f2_ f3_; have f4_ := f1_.symm; have f5_ := f3_.symm; clear f1_ f2_ f3_; subst f4_; subst f5_))
           refine hK.out _ _ ⟨(blk_cell BK146.out 0).trans rfl, (blk_cell BK146.out 1).trans rfl⟩ (fun hHeld => ?_)
           clear hK K
           refine norm_ (a' := ?_) ?_ ?_
           rotate_left
           ·show Act.put _ (some 61) _ = _
            simp only [Act.put, List.setIfInBounds_toArray, List.set_cons_zero, List.set_cons_succ, i64_w, i32_w]
            rfl
           refine one_ (i := 33) (N := some 62) privilege_CheckSpans.D42 rfl rfl (one_of HT_.out (by kernel_rfl)) (by decide) (fun K hK => ?_)
           refine goes_ Tryd.func45 (by kernel_rfl) rfl #[.slice Ao95 y167.length co95] (by rfl) rfl rfl (by (try simp only [List.map_toArray, List.map_cons, List.map_nil]); first | done | rfl | (simp only [List.length_drop, List.length_take]; rfl)) ?_
           with_reducible refine (base_First.calls k1 _ _ y167 t170 _ ?side1 ?side2 A80.out).mono ?_
           (case side1 => repeat (first | exact (Kd.R_reads' HO169.out).2.2 | (with_reducible refine Kd.C_alloc ?_ _) | (with_reducible refine Kd.C_drewN ?_ _) | (with_reducible refine Kd.C_drew ?_)))
           (case side2 => exact (Kd.R_reads' HO169.out).2.1)
           rintro e w' ⟨rfl, ⟨nd, rfl⟩⟩
           refine ⟨_, rfl, ?_⟩
           refine hK.out _ _ ⟨(blk_cell BK146.out 0).trans rfl, (blk_cell BK146.out 1).trans rfl⟩ (fun hHeld => ?_)
           clear hK K
           refine norm_ (a' := ?_) ?_ ?_
           rotate_left
           ·show Act.put _ (some 62) _ = _
            simp only [Act.put, List.setIfInBounds_toArray, List.set_cons_zero, List.set_cons_succ, i64_w, i32_w]
            rfl
           refine pu_ (i := 34) (N := some 8) (v := ?_) (a' := ?_) privilege_CheckSpans.D43 (any_of HT_.out (by kernel_rfl)) ?_ ?_ ?_; rotate_left 2
           ·intro w'; go_simp; with_reducible rfl
           ·simp only [Act.put, s_t, s_z, s_s, i64_w, i32_w]; rfl
           refine done_ (done_of HT_.out (by kernel_rfl)) ?_
           try go_wp2
           go_ret
           exact ⟨by first | rfl | (simp [errW_none, errW_some] <;> rfl) | (simp [*, errW_none, errW_some] <;> rfl), by repeat (first | (with_reducible first | exact HB.out | apply below_alloc | apply pw_below_drewN | apply below_drew1 | refine below_set ?_ GE146.out) | exact HB.out)⟩
        ·rw [if_neg c55] at H
         have c55b0 : decide (((rd_T46 l0 x24_1).f1) ≤ ((rd_T46 l0 x24_1).f0)) = false := decide_eq_false c55
         clear c55
         replace H := Option.bind_eq_some_iff.mp H
         obtain ⟨t171, A960, H⟩ := H
         replace H : (if x24_1 > 0 then (if 0 ≤ (wrap64 ((mx x24_1 1) - 1)) then (if (wrap64 ((mx x24_1 1) - 1)) < (l0.length : Int) then ((base_When.f (decide (((rd_T46 l0 x24_1).f0) ≤ ((rd_T46 l0 (wrap64 ((mx x24_1 1) - 1))).f1))) 7).bind fun t173 => ((base_First.f k1 (([t171, t173] : List Int))).bind fun t177 => (if t177 = 0 then (privilege_CheckSpans.l0 k1 l0 a1 l0 (l0.length : Int) (wrap64 (x24_1 + 1))) else (some t177)))) else (none)) else (none)) else ((base_When.f false 7).bind fun t178 => ((base_First.f k1 (([t171, t178] : List Int))).bind fun t182 => (if t182 = 0 then (privilege_CheckSpans.l0 k1 l0 a1 l0 (l0.length : Int) (wrap64 (x24_1 + 1))) else (some t182))))) = some r := H
         have A96 := Aside0.mk A960
         clear A960
         by_cases c97 : x24_1 > 0
         ·rw [if_pos c97] at H
          have c97b0 : decide (0 < x24_1) = true := decide_eq_true c97
          clear c97
          obtain ⟨ji98, hji98⟩ : ∃ j_ : Int, (mx x24_1 1) = j_ := ⟨_, rfl⟩
          replace H : (if 0 ≤ (wrap64 ((ji98) - 1)) then (if (wrap64 ((ji98) - 1)) < (l0.length : Int) then ((base_When.f (decide (((rd_T46 l0 x24_1).f0) ≤ ((rd_T46 l0 (wrap64 ((ji98) - 1))).f1))) 7).bind fun t173 => ((base_First.f k1 (([t171, t173] : List Int))).bind fun t177 => (if t177 = 0 then (privilege_CheckSpans.l0 k1 l0 a1 l0 (l0.length : Int) (wrap64 (x24_1 + 1))) else (some t177)))) else (none)) else (none)) = some r := by first | (rw [hji98] at H; exact H) | (simp only [hji98] at H ⊢; exact H)
          (try rw [hji98] at A96)
          have hji98_ : (if x24_1 < 1 then 1 else x24_1) = ji98 := hji98
          obtain ⟨ji99, hji99⟩ : ∃ j_ : Int, (wrap64 ((ji98) - 1)) = j_ := ⟨_, rfl⟩
          replace H : (if 0 ≤ (ji99) then (if (ji99) < (l0.length : Int) then ((base_When.f (decide (((rd_T46 l0 x24_1).f0) ≤ ((rd_T46 l0 (ji99)).f1))) 7).bind fun t173 => ((base_First.f k1 (([t171, t173] : List Int))).bind fun t177 => (if t177 = 0 then (privilege_CheckSpans.l0 k1 l0 a1 l0 (l0.length : Int) (wrap64 (x24_1 + 1))) else (some t177)))) else (none)) else (none)) = some r := by first | (rw [hji99] at H; exact H) | (simp only [hji99] at H ⊢; exact H)
          (try rw [hji99] at A96)
          have hji99w : (IntKind.i64.wrap ((ji98) - 1)) = ji99 := (i64_w _).trans hji99
          by_cases c100 : 0 ≤ (ji99)
          ·rw [if_pos c100] at H
           have c100b0 : decide (0 ≤ (ji99)) = true := decide_eq_true c100
           clear c100
           by_cases c101 : (ji99) < (l0.length : Int)
           ·rw [if_pos c101] at H
            have c101b0 : decide ((ji99) < (l0.length : Int)) = true := decide_eq_true c101
            clear c101
            replace H := Option.bind_eq_some_iff.mp H
            obtain ⟨t173, A1020, H⟩ := H
            replace H : ((base_First.f k1 (([t171, t173] : List Int))).bind fun t177 => (if t177 = 0 then (privilege_CheckSpans.l0 k1 l0 a1 l0 (l0.length : Int) (wrap64 (x24_1 + 1))) else (some t177))) = some r := H
            have A102 := Aside0.mk A1020
            clear A1020
            obtain ⟨y174, hy174⟩ : ∃ y_ : List Int, y_ = (([t171, t173] : List Int)) := ⟨_, rfl⟩
            replace H : ((base_First.f k1 y174).bind fun t177 => (if t177 = 0 then (privilege_CheckSpans.l0 k1 l0 a1 l0 (l0.length : Int) (wrap64 (x24_1 + 1))) else (some t177))) = some r := by first | (rw [hy174]; with_reducible exact H) | (have H2_ := (Option.bind_some _ _).symm.trans H; rw [hy174]; with_reducible exact H2_) | (have H2_ := (Option.bind_some _ _).symm.trans H; with_reducible exact H2_) | with_reducible exact H | (rw [hy174]; exact H) | exact H
            have Ny174 := Aside0.mk hy174
            clear hy174
            replace H := Option.bind_eq_some_iff.mp H
            obtain ⟨t177, A1030, H⟩ := H
            replace H : (if t177 = 0 then (privilege_CheckSpans.l0 k1 l0 a1 l0 (l0.length : Int) (wrap64 (x24_1 + 1))) else (some t177)) = some r := H
            have A103 := Aside0.mk A1030
            clear A1030
            by_cases c104 : t177 = 0
            ·rw [if_pos c104] at H
             have c104b0 : (t177 == 0) = true := beq_iff_eq.mpr c104
             have c104b1 : (t177 != 0) = false := bne_eq_false_iff_eq.mpr c104
             clear c104
             have H' := Aside0.mk H
             clear H
             have p145 : 0 ≤ (x24_1 : Int) := of_decide_eq_true (by first | (with_reducible assumption) | assumption)
             have q145 : x24_1 < (l0.length : Int) := of_decide_eq_true (by first | (with_reducible assumption) | assumption)
             obtain ⟨ad145, e145, hx145_0, hx145_1⟩ := at_T46 HR0.out x24_1 p145 q145
             cases e145
             first | replace hx145_0 := (HB.out.cell (World.block_lt_of_cell? w _ hx145_0)).trans hx145_0 | skip
             first | replace hx145_1 := (HB.out.cell (World.block_lt_of_cell? w _ hx145_1)).trans hx145_1 | skip
             replace p145 := eq_true p145
             replace q145 := eq_true q145
             try go_wp2_with (first | ((with_reducible refine gate_dst (N := 7) rfl ?_); (try (refine gate_guard (by rfl) ?_; dsimp only)); refine box_event ?hg (N := 7) ?hd (cs := #[.int .i64 0, .int .i64 0]) (t := 46) ?hr ?_; (case hd => rfl); (case hg => rfl); (case hr => first | (go_simp; done) | (go_simp; rfl)); intro gb146 hg w105 hbox hb; have n0_ := Aside0.mk (below_step (by repeat (first | (with_reducible first | exact HB.out | apply below_alloc | apply pw_below_drewN | apply below_drew1) | exact HB.out)) hb); have n1_ := Aside0.mk (hbox); have n2_ := Aside0.mk ((by rw [hg]; exact (below_size (by repeat (first | (with_reducible first | exact HB.out | apply below_alloc | apply pw_below_drewN | apply below_drew1) | exact HB.out))) : w.heap.size ≤ gb146)); have n3_ := Aside0.mk ((by rw [hg]; exact (below_size (by repeat (first | (with_reducible first | exact HB.out | apply below_alloc | apply pw_below_drewN | apply below_drew1) | exact HB.out))) : w.heap.size ≤ gb146)); clear HB; have HB := n0_; have BK146 := n1_; have GW146 := n2_; have GE146 := n3_; clear n0_ n1_ n2_ n3_; clear hb hbox hg; have hcz106_0 : w105.cell? ⟨gb146, 0, none⟩ = some (.int .i64 0) := (blk_cell BK146.out 0).trans rfl; have hcz106_1 : w105.cell? ⟨gb146, 1, none⟩ = some (.int .i64 0) := (blk_cell BK146.out 1).trans rfl; have hfz106_0 := blk_frozen BK146.out 0; have hfz106_1 := blk_frozen BK146.out 1))
             have n0_ : Aside0 (((w105.setCell ⟨gb146, 0, none⟩ (.int .i64 ((rd_T46 l0 x24_1).f0))).setCell ⟨gb146, 1, none⟩ (.int .i64 ((rd_T46 l0 x24_1).f1))).heap[gb146]? = some (.cells #[.int .i64 ((rd_T46 l0 x24_1).f0), .int .i64 ((rd_T46 l0 x24_1).f1)] 46 (0, 0))) := ⟨by (with_reducible repeat (first | refine blk_drewN ?_ _ | refine blk_drew ?_ | refine blk_alloc ?_ _)); refine blk_put (cs := #[.int .i64 ((rd_T46 l0 x24_1).f0), .int .i64 0]) ?_ 1 _ rfl; (with_reducible repeat (first | refine blk_drewN ?_ _ | refine blk_drew ?_ | refine blk_alloc ?_ _)); refine blk_put (cs := #[.int .i64 0, .int .i64 0]) ?_ 0 _ rfl; (with_reducible repeat (first | refine blk_drewN ?_ _ | refine blk_drew ?_ | refine blk_alloc ?_ _)); exact BK146.out⟩
             have n1_ : Aside0 (Below w.heap.size w ((w105.setCell ⟨gb146, 0, none⟩ (.int .i64 ((rd_T46 l0 x24_1).f0))).setCell ⟨gb146, 1, none⟩ (.int .i64 ((rd_T46 l0 x24_1).f1)))) := ⟨by repeat (first | (with_reducible first | exact HB.out | apply below_alloc | apply pw_below_drewN | apply below_drew1 | refine below_set ?_ GE146.out) | exact HB.out)⟩
             (try clear BK146)
             (try clear HB)
             generalize ((w105.setCell ⟨gb146, 0, none⟩ (.int .i64 ((rd_T46 l0 x24_1).f0))).setCell ⟨gb146, 1, none⟩ (.int .i64 ((rd_T46 l0 x24_1).f1))) = w107 at n0_ n1_ ⊢
             have BK146 := n0_
             have HB := n1_
             clear n0_ n1_
             have n0_ := Aside0.mk (blk_drew BK146.out)
             have n1_ := Aside0.mk (below_drew1 HB.out)
             clear BK146
             clear HB
             have BK146 := n0_
             have HB := n1_
             clear n0_ n1_
             have p172 : 0 ≤ ((ji99) : Int) := of_decide_eq_true (by first | (with_reducible assumption) | assumption)
             have q172 : (ji99) < (l0.length : Int) := of_decide_eq_true (by first | (with_reducible assumption) | assumption)
             obtain ⟨ad172, e172, hx172_0, hx172_1⟩ := at_T46 HR0.out (ji99) p172 q172
             have hw172_1 := hx172_1
             have hw172_0 := hx172_0
             obtain rfl : ad145 = ad172 := (by injection e172)
             first | replace hx172_0 := (HB.out.cell (World.block_lt_of_cell? w _ hx172_0)).trans hx172_0 | skip
             first | replace hx172_1 := (HB.out.cell (World.block_lt_of_cell? w _ hx172_1)).trans hx172_1 | skip
             replace p172 := eq_true p172
             replace q172 := eq_true q172
             refine start_ (n := 35) (S := fun w' => w'.cell? ⟨gb146, 0, none⟩ = some (.int .i64 ((rd_T46 l0 x24_1).f0)) ∧ w'.cell? ⟨gb146, 1, none⟩ = some (.int .i64 ((rd_T46 l0 x24_1).f1)) ∧ w'.cell? (ad145.add (((ji99)).toNat * 2)) = some (.int .i64 ((rd_T46 l0 (ji99)).f0)) ∧ w'.cell? ⟨(ad145.add (((ji99)).toNat * 2)).block, (ad145.add (((ji99)).toNat * 2)).off + 1, none⟩ = some (.int .i64 ((rd_T46 l0 (ji99)).f1))) (ds := []) privilege_CheckSpans.D0 (by kernel_rfl) rfl rfl ⟨(blk_cell BK146.out 0).trans rfl, (blk_cell BK146.out 1).trans rfl, ((HB.out.cell (World.block_lt_of_cell? w _ hw172_0)).trans hw172_0), ((HB.out.cell (World.block_lt_of_cell? w _ hw172_1)).trans hw172_1)⟩ (fun hHeld => ?_); refine with_tabW privilege_CheckSpans.tab7 privilege_CheckSpans.bits7 (fun HT_ HW_ => ?_)
             generalize w107.drew = w108 at BK146 HB hx172_0 hx172_1 hHeld ⊢
             refine pu_ (i := 0) (N := some 29) (v := ?_) (a' := ?_) privilege_CheckSpans.D1 (any_of HT_.out (by kernel_rfl)) ?_ ?_ ?_; rotate_left 2
             ·intro w'; go_simp; with_reducible rfl
             ·simp only [Act.put, s_t, s_z, s_s, i64_w, i32_w]; rfl
             refine pu_ (i := 17) (N := some 46) (v := ?_) (a' := ?_) privilege_CheckSpans.D2 (any_of HT_.out (by kernel_rfl)) ?_ ?_ ?_; rotate_left 2
             ·intro w'; go_simp; with_reducible rfl
             ·simp only [Act.put, s_t, s_z, s_s, i64_w, i32_w]; rfl
             refine pu_ (i := 18) (N := some 47) (v := ?_) (a' := ?_) privilege_CheckSpans.D3 (any_of HT_.out (by kernel_rfl)) ?_ ?_ ?_; rotate_left 2
             ·intro w'; go_simp; with_reducible rfl
             ·simp only [Act.put, s_t, s_z, s_s, i64_w, i32_w]; rfl
             refine take_ (i := 1) (N := some 30) (v := ?_) (a' := ?_) privilege_CheckSpans.D4 rfl rfl (take_ofW HT_.out HW_.out (by kernel_rfl)) (fun _ _ _ h => h) (Or.inl ⟨by rfl, ?_⟩) hHeld ?_ ?_
             rotate_left
             ·rintro w' ⟨s0, s1, s2, s3⟩
              go_simp
              with_reducible rfl
             rotate_left
             ·simp only [Act.put, List.setIfInBounds_toArray, List.set_cons_zero, List.set_cons_succ, i64_w, i32_w]
              rfl
             refine pu_ (i := 2) (N := some 31) (v := ?_) (a' := ?_) privilege_CheckSpans.D5 (any_of HT_.out (by kernel_rfl)) ?_ ?_ ?_; rotate_left 2
             ·intro w'; go_simp; with_reducible rfl
             ·simp only [Act.put, s_t, s_z, s_s, i64_w, i32_w]; rfl
             refine pu_ (i := 3) (N := some 32) (v := ?_) (a' := ?_) privilege_CheckSpans.D6 (any_of HT_.out (by kernel_rfl)) ?_ ?_ ?_; rotate_left 2
             ·intro w'; go_simp; with_reducible rfl
             ·simp only [Act.put, s_t, s_z, s_s, i64_w, i32_w]; rfl
             refine pu_ (i := 4) (N := some 33) (v := ?_) (a' := ?_) privilege_CheckSpans.D7 (any_of HT_.out (by kernel_rfl)) ?_ ?_ ?_; rotate_left 2
             ·intro w'; go_simp; with_reducible rfl
             ·simp only [Act.put, s_t, s_z, s_s, i64_w, i32_w]; rfl
             refine pu_ (i := 6) (N := some 35) (v := ?_) (a' := ?_) privilege_CheckSpans.D8 (any_of HT_.out (by kernel_rfl)) ?_ ?_ ?_; rotate_left 2
             ·intro w'; go_simp; with_reducible rfl
             ·simp only [Act.put, s_t, s_z, s_s, i64_w, i32_w]; rfl
             refine take_ (i := 5) (N := some 34) (v := ?_) (a' := ?_) privilege_CheckSpans.D10 rfl rfl (take_ofW HT_.out HW_.out (by kernel_rfl)) (fun _ _ _ h => h) (Or.inl ⟨by rfl, ?_⟩) hHeld ?_ ?_
             rotate_left
             ·rintro w' ⟨s0, s1, s2, s3⟩
              go_simp
              with_reducible rfl
             rotate_left
             ·simp only [Act.put, List.setIfInBounds_toArray, List.set_cons_zero, List.set_cons_succ, i64_w, i32_w]
              rfl
             refine take_ (i := 7) (N := some 36) (v := ?_) (a' := ?_) privilege_CheckSpans.D11 rfl rfl (take_ofW HT_.out HW_.out (by kernel_rfl)) (fun _ _ _ h => h) (Or.inl ⟨by rfl, ?_⟩) hHeld ?_ ?_
             rotate_left
             ·rintro w' ⟨s0, s1, s2, s3⟩
              go_simp
              with_reducible rfl
             rotate_left
             ·simp only [Act.put, List.setIfInBounds_toArray, List.set_cons_zero, List.set_cons_succ, i64_w, i32_w]
              rfl
             refine pu_ (i := 8) (N := some 37) (v := ?_) (a' := ?_) privilege_CheckSpans.D12 (any_of HT_.out (by kernel_rfl)) ?_ ?_ ?_; rotate_left 2
             ·intro w'; go_simp; with_reducible rfl
             ·simp only [Act.put, s_t, s_z, s_s, i64_w, i32_w]; rfl
             refine pu_ (i := 9) (N := some 38) (v := ?_) (a' := ?_) privilege_CheckSpans.D13 (any_of HT_.out (by kernel_rfl)) ?_ ?_ ?_; rotate_left 2
             ·intro w'; go_simp; with_reducible rfl
             ·simp only [Act.put, s_t, s_z, s_s, i64_w, i32_w]; rfl
             refine pu_ (i := 10) (N := some 39) (v := ?_) (a' := ?_) privilege_CheckSpans.D14 (any_of HT_.out (by kernel_rfl)) ?_ ?_ ?_; rotate_left 2
             ·intro w'; go_simp; with_reducible rfl
             ·simp only [Act.put, s_t, s_z, s_s, i64_w, i32_w]; rfl
             refine pu_ (i := 11) (N := some 40) (v := ?_) (a' := ?_) privilege_CheckSpans.D15 (any_of HT_.out (by kernel_rfl)) ?_ ?_ ?_; rotate_left 2
             ·intro w'; go_simp; with_reducible rfl
             ·simp only [Act.put, s_t, s_z, s_s, i64_w, i32_w]; rfl
             refine pu_ (i := 13) (N := some 42) (v := ?_) (a' := ?_) privilege_CheckSpans.D16 (any_of HT_.out (by kernel_rfl)) ?_ ?_ ?_; rotate_left 2
             ·intro w'; go_simp; with_reducible rfl
             ·simp only [Act.put, s_t, s_z, s_s, i64_w, i32_w]; rfl
             refine take_ (i := 12) (N := some 41) (v := ?_) (a' := ?_) privilege_CheckSpans.D18 rfl rfl (take_ofW HT_.out HW_.out (by kernel_rfl)) (fun _ _ _ h => h) (Or.inl ⟨by rfl, ?_⟩) hHeld ?_ ?_
             rotate_left
             ·rintro w' ⟨s0, s1, s2, s3⟩
              go_simp
              with_reducible rfl
             rotate_left
             ·simp only [Act.put, List.setIfInBounds_toArray, List.set_cons_zero, List.set_cons_succ, i64_w, i32_w]
              rfl
             refine pu_ (i := 14) (N := some 43) (v := ?_) (a' := ?_) privilege_CheckSpans.D19 (any_of HT_.out (by kernel_rfl)) ?_ ?_ ?_; rotate_left 2
             ·intro w'; go_simp; with_reducible rfl
             ·simp only [Act.put, s_t, s_z, s_s, i64_w, i32_w]; rfl
             refine pu_ (i := 15) (N := some 44) (v := ?_) (a' := ?_) privilege_CheckSpans.D20 (any_of HT_.out (by kernel_rfl)) ?_ ?_ ?_; rotate_left 2
             ·intro w'; go_simp; with_reducible rfl
             ·simp only [Act.put, s_t, s_z, s_s, i64_w, i32_w]; rfl
             refine one_ (i := 16) (N := some 45) privilege_CheckSpans.D21 rfl rfl (one_of HT_.out (by kernel_rfl)) (by decide) (fun K hK => ?_)
             refine goes_ Tryd.func46 (by kernel_rfl) rfl #[.bool (decide (((rd_T46 l0 x24_1).f1) > a1)), .int .i64 1] (by rfl) rfl rfl (by (try simp only [List.map_toArray, List.map_cons, List.map_nil]); first | done | rfl | (simp only [List.length_drop, List.length_take]; rfl)) ?_
             with_reducible refine (base_When.calls (decide (((rd_T46 l0 x24_1).f1) > a1)) 1 t171 _ A96.out).mono ?_
             rintro e w' ⟨rfl, ⟨nd, rfl⟩⟩
             refine ⟨_, rfl, ?_⟩
             refine hK.out _ _ ⟨(blk_cell BK146.out 0).trans rfl, (blk_cell BK146.out 1).trans rfl, ((HB.out.cell (World.block_lt_of_cell? w _ hw172_0)).trans hw172_0), ((HB.out.cell (World.block_lt_of_cell? w _ hw172_1)).trans hw172_1)⟩ (fun hHeld => ?_)
             clear hK K
             refine norm_ (a' := ?_) ?_ ?_
             rotate_left
             ·show Act.put _ (some 45) _ = _
              simp only [Act.put, List.setIfInBounds_toArray, List.set_cons_zero, List.set_cons_succ, i64_w, i32_w]
              rfl
             refine pu_ (i := 19) (N := some 48) (v := ?_) (a' := ?_) privilege_CheckSpans.D22 (any_of HT_.out (by kernel_rfl)) ?_ ?_ ?_; rotate_left 2
             ·intro w'; go_simp; with_reducible rfl
             ·simp only [Act.put, s_t, s_z, s_s, i64_w, i32_w]; rfl
             refine pu_ (i := 20) (N := some 49) (v := ?_) (a' := ?_) privilege_CheckSpans.D23 (any_of HT_.out (by kernel_rfl)) ?_ ?_ ?_; rotate_left 2
             ·intro w'; go_simp; with_reducible rfl
             ·simp only [Act.put, s_t, s_z, s_s, i64_w, i32_w]; rfl
             refine pu_ (i := 22) (N := some 51) (v := ?_) (a' := ?_) privilege_CheckSpans.D24 (any_of HT_.out (by kernel_rfl)) ?_ ?_ ?_; rotate_left 2
             ·intro w'; go_simp; with_reducible rfl
             ·simp only [Act.put, s_t, s_z, s_s, i64_w, i32_w]; rfl
             refine pu_ (i := 23) (N := some 52) (v := ?_) (a' := ?_) privilege_CheckSpans.D25 (any_of HT_.out (by kernel_rfl)) ?_ ?_ ?_; rotate_left 2
             ·intro w'; go_simp; with_reducible rfl
             ·simp only [Act.put, s_t, s_z, s_s, i64_w, i32_w]; rfl
             refine pu_ (i := 24) (N := some 53) (v := ?_) (a' := ?_) privilege_CheckSpans.D26 (any_of HT_.out (by kernel_rfl)) ?_ ?_ ?_; rotate_left 2
             ·intro w'; go_simp; with_reducible rfl
             ·simp only [Act.put, s_t, s_z, s_s, i64_w, i32_w]; rfl
             refine pu_ (i := 25) (N := some 54) (v := ?_) (a' := ?_) privilege_CheckSpans.D27 (any_of HT_.out (by kernel_rfl)) ?_ ?_ ?_; rotate_left 2
             ·intro w'; go_simp; with_reducible rfl
             ·simp only [Act.put, s_t, s_z, s_s, i64_w, i32_w]; rfl
             refine pu_ (i := 26) (N := some 55) (v := ?_) (a' := ?_) privilege_CheckSpans.D28 (any_of HT_.out (by kernel_rfl)) ?_ ?_ ?_; rotate_left 2
             ·intro w'; go_simp; with_reducible rfl
             ·simp only [Act.put, s_t, s_z, s_s, i64_w, i32_w]; rfl
             refine pu_ (i := 27) (N := some 56) (v := ?_) (a' := ?_) privilege_CheckSpans.D29 (any_of HT_.out (by kernel_rfl)) ?_ ?_ ?_; rotate_left 2
             ·intro w'; go_simp; with_reducible rfl
             ·simp only [Act.put, s_t, s_z, s_s, i64_w, i32_w]; rfl
             refine take_ (i := 21) (N := some 50) (v := ?_) (a' := ?_) privilege_CheckSpans.D36 rfl rfl (take_ofW HT_.out HW_.out (by kernel_rfl)) (fun _ _ _ h => h) (Or.inl ⟨by rfl, ?_⟩) hHeld ?_ ?_
             rotate_left
             ·rintro w' ⟨s0, s1, s2, s3⟩
              go_simp
              with_reducible rfl
             rotate_left
             ·simp only [Act.put, List.setIfInBounds_toArray, List.set_cons_zero, List.set_cons_succ, i64_w, i32_w]
              rfl
             refine take_ (i := 28) (N := some 57) (v := ?_) (a' := ?_) privilege_CheckSpans.D37 rfl rfl (take_ofW HT_.out HW_.out (by kernel_rfl)) (fun _ _ _ h => h) (Or.inl ⟨by rfl, ?_⟩) hHeld ?_ ?_
             rotate_left
             ·rintro w' ⟨s0, s1, s2, s3⟩
              go_simp
              with_reducible rfl
             rotate_left
             ·simp only [Act.put, List.setIfInBounds_toArray, List.set_cons_zero, List.set_cons_succ, i64_w, i32_w]
              rfl
             refine pu_ (i := 29) (N := some 58) (v := ?_) (a' := ?_) privilege_CheckSpans.D38 (any_of HT_.out (by kernel_rfl)) ?_ ?_ ?_; rotate_left 2
             ·intro w'; go_simp; with_reducible rfl
             ·simp only [Act.put, s_t, s_z, s_s, i64_w, i32_w]; rfl
             refine pu_ (i := 30) (N := some 59) (v := ?_) (a' := ?_) privilege_CheckSpans.D39 (any_of HT_.out (by kernel_rfl)) ?_ ?_ ?_; rotate_left 2
             ·intro w'; go_simp; with_reducible rfl
             ·simp only [Act.put, s_t, s_z, s_s, i64_w, i32_w]; rfl
             refine one_ (i := 31) (N := some 60) privilege_CheckSpans.D40 rfl rfl (one_of HT_.out (by kernel_rfl)) (by decide) (fun K hK => ?_)
             refine goes_ Tryd.func46 (by kernel_rfl) rfl #[.bool (decide (((rd_T46 l0 x24_1).f0) ≤ ((rd_T46 l0 (ji99)).f1))), .int .i64 7] (by rfl) rfl rfl (by (try simp only [List.map_toArray, List.map_cons, List.map_nil]); first | done | (simp only [hji99]; rfl) | rfl | (simp only [List.length_drop, List.length_take]; rfl)) ?_
             with_reducible refine (base_When.calls (decide (((rd_T46 l0 x24_1).f0) ≤ ((rd_T46 l0 (ji99)).f1))) 7 t173 _ A102.out).mono ?_
             rintro e w' ⟨rfl, ⟨nd, rfl⟩⟩
             refine ⟨_, rfl, ?_⟩
             refine hK.out _ _ ⟨(blk_cell BK146.out 0).trans rfl, (blk_cell BK146.out 1).trans rfl, ((HB.out.cell (World.block_lt_of_cell? w _ hw172_0)).trans hw172_0), ((HB.out.cell (World.block_lt_of_cell? w _ hw172_1)).trans hw172_1)⟩ (fun hHeld => ?_)
             clear hK K
             refine norm_ (a' := ?_) ?_ ?_
             rotate_left
             ·show Act.put _ (some 60) _ = _
              simp only [Act.put, List.setIfInBounds_toArray, List.set_cons_zero, List.set_cons_succ, i64_w, i32_w]
              rfl
             refine one_ (i := 32) (N := some 61) privilege_CheckSpans.D41 rfl rfl (one_of HT_.out (by kernel_rfl)) (by decide) (fun K hK => ?_)
             refine Kd.R_lit_step (Kd.int .i64) _ 29 ?hg (N := 61) ?hd (xs := ([t171, t173] : List Int)) (inner := [.int .i64 t171, .int .i64 t173]) (ok := fun _ => True) (okp := fun _ => True) ?hr ?hp (fun _ hk => hk) trivial (Below.refl _ _) (Nat.le_refl _) (by simp) ?_; (case hd => rfl); (case hg => rfl); (case hr => first | (go_simp; done) | (go_simp; rfl)); (case hp => exact (Reps.one (show Kd.M (Kd.int .i64) _ _ _ t171 [.int .i64 t171] from rfl) (Reps.one (show Kd.M (Kd.int .i64) _ _ _ t173 [.int .i64 t173] from rfl) (Reps.none _ _))))
             intro v175 w109 ho110 hb hg_ hnew_
             clear hg_ hnew_
             (first | rw [← Ny174.out] at ho110 | (simp only [Int.reduceToNat] at ho110; rw [← Ny174.out] at ho110))
             have n0_ := Aside0.mk (Kd.R_lower ho110 (below_size (by repeat (first | (with_reducible first | exact HB.out | apply below_alloc | apply pw_below_drewN | apply below_drew1 | refine below_set ?_ GE146.out) | exact HB.out))))
             have n1_ := Aside0.mk (blk_below (g := gb146) (o := .cells #[.int .i64 ((rd_T46 l0 x24_1).f0), .int .i64 ((rd_T46 l0 x24_1).f1)] 46 (0, 0)) (by (with_reducible repeat (first | refine blk_drewN ?_ _ | refine blk_drew ?_ | refine blk_alloc ?_ _)); exact BK146.out) hb)
             have n2_ := Aside0.mk (below_step (by repeat (first | (with_reducible first | exact HB.out | apply below_alloc | apply pw_below_drewN | apply below_drew1 | refine below_set ?_ GE146.out) | exact HB.out)) hb)
             clear BK146
             clear HB
             have HO176 := n0_
             have BK146 := n1_
             have HB := n2_
             clear n0_ n1_ n2_
             clear hb ho110
             obtain ⟨Ao111, co111, eo111⟩ := Kd.R_slice HO176.out
             (first | subst eo111 | (injection eo111 with f1_ f2_ f3_; have f4_ := f1_.symm; have f5_ := f3_.symm; clear f1_ f2_ f3_; subst f4_; subst f5_))
             refine hK.out _ _ ⟨(blk_cell BK146.out 0).trans rfl, (blk_cell BK146.out 1).trans rfl, ((HB.out.cell (World.block_lt_of_cell? w _ hw172_0)).trans hw172_0), ((HB.out.cell (World.block_lt_of_cell? w _ hw172_1)).trans hw172_1)⟩ (fun hHeld => ?_)
             clear hK K
             refine norm_ (a' := ?_) ?_ ?_
             rotate_left
             ·show Act.put _ (some 61) _ = _
              simp only [Act.put, List.setIfInBounds_toArray, List.set_cons_zero, List.set_cons_succ, i64_w, i32_w]
              rfl
             refine one_ (i := 33) (N := some 62) privilege_CheckSpans.D42 rfl rfl (one_of HT_.out (by kernel_rfl)) (by decide) (fun K hK => ?_)
             refine goes_ Tryd.func45 (by kernel_rfl) rfl #[.slice Ao111 y174.length co111] (by rfl) rfl rfl (by (try simp only [List.map_toArray, List.map_cons, List.map_nil]); first | done | rfl | (simp only [List.length_drop, List.length_take]; rfl)) ?_
             with_reducible refine (base_First.calls k1 _ _ y174 t177 _ ?side1 ?side2 A103.out).mono ?_
             (case side1 => repeat (first | exact (Kd.R_reads' HO176.out).2.2 | (with_reducible refine Kd.C_alloc ?_ _) | (with_reducible refine Kd.C_drewN ?_ _) | (with_reducible refine Kd.C_drew ?_)))
             (case side2 => exact (Kd.R_reads' HO176.out).2.1)
             rintro e w' ⟨rfl, ⟨nd, rfl⟩⟩
             refine ⟨_, rfl, ?_⟩
             refine hK.out _ _ ⟨(blk_cell BK146.out 0).trans rfl, (blk_cell BK146.out 1).trans rfl, ((HB.out.cell (World.block_lt_of_cell? w _ hw172_0)).trans hw172_0), ((HB.out.cell (World.block_lt_of_cell? w _ hw172_1)).trans hw172_1)⟩ (fun hHeld => ?_)
             clear hK K
             refine norm_ (a' := ?_) ?_ ?_
             rotate_left
             ·show Act.put _ (some 62) _ = _
              simp only [Act.put, List.setIfInBounds_toArray, List.set_cons_zero, List.set_cons_succ, i64_w, i32_w]
              rfl
             refine pu_ (i := 34) (N := some 8) (v := ?_) (a' := ?_) privilege_CheckSpans.D43 (any_of HT_.out (by kernel_rfl)) ?_ ?_ ?_; rotate_left 2
             ·intro w'; go_simp; with_reducible rfl
             ·simp only [Act.put, s_t, s_z, s_s, i64_w, i32_w]; rfl
             refine done_ (done_of HT_.out (by kernel_rfl)) ?_
             try go_wp2
             go_roundg k1
             case measure => have := HK1.out; omega
             case rel => exact ⟨(wrap64 (x24_1 + 1)), (by first | rfl | (simp; done) | (simp [*]; done)), H', ⟨by have := HK1.out; omega⟩, ⟨by repeat (first | (with_reducible first | exact HB.out | apply below_alloc | apply pw_below_drewN | apply below_drew1 | refine below_set ?_ GE146.out) | exact HB.out)⟩⟩
            ·rw [if_neg c104] at H
             have c104b0 : (t177 == 0) = false := beq_eq_false_iff_ne.mpr c104
             have c104b1 : (t177 != 0) = true := bne_iff_ne.mpr c104
             obtain rfl := Option.some.inj H
             have p145 : 0 ≤ (x24_1 : Int) := of_decide_eq_true (by first | (with_reducible assumption) | assumption)
             have q145 : x24_1 < (l0.length : Int) := of_decide_eq_true (by first | (with_reducible assumption) | assumption)
             obtain ⟨ad145, e145, hx145_0, hx145_1⟩ := at_T46 HR0.out x24_1 p145 q145
             cases e145
             first | replace hx145_0 := (HB.out.cell (World.block_lt_of_cell? w _ hx145_0)).trans hx145_0 | skip
             first | replace hx145_1 := (HB.out.cell (World.block_lt_of_cell? w _ hx145_1)).trans hx145_1 | skip
             replace p145 := eq_true p145
             replace q145 := eq_true q145
             try go_wp2_with (first | ((with_reducible refine gate_dst (N := 7) rfl ?_); (try (refine gate_guard (by rfl) ?_; dsimp only)); refine box_event ?hg (N := 7) ?hd (cs := #[.int .i64 0, .int .i64 0]) (t := 46) ?hr ?_; (case hd => rfl); (case hg => rfl); (case hr => first | (go_simp; done) | (go_simp; rfl)); intro gb146 hg w112 hbox hb; have n0_ := Aside0.mk (below_step (by repeat (first | (with_reducible first | exact HB.out | apply below_alloc | apply pw_below_drewN | apply below_drew1) | exact HB.out)) hb); have n1_ := Aside0.mk (hbox); have n2_ := Aside0.mk ((by rw [hg]; exact (below_size (by repeat (first | (with_reducible first | exact HB.out | apply below_alloc | apply pw_below_drewN | apply below_drew1) | exact HB.out))) : w.heap.size ≤ gb146)); have n3_ := Aside0.mk ((by rw [hg]; exact (below_size (by repeat (first | (with_reducible first | exact HB.out | apply below_alloc | apply pw_below_drewN | apply below_drew1) | exact HB.out))) : w.heap.size ≤ gb146)); clear HB; have HB := n0_; have BK146 := n1_; have GW146 := n2_; have GE146 := n3_; clear n0_ n1_ n2_ n3_; clear hb hbox hg; have hcz113_0 : w112.cell? ⟨gb146, 0, none⟩ = some (.int .i64 0) := (blk_cell BK146.out 0).trans rfl; have hcz113_1 : w112.cell? ⟨gb146, 1, none⟩ = some (.int .i64 0) := (blk_cell BK146.out 1).trans rfl; have hfz113_0 := blk_frozen BK146.out 0; have hfz113_1 := blk_frozen BK146.out 1))
             have n0_ : Aside0 (((w112.setCell ⟨gb146, 0, none⟩ (.int .i64 ((rd_T46 l0 x24_1).f0))).setCell ⟨gb146, 1, none⟩ (.int .i64 ((rd_T46 l0 x24_1).f1))).heap[gb146]? = some (.cells #[.int .i64 ((rd_T46 l0 x24_1).f0), .int .i64 ((rd_T46 l0 x24_1).f1)] 46 (0, 0))) := ⟨by (with_reducible repeat (first | refine blk_drewN ?_ _ | refine blk_drew ?_ | refine blk_alloc ?_ _)); refine blk_put (cs := #[.int .i64 ((rd_T46 l0 x24_1).f0), .int .i64 0]) ?_ 1 _ rfl; (with_reducible repeat (first | refine blk_drewN ?_ _ | refine blk_drew ?_ | refine blk_alloc ?_ _)); refine blk_put (cs := #[.int .i64 0, .int .i64 0]) ?_ 0 _ rfl; (with_reducible repeat (first | refine blk_drewN ?_ _ | refine blk_drew ?_ | refine blk_alloc ?_ _)); exact BK146.out⟩
             have n1_ : Aside0 (Below w.heap.size w ((w112.setCell ⟨gb146, 0, none⟩ (.int .i64 ((rd_T46 l0 x24_1).f0))).setCell ⟨gb146, 1, none⟩ (.int .i64 ((rd_T46 l0 x24_1).f1)))) := ⟨by repeat (first | (with_reducible first | exact HB.out | apply below_alloc | apply pw_below_drewN | apply below_drew1 | refine below_set ?_ GE146.out) | exact HB.out)⟩
             (try clear BK146)
             (try clear HB)
             generalize ((w112.setCell ⟨gb146, 0, none⟩ (.int .i64 ((rd_T46 l0 x24_1).f0))).setCell ⟨gb146, 1, none⟩ (.int .i64 ((rd_T46 l0 x24_1).f1))) = w114 at n0_ n1_ ⊢
             have BK146 := n0_
             have HB := n1_
             clear n0_ n1_
             have n0_ := Aside0.mk (blk_drew BK146.out)
             have n1_ := Aside0.mk (below_drew1 HB.out)
             clear BK146
             clear HB
             have BK146 := n0_
             have HB := n1_
             clear n0_ n1_
             have p172 : 0 ≤ ((ji99) : Int) := of_decide_eq_true (by first | (with_reducible assumption) | assumption)
             have q172 : (ji99) < (l0.length : Int) := of_decide_eq_true (by first | (with_reducible assumption) | assumption)
             obtain ⟨ad172, e172, hx172_0, hx172_1⟩ := at_T46 HR0.out (ji99) p172 q172
             have hw172_1 := hx172_1
             have hw172_0 := hx172_0
             obtain rfl : ad145 = ad172 := (by injection e172)
             first | replace hx172_0 := (HB.out.cell (World.block_lt_of_cell? w _ hx172_0)).trans hx172_0 | skip
             first | replace hx172_1 := (HB.out.cell (World.block_lt_of_cell? w _ hx172_1)).trans hx172_1 | skip
             replace p172 := eq_true p172
             replace q172 := eq_true q172
             refine start_ (n := 35) (S := fun w' => w'.cell? ⟨gb146, 0, none⟩ = some (.int .i64 ((rd_T46 l0 x24_1).f0)) ∧ w'.cell? ⟨gb146, 1, none⟩ = some (.int .i64 ((rd_T46 l0 x24_1).f1)) ∧ w'.cell? (ad145.add (((ji99)).toNat * 2)) = some (.int .i64 ((rd_T46 l0 (ji99)).f0)) ∧ w'.cell? ⟨(ad145.add (((ji99)).toNat * 2)).block, (ad145.add (((ji99)).toNat * 2)).off + 1, none⟩ = some (.int .i64 ((rd_T46 l0 (ji99)).f1))) (ds := []) privilege_CheckSpans.D0 (by kernel_rfl) rfl rfl ⟨(blk_cell BK146.out 0).trans rfl, (blk_cell BK146.out 1).trans rfl, ((HB.out.cell (World.block_lt_of_cell? w _ hw172_0)).trans hw172_0), ((HB.out.cell (World.block_lt_of_cell? w _ hw172_1)).trans hw172_1)⟩ (fun hHeld => ?_); refine with_tabW privilege_CheckSpans.tab7 privilege_CheckSpans.bits7 (fun HT_ HW_ => ?_)
             generalize w114.drew = w115 at BK146 HB hx172_0 hx172_1 hHeld ⊢
             refine pu_ (i := 0) (N := some 29) (v := ?_) (a' := ?_) privilege_CheckSpans.D1 (any_of HT_.out (by kernel_rfl)) ?_ ?_ ?_; rotate_left 2
             ·intro w'; go_simp; with_reducible rfl
             ·simp only [Act.put, s_t, s_z, s_s, i64_w, i32_w]; rfl
             refine pu_ (i := 17) (N := some 46) (v := ?_) (a' := ?_) privilege_CheckSpans.D2 (any_of HT_.out (by kernel_rfl)) ?_ ?_ ?_; rotate_left 2
             ·intro w'; go_simp; with_reducible rfl
             ·simp only [Act.put, s_t, s_z, s_s, i64_w, i32_w]; rfl
             refine pu_ (i := 18) (N := some 47) (v := ?_) (a' := ?_) privilege_CheckSpans.D3 (any_of HT_.out (by kernel_rfl)) ?_ ?_ ?_; rotate_left 2
             ·intro w'; go_simp; with_reducible rfl
             ·simp only [Act.put, s_t, s_z, s_s, i64_w, i32_w]; rfl
             refine take_ (i := 1) (N := some 30) (v := ?_) (a' := ?_) privilege_CheckSpans.D4 rfl rfl (take_ofW HT_.out HW_.out (by kernel_rfl)) (fun _ _ _ h => h) (Or.inl ⟨by rfl, ?_⟩) hHeld ?_ ?_
             rotate_left
             ·rintro w' ⟨s0, s1, s2, s3⟩
              go_simp
              with_reducible rfl
             rotate_left
             ·simp only [Act.put, List.setIfInBounds_toArray, List.set_cons_zero, List.set_cons_succ, i64_w, i32_w]
              rfl
             refine pu_ (i := 2) (N := some 31) (v := ?_) (a' := ?_) privilege_CheckSpans.D5 (any_of HT_.out (by kernel_rfl)) ?_ ?_ ?_; rotate_left 2
             ·intro w'; go_simp; with_reducible rfl
             ·simp only [Act.put, s_t, s_z, s_s, i64_w, i32_w]; rfl
             refine pu_ (i := 3) (N := some 32) (v := ?_) (a' := ?_) privilege_CheckSpans.D6 (any_of HT_.out (by kernel_rfl)) ?_ ?_ ?_; rotate_left 2
             ·intro w'; go_simp; with_reducible rfl
             ·simp only [Act.put, s_t, s_z, s_s, i64_w, i32_w]; rfl
             refine pu_ (i := 4) (N := some 33) (v := ?_) (a' := ?_) privilege_CheckSpans.D7 (any_of HT_.out (by kernel_rfl)) ?_ ?_ ?_; rotate_left 2
             ·intro w'; go_simp; with_reducible rfl
             ·simp only [Act.put, s_t, s_z, s_s, i64_w, i32_w]; rfl
             refine pu_ (i := 6) (N := some 35) (v := ?_) (a' := ?_) privilege_CheckSpans.D8 (any_of HT_.out (by kernel_rfl)) ?_ ?_ ?_; rotate_left 2
             ·intro w'; go_simp; with_reducible rfl
             ·simp only [Act.put, s_t, s_z, s_s, i64_w, i32_w]; rfl
             refine take_ (i := 5) (N := some 34) (v := ?_) (a' := ?_) privilege_CheckSpans.D10 rfl rfl (take_ofW HT_.out HW_.out (by kernel_rfl)) (fun _ _ _ h => h) (Or.inl ⟨by rfl, ?_⟩) hHeld ?_ ?_
             rotate_left
             ·rintro w' ⟨s0, s1, s2, s3⟩
              go_simp
              with_reducible rfl
             rotate_left
             ·simp only [Act.put, List.setIfInBounds_toArray, List.set_cons_zero, List.set_cons_succ, i64_w, i32_w]
              rfl
             refine take_ (i := 7) (N := some 36) (v := ?_) (a' := ?_) privilege_CheckSpans.D11 rfl rfl (take_ofW HT_.out HW_.out (by kernel_rfl)) (fun _ _ _ h => h) (Or.inl ⟨by rfl, ?_⟩) hHeld ?_ ?_
             rotate_left
             ·rintro w' ⟨s0, s1, s2, s3⟩
              go_simp
              with_reducible rfl
             rotate_left
             ·simp only [Act.put, List.setIfInBounds_toArray, List.set_cons_zero, List.set_cons_succ, i64_w, i32_w]
              rfl
             refine pu_ (i := 8) (N := some 37) (v := ?_) (a' := ?_) privilege_CheckSpans.D12 (any_of HT_.out (by kernel_rfl)) ?_ ?_ ?_; rotate_left 2
             ·intro w'; go_simp; with_reducible rfl
             ·simp only [Act.put, s_t, s_z, s_s, i64_w, i32_w]; rfl
             refine pu_ (i := 9) (N := some 38) (v := ?_) (a' := ?_) privilege_CheckSpans.D13 (any_of HT_.out (by kernel_rfl)) ?_ ?_ ?_; rotate_left 2
             ·intro w'; go_simp; with_reducible rfl
             ·simp only [Act.put, s_t, s_z, s_s, i64_w, i32_w]; rfl
             refine pu_ (i := 10) (N := some 39) (v := ?_) (a' := ?_) privilege_CheckSpans.D14 (any_of HT_.out (by kernel_rfl)) ?_ ?_ ?_; rotate_left 2
             ·intro w'; go_simp; with_reducible rfl
             ·simp only [Act.put, s_t, s_z, s_s, i64_w, i32_w]; rfl
             refine pu_ (i := 11) (N := some 40) (v := ?_) (a' := ?_) privilege_CheckSpans.D15 (any_of HT_.out (by kernel_rfl)) ?_ ?_ ?_; rotate_left 2
             ·intro w'; go_simp; with_reducible rfl
             ·simp only [Act.put, s_t, s_z, s_s, i64_w, i32_w]; rfl
             refine pu_ (i := 13) (N := some 42) (v := ?_) (a' := ?_) privilege_CheckSpans.D16 (any_of HT_.out (by kernel_rfl)) ?_ ?_ ?_; rotate_left 2
             ·intro w'; go_simp; with_reducible rfl
             ·simp only [Act.put, s_t, s_z, s_s, i64_w, i32_w]; rfl
             refine take_ (i := 12) (N := some 41) (v := ?_) (a' := ?_) privilege_CheckSpans.D18 rfl rfl (take_ofW HT_.out HW_.out (by kernel_rfl)) (fun _ _ _ h => h) (Or.inl ⟨by rfl, ?_⟩) hHeld ?_ ?_
             rotate_left
             ·rintro w' ⟨s0, s1, s2, s3⟩
              go_simp
              with_reducible rfl
             rotate_left
             ·simp only [Act.put, List.setIfInBounds_toArray, List.set_cons_zero, List.set_cons_succ, i64_w, i32_w]
              rfl
             refine pu_ (i := 14) (N := some 43) (v := ?_) (a' := ?_) privilege_CheckSpans.D19 (any_of HT_.out (by kernel_rfl)) ?_ ?_ ?_; rotate_left 2
             ·intro w'; go_simp; with_reducible rfl
             ·simp only [Act.put, s_t, s_z, s_s, i64_w, i32_w]; rfl
             refine pu_ (i := 15) (N := some 44) (v := ?_) (a' := ?_) privilege_CheckSpans.D20 (any_of HT_.out (by kernel_rfl)) ?_ ?_ ?_; rotate_left 2
             ·intro w'; go_simp; with_reducible rfl
             ·simp only [Act.put, s_t, s_z, s_s, i64_w, i32_w]; rfl
             refine one_ (i := 16) (N := some 45) privilege_CheckSpans.D21 rfl rfl (one_of HT_.out (by kernel_rfl)) (by decide) (fun K hK => ?_)
             refine goes_ Tryd.func46 (by kernel_rfl) rfl #[.bool (decide (((rd_T46 l0 x24_1).f1) > a1)), .int .i64 1] (by rfl) rfl rfl (by (try simp only [List.map_toArray, List.map_cons, List.map_nil]); first | done | rfl | (simp only [List.length_drop, List.length_take]; rfl)) ?_
             with_reducible refine (base_When.calls (decide (((rd_T46 l0 x24_1).f1) > a1)) 1 t171 _ A96.out).mono ?_
             rintro e w' ⟨rfl, ⟨nd, rfl⟩⟩
             refine ⟨_, rfl, ?_⟩
             refine hK.out _ _ ⟨(blk_cell BK146.out 0).trans rfl, (blk_cell BK146.out 1).trans rfl, ((HB.out.cell (World.block_lt_of_cell? w _ hw172_0)).trans hw172_0), ((HB.out.cell (World.block_lt_of_cell? w _ hw172_1)).trans hw172_1)⟩ (fun hHeld => ?_)
             clear hK K
             refine norm_ (a' := ?_) ?_ ?_
             rotate_left
             ·show Act.put _ (some 45) _ = _
              simp only [Act.put, List.setIfInBounds_toArray, List.set_cons_zero, List.set_cons_succ, i64_w, i32_w]
              rfl
             refine pu_ (i := 19) (N := some 48) (v := ?_) (a' := ?_) privilege_CheckSpans.D22 (any_of HT_.out (by kernel_rfl)) ?_ ?_ ?_; rotate_left 2
             ·intro w'; go_simp; with_reducible rfl
             ·simp only [Act.put, s_t, s_z, s_s, i64_w, i32_w]; rfl
             refine pu_ (i := 20) (N := some 49) (v := ?_) (a' := ?_) privilege_CheckSpans.D23 (any_of HT_.out (by kernel_rfl)) ?_ ?_ ?_; rotate_left 2
             ·intro w'; go_simp; with_reducible rfl
             ·simp only [Act.put, s_t, s_z, s_s, i64_w, i32_w]; rfl
             refine pu_ (i := 22) (N := some 51) (v := ?_) (a' := ?_) privilege_CheckSpans.D24 (any_of HT_.out (by kernel_rfl)) ?_ ?_ ?_; rotate_left 2
             ·intro w'; go_simp; with_reducible rfl
             ·simp only [Act.put, s_t, s_z, s_s, i64_w, i32_w]; rfl
             refine pu_ (i := 23) (N := some 52) (v := ?_) (a' := ?_) privilege_CheckSpans.D25 (any_of HT_.out (by kernel_rfl)) ?_ ?_ ?_; rotate_left 2
             ·intro w'; go_simp; with_reducible rfl
             ·simp only [Act.put, s_t, s_z, s_s, i64_w, i32_w]; rfl
             refine pu_ (i := 24) (N := some 53) (v := ?_) (a' := ?_) privilege_CheckSpans.D26 (any_of HT_.out (by kernel_rfl)) ?_ ?_ ?_; rotate_left 2
             ·intro w'; go_simp; with_reducible rfl
             ·simp only [Act.put, s_t, s_z, s_s, i64_w, i32_w]; rfl
             refine pu_ (i := 25) (N := some 54) (v := ?_) (a' := ?_) privilege_CheckSpans.D27 (any_of HT_.out (by kernel_rfl)) ?_ ?_ ?_; rotate_left 2
             ·intro w'; go_simp; with_reducible rfl
             ·simp only [Act.put, s_t, s_z, s_s, i64_w, i32_w]; rfl
             refine pu_ (i := 26) (N := some 55) (v := ?_) (a' := ?_) privilege_CheckSpans.D28 (any_of HT_.out (by kernel_rfl)) ?_ ?_ ?_; rotate_left 2
             ·intro w'; go_simp; with_reducible rfl
             ·simp only [Act.put, s_t, s_z, s_s, i64_w, i32_w]; rfl
             refine pu_ (i := 27) (N := some 56) (v := ?_) (a' := ?_) privilege_CheckSpans.D29 (any_of HT_.out (by kernel_rfl)) ?_ ?_ ?_; rotate_left 2
             ·intro w'; go_simp; with_reducible rfl
             ·simp only [Act.put, s_t, s_z, s_s, i64_w, i32_w]; rfl
             refine take_ (i := 21) (N := some 50) (v := ?_) (a' := ?_) privilege_CheckSpans.D36 rfl rfl (take_ofW HT_.out HW_.out (by kernel_rfl)) (fun _ _ _ h => h) (Or.inl ⟨by rfl, ?_⟩) hHeld ?_ ?_
             rotate_left
             ·rintro w' ⟨s0, s1, s2, s3⟩
              go_simp
              with_reducible rfl
             rotate_left
             ·simp only [Act.put, List.setIfInBounds_toArray, List.set_cons_zero, List.set_cons_succ, i64_w, i32_w]
              rfl
             refine take_ (i := 28) (N := some 57) (v := ?_) (a' := ?_) privilege_CheckSpans.D37 rfl rfl (take_ofW HT_.out HW_.out (by kernel_rfl)) (fun _ _ _ h => h) (Or.inl ⟨by rfl, ?_⟩) hHeld ?_ ?_
             rotate_left
             ·rintro w' ⟨s0, s1, s2, s3⟩
              go_simp
              with_reducible rfl
             rotate_left
             ·simp only [Act.put, List.setIfInBounds_toArray, List.set_cons_zero, List.set_cons_succ, i64_w, i32_w]
              rfl
             refine pu_ (i := 29) (N := some 58) (v := ?_) (a' := ?_) privilege_CheckSpans.D38 (any_of HT_.out (by kernel_rfl)) ?_ ?_ ?_; rotate_left 2
             ·intro w'; go_simp; with_reducible rfl
             ·simp only [Act.put, s_t, s_z, s_s, i64_w, i32_w]; rfl
             refine pu_ (i := 30) (N := some 59) (v := ?_) (a' := ?_) privilege_CheckSpans.D39 (any_of HT_.out (by kernel_rfl)) ?_ ?_ ?_; rotate_left 2
             ·intro w'; go_simp; with_reducible rfl
             ·simp only [Act.put, s_t, s_z, s_s, i64_w, i32_w]; rfl
             refine one_ (i := 31) (N := some 60) privilege_CheckSpans.D40 rfl rfl (one_of HT_.out (by kernel_rfl)) (by decide) (fun K hK => ?_)
             refine goes_ Tryd.func46 (by kernel_rfl) rfl #[.bool (decide (((rd_T46 l0 x24_1).f0) ≤ ((rd_T46 l0 (ji99)).f1))), .int .i64 7] (by rfl) rfl rfl (by (try simp only [List.map_toArray, List.map_cons, List.map_nil]); first | done | (simp only [hji99]; rfl) | rfl | (simp only [List.length_drop, List.length_take]; rfl)) ?_
             with_reducible refine (base_When.calls (decide (((rd_T46 l0 x24_1).f0) ≤ ((rd_T46 l0 (ji99)).f1))) 7 t173 _ A102.out).mono ?_
             rintro e w' ⟨rfl, ⟨nd, rfl⟩⟩
             refine ⟨_, rfl, ?_⟩
             refine hK.out _ _ ⟨(blk_cell BK146.out 0).trans rfl, (blk_cell BK146.out 1).trans rfl, ((HB.out.cell (World.block_lt_of_cell? w _ hw172_0)).trans hw172_0), ((HB.out.cell (World.block_lt_of_cell? w _ hw172_1)).trans hw172_1)⟩ (fun hHeld => ?_)
             clear hK K
             refine norm_ (a' := ?_) ?_ ?_
             rotate_left
             ·show Act.put _ (some 60) _ = _
              simp only [Act.put, List.setIfInBounds_toArray, List.set_cons_zero, List.set_cons_succ, i64_w, i32_w]
              rfl
             refine one_ (i := 32) (N := some 61) privilege_CheckSpans.D41 rfl rfl (one_of HT_.out (by kernel_rfl)) (by decide) (fun K hK => ?_)
             refine Kd.R_lit_step (Kd.int .i64) _ 29 ?hg (N := 61) ?hd (xs := ([t171, t173] : List Int)) (inner := [.int .i64 t171, .int .i64 t173]) (ok := fun _ => True) (okp := fun _ => True) ?hr ?hp (fun _ hk => hk) trivial (Below.refl _ _) (Nat.le_refl _) (by simp) ?_; (case hd => rfl); (case hg => rfl); (case hr => first | (go_simp; done) | (go_simp; rfl)); (case hp => exact (Reps.one (show Kd.M (Kd.int .i64) _ _ _ t171 [.int .i64 t171] from rfl) (Reps.one (show Kd.M (Kd.int .i64) _ _ _ t173 [.int .i64 t173] from rfl) (Reps.none _ _))))
             intro v175 w116 ho117 hb hg_ hnew_
             clear hg_ hnew_
             (first | rw [← Ny174.out] at ho117 | (simp only [Int.reduceToNat] at ho117; rw [← Ny174.out] at ho117))
             have n0_ := Aside0.mk (Kd.R_lower ho117 (below_size (by repeat (first | (with_reducible first | exact HB.out | apply below_alloc | apply pw_below_drewN | apply below_drew1 | refine below_set ?_ GE146.out) | exact HB.out))))
             have n1_ := Aside0.mk (blk_below (g := gb146) (o := .cells #[.int .i64 ((rd_T46 l0 x24_1).f0), .int .i64 ((rd_T46 l0 x24_1).f1)] 46 (0, 0)) (by (with_reducible repeat (first | refine blk_drewN ?_ _ | refine blk_drew ?_ | refine blk_alloc ?_ _)); exact BK146.out) hb)
             have n2_ := Aside0.mk (below_step (by repeat (first | (with_reducible first | exact HB.out | apply below_alloc | apply pw_below_drewN | apply below_drew1 | refine below_set ?_ GE146.out) | exact HB.out)) hb)
             clear BK146
             clear HB
             have HO176 := n0_
             have BK146 := n1_
             have HB := n2_
             clear n0_ n1_ n2_
             clear hb ho117
             obtain ⟨Ao118, co118, eo118⟩ := Kd.R_slice HO176.out
             (first | subst eo118 | (injection eo118 with f1_ f2_ f3_; have f4_ := f1_.symm; have f5_ := f3_.symm; clear f1_ f2_ f3_; subst f4_; subst f5_))
             refine hK.out _ _ ⟨(blk_cell BK146.out 0).trans rfl, (blk_cell BK146.out 1).trans rfl, ((HB.out.cell (World.block_lt_of_cell? w _ hw172_0)).trans hw172_0), ((HB.out.cell (World.block_lt_of_cell? w _ hw172_1)).trans hw172_1)⟩ (fun hHeld => ?_)
             clear hK K
             refine norm_ (a' := ?_) ?_ ?_
             rotate_left
             ·show Act.put _ (some 61) _ = _
              simp only [Act.put, List.setIfInBounds_toArray, List.set_cons_zero, List.set_cons_succ, i64_w, i32_w]
              rfl
             refine one_ (i := 33) (N := some 62) privilege_CheckSpans.D42 rfl rfl (one_of HT_.out (by kernel_rfl)) (by decide) (fun K hK => ?_)
             refine goes_ Tryd.func45 (by kernel_rfl) rfl #[.slice Ao118 y174.length co118] (by rfl) rfl rfl (by (try simp only [List.map_toArray, List.map_cons, List.map_nil]); first | done | rfl | (simp only [List.length_drop, List.length_take]; rfl)) ?_
             with_reducible refine (base_First.calls k1 _ _ y174 t177 _ ?side1 ?side2 A103.out).mono ?_
             (case side1 => repeat (first | exact (Kd.R_reads' HO176.out).2.2 | (with_reducible refine Kd.C_alloc ?_ _) | (with_reducible refine Kd.C_drewN ?_ _) | (with_reducible refine Kd.C_drew ?_)))
             (case side2 => exact (Kd.R_reads' HO176.out).2.1)
             rintro e w' ⟨rfl, ⟨nd, rfl⟩⟩
             refine ⟨_, rfl, ?_⟩
             refine hK.out _ _ ⟨(blk_cell BK146.out 0).trans rfl, (blk_cell BK146.out 1).trans rfl, ((HB.out.cell (World.block_lt_of_cell? w _ hw172_0)).trans hw172_0), ((HB.out.cell (World.block_lt_of_cell? w _ hw172_1)).trans hw172_1)⟩ (fun hHeld => ?_)
             clear hK K
             refine norm_ (a' := ?_) ?_ ?_
             rotate_left
             ·show Act.put _ (some 62) _ = _
              simp only [Act.put, List.setIfInBounds_toArray, List.set_cons_zero, List.set_cons_succ, i64_w, i32_w]
              rfl
             refine pu_ (i := 34) (N := some 8) (v := ?_) (a' := ?_) privilege_CheckSpans.D43 (any_of HT_.out (by kernel_rfl)) ?_ ?_ ?_; rotate_left 2
             ·intro w'; go_simp; with_reducible rfl
             ·simp only [Act.put, s_t, s_z, s_s, i64_w, i32_w]; rfl
             refine done_ (done_of HT_.out (by kernel_rfl)) ?_
             try go_wp2
             go_ret
             exact ⟨by first | rfl | (simp [errW_none, errW_some] <;> rfl) | (simp only [← hji98, ← hji99]; first | rfl | (simp [errW_none, errW_some] <;> rfl)) | (simp [*, errW_none, errW_some] <;> rfl), by repeat (first | (with_reducible first | exact HB.out | apply below_alloc | apply pw_below_drewN | apply below_drew1 | refine below_set ?_ GE146.out) | exact HB.out)⟩
           ·rw [if_neg c101] at H
            exact absurd H (by simp)
          ·rw [if_neg c100] at H
           exact absurd H (by simp)
         ·rw [if_neg c97] at H
          have c97b0 : decide (0 < x24_1) = false := decide_eq_false c97
          clear c97
          replace H := Option.bind_eq_some_iff.mp H
          obtain ⟨t178, A1190, H⟩ := H
          replace H : ((base_First.f k1 (([t171, t178] : List Int))).bind fun t182 => (if t182 = 0 then (privilege_CheckSpans.l0 k1 l0 a1 l0 (l0.length : Int) (wrap64 (x24_1 + 1))) else (some t182))) = some r := H
          have A119 := Aside0.mk A1190
          clear A1190
          obtain ⟨y179, hy179⟩ : ∃ y_ : List Int, y_ = (([t171, t178] : List Int)) := ⟨_, rfl⟩
          replace H : ((base_First.f k1 y179).bind fun t182 => (if t182 = 0 then (privilege_CheckSpans.l0 k1 l0 a1 l0 (l0.length : Int) (wrap64 (x24_1 + 1))) else (some t182))) = some r := by first | (rw [hy179]; with_reducible exact H) | (have H2_ := (Option.bind_some _ _).symm.trans H; rw [hy179]; with_reducible exact H2_) | (have H2_ := (Option.bind_some _ _).symm.trans H; with_reducible exact H2_) | with_reducible exact H | (rw [hy179]; exact H) | exact H
          have Ny179 := Aside0.mk hy179
          clear hy179
          replace H := Option.bind_eq_some_iff.mp H
          obtain ⟨t182, A1200, H⟩ := H
          replace H : (if t182 = 0 then (privilege_CheckSpans.l0 k1 l0 a1 l0 (l0.length : Int) (wrap64 (x24_1 + 1))) else (some t182)) = some r := H
          have A120 := Aside0.mk A1200
          clear A1200
          by_cases c121 : t182 = 0
          ·rw [if_pos c121] at H
           have c121b0 : (t182 == 0) = true := beq_iff_eq.mpr c121
           have c121b1 : (t182 != 0) = false := bne_eq_false_iff_eq.mpr c121
           clear c121
           have H' := Aside0.mk H
           clear H
           have p145 : 0 ≤ (x24_1 : Int) := of_decide_eq_true (by first | (with_reducible assumption) | assumption)
           have q145 : x24_1 < (l0.length : Int) := of_decide_eq_true (by first | (with_reducible assumption) | assumption)
           obtain ⟨ad145, e145, hx145_0, hx145_1⟩ := at_T46 HR0.out x24_1 p145 q145
           cases e145
           first | replace hx145_0 := (HB.out.cell (World.block_lt_of_cell? w _ hx145_0)).trans hx145_0 | skip
           first | replace hx145_1 := (HB.out.cell (World.block_lt_of_cell? w _ hx145_1)).trans hx145_1 | skip
           replace p145 := eq_true p145
           replace q145 := eq_true q145
           try go_wp2_with (first | ((with_reducible refine gate_dst (N := 7) rfl ?_); (try (refine gate_guard (by rfl) ?_; dsimp only)); refine box_event ?hg (N := 7) ?hd (cs := #[.int .i64 0, .int .i64 0]) (t := 46) ?hr ?_; (case hd => rfl); (case hg => rfl); (case hr => first | (go_simp; done) | (go_simp; rfl)); intro gb146 hg w122 hbox hb; have n0_ := Aside0.mk (below_step (by repeat (first | (with_reducible first | exact HB.out | apply below_alloc | apply pw_below_drewN | apply below_drew1) | exact HB.out)) hb); have n1_ := Aside0.mk (hbox); have n2_ := Aside0.mk ((by rw [hg]; exact (below_size (by repeat (first | (with_reducible first | exact HB.out | apply below_alloc | apply pw_below_drewN | apply below_drew1) | exact HB.out))) : w.heap.size ≤ gb146)); have n3_ := Aside0.mk ((by rw [hg]; exact (below_size (by repeat (first | (with_reducible first | exact HB.out | apply below_alloc | apply pw_below_drewN | apply below_drew1) | exact HB.out))) : w.heap.size ≤ gb146)); clear HB; have HB := n0_; have BK146 := n1_; have GW146 := n2_; have GE146 := n3_; clear n0_ n1_ n2_ n3_; clear hb hbox hg; have hcz123_0 : w122.cell? ⟨gb146, 0, none⟩ = some (.int .i64 0) := (blk_cell BK146.out 0).trans rfl; have hcz123_1 : w122.cell? ⟨gb146, 1, none⟩ = some (.int .i64 0) := (blk_cell BK146.out 1).trans rfl; have hfz123_0 := blk_frozen BK146.out 0; have hfz123_1 := blk_frozen BK146.out 1))
           have n0_ : Aside0 (((w122.setCell ⟨gb146, 0, none⟩ (.int .i64 ((rd_T46 l0 x24_1).f0))).setCell ⟨gb146, 1, none⟩ (.int .i64 ((rd_T46 l0 x24_1).f1))).heap[gb146]? = some (.cells #[.int .i64 ((rd_T46 l0 x24_1).f0), .int .i64 ((rd_T46 l0 x24_1).f1)] 46 (0, 0))) := ⟨by (with_reducible repeat (first | refine blk_drewN ?_ _ | refine blk_drew ?_ | refine blk_alloc ?_ _)); refine blk_put (cs := #[.int .i64 ((rd_T46 l0 x24_1).f0), .int .i64 0]) ?_ 1 _ rfl; (with_reducible repeat (first | refine blk_drewN ?_ _ | refine blk_drew ?_ | refine blk_alloc ?_ _)); refine blk_put (cs := #[.int .i64 0, .int .i64 0]) ?_ 0 _ rfl; (with_reducible repeat (first | refine blk_drewN ?_ _ | refine blk_drew ?_ | refine blk_alloc ?_ _)); exact BK146.out⟩
           have n1_ : Aside0 (Below w.heap.size w ((w122.setCell ⟨gb146, 0, none⟩ (.int .i64 ((rd_T46 l0 x24_1).f0))).setCell ⟨gb146, 1, none⟩ (.int .i64 ((rd_T46 l0 x24_1).f1)))) := ⟨by repeat (first | (with_reducible first | exact HB.out | apply below_alloc | apply pw_below_drewN | apply below_drew1 | refine below_set ?_ GE146.out) | exact HB.out)⟩
           (try clear BK146)
           (try clear HB)
           generalize ((w122.setCell ⟨gb146, 0, none⟩ (.int .i64 ((rd_T46 l0 x24_1).f0))).setCell ⟨gb146, 1, none⟩ (.int .i64 ((rd_T46 l0 x24_1).f1))) = w124 at n0_ n1_ ⊢
           have BK146 := n0_
           have HB := n1_
           clear n0_ n1_
           have n0_ := Aside0.mk (blk_drew BK146.out)
           have n1_ := Aside0.mk (below_drew1 HB.out)
           clear BK146
           clear HB
           have BK146 := n0_
           have HB := n1_
           clear n0_ n1_
           refine start_ (n := 35) (S := fun w' => w'.cell? ⟨gb146, 0, none⟩ = some (.int .i64 ((rd_T46 l0 x24_1).f0)) ∧ w'.cell? ⟨gb146, 1, none⟩ = some (.int .i64 ((rd_T46 l0 x24_1).f1))) (ds := []) privilege_CheckSpans.D0 (by kernel_rfl) rfl rfl ⟨(blk_cell BK146.out 0).trans rfl, (blk_cell BK146.out 1).trans rfl⟩ (fun hHeld => ?_); refine with_tabW privilege_CheckSpans.tab7 privilege_CheckSpans.bits7 (fun HT_ HW_ => ?_)
           generalize w124.drew = w125 at BK146 HB hHeld ⊢
           refine pu_ (i := 0) (N := some 29) (v := ?_) (a' := ?_) privilege_CheckSpans.D1 (any_of HT_.out (by kernel_rfl)) ?_ ?_ ?_; rotate_left 2
           ·intro w'; go_simp; with_reducible rfl
           ·simp only [Act.put, s_t, s_z, s_s, i64_w, i32_w]; rfl
           refine pu_ (i := 17) (N := some 46) (v := ?_) (a' := ?_) privilege_CheckSpans.D2 (any_of HT_.out (by kernel_rfl)) ?_ ?_ ?_; rotate_left 2
           ·intro w'; go_simp; with_reducible rfl
           ·simp only [Act.put, s_t, s_z, s_s, i64_w, i32_w]; rfl
           refine pu_ (i := 18) (N := some 47) (v := ?_) (a' := ?_) privilege_CheckSpans.D3 (any_of HT_.out (by kernel_rfl)) ?_ ?_ ?_; rotate_left 2
           ·intro w'; go_simp; with_reducible rfl
           ·simp only [Act.put, s_t, s_z, s_s, i64_w, i32_w]; rfl
           refine take_ (i := 1) (N := some 30) (v := ?_) (a' := ?_) privilege_CheckSpans.D4 rfl rfl (take_ofW HT_.out HW_.out (by kernel_rfl)) (fun _ _ _ h => h) (Or.inl ⟨by rfl, ?_⟩) hHeld ?_ ?_
           rotate_left
           ·rintro w' ⟨s0, s1⟩
            go_simp
            with_reducible rfl
           rotate_left
           ·simp only [Act.put, List.setIfInBounds_toArray, List.set_cons_zero, List.set_cons_succ, i64_w, i32_w]
            rfl
           refine pu_ (i := 2) (N := some 31) (v := ?_) (a' := ?_) privilege_CheckSpans.D5 (any_of HT_.out (by kernel_rfl)) ?_ ?_ ?_; rotate_left 2
           ·intro w'; go_simp; with_reducible rfl
           ·simp only [Act.put, s_t, s_z, s_s, i64_w, i32_w]; rfl
           refine pu_ (i := 3) (N := some 32) (v := ?_) (a' := ?_) privilege_CheckSpans.D6 (any_of HT_.out (by kernel_rfl)) ?_ ?_ ?_; rotate_left 2
           ·intro w'; go_simp; with_reducible rfl
           ·simp only [Act.put, s_t, s_z, s_s, i64_w, i32_w]; rfl
           refine pu_ (i := 4) (N := some 33) (v := ?_) (a' := ?_) privilege_CheckSpans.D7 (any_of HT_.out (by kernel_rfl)) ?_ ?_ ?_; rotate_left 2
           ·intro w'; go_simp; with_reducible rfl
           ·simp only [Act.put, s_t, s_z, s_s, i64_w, i32_w]; rfl
           refine pu_ (i := 6) (N := some 35) (v := ?_) (a' := ?_) privilege_CheckSpans.D8 (any_of HT_.out (by kernel_rfl)) ?_ ?_ ?_; rotate_left 2
           ·intro w'; go_simp; with_reducible rfl
           ·simp only [Act.put, s_t, s_z, s_s, i64_w, i32_w]; rfl
           refine take_ (i := 5) (N := some 34) (v := ?_) (a' := ?_) privilege_CheckSpans.D10 rfl rfl (take_ofW HT_.out HW_.out (by kernel_rfl)) (fun _ _ _ h => h) (Or.inl ⟨by rfl, ?_⟩) hHeld ?_ ?_
           rotate_left
           ·rintro w' ⟨s0, s1⟩
            go_simp
            with_reducible rfl
           rotate_left
           ·simp only [Act.put, List.setIfInBounds_toArray, List.set_cons_zero, List.set_cons_succ, i64_w, i32_w]
            rfl
           refine take_ (i := 7) (N := some 36) (v := ?_) (a' := ?_) privilege_CheckSpans.D11 rfl rfl (take_ofW HT_.out HW_.out (by kernel_rfl)) (fun _ _ _ h => h) (Or.inl ⟨by rfl, ?_⟩) hHeld ?_ ?_
           rotate_left
           ·rintro w' ⟨s0, s1⟩
            go_simp
            with_reducible rfl
           rotate_left
           ·simp only [Act.put, List.setIfInBounds_toArray, List.set_cons_zero, List.set_cons_succ, i64_w, i32_w]
            rfl
           refine pu_ (i := 8) (N := some 37) (v := ?_) (a' := ?_) privilege_CheckSpans.D12 (any_of HT_.out (by kernel_rfl)) ?_ ?_ ?_; rotate_left 2
           ·intro w'; go_simp; with_reducible rfl
           ·simp only [Act.put, s_t, s_z, s_s, i64_w, i32_w]; rfl
           refine pu_ (i := 9) (N := some 38) (v := ?_) (a' := ?_) privilege_CheckSpans.D13 (any_of HT_.out (by kernel_rfl)) ?_ ?_ ?_; rotate_left 2
           ·intro w'; go_simp; with_reducible rfl
           ·simp only [Act.put, s_t, s_z, s_s, i64_w, i32_w]; rfl
           refine pu_ (i := 10) (N := some 39) (v := ?_) (a' := ?_) privilege_CheckSpans.D14 (any_of HT_.out (by kernel_rfl)) ?_ ?_ ?_; rotate_left 2
           ·intro w'; go_simp; with_reducible rfl
           ·simp only [Act.put, s_t, s_z, s_s, i64_w, i32_w]; rfl
           refine pu_ (i := 11) (N := some 40) (v := ?_) (a' := ?_) privilege_CheckSpans.D15 (any_of HT_.out (by kernel_rfl)) ?_ ?_ ?_; rotate_left 2
           ·intro w'; go_simp; with_reducible rfl
           ·simp only [Act.put, s_t, s_z, s_s, i64_w, i32_w]; rfl
           refine pu_ (i := 13) (N := some 42) (v := ?_) (a' := ?_) privilege_CheckSpans.D16 (any_of HT_.out (by kernel_rfl)) ?_ ?_ ?_; rotate_left 2
           ·intro w'; go_simp; with_reducible rfl
           ·simp only [Act.put, s_t, s_z, s_s, i64_w, i32_w]; rfl
           refine take_ (i := 12) (N := some 41) (v := ?_) (a' := ?_) privilege_CheckSpans.D18 rfl rfl (take_ofW HT_.out HW_.out (by kernel_rfl)) (fun _ _ _ h => h) (Or.inl ⟨by rfl, ?_⟩) hHeld ?_ ?_
           rotate_left
           ·rintro w' ⟨s0, s1⟩
            go_simp
            with_reducible rfl
           rotate_left
           ·simp only [Act.put, List.setIfInBounds_toArray, List.set_cons_zero, List.set_cons_succ, i64_w, i32_w]
            rfl
           refine pu_ (i := 14) (N := some 43) (v := ?_) (a' := ?_) privilege_CheckSpans.D19 (any_of HT_.out (by kernel_rfl)) ?_ ?_ ?_; rotate_left 2
           ·intro w'; go_simp; with_reducible rfl
           ·simp only [Act.put, s_t, s_z, s_s, i64_w, i32_w]; rfl
           refine pu_ (i := 15) (N := some 44) (v := ?_) (a' := ?_) privilege_CheckSpans.D20 (any_of HT_.out (by kernel_rfl)) ?_ ?_ ?_; rotate_left 2
           ·intro w'; go_simp; with_reducible rfl
           ·simp only [Act.put, s_t, s_z, s_s, i64_w, i32_w]; rfl
           refine one_ (i := 16) (N := some 45) privilege_CheckSpans.D21 rfl rfl (one_of HT_.out (by kernel_rfl)) (by decide) (fun K hK => ?_)
           refine goes_ Tryd.func46 (by kernel_rfl) rfl #[.bool (decide (((rd_T46 l0 x24_1).f1) > a1)), .int .i64 1] (by rfl) rfl rfl (by (try simp only [List.map_toArray, List.map_cons, List.map_nil]); first | done | rfl | (simp only [List.length_drop, List.length_take]; rfl)) ?_
           with_reducible refine (base_When.calls (decide (((rd_T46 l0 x24_1).f1) > a1)) 1 t171 _ A96.out).mono ?_
           rintro e w' ⟨rfl, ⟨nd, rfl⟩⟩
           refine ⟨_, rfl, ?_⟩
           refine hK.out _ _ ⟨(blk_cell BK146.out 0).trans rfl, (blk_cell BK146.out 1).trans rfl⟩ (fun hHeld => ?_)
           clear hK K
           refine norm_ (a' := ?_) ?_ ?_
           rotate_left
           ·show Act.put _ (some 45) _ = _
            simp only [Act.put, List.setIfInBounds_toArray, List.set_cons_zero, List.set_cons_succ, i64_w, i32_w]
            rfl
           refine pu_ (i := 19) (N := some 48) (v := ?_) (a' := ?_) privilege_CheckSpans.D22 (any_of HT_.out (by kernel_rfl)) ?_ ?_ ?_; rotate_left 2
           ·intro w'; go_simp; with_reducible rfl
           ·simp only [Act.put, s_t, s_z, s_s, i64_w, i32_w]; rfl
           refine pv_ (i := 20) (N := some 49) (a' := ?_) privilege_CheckSpans.D23 (any_of HT_.out (by kernel_rfl)) ?_ ?_; rotate_left
           ·simp only [Act.put, s_t, s_z, s_s, i64_w, i32_w]; rfl
           refine pv_ (i := 21) (N := some 50) (a' := ?_) privilege_CheckSpans.D30 (any_of HT_.out (by kernel_rfl)) ?_ ?_; rotate_left
           ·simp only [Act.put, s_t, s_z, s_s, i64_w, i32_w]; rfl
           refine pv_ (i := 22) (N := some 51) (a' := ?_) privilege_CheckSpans.D31 (any_of HT_.out (by kernel_rfl)) ?_ ?_; rotate_left
           ·simp only [Act.put, s_t, s_z, s_s, i64_w, i32_w]; rfl
           refine pv_ (i := 23) (N := some 52) (a' := ?_) privilege_CheckSpans.D32 (any_of HT_.out (by kernel_rfl)) ?_ ?_; rotate_left
           ·simp only [Act.put, s_t, s_z, s_s, i64_w, i32_w]; rfl
           refine pv_ (i := 24) (N := some 53) (a' := ?_) privilege_CheckSpans.D33 (any_of HT_.out (by kernel_rfl)) ?_ ?_; rotate_left
           ·simp only [Act.put, s_t, s_z, s_s, i64_w, i32_w]; rfl
           refine pv_ (i := 25) (N := some 54) (a' := ?_) privilege_CheckSpans.D34 (any_of HT_.out (by kernel_rfl)) ?_ ?_; rotate_left
           ·simp only [Act.put, s_t, s_z, s_s, i64_w, i32_w]; rfl
           refine pv_ (i := 26) (N := some 55) (a' := ?_) privilege_CheckSpans.D35 (any_of HT_.out (by kernel_rfl)) ?_ ?_; rotate_left
           ·simp only [Act.put, s_t, s_z, s_s, i64_w, i32_w]; rfl
           refine pv_ (i := 27) (N := some 56) (a' := ?_) privilege_CheckSpans.D36 (any_of HT_.out (by kernel_rfl)) ?_ ?_; rotate_left
           ·simp only [Act.put, s_t, s_z, s_s, i64_w, i32_w]; rfl
           refine pv_ (i := 28) (N := some 57) (a' := ?_) privilege_CheckSpans.D37 (any_of HT_.out (by kernel_rfl)) ?_ ?_; rotate_left
           ·simp only [Act.put, s_t, s_z, s_s, i64_w, i32_w]; rfl
           refine pv_ (i := 29) (N := some 58) (a' := ?_) privilege_CheckSpans.D38 (any_of HT_.out (by kernel_rfl)) ?_ ?_; rotate_left
           ·simp only [Act.put, s_t, s_z, s_s, i64_w, i32_w]; rfl
           refine pu_ (i := 30) (N := some 59) (v := ?_) (a' := ?_) privilege_CheckSpans.D39 (any_of HT_.out (by kernel_rfl)) ?_ ?_ ?_; rotate_left 2
           ·intro w'; go_simp; with_reducible rfl
           ·simp only [Act.put, s_t, s_z, s_s, i64_w, i32_w]; rfl
           refine one_ (i := 31) (N := some 60) privilege_CheckSpans.D40 rfl rfl (one_of HT_.out (by kernel_rfl)) (by decide) (fun K hK => ?_)
           refine goes_ Tryd.func46 (by kernel_rfl) rfl #[.bool false, .int .i64 7] (by rfl) rfl rfl (by (try simp only [List.map_toArray, List.map_cons, List.map_nil]); first | done | rfl | (simp only [List.length_drop, List.length_take]; rfl)) ?_
           with_reducible refine (base_When.calls false 7 t178 _ A119.out).mono ?_
           rintro e w' ⟨rfl, ⟨nd, rfl⟩⟩
           refine ⟨_, rfl, ?_⟩
           refine hK.out _ _ ⟨(blk_cell BK146.out 0).trans rfl, (blk_cell BK146.out 1).trans rfl⟩ (fun hHeld => ?_)
           clear hK K
           refine norm_ (a' := ?_) ?_ ?_
           rotate_left
           ·show Act.put _ (some 60) _ = _
            simp only [Act.put, List.setIfInBounds_toArray, List.set_cons_zero, List.set_cons_succ, i64_w, i32_w]
            rfl
           refine one_ (i := 32) (N := some 61) privilege_CheckSpans.D41 rfl rfl (one_of HT_.out (by kernel_rfl)) (by decide) (fun K hK => ?_)
           refine Kd.R_lit_step (Kd.int .i64) _ 29 ?hg (N := 61) ?hd (xs := ([t171, t178] : List Int)) (inner := [.int .i64 t171, .int .i64 t178]) (ok := fun _ => True) (okp := fun _ => True) ?hr ?hp (fun _ hk => hk) trivial (Below.refl _ _) (Nat.le_refl _) (by simp) ?_; (case hd => rfl); (case hg => rfl); (case hr => first | (go_simp; done) | (go_simp; rfl)); (case hp => exact (Reps.one (show Kd.M (Kd.int .i64) _ _ _ t171 [.int .i64 t171] from rfl) (Reps.one (show Kd.M (Kd.int .i64) _ _ _ t178 [.int .i64 t178] from rfl) (Reps.none _ _))))
           intro v180 w126 ho127 hb hg_ hnew_
           clear hg_ hnew_
           (first | rw [← Ny179.out] at ho127 | (simp only [Int.reduceToNat] at ho127; rw [← Ny179.out] at ho127))
           have n0_ := Aside0.mk (Kd.R_lower ho127 (below_size (by repeat (first | (with_reducible first | exact HB.out | apply below_alloc | apply pw_below_drewN | apply below_drew1 | refine below_set ?_ GE146.out) | exact HB.out))))
           have n1_ := Aside0.mk (blk_below (g := gb146) (o := .cells #[.int .i64 ((rd_T46 l0 x24_1).f0), .int .i64 ((rd_T46 l0 x24_1).f1)] 46 (0, 0)) (by (with_reducible repeat (first | refine blk_drewN ?_ _ | refine blk_drew ?_ | refine blk_alloc ?_ _)); exact BK146.out) hb)
           have n2_ := Aside0.mk (below_step (by repeat (first | (with_reducible first | exact HB.out | apply below_alloc | apply pw_below_drewN | apply below_drew1 | refine below_set ?_ GE146.out) | exact HB.out)) hb)
           clear BK146
           clear HB
           have HO181 := n0_
           have BK146 := n1_
           have HB := n2_
           clear n0_ n1_ n2_
           clear hb ho127
           obtain ⟨Ao128, co128, eo128⟩ := Kd.R_slice HO181.out
           (first | subst eo128 | (injection eo128 with f1_ f2_ f3_; have f4_ := f1_.symm; have f5_ := f3_.symm; clear f1_ f2_ f3_; subst f4_; subst f5_))
           refine hK.out _ _ ⟨(blk_cell BK146.out 0).trans rfl, (blk_cell BK146.out 1).trans rfl⟩ (fun hHeld => ?_)
           clear hK K
           refine norm_ (a' := ?_) ?_ ?_
           rotate_left
           ·show Act.put _ (some 61) _ = _
            simp only [Act.put, List.setIfInBounds_toArray, List.set_cons_zero, List.set_cons_succ, i64_w, i32_w]
            rfl
           refine one_ (i := 33) (N := some 62) privilege_CheckSpans.D42 rfl rfl (one_of HT_.out (by kernel_rfl)) (by decide) (fun K hK => ?_)
           refine goes_ Tryd.func45 (by kernel_rfl) rfl #[.slice Ao128 y179.length co128] (by rfl) rfl rfl (by (try simp only [List.map_toArray, List.map_cons, List.map_nil]); first | done | rfl | (simp only [List.length_drop, List.length_take]; rfl)) ?_
           with_reducible refine (base_First.calls k1 _ _ y179 t182 _ ?side1 ?side2 A120.out).mono ?_
           (case side1 => repeat (first | exact (Kd.R_reads' HO181.out).2.2 | (with_reducible refine Kd.C_alloc ?_ _) | (with_reducible refine Kd.C_drewN ?_ _) | (with_reducible refine Kd.C_drew ?_)))
           (case side2 => exact (Kd.R_reads' HO181.out).2.1)
           rintro e w' ⟨rfl, ⟨nd, rfl⟩⟩
           refine ⟨_, rfl, ?_⟩
           refine hK.out _ _ ⟨(blk_cell BK146.out 0).trans rfl, (blk_cell BK146.out 1).trans rfl⟩ (fun hHeld => ?_)
           clear hK K
           refine norm_ (a' := ?_) ?_ ?_
           rotate_left
           ·show Act.put _ (some 62) _ = _
            simp only [Act.put, List.setIfInBounds_toArray, List.set_cons_zero, List.set_cons_succ, i64_w, i32_w]
            rfl
           refine pu_ (i := 34) (N := some 8) (v := ?_) (a' := ?_) privilege_CheckSpans.D43 (any_of HT_.out (by kernel_rfl)) ?_ ?_ ?_; rotate_left 2
           ·intro w'; go_simp; with_reducible rfl
           ·simp only [Act.put, s_t, s_z, s_s, i64_w, i32_w]; rfl
           refine done_ (done_of HT_.out (by kernel_rfl)) ?_
           try go_wp2
           go_roundg k1
           case measure => have := HK1.out; omega
           case rel => exact ⟨(wrap64 (x24_1 + 1)), (by first | rfl | (simp; done) | (simp [*]; done)), H', ⟨by have := HK1.out; omega⟩, ⟨by repeat (first | (with_reducible first | exact HB.out | apply below_alloc | apply pw_below_drewN | apply below_drew1 | refine below_set ?_ GE146.out) | exact HB.out)⟩⟩
          ·rw [if_neg c121] at H
           have c121b0 : (t182 == 0) = false := beq_eq_false_iff_ne.mpr c121
           have c121b1 : (t182 != 0) = true := bne_iff_ne.mpr c121
           obtain rfl := Option.some.inj H
           have p145 : 0 ≤ (x24_1 : Int) := of_decide_eq_true (by first | (with_reducible assumption) | assumption)
           have q145 : x24_1 < (l0.length : Int) := of_decide_eq_true (by first | (with_reducible assumption) | assumption)
           obtain ⟨ad145, e145, hx145_0, hx145_1⟩ := at_T46 HR0.out x24_1 p145 q145
           cases e145
           first | replace hx145_0 := (HB.out.cell (World.block_lt_of_cell? w _ hx145_0)).trans hx145_0 | skip
           first | replace hx145_1 := (HB.out.cell (World.block_lt_of_cell? w _ hx145_1)).trans hx145_1 | skip
           replace p145 := eq_true p145
           replace q145 := eq_true q145
           try go_wp2_with (first | ((with_reducible refine gate_dst (N := 7) rfl ?_); (try (refine gate_guard (by rfl) ?_; dsimp only)); refine box_event ?hg (N := 7) ?hd (cs := #[.int .i64 0, .int .i64 0]) (t := 46) ?hr ?_; (case hd => rfl); (case hg => rfl); (case hr => first | (go_simp; done) | (go_simp; rfl)); intro gb146 hg w129 hbox hb; have n0_ := Aside0.mk (below_step (by repeat (first | (with_reducible first | exact HB.out | apply below_alloc | apply pw_below_drewN | apply below_drew1) | exact HB.out)) hb); have n1_ := Aside0.mk (hbox); have n2_ := Aside0.mk ((by rw [hg]; exact (below_size (by repeat (first | (with_reducible first | exact HB.out | apply below_alloc | apply pw_below_drewN | apply below_drew1) | exact HB.out))) : w.heap.size ≤ gb146)); have n3_ := Aside0.mk ((by rw [hg]; exact (below_size (by repeat (first | (with_reducible first | exact HB.out | apply below_alloc | apply pw_below_drewN | apply below_drew1) | exact HB.out))) : w.heap.size ≤ gb146)); clear HB; have HB := n0_; have BK146 := n1_; have GW146 := n2_; have GE146 := n3_; clear n0_ n1_ n2_ n3_; clear hb hbox hg; have hcz130_0 : w129.cell? ⟨gb146, 0, none⟩ = some (.int .i64 0) := (blk_cell BK146.out 0).trans rfl; have hcz130_1 : w129.cell? ⟨gb146, 1, none⟩ = some (.int .i64 0) := (blk_cell BK146.out 1).trans rfl; have hfz130_0 := blk_frozen BK146.out 0; have hfz130_1 := blk_frozen BK146.out 1))
           have n0_ : Aside0 (((w129.setCell ⟨gb146, 0, none⟩ (.int .i64 ((rd_T46 l0 x24_1).f0))).setCell ⟨gb146, 1, none⟩ (.int .i64 ((rd_T46 l0 x24_1).f1))).heap[gb146]? = some (.cells #[.int .i64 ((rd_T46 l0 x24_1).f0), .int .i64 ((rd_T46 l0 x24_1).f1)] 46 (0, 0))) := ⟨by (with_reducible repeat (first | refine blk_drewN ?_ _ | refine blk_drew ?_ | refine blk_alloc ?_ _)); refine blk_put (cs := #[.int .i64 ((rd_T46 l0 x24_1).f0), .int .i64 0]) ?_ 1 _ rfl; (with_reducible repeat (first | refine blk_drewN ?_ _ | refine blk_drew ?_ | refine blk_alloc ?_ _)); refine blk_put (cs := #[.int .i64 0, .int .i64 0]) ?_ 0 _ rfl; (with_reducible repeat (first | refine blk_drewN ?_ _ | refine blk_drew ?_ | refine blk_alloc ?_ _)); exact BK146.out⟩
           have n1_ : Aside0 (Below w.heap.size w ((w129.setCell ⟨gb146, 0, none⟩ (.int .i64 ((rd_T46 l0 x24_1).f0))).setCell ⟨gb146, 1, none⟩ (.int .i64 ((rd_T46 l0 x24_1).f1)))) := ⟨by repeat (first | (with_reducible first | exact HB.out | apply below_alloc | apply pw_below_drewN | apply below_drew1 | refine below_set ?_ GE146.out) | exact HB.out)⟩
           (try clear BK146)
           (try clear HB)
           generalize ((w129.setCell ⟨gb146, 0, none⟩ (.int .i64 ((rd_T46 l0 x24_1).f0))).setCell ⟨gb146, 1, none⟩ (.int .i64 ((rd_T46 l0 x24_1).f1))) = w131 at n0_ n1_ ⊢
           have BK146 := n0_
           have HB := n1_
           clear n0_ n1_
           have n0_ := Aside0.mk (blk_drew BK146.out)
           have n1_ := Aside0.mk (below_drew1 HB.out)
           clear BK146
           clear HB
           have BK146 := n0_
           have HB := n1_
           clear n0_ n1_
           refine start_ (n := 35) (S := fun w' => w'.cell? ⟨gb146, 0, none⟩ = some (.int .i64 ((rd_T46 l0 x24_1).f0)) ∧ w'.cell? ⟨gb146, 1, none⟩ = some (.int .i64 ((rd_T46 l0 x24_1).f1))) (ds := []) privilege_CheckSpans.D0 (by kernel_rfl) rfl rfl ⟨(blk_cell BK146.out 0).trans rfl, (blk_cell BK146.out 1).trans rfl⟩ (fun hHeld => ?_); refine with_tabW privilege_CheckSpans.tab7 privilege_CheckSpans.bits7 (fun HT_ HW_ => ?_)
           generalize w131.drew = w132 at BK146 HB hHeld ⊢
           refine pu_ (i := 0) (N := some 29) (v := ?_) (a' := ?_) privilege_CheckSpans.D1 (any_of HT_.out (by kernel_rfl)) ?_ ?_ ?_; rotate_left 2
           ·intro w'; go_simp; with_reducible rfl
           ·simp only [Act.put, s_t, s_z, s_s, i64_w, i32_w]; rfl
           refine pu_ (i := 17) (N := some 46) (v := ?_) (a' := ?_) privilege_CheckSpans.D2 (any_of HT_.out (by kernel_rfl)) ?_ ?_ ?_; rotate_left 2
           ·intro w'; go_simp; with_reducible rfl
           ·simp only [Act.put, s_t, s_z, s_s, i64_w, i32_w]; rfl
           refine pu_ (i := 18) (N := some 47) (v := ?_) (a' := ?_) privilege_CheckSpans.D3 (any_of HT_.out (by kernel_rfl)) ?_ ?_ ?_; rotate_left 2
           ·intro w'; go_simp; with_reducible rfl
           ·simp only [Act.put, s_t, s_z, s_s, i64_w, i32_w]; rfl
           refine take_ (i := 1) (N := some 30) (v := ?_) (a' := ?_) privilege_CheckSpans.D4 rfl rfl (take_ofW HT_.out HW_.out (by kernel_rfl)) (fun _ _ _ h => h) (Or.inl ⟨by rfl, ?_⟩) hHeld ?_ ?_
           rotate_left
           ·rintro w' ⟨s0, s1⟩
            go_simp
            with_reducible rfl
           rotate_left
           ·simp only [Act.put, List.setIfInBounds_toArray, List.set_cons_zero, List.set_cons_succ, i64_w, i32_w]
            rfl
           refine pu_ (i := 2) (N := some 31) (v := ?_) (a' := ?_) privilege_CheckSpans.D5 (any_of HT_.out (by kernel_rfl)) ?_ ?_ ?_; rotate_left 2
           ·intro w'; go_simp; with_reducible rfl
           ·simp only [Act.put, s_t, s_z, s_s, i64_w, i32_w]; rfl
           refine pu_ (i := 3) (N := some 32) (v := ?_) (a' := ?_) privilege_CheckSpans.D6 (any_of HT_.out (by kernel_rfl)) ?_ ?_ ?_; rotate_left 2
           ·intro w'; go_simp; with_reducible rfl
           ·simp only [Act.put, s_t, s_z, s_s, i64_w, i32_w]; rfl
           refine pu_ (i := 4) (N := some 33) (v := ?_) (a' := ?_) privilege_CheckSpans.D7 (any_of HT_.out (by kernel_rfl)) ?_ ?_ ?_; rotate_left 2
           ·intro w'; go_simp; with_reducible rfl
           ·simp only [Act.put, s_t, s_z, s_s, i64_w, i32_w]; rfl
           refine pu_ (i := 6) (N := some 35) (v := ?_) (a' := ?_) privilege_CheckSpans.D8 (any_of HT_.out (by kernel_rfl)) ?_ ?_ ?_; rotate_left 2
           ·intro w'; go_simp; with_reducible rfl
           ·simp only [Act.put, s_t, s_z, s_s, i64_w, i32_w]; rfl
           refine take_ (i := 5) (N := some 34) (v := ?_) (a' := ?_) privilege_CheckSpans.D10 rfl rfl (take_ofW HT_.out HW_.out (by kernel_rfl)) (fun _ _ _ h => h) (Or.inl ⟨by rfl, ?_⟩) hHeld ?_ ?_
           rotate_left
           ·rintro w' ⟨s0, s1⟩
            go_simp
            with_reducible rfl
           rotate_left
           ·simp only [Act.put, List.setIfInBounds_toArray, List.set_cons_zero, List.set_cons_succ, i64_w, i32_w]
            rfl
           refine take_ (i := 7) (N := some 36) (v := ?_) (a' := ?_) privilege_CheckSpans.D11 rfl rfl (take_ofW HT_.out HW_.out (by kernel_rfl)) (fun _ _ _ h => h) (Or.inl ⟨by rfl, ?_⟩) hHeld ?_ ?_
           rotate_left
           ·rintro w' ⟨s0, s1⟩
            go_simp
            with_reducible rfl
           rotate_left
           ·simp only [Act.put, List.setIfInBounds_toArray, List.set_cons_zero, List.set_cons_succ, i64_w, i32_w]
            rfl
           refine pu_ (i := 8) (N := some 37) (v := ?_) (a' := ?_) privilege_CheckSpans.D12 (any_of HT_.out (by kernel_rfl)) ?_ ?_ ?_; rotate_left 2
           ·intro w'; go_simp; with_reducible rfl
           ·simp only [Act.put, s_t, s_z, s_s, i64_w, i32_w]; rfl
           refine pu_ (i := 9) (N := some 38) (v := ?_) (a' := ?_) privilege_CheckSpans.D13 (any_of HT_.out (by kernel_rfl)) ?_ ?_ ?_; rotate_left 2
           ·intro w'; go_simp; with_reducible rfl
           ·simp only [Act.put, s_t, s_z, s_s, i64_w, i32_w]; rfl
           refine pu_ (i := 10) (N := some 39) (v := ?_) (a' := ?_) privilege_CheckSpans.D14 (any_of HT_.out (by kernel_rfl)) ?_ ?_ ?_; rotate_left 2
           ·intro w'; go_simp; with_reducible rfl
           ·simp only [Act.put, s_t, s_z, s_s, i64_w, i32_w]; rfl
           refine pu_ (i := 11) (N := some 40) (v := ?_) (a' := ?_) privilege_CheckSpans.D15 (any_of HT_.out (by kernel_rfl)) ?_ ?_ ?_; rotate_left 2
           ·intro w'; go_simp; with_reducible rfl
           ·simp only [Act.put, s_t, s_z, s_s, i64_w, i32_w]; rfl
           refine pu_ (i := 13) (N := some 42) (v := ?_) (a' := ?_) privilege_CheckSpans.D16 (any_of HT_.out (by kernel_rfl)) ?_ ?_ ?_; rotate_left 2
           ·intro w'; go_simp; with_reducible rfl
           ·simp only [Act.put, s_t, s_z, s_s, i64_w, i32_w]; rfl
           refine take_ (i := 12) (N := some 41) (v := ?_) (a' := ?_) privilege_CheckSpans.D18 rfl rfl (take_ofW HT_.out HW_.out (by kernel_rfl)) (fun _ _ _ h => h) (Or.inl ⟨by rfl, ?_⟩) hHeld ?_ ?_
           rotate_left
           ·rintro w' ⟨s0, s1⟩
            go_simp
            with_reducible rfl
           rotate_left
           ·simp only [Act.put, List.setIfInBounds_toArray, List.set_cons_zero, List.set_cons_succ, i64_w, i32_w]
            rfl
           refine pu_ (i := 14) (N := some 43) (v := ?_) (a' := ?_) privilege_CheckSpans.D19 (any_of HT_.out (by kernel_rfl)) ?_ ?_ ?_; rotate_left 2
           ·intro w'; go_simp; with_reducible rfl
           ·simp only [Act.put, s_t, s_z, s_s, i64_w, i32_w]; rfl
           refine pu_ (i := 15) (N := some 44) (v := ?_) (a' := ?_) privilege_CheckSpans.D20 (any_of HT_.out (by kernel_rfl)) ?_ ?_ ?_; rotate_left 2
           ·intro w'; go_simp; with_reducible rfl
           ·simp only [Act.put, s_t, s_z, s_s, i64_w, i32_w]; rfl
           refine one_ (i := 16) (N := some 45) privilege_CheckSpans.D21 rfl rfl (one_of HT_.out (by kernel_rfl)) (by decide) (fun K hK => ?_)
           refine goes_ Tryd.func46 (by kernel_rfl) rfl #[.bool (decide (((rd_T46 l0 x24_1).f1) > a1)), .int .i64 1] (by rfl) rfl rfl (by (try simp only [List.map_toArray, List.map_cons, List.map_nil]); first | done | rfl | (simp only [List.length_drop, List.length_take]; rfl)) ?_
           with_reducible refine (base_When.calls (decide (((rd_T46 l0 x24_1).f1) > a1)) 1 t171 _ A96.out).mono ?_
           rintro e w' ⟨rfl, ⟨nd, rfl⟩⟩
           refine ⟨_, rfl, ?_⟩
           refine hK.out _ _ ⟨(blk_cell BK146.out 0).trans rfl, (blk_cell BK146.out 1).trans rfl⟩ (fun hHeld => ?_)
           clear hK K
           refine norm_ (a' := ?_) ?_ ?_
           rotate_left
           ·show Act.put _ (some 45) _ = _
            simp only [Act.put, List.setIfInBounds_toArray, List.set_cons_zero, List.set_cons_succ, i64_w, i32_w]
            rfl
           refine pu_ (i := 19) (N := some 48) (v := ?_) (a' := ?_) privilege_CheckSpans.D22 (any_of HT_.out (by kernel_rfl)) ?_ ?_ ?_; rotate_left 2
           ·intro w'; go_simp; with_reducible rfl
           ·simp only [Act.put, s_t, s_z, s_s, i64_w, i32_w]; rfl
           refine pv_ (i := 20) (N := some 49) (a' := ?_) privilege_CheckSpans.D23 (any_of HT_.out (by kernel_rfl)) ?_ ?_; rotate_left
           ·simp only [Act.put, s_t, s_z, s_s, i64_w, i32_w]; rfl
           refine pv_ (i := 21) (N := some 50) (a' := ?_) privilege_CheckSpans.D30 (any_of HT_.out (by kernel_rfl)) ?_ ?_; rotate_left
           ·simp only [Act.put, s_t, s_z, s_s, i64_w, i32_w]; rfl
           refine pv_ (i := 22) (N := some 51) (a' := ?_) privilege_CheckSpans.D31 (any_of HT_.out (by kernel_rfl)) ?_ ?_; rotate_left
           ·simp only [Act.put, s_t, s_z, s_s, i64_w, i32_w]; rfl
           refine pv_ (i := 23) (N := some 52) (a' := ?_) privilege_CheckSpans.D32 (any_of HT_.out (by kernel_rfl)) ?_ ?_; rotate_left
           ·simp only [Act.put, s_t, s_z, s_s, i64_w, i32_w]; rfl
           refine pv_ (i := 24) (N := some 53) (a' := ?_) privilege_CheckSpans.D33 (any_of HT_.out (by kernel_rfl)) ?_ ?_; rotate_left
           ·simp only [Act.put, s_t, s_z, s_s, i64_w, i32_w]; rfl
           refine pv_ (i := 25) (N := some 54) (a' := ?_) privilege_CheckSpans.D34 (any_of HT_.out (by kernel_rfl)) ?_ ?_; rotate_left
           ·simp only [Act.put, s_t, s_z, s_s, i64_w, i32_w]; rfl
           refine pv_ (i := 26) (N := some 55) (a' := ?_) privilege_CheckSpans.D35 (any_of HT_.out (by kernel_rfl)) ?_ ?_; rotate_left
           ·simp only [Act.put, s_t, s_z, s_s, i64_w, i32_w]; rfl
           refine pv_ (i := 27) (N := some 56) (a' := ?_) privilege_CheckSpans.D36 (any_of HT_.out (by kernel_rfl)) ?_ ?_; rotate_left
           ·simp only [Act.put, s_t, s_z, s_s, i64_w, i32_w]; rfl
           refine pv_ (i := 28) (N := some 57) (a' := ?_) privilege_CheckSpans.D37 (any_of HT_.out (by kernel_rfl)) ?_ ?_; rotate_left
           ·simp only [Act.put, s_t, s_z, s_s, i64_w, i32_w]; rfl
           refine pv_ (i := 29) (N := some 58) (a' := ?_) privilege_CheckSpans.D38 (any_of HT_.out (by kernel_rfl)) ?_ ?_; rotate_left
           ·simp only [Act.put, s_t, s_z, s_s, i64_w, i32_w]; rfl
           refine pu_ (i := 30) (N := some 59) (v := ?_) (a' := ?_) privilege_CheckSpans.D39 (any_of HT_.out (by kernel_rfl)) ?_ ?_ ?_; rotate_left 2
           ·intro w'; go_simp; with_reducible rfl
           ·simp only [Act.put, s_t, s_z, s_s, i64_w, i32_w]; rfl
           refine one_ (i := 31) (N := some 60) privilege_CheckSpans.D40 rfl rfl (one_of HT_.out (by kernel_rfl)) (by decide) (fun K hK => ?_)
           refine goes_ Tryd.func46 (by kernel_rfl) rfl #[.bool false, .int .i64 7] (by rfl) rfl rfl (by (try simp only [List.map_toArray, List.map_cons, List.map_nil]); first | done | rfl | (simp only [List.length_drop, List.length_take]; rfl)) ?_
           with_reducible refine (base_When.calls false 7 t178 _ A119.out).mono ?_
           rintro e w' ⟨rfl, ⟨nd, rfl⟩⟩
           refine ⟨_, rfl, ?_⟩
           refine hK.out _ _ ⟨(blk_cell BK146.out 0).trans rfl, (blk_cell BK146.out 1).trans rfl⟩ (fun hHeld => ?_)
           clear hK K
           refine norm_ (a' := ?_) ?_ ?_
           rotate_left
           ·show Act.put _ (some 60) _ = _
            simp only [Act.put, List.setIfInBounds_toArray, List.set_cons_zero, List.set_cons_succ, i64_w, i32_w]
            rfl
           refine one_ (i := 32) (N := some 61) privilege_CheckSpans.D41 rfl rfl (one_of HT_.out (by kernel_rfl)) (by decide) (fun K hK => ?_)
           refine Kd.R_lit_step (Kd.int .i64) _ 29 ?hg (N := 61) ?hd (xs := ([t171, t178] : List Int)) (inner := [.int .i64 t171, .int .i64 t178]) (ok := fun _ => True) (okp := fun _ => True) ?hr ?hp (fun _ hk => hk) trivial (Below.refl _ _) (Nat.le_refl _) (by simp) ?_; (case hd => rfl); (case hg => rfl); (case hr => first | (go_simp; done) | (go_simp; rfl)); (case hp => exact (Reps.one (show Kd.M (Kd.int .i64) _ _ _ t171 [.int .i64 t171] from rfl) (Reps.one (show Kd.M (Kd.int .i64) _ _ _ t178 [.int .i64 t178] from rfl) (Reps.none _ _))))
           intro v180 w133 ho134 hb hg_ hnew_
           clear hg_ hnew_
           (first | rw [← Ny179.out] at ho134 | (simp only [Int.reduceToNat] at ho134; rw [← Ny179.out] at ho134))
           have n0_ := Aside0.mk (Kd.R_lower ho134 (below_size (by repeat (first | (with_reducible first | exact HB.out | apply below_alloc | apply pw_below_drewN | apply below_drew1 | refine below_set ?_ GE146.out) | exact HB.out))))
           have n1_ := Aside0.mk (blk_below (g := gb146) (o := .cells #[.int .i64 ((rd_T46 l0 x24_1).f0), .int .i64 ((rd_T46 l0 x24_1).f1)] 46 (0, 0)) (by (with_reducible repeat (first | refine blk_drewN ?_ _ | refine blk_drew ?_ | refine blk_alloc ?_ _)); exact BK146.out) hb)
           have n2_ := Aside0.mk (below_step (by repeat (first | (with_reducible first | exact HB.out | apply below_alloc | apply pw_below_drewN | apply below_drew1 | refine below_set ?_ GE146.out) | exact HB.out)) hb)
           clear BK146
           clear HB
           have HO181 := n0_
           have BK146 := n1_
           have HB := n2_
           clear n0_ n1_ n2_
           clear hb ho134
           obtain ⟨Ao135, co135, eo135⟩ := Kd.R_slice HO181.out
           (first | subst eo135 | (injection eo135 with f1_ f2_ f3_; have f4_ := f1_.symm; have f5_ := f3_.symm; clear f1_ f2_ f3_; subst f4_; subst f5_))
           refine hK.out _ _ ⟨(blk_cell BK146.out 0).trans rfl, (blk_cell BK146.out 1).trans rfl⟩ (fun hHeld => ?_)
           clear hK K
           refine norm_ (a' := ?_) ?_ ?_
           rotate_left
           ·show Act.put _ (some 61) _ = _
            simp only [Act.put, List.setIfInBounds_toArray, List.set_cons_zero, List.set_cons_succ, i64_w, i32_w]
            rfl
           refine one_ (i := 33) (N := some 62) privilege_CheckSpans.D42 rfl rfl (one_of HT_.out (by kernel_rfl)) (by decide) (fun K hK => ?_)
           refine goes_ Tryd.func45 (by kernel_rfl) rfl #[.slice Ao135 y179.length co135] (by rfl) rfl rfl (by (try simp only [List.map_toArray, List.map_cons, List.map_nil]); first | done | rfl | (simp only [List.length_drop, List.length_take]; rfl)) ?_
           with_reducible refine (base_First.calls k1 _ _ y179 t182 _ ?side1 ?side2 A120.out).mono ?_
           (case side1 => repeat (first | exact (Kd.R_reads' HO181.out).2.2 | (with_reducible refine Kd.C_alloc ?_ _) | (with_reducible refine Kd.C_drewN ?_ _) | (with_reducible refine Kd.C_drew ?_)))
           (case side2 => exact (Kd.R_reads' HO181.out).2.1)
           rintro e w' ⟨rfl, ⟨nd, rfl⟩⟩
           refine ⟨_, rfl, ?_⟩
           refine hK.out _ _ ⟨(blk_cell BK146.out 0).trans rfl, (blk_cell BK146.out 1).trans rfl⟩ (fun hHeld => ?_)
           clear hK K
           refine norm_ (a' := ?_) ?_ ?_
           rotate_left
           ·show Act.put _ (some 62) _ = _
            simp only [Act.put, List.setIfInBounds_toArray, List.set_cons_zero, List.set_cons_succ, i64_w, i32_w]
            rfl
           refine pu_ (i := 34) (N := some 8) (v := ?_) (a' := ?_) privilege_CheckSpans.D43 (any_of HT_.out (by kernel_rfl)) ?_ ?_ ?_; rotate_left 2
           ·intro w'; go_simp; with_reducible rfl
           ·simp only [Act.put, s_t, s_z, s_s, i64_w, i32_w]; rfl
           refine done_ (done_of HT_.out (by kernel_rfl)) ?_
           try go_wp2
           go_ret
           exact ⟨by first | rfl | (simp [errW_none, errW_some] <;> rfl) | (simp [*, errW_none, errW_some] <;> rfl), by repeat (first | (with_reducible first | exact HB.out | apply below_alloc | apply pw_below_drewN | apply below_drew1 | refine below_set ?_ GE146.out) | exact HB.out)⟩
      ·rw [if_neg c13] at H
       exact absurd H (by simp)
     ·rw [if_neg c12] at H
      exact absurd H (by simp)
    ·rw [if_neg c11] at H
     have c11b0 : decide (x24_1 < (l0.length : Int)) = false := decide_eq_false c11
     clear c11
     obtain rfl := Option.some.inj H
     go_wp2
     go_ret
     exact ⟨by first | rfl | (simp [errW_none, errW_some] <;> rfl) | (simp [*, errW_none, errW_some] <;> rfl), by repeat (first | (with_reducible first | exact HB.out | apply below_alloc | apply pw_below_drewN | apply below_drew1) | exact HB.out)⟩
 ·rw [if_neg c7] at H
  have c7b0 : (t144 == 0) = false := beq_eq_false_iff_ne.mpr c7
  have c7b1 : (t144 != 0) = true := bne_iff_ne.mpr c7
  obtain rfl := Option.some.inj H
  go_enter Tryd.func55, Tryd.ntmps55
  go_wp2_with (first | ((with_reducible refine gate_callee (f := 44) rfl ?_); refine goesL_ (some 10) rfl rfl Tryd.func44 (by kernel_rfl) rfl #[.int .i64 a1, .int .i64 0, .int .i64 200000] rfl (by (try simp only [List.map_toArray, List.map_cons, List.map_nil]); first | done | rfl | (simp only [List.length_drop, List.length_take]; rfl)) ?_; (with_reducible refine (base_In.calls a1 0 200000 t138 _ A3.out).mono ?_); rintro e w' ⟨rfl, ⟨nd, rfl⟩⟩; refine ⟨_, rfl, ?_⟩) | ((with_reducible refine gate_callee (f := 46) rfl ?_); refine goesL_ (some 12) rfl rfl Tryd.func46 (by kernel_rfl) rfl #[.bool (!t138), .int .i64 1] rfl (by (try simp only [List.map_toArray, List.map_cons, List.map_nil]); first | done | rfl | (simp only [List.length_drop, List.length_take]; rfl)) ?_; (with_reducible refine (base_When.calls (!t138) 1 t139 _ A4.out).mono ?_); rintro e w' ⟨rfl, ⟨nd, rfl⟩⟩; refine ⟨_, rfl, ?_⟩) | ((with_reducible refine gate_callee (f := 46) rfl ?_); refine goesL_ (some 16) rfl rfl Tryd.func46 (by kernel_rfl) rfl #[.bool (decide ((l0.length : Int) > 1000)), .int .i64 2] rfl (by (try simp only [List.map_toArray, List.map_cons, List.map_nil]); first | done | rfl | (simp only [List.length_drop, List.length_take]; rfl)) ?_; (with_reducible refine (base_When.calls (decide ((l0.length : Int) > 1000)) 2 t140 _ A5.out).mono ?_); rintro e w' ⟨rfl, ⟨nd, rfl⟩⟩; refine ⟨_, rfl, ?_⟩) | ((with_reducible refine gate_dst (N := 17) rfl ?_); (try (refine gate_guard (by rfl) ?_; dsimp only)); refine Kd.R_lit (Kd.int .i64) _ 29 ?hg (N := 17) ?hd (xs := ([t139, t140] : List Int)) (inner := [.int .i64 t139, .int .i64 t140]) (ok := fun _ => True) (okp := fun _ => True) ?hr ?hp (fun _ hk => hk) trivial (Below.refl _ _) (Nat.le_refl _) (by simp) ?_; (case hd => rfl); (case hg => rfl); (case hr => first | (go_simp; done) | (go_simp; rfl)); (case hp => exact (Reps.one (show Kd.M (Kd.int .i64) _ _ _ t139 [.int .i64 t139] from rfl) (Reps.one (show Kd.M (Kd.int .i64) _ _ _ t140 [.int .i64 t140] from rfl) (Reps.none _ _)))); intro v142 w136 ho137 hb hg_ hnew_; clear hg_ hnew_; (first | rw [← Ny141.out] at ho137 | (simp only [Int.reduceToNat] at ho137; rw [← Ny141.out] at ho137)); have n0_ := Aside0.mk (Kd.R_lower ho137 (below_size (by repeat (first | (with_reducible first | exact HB.out | apply below_alloc | apply pw_below_drewN | apply below_drew1) | exact HB.out)))); have n1_ := Aside0.mk (below_step (by repeat (first | (with_reducible first | exact HB.out | apply below_alloc | apply pw_below_drewN | apply below_drew1) | exact HB.out)) hb); clear HB; have HO143 := n0_; have HB := n1_; clear n0_ n1_; clear hb ho137; obtain ⟨Ao138, co138, eo138⟩ := Kd.R_slice HO143.out; subst eo138) | ((with_reducible refine gate_callee (f := 45) rfl ?_); refine goesL_ (some 18) rfl rfl Tryd.func45 (by kernel_rfl) rfl #[.slice Ao138 y141.length co138] rfl (by (try simp only [List.map_toArray, List.map_cons, List.map_nil]); first | done | rfl | (simp only [List.length_drop, List.length_take]; rfl)) ?_; (with_reducible refine (base_First.calls k _ _ y141 t144 _ ?side1 ?side2 A6.out).mono ?_); (case side1 => repeat (first | exact (Kd.R_reads' HO143.out).2.2 | (with_reducible refine Kd.C_alloc ?_ _) | (with_reducible refine Kd.C_drewN ?_ _) | (with_reducible refine Kd.C_drew ?_))); (case side2 => exact (Kd.R_reads' HO143.out).2.1); rintro e w' ⟨rfl, ⟨nd, rfl⟩⟩; refine ⟨_, rfl, ?_⟩))
  go_ret
  exact ⟨by first | rfl | (simp [errW_none, errW_some] <;> rfl) | (simp [*, errW_none, errW_some] <;> rfl), by repeat (first | (with_reducible first | exact HB.out | apply below_alloc | apply pw_below_drewN | apply below_drew1) | exact HB.out)⟩
end Go.Proofs.YtolcpmdojlbhcaaDoor.Pc
