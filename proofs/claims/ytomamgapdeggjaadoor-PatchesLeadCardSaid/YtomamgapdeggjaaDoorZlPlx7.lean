/- Part of the proof that the law patchesLead is true for every input. No conditions. Laid by a program of this session over the kit's print and words; declarations that nothing names are left out. -/
import Derived.Test.YtomamgapdeggjaaDoorZlPlx0
import Derived.Test.YtomamgapdeggjaaDoorZlPlx2
import Derived.Test.YtomamgapdeggjaaDoorZlPlx3
import Derived.Test.YtomamgapdeggjaaDoorZlPlx5
import Derived.Test.YtomamgapdeggjaaDoorZlPlx6
namespace Go.Proofs.YtomamgapdeggjaaDoor.Pl
open Go.RowKit Go.Proofs.YtomamgapdeggjaaDoor.GBase Go.Proofs.YtomamgapdeggjaaDoorW.PrintWords Go.Proofs.YtomamgapdeggjaaDoorW.PrintLast Go.Proofs.YtomamgapdeggjaaDoorW.PrintMore
attribute [local go_sem] str_leq max2_int min2_int max_two min_two max_three min_three max_four min_four
set_option linter.unusedVariables false
set_option linter.unusedSimpArgs false
set_option maxHeartbeats 8000000 in
set_option maxRecDepth 100000 in
theorem near_Turn.calls (k : Nat) (a0 : ByteArray) (A1 : Option Addr) (c1 : Nat) (l1 : List (S72)) (r1 : List (S72)) (r2 : Int) (w : World) (hr1 : Kd.C k72 w A1 l1.length l1) (hc1 : l1.length ≤ c1) (hGl : Wd w) (h : near_Turn.f k a0 l1 = some (r1, r2)) :
  Calls Tryd.prog 46 #[.string a0, .slice A1 l1.length c1] w fun e w' => ∃ v0_ : Value, e = .returned (.tuple #[v0_, .int .i64 r2]) ∧ Kd.S k72 72 w' w.heap.size (fun _ => True) v0_ r1 ∧ Below w.heap.size w w' := by
 have hu72 := Tryd.underlying72
 have HGl := Aside0.mk hGl
 clear hGl
 have HR1 := Aside0.mk hr1
 have HC1 := Aside0.mk hc1
 clear hr1 hc1
 have HB := Aside0.mk (Below.refl w.heap.size w)
 have H : ((near_patched.f k a0 l1).bind fun bt248 => (if bt248.2 = 0 then (near_Turn.l0 k ([] : List (S72)) 0 l1 (l1.length : Int) 0) else (some (([] : List (S72)), bt248.2)))) = some (r1, r2) := h
 clear h
 replace H := Option.bind_eq_some_iff.mp H
 obtain ⟨⟨t248, t249⟩, A30, H⟩ := H
 replace H : (if t249 = 0 then (near_Turn.l0 k ([] : List (S72)) 0 l1 (l1.length : Int) 0) else (some (([] : List (S72)), t249))) = some (r1, r2) := H
 have A3 := Aside0.mk A30
 clear A30
 by_cases c4 : t249 = 0
 ·rw [if_pos c4] at H
  have c4b0 : (t249 == 0) = true := beq_iff_eq.mpr c4
  have c4b1 : (t249 != 0) = false := bne_eq_false_iff_eq.mpr c4
  clear c4
  have H' := Aside0.mk H
  clear H
  go_enter Tryd.func46, Tryd.ntmps46
  go_wp2_with (first | ((with_reducible refine gate_callee (f := 100) rfl ?_); refine goesL_ (some 15) rfl rfl Tryd.func100 (by kernel_rfl) rfl #[.string a0, .slice A1 l1.length c1] rfl (by (try simp only [List.map_toArray, List.map_cons, List.map_nil]); first | done | rfl | (simp only [List.length_drop, List.length_take]; rfl)) ?_; (with_reducible refine (near_patched.calls k a0 _ _ l1 t248 t249 _ ?side1 ?side2 ?side3 A3.out).mono ?_); (case side1 => repeat (first | exact HR1.out | (with_reducible refine Kd.C_alloc ?_ _) | (with_reducible refine Kd.C_drewN ?_ _) | (with_reducible refine Kd.C_drew ?_))); (case side2 => exact HC1.out); (case side3 => exact Wd.below HGl.out (by repeat (first | (with_reducible first | exact HB.out | apply below_alloc | apply pw_below_drewN | apply below_drew1) | exact HB.out))); rintro e w5 ⟨v250, rfl, ho0, hb⟩; refine ⟨_, rfl, ?_⟩; have n0_ := Aside0.mk (Kd.R_lower ho0 (below_size (by repeat (first | (with_reducible first | exact HB.out | apply below_alloc | apply pw_below_drewN | apply below_drew1) | exact HB.out)))); have n1_ := Aside0.mk (below_step (by repeat (first | (with_reducible first | exact HB.out | apply below_alloc | apply pw_below_drewN | apply below_drew1) | exact HB.out)) hb); clear HB; have HO251 := n0_; have HB := n1_; clear n0_ n1_; (try clear hb); (try clear hb2); (try clear hk); (try clear hi); (try clear ho0)))
  go_loopg [8, 9, 23] k (fun kq v8 v9 v23 w' => ∃ (x8_1 : List (S72)) (x9_1 : Int) (x23_1 : Int), v9 = .int .i64 x9_1 ∧ v23 = .int .i64 x23_1 ∧ Aside0 (near_Turn.l0 kq x8_1 x9_1 l1 (l1.length : Int) x23_1 = some (r1, r2)) ∧ Aside0 (kq ≤ k) ∧ Aside0 (Kd.S k72 72 w' w.heap.size (fun _ => True) v8 x8_1) ∧ Aside0 (Below w.heap.size w w'))
  case atStart => exact ⟨(([] : List (S72))), (0), (0), (by first | rfl | (simp; done) | (simp [*]; done)), (by first | rfl | (simp; done) | (simp [*]; done)), H', ⟨Nat.le_refl _⟩, ⟨by first | exact Kd.S_nil _ _ _ _ _ | exact Kd.N_nil _ _ _ _ _ | exact Kd.V_nil _ _ _ _ _ | exact Kd.Q_nil _ _ _ _ _ | exact Kd.R_nil _ _ _ _ _⟩, ⟨by repeat (first | (with_reducible first | exact HB.out | apply below_alloc | apply pw_below_drewN | apply below_drew1) | exact HB.out)⟩⟩
  case round =>
   clear H'
   try clear c1
   try clear p2
   try clear c4
   try clear c4b0
   try clear c4b1
   obtain ⟨x8_1, x9_1, x23_1, rfl, rfl, HA, HK1, HO_8, HB⟩ := hrel
   cases gk with
   | zero => exact absurd HA.out (by simp [near_Turn.l0])
   | succ k1 =>
    have H := HA.out
    clear HA
    simp only [near_Turn.l0] at H
    by_cases c6 : x23_1 < (l1.length : Int)
    ·rw [if_pos c6] at H
     have c6b0 : decide (x23_1 < (l1.length : Int)) = true := decide_eq_true c6
     clear c6
     by_cases c7 : 0 ≤ x23_1
     ·rw [if_pos c7] at H
      have c7b0 : decide (0 ≤ x23_1) = true := decide_eq_true c7
      clear c7
      by_cases c8 : x23_1 < (l1.length : Int)
      ·rw [if_pos c8] at H
       have c8b0 : decide (x23_1 < (l1.length : Int)) = true := decide_eq_true c8
       clear c8
       replace H := Option.bind_eq_some_iff.mp H
       obtain ⟨t254, A90, H⟩ := H
       replace H : ((slices_Clone_string_string.f ((rd_T72 l1 x23_1).f1)).bind fun t257 => (if x8_1.length < 2513169434916 then (near_Turn.l0 k1 (x8_1 ++ [(⟨wrap64 (((rd_T72 l1 x23_1).f0) + x9_1), t254, t257⟩ : S72)]) (wrap64 (x9_1 + (wrap64 ((((rd_T72 l1 x23_1).f2).length : Int) - (((rd_T72 l1 x23_1).f1).length : Int))))) l1 (l1.length : Int) (wrap64 (x23_1 + 1))) else (none))) = some (r1, r2) := H
       have A9 := Aside0.mk A90
       clear A90
       replace H := Option.bind_eq_some_iff.mp H
       obtain ⟨t257, A100, H⟩ := H
       replace H : (if x8_1.length < 2513169434916 then (near_Turn.l0 k1 (x8_1 ++ [(⟨wrap64 (((rd_T72 l1 x23_1).f0) + x9_1), t254, t257⟩ : S72)]) (wrap64 (x9_1 + (wrap64 ((((rd_T72 l1 x23_1).f2).length : Int) - (((rd_T72 l1 x23_1).f1).length : Int))))) l1 (l1.length : Int) (wrap64 (x23_1 + 1))) else (none)) = some (r1, r2) := H
       have A10 := Aside0.mk A100
       clear A100
       by_cases c11 : x8_1.length < 2513169434916
       ·rw [if_pos c11] at H
        have LMc11 := Aside0.mk c11
        clear c11
        obtain ⟨y260, hy260⟩ : ∃ y_ : List (S72), y_ = (x8_1 ++ [(⟨wrap64 (((rd_T72 l1 x23_1).f0) + x9_1), t254, t257⟩ : S72)]) := ⟨_, rfl⟩
        replace H : (near_Turn.l0 k1 y260 (wrap64 (x9_1 + (wrap64 ((((rd_T72 l1 x23_1).f2).length : Int) - (((rd_T72 l1 x23_1).f1).length : Int))))) l1 (l1.length : Int) (wrap64 (x23_1 + 1))) = some (r1, r2) := by first | (rw [hy260]; with_reducible exact H) | (have H2_ := (Option.bind_some _ _).symm.trans H; rw [hy260]; with_reducible exact H2_) | (have H2_ := (Option.bind_some _ _).symm.trans H; with_reducible exact H2_) | with_reducible exact H | (rw [hy260]; exact H) | exact H
        have Ny260 := Aside0.mk hy260
        clear hy260
        have H' := Aside0.mk H
        clear H
        have p252 : 0 ≤ (x23_1 : Int) := of_decide_eq_true (by first | (with_reducible assumption) | assumption)
        have q252 : x23_1 < (l1.length : Int) := of_decide_eq_true (by first | (with_reducible assumption) | assumption)
        obtain ⟨ad252, A252_1, c252_1, A252_2, c252_2, e252, hx252_0, hx252_1, hx252_2, hl252_1, hi252_1, hl252_2, hi252_2⟩ := at_T72 HR1.out x23_1 p252 q252
        cases e252
        first | replace hx252_0 := (HB.out.cell (World.block_lt_of_cell? w _ hx252_0)).trans hx252_0 | skip
        first | replace hx252_1 := (HB.out.cell (World.block_lt_of_cell? w _ hx252_1)).trans hx252_1 | skip
        first | replace hx252_2 := (HB.out.cell (World.block_lt_of_cell? w _ hx252_2)).trans hx252_2 | skip
        have HR252_1 := Aside0.mk hi252_1
        have HC252_1 := Aside0.mk hl252_1
        clear hi252_1 hl252_1
        have HR252_2 := Aside0.mk hi252_2
        have HC252_2 := Aside0.mk hl252_2
        clear hi252_2 hl252_2
        replace p252 := eq_true p252
        replace q252 := eq_true q252
        try go_wp2_with (first | ((with_reducible refine gate_dst (N := 11) rfl ?_); refine box_event ?hg (N := 11) ?hd (cs := #[.int .i64 0, .slice none 0 0, .slice none 0 0]) (t := 72) ?hr ?_; (case hd => rfl); (case hg => rfl); (case hr => first | (go_simp; done) | (go_simp; rfl)); intro gb253 hg w12 hbox hb; have n0_ := Aside0.mk (Kd.S_below (Kd.S_elderB (by (with_reducible repeat (first | apply Kd.S_alloc | apply Kd.S_drewN | apply Kd.S_drew)); exact HO_8.out) gb253 (Nat.le_of_eq hg.symm)) hb); have n1_ := Aside0.mk (below_step (by repeat (first | (with_reducible first | exact HB.out | apply below_alloc | apply pw_below_drewN | apply below_drew1) | exact HB.out)) hb); have n2_ := Aside0.mk (hbox); have n3_ := Aside0.mk ((by rw [hg]; exact (below_size (by repeat (first | (with_reducible first | exact HB.out | apply below_alloc | apply pw_below_drewN | apply below_drew1) | exact HB.out))) : w.heap.size ≤ gb253)); have n4_ := Aside0.mk ((by rw [hg]; exact (below_size (by repeat (first | (with_reducible first | exact HB.out | apply below_alloc | apply pw_below_drewN | apply below_drew1) | exact HB.out))) : w.heap.size ≤ gb253)); clear HO_8; clear HB; have HO_8 := n0_; have HB := n1_; have BK253 := n2_; have GW253 := n3_; have GE253 := n4_; clear n0_ n1_ n2_ n3_ n4_; clear hb hbox hg; have hcz13_0 : w12.cell? ⟨gb253, 0, none⟩ = some (.int .i64 0) := (blk_cell BK253.out 0).trans rfl; have hcz13_1 : w12.cell? ⟨gb253, 1, none⟩ = some (.slice none 0 0) := (blk_cell BK253.out 1).trans rfl; have hcz13_2 : w12.cell? ⟨gb253, 2, none⟩ = some (.slice none 0 0) := (blk_cell BK253.out 2).trans rfl; have hfz13_0 := blk_frozen BK253.out 0; have hfz13_1 := blk_frozen BK253.out 1; have hfz13_2 := blk_frozen BK253.out 2))
        have n0_ : Aside0 (Kd.S k72 72 (((w12.setCell ⟨gb253, 0, none⟩ (.int .i64 ((rd_T72 l1 x23_1).f0))).setCell ⟨gb253, 1, none⟩ (.slice A252_1 ((rd_T72 l1 x23_1).f1).length c252_1)).setCell ⟨gb253, 2, none⟩ (.slice A252_2 ((rd_T72 l1 x23_1).f2).length c252_2)) w.heap.size (fun k_ => k_ ≠ gb253) u8 x8_1) := ⟨by (with_reducible repeat (first | apply Kd.S_alloc | apply Kd.S_drewN | apply Kd.S_drew)); exact Kd.S_mono (Kd.S_far (p := ⟨gb253, 2, none⟩) (Kd.S_far (p := ⟨gb253, 1, none⟩) (Kd.S_far (p := ⟨gb253, 0, none⟩) (Kd.S_mono HO_8.out (fun k_ hk => (⟨hk, hk.2⟩ : _ ∧ k_ ≠ gb253))) (fun _ hk => hk.2) (.int .i64 ((rd_T72 l1 x23_1).f0))) (fun _ hk => hk.2) (.slice A252_1 ((rd_T72 l1 x23_1).f1).length c252_1)) (fun _ hk => hk.2) (.slice A252_2 ((rd_T72 l1 x23_1).f2).length c252_2)) (fun _ hk => hk.1.2)⟩
        have n1_ : Aside0 ((((w12.setCell ⟨gb253, 0, none⟩ (.int .i64 ((rd_T72 l1 x23_1).f0))).setCell ⟨gb253, 1, none⟩ (.slice A252_1 ((rd_T72 l1 x23_1).f1).length c252_1)).setCell ⟨gb253, 2, none⟩ (.slice A252_2 ((rd_T72 l1 x23_1).f2).length c252_2)).heap[gb253]? = some (.cells #[.int .i64 ((rd_T72 l1 x23_1).f0), .slice A252_1 ((rd_T72 l1 x23_1).f1).length c252_1, .slice A252_2 ((rd_T72 l1 x23_1).f2).length c252_2] 72 (0, 0))) := ⟨by (with_reducible repeat (first | refine blk_drewN ?_ _ | refine blk_drew ?_ | refine blk_alloc ?_ _)); refine blk_put (cs := #[.int .i64 ((rd_T72 l1 x23_1).f0), .slice A252_1 ((rd_T72 l1 x23_1).f1).length c252_1, .slice none 0 0]) ?_ 2 _ rfl; (with_reducible repeat (first | refine blk_drewN ?_ _ | refine blk_drew ?_ | refine blk_alloc ?_ _)); refine blk_put (cs := #[.int .i64 ((rd_T72 l1 x23_1).f0), .slice none 0 0, .slice none 0 0]) ?_ 1 _ rfl; (with_reducible repeat (first | refine blk_drewN ?_ _ | refine blk_drew ?_ | refine blk_alloc ?_ _)); refine blk_put (cs := #[.int .i64 0, .slice none 0 0, .slice none 0 0]) ?_ 0 _ rfl; (with_reducible repeat (first | refine blk_drewN ?_ _ | refine blk_drew ?_ | refine blk_alloc ?_ _)); exact BK253.out⟩
        have n2_ : Aside0 (Below w.heap.size w (((w12.setCell ⟨gb253, 0, none⟩ (.int .i64 ((rd_T72 l1 x23_1).f0))).setCell ⟨gb253, 1, none⟩ (.slice A252_1 ((rd_T72 l1 x23_1).f1).length c252_1)).setCell ⟨gb253, 2, none⟩ (.slice A252_2 ((rd_T72 l1 x23_1).f2).length c252_2))) := ⟨by repeat (first | (with_reducible first | exact HB.out | apply below_alloc | apply pw_below_drewN | apply below_drew1 | refine below_set ?_ GE253.out) | exact HB.out)⟩
        (try clear HO_8)
        (try clear BK253)
        (try clear HB)
        generalize (((w12.setCell ⟨gb253, 0, none⟩ (.int .i64 ((rd_T72 l1 x23_1).f0))).setCell ⟨gb253, 1, none⟩ (.slice A252_1 ((rd_T72 l1 x23_1).f1).length c252_1)).setCell ⟨gb253, 2, none⟩ (.slice A252_2 ((rd_T72 l1 x23_1).f2).length c252_2)) = w14 at n0_ n1_ n2_ ⊢
        have HO_8 := n0_
        have BK253 := n1_
        have HB := n2_
        clear n0_ n1_ n2_
        have n0_ := Aside0.mk (Kd.S_drew HO_8.out)
        have n1_ := Aside0.mk (blk_drew BK253.out)
        have n2_ := Aside0.mk (below_drew1 HB.out)
        clear HO_8
        clear BK253
        clear HB
        have HO_8 := n0_
        have BK253 := n1_
        have HB := n2_
        clear n0_ n1_ n2_
        refine start_ (n := 15) (S := fun w' => w'.cell? ⟨gb253, 0, none⟩ = some (.int .i64 ((rd_T72 l1 x23_1).f0)) ∧ w'.cell? ⟨gb253, 1, none⟩ = some (.slice A252_1 ((rd_T72 l1 x23_1).f1).length c252_1) ∧ w'.cell? ⟨gb253, 2, none⟩ = some (.slice A252_2 ((rd_T72 l1 x23_1).f2).length c252_2)) (ds := []) near_Turn.D0 (by kernel_rfl) rfl rfl ⟨(blk_cell BK253.out 0).trans rfl, (blk_cell BK253.out 1).trans rfl, (blk_cell BK253.out 2).trans rfl⟩ (fun hHeld => ?_); refine with_tabW near_Turn.tab9 near_Turn.bits9 (fun HT_ HW_ => ?_)
        generalize w14.drew = w15 at HO_8 BK253 HB hHeld ⊢
        refine pu_ (i := 0) (N := some 27) (v := ?_) (a' := ?_) near_Turn.D1 (any_of HT_.out (by kernel_rfl)) ?_ ?_ ?_; rotate_left 2
        ·intro w'; go_simp; with_reducible rfl
        ·simp only [Act.put, s_t, s_z, s_s, i64_w, i32_w]; rfl
        refine pu_ (i := 1) (N := some 28) (v := ?_) (a' := ?_) near_Turn.D2 (any_of HT_.out (by kernel_rfl)) ?_ ?_ ?_; rotate_left 2
        ·intro w'; go_simp; with_reducible rfl
        ·simp only [Act.put, s_t, s_z, s_s, i64_w, i32_w]; rfl
        refine pu_ (i := 3) (N := some 30) (v := ?_) (a' := ?_) near_Turn.D3 (any_of HT_.out (by kernel_rfl)) ?_ ?_ ?_; rotate_left 2
        ·intro w'; go_simp; with_reducible rfl
        ·simp only [Act.put, s_t, s_z, s_s, i64_w, i32_w]; rfl
        refine pu_ (i := 5) (N := some 32) (v := ?_) (a' := ?_) near_Turn.D4 (any_of HT_.out (by kernel_rfl)) ?_ ?_ ?_; rotate_left 2
        ·intro w'; go_simp; with_reducible rfl
        ·simp only [Act.put, s_t, s_z, s_s, i64_w, i32_w]; rfl
        refine pu_ (i := 8) (N := some 35) (v := ?_) (a' := ?_) near_Turn.D5 (any_of HT_.out (by kernel_rfl)) ?_ ?_ ?_; rotate_left 2
        ·intro w'; go_simp; with_reducible rfl
        ·simp only [Act.put, s_t, s_z, s_s, i64_w, i32_w]; rfl
        refine take_ (i := 2) (N := some 29) (v := ?_) (a' := ?_) near_Turn.D6 rfl rfl (take_ofW HT_.out HW_.out (by kernel_rfl)) (fun _ _ _ h => h) (Or.inl ⟨by rfl, ?_⟩) hHeld ?_ ?_
        rotate_left
        ·rintro w' ⟨s0, s1, s2⟩
         go_simp
         with_reducible rfl
        rotate_left
        ·simp only [Act.put, List.setIfInBounds_toArray, List.set_cons_zero, List.set_cons_succ, i64_w, i32_w]
         rfl
        refine pu_ (i := 4) (N := some 31) (v := ?_) (a' := ?_) near_Turn.D7 (any_of HT_.out (by kernel_rfl)) ?_ ?_ ?_; rotate_left 2
        ·intro w'; go_simp; with_reducible rfl
        ·simp only [Act.put, s_t, s_z, s_s, i64_w, i32_w]; rfl
        refine take_ (i := 6) (N := some 33) (v := ?_) (a' := ?_) near_Turn.D8 rfl rfl (take_ofW HT_.out HW_.out (by kernel_rfl)) (fun _ _ _ h => h) (Or.inl ⟨by rfl, ?_⟩) hHeld ?_ ?_
        rotate_left
        ·rintro w' ⟨s0, s1, s2⟩
         go_simp
         with_reducible rfl
        rotate_left
        ·simp only [Act.put, List.setIfInBounds_toArray, List.set_cons_zero, List.set_cons_succ, i64_w, i32_w]
         rfl
        refine take_ (i := 9) (N := some 36) (v := ?_) (a' := ?_) near_Turn.D9 rfl rfl (take_ofW HT_.out HW_.out (by kernel_rfl)) (fun _ _ _ h => h) (Or.inl ⟨by rfl, ?_⟩) hHeld ?_ ?_
        rotate_left
        ·rintro w' ⟨s0, s1, s2⟩
         go_simp
         with_reducible rfl
        rotate_left
        ·simp only [Act.put, List.setIfInBounds_toArray, List.set_cons_zero, List.set_cons_succ, i64_w, i32_w]
         rfl
        refine one_ (i := 7) (N := some 34) near_Turn.D10 rfl rfl (one_of HT_.out (by kernel_rfl)) (by decide) (fun K hK => ?_)
        refine goes_ Tryd.func90 (by kernel_rfl) rfl #[.slice A252_2 ((rd_T72 l1 x23_1).f2).length c252_2] (by rfl) rfl rfl (by (try simp only [List.map_toArray, List.map_cons, List.map_nil]); first | done | rfl | (simp only [List.length_drop, List.length_take]; rfl)) ?_
        with_reducible refine (slices_Clone_string_string.calls _ _ ((rd_T72 l1 x23_1).f2) t254 _ ?side1 ?side2 A9.out).mono ?_
        (case side1 => repeat (first | exact (Kd.C_below HR252_2.out HB.out) | (with_reducible refine Kd.C_alloc ?_ _) | (with_reducible refine Kd.C_drewN ?_ _) | (with_reducible refine Kd.C_drew ?_)))
        (case side2 => exact HC252_2.out)
        rintro e w16 ⟨v255, rfl, ho0, hb⟩
        refine ⟨_, rfl, ?_⟩
        have n0_ := Aside0.mk (Kd.S_elder' (by (with_reducible repeat (first | apply Kd.S_alloc | apply Kd.S_drewN | apply Kd.S_drew)); exact HO_8.out) (Kd.R_base ho0) hb)
        have n1_ := Aside0.mk (Kd.R_lower ho0 (below_size (by repeat (first | (with_reducible first | exact HB.out | apply below_alloc | apply pw_below_drewN | apply below_drew1 | refine below_set ?_ GE253.out) | exact HB.out))))
        have n2_ := Aside0.mk (blk_below (g := gb253) (o := .cells #[.int .i64 ((rd_T72 l1 x23_1).f0), .slice A252_1 ((rd_T72 l1 x23_1).f1).length c252_1, .slice A252_2 ((rd_T72 l1 x23_1).f2).length c252_2] 72 (0, 0)) (by (with_reducible repeat (first | refine blk_drewN ?_ _ | refine blk_drew ?_ | refine blk_alloc ?_ _)); exact BK253.out) hb)
        have n3_ := Aside0.mk (below_step (by repeat (first | (with_reducible first | exact HB.out | apply below_alloc | apply pw_below_drewN | apply below_drew1 | refine below_set ?_ GE253.out) | exact HB.out)) hb)
        clear HO_8
        clear BK253
        clear HB
        have HO_8 := n0_
        have HO256 := n1_
        have BK253 := n2_
        have HB := n3_
        clear n0_ n1_ n2_ n3_
        (try clear hb)
        (try clear hb2)
        (try clear hk)
        (try clear hi)
        (try clear ho0)
        refine hK.out _ _ ⟨(blk_cell BK253.out 0).trans rfl, (blk_cell BK253.out 1).trans rfl, (blk_cell BK253.out 2).trans rfl⟩ (fun hHeld => ?_)
        clear hK K
        refine norm_ (a' := ?_) ?_ ?_
        rotate_left
        ·show Act.put _ (some 34) _ = _
         simp only [Act.put, List.setIfInBounds_toArray, List.set_cons_zero, List.set_cons_succ, i64_w, i32_w]
         rfl
        refine one_ (i := 10) (N := some 37) near_Turn.D11 rfl rfl (one_of HT_.out (by kernel_rfl)) (by decide) (fun K hK => ?_)
        refine goes_ Tryd.func90 (by kernel_rfl) rfl #[.slice A252_1 ((rd_T72 l1 x23_1).f1).length c252_1] (by rfl) rfl rfl (by (try simp only [List.map_toArray, List.map_cons, List.map_nil]); first | done | rfl | (simp only [List.length_drop, List.length_take]; rfl)) ?_
        with_reducible refine (slices_Clone_string_string.calls _ _ ((rd_T72 l1 x23_1).f1) t257 _ ?side1 ?side2 A10.out).mono ?_
        (case side1 => repeat (first | exact (Kd.C_below HR252_1.out HB.out) | (with_reducible refine Kd.C_alloc ?_ _) | (with_reducible refine Kd.C_drewN ?_ _) | (with_reducible refine Kd.C_drew ?_)))
        (case side2 => exact HC252_1.out)
        rintro e w17 ⟨v258, rfl, ho0, hb⟩
        refine ⟨_, rfl, ?_⟩
        have n0_ := Aside0.mk (Kd.S_elder' (by (with_reducible repeat (first | apply Kd.S_alloc | apply Kd.S_drewN | apply Kd.S_drew)); exact HO_8.out) (Kd.R_base ho0) hb)
        have n1_ := Aside0.mk (Kd.R_elder' (by (with_reducible repeat (first | apply Kd.R_alloc | apply Kd.R_drewN | apply Kd.R_drew)); exact HO256.out) (Kd.R_base ho0) hb)
        have n2_ := Aside0.mk (Kd.R_lower (Kd.R_new' ho0 (Kd.R_lt (by (with_reducible repeat (first | apply Kd.R_alloc | apply Kd.R_drewN | apply Kd.R_drew)); exact HO256.out))) (below_size (by repeat (first | (with_reducible first | exact HB.out | apply below_alloc | apply pw_below_drewN | apply below_drew1 | refine below_set ?_ GE253.out) | exact HB.out))))
        have n3_ := Aside0.mk (blk_below (g := gb253) (o := .cells #[.int .i64 ((rd_T72 l1 x23_1).f0), .slice A252_1 ((rd_T72 l1 x23_1).f1).length c252_1, .slice A252_2 ((rd_T72 l1 x23_1).f2).length c252_2] 72 (0, 0)) (by (with_reducible repeat (first | refine blk_drewN ?_ _ | refine blk_drew ?_ | refine blk_alloc ?_ _)); exact BK253.out) hb)
        have n4_ := Aside0.mk (below_step (by repeat (first | (with_reducible first | exact HB.out | apply below_alloc | apply pw_below_drewN | apply below_drew1 | refine below_set ?_ GE253.out) | exact HB.out)) hb)
        clear HO_8
        clear HO256
        clear BK253
        clear HB
        have HO_8 := n0_
        have HO256 := n1_
        have HO259 := n2_
        have BK253 := n3_
        have HB := n4_
        clear n0_ n1_ n2_ n3_ n4_
        (try clear hb)
        (try clear hb2)
        (try clear hk)
        (try clear hi)
        (try clear ho0)
        obtain ⟨Ao18, co18, eo18⟩ := Kd.R_slice HO259.out
        (first | subst eo18 | (injection eo18 with f1_ f2_ f3_; have f4_ := f1_.symm; have f5_ := f3_.symm; clear f1_ f2_ f3_; subst f4_; subst f5_))
        obtain ⟨Ao19, co19, eo19⟩ := Kd.R_slice HO256.out
        (first | subst eo19 | (injection eo19 with f1_ f2_ f3_; have f4_ := f1_.symm; have f5_ := f3_.symm; clear f1_ f2_ f3_; subst f4_; subst f5_))
        refine hK.out _ _ ⟨(blk_cell BK253.out 0).trans rfl, (blk_cell BK253.out 1).trans rfl, (blk_cell BK253.out 2).trans rfl⟩ (fun hHeld => ?_)
        clear hK K
        refine norm_ (a' := ?_) ?_ ?_
        rotate_left
        ·show Act.put _ (some 37) _ = _
         simp only [Act.put, List.setIfInBounds_toArray, List.set_cons_zero, List.set_cons_succ, i64_w, i32_w]
         rfl
        refine pu_ (i := 11) (N := some 38) (v := ?_) (a' := ?_) near_Turn.D12 (any_of HT_.out (by kernel_rfl)) ?_ ?_ ?_; rotate_left 2
        ·intro w'; go_simp; with_reducible rfl
        ·simp only [Act.put, s_t, s_z, s_s, i64_w, i32_w]; rfl
        refine one_ (i := 12) (N := some 39) near_Turn.D13 rfl rfl (one_of HT_.out (by kernel_rfl)) (by decide) (fun K hK => ?_)
        refine value_ (w1 := ?_) (v := ?_) (by rfl) rfl ?_ ?_
        rotate_left 2
        ·go_simp
         constructor
         ·rfl
         ·rfl
        refine hK.out _ _ ⟨(blk_cell (blk_alloc BK253.out _) 0).trans rfl, (blk_cell (blk_alloc BK253.out _) 1).trans rfl, (blk_cell (blk_alloc BK253.out _) 2).trans rfl⟩ (fun hHeld => ?_)
        clear hK K
        refine norm_ (a' := ?_) ?_ ?_
        rotate_left
        ·show Act.put _ (some 39) _ = _
         simp only [Act.put, List.setIfInBounds_toArray, List.set_cons_zero, List.set_cons_succ, i64_w, i32_w]
         rfl
        refine one_ (i := 13) (N := some 40) near_Turn.D14 rfl rfl (one_of HT_.out (by kernel_rfl)) (by decide) (fun K hK => ?_)
        refine Kd.S_append_step k72 (w0 := w) w.heap.size (by rfl) (.tmp 27) (.tmp 39) 63 72 (.agg #[(.int .i64 0), (.slice none 0 0), (.slice none 0 0)]) 56 rfl Tryd.underlying63 info72 rfl (by decide) (by omega) u8 x8_1 (⟨wrap64 (((rd_T72 l1 x23_1).f0) + x9_1), t254, t257⟩ : S72) [.int .i64 (wrap64 (((rd_T72 l1 x23_1).f0) + x9_1)), .slice Ao19 t254.length co19, .slice Ao18 t257.length co18] (fun k_ => k_ ≠ gb253) (fun k_ => some k_ = (.slice Ao19 t254.length co19 : Value).ownBlock ∨ some k_ = (.slice Ao18 t257.length co18 : Value).ownBlock) rfl rfl ?aP (fun k_ hk_ => hk_.elim (fun h_ => ((Kd.R_mono (ok' := fun k_ => ((fun k_ => k_ ≠ gb253)) k_ ∧ some k_ ≠ (u8 : Value).ownBlock) (Kd.R_types (Kd.R_apart' (HO256.out) (Kd.S_typed HO_8.out) (by decide)) BK253.out (by decide)) (fun k_ hk => ⟨hk.2, hk.1.2⟩))).1 k_ h_.symm) (fun h_ => ((Kd.R_mono (ok' := fun k_ => ((fun k_ => k_ ≠ gb253)) k_ ∧ some k_ ≠ (u8 : Value).ownBlock) (Kd.R_types (Kd.R_apart' (HO259.out) (Kd.S_typed HO_8.out) (by decide)) BK253.out (by decide)) (fun k_ hk => ⟨hk.2, hk.1.2⟩))).1 k_ h_.symm)) ?aF ?aO ?aB ?aS ?aL ?_
        (case aP => exact k72_mkM _ _ _ (⟨wrap64 (((rd_T72 l1 x23_1).f0) + x9_1), t254, t257⟩ : S72) (Kd.R_mono (Kd.R_tight rfl (Kd.R_mono (ok' := fun k_ => ((fun k_ => k_ ≠ gb253)) k_ ∧ some k_ ≠ (u8 : Value).ownBlock) (Kd.R_types (Kd.R_apart' (HO256.out) (Kd.S_typed HO_8.out) (by decide)) BK253.out (by decide)) (fun k_ hk => ⟨hk.2, hk.1.2⟩))) (fun _ h_ => Or.inl h_)) (Kd.R_mono (Kd.R_tight rfl (Kd.R_mono (ok' := fun k_ => ((fun k_ => k_ ≠ gb253)) k_ ∧ some k_ ≠ (u8 : Value).ownBlock) (Kd.R_types (Kd.R_apart' (HO259.out) (Kd.S_typed HO_8.out) (by decide)) BK253.out (by decide)) (fun k_ hk => ⟨hk.2, hk.1.2⟩))) (fun _ h_ => Or.inr (h_))))
        (case aB => exact (by repeat (first | (with_reducible first | exact HB.out | apply below_alloc | apply pw_below_drewN | apply below_drew1 | refine below_set ?_ GE253.out) | exact HB.out)))
        (case aF => exact (fun k_ hk => Kd.freshB (g := gb253) (o := .cells #[.int .i64 ((rd_T72 l1 x23_1).f0), .slice A252_1 ((rd_T72 l1 x23_1).f1).length c252_1, .slice A252_2 ((rd_T72 l1 x23_1).f2).length c252_2] 72 (0, 0)) (by (with_reducible repeat (first | refine blk_drewN ?_ _ | refine blk_drew ?_ | refine blk_alloc ?_ _)); exact BK253.out) k_ hk))
        (case aO => exact (by (with_reducible repeat (first | apply Kd.S_alloc | apply Kd.S_drewN | apply Kd.S_drew)); exact Kd.S_mono HO_8.out (fun k_ hk => ⟨hk.1.1, fun e_ => e_.elim (fun h_ => hk.1.2 h_) (fun h_ => hk.2 h_)⟩)))
        (case aS => exact (below_size (by repeat (first | (with_reducible first | exact HB.out | apply below_alloc | apply pw_below_drewN | apply below_drew1 | refine below_set ?_ GE253.out) | exact HB.out))))
        (case aL => have := LMc11.out; omega)
        intro v261 w20 ho hb hg hat
        rw [← Ny260.out] at ho
        have n0_ := Aside0.mk (blk_grown (g := gb253) (o := .cells #[.int .i64 ((rd_T72 l1 x23_1).f0), .slice A252_1 ((rd_T72 l1 x23_1).f1).length c252_1, .slice A252_2 ((rd_T72 l1 x23_1).f2).length c252_2] 72 (0, 0)) (by (with_reducible repeat (first | refine blk_drewN ?_ _ | refine blk_drew ?_ | refine blk_alloc ?_ _)); exact BK253.out) hg (Kd.S_away HO_8.out (fun _ hk => hk.1.1)))
        have n1_ := Aside0.mk (hb)
        have n2_ := Aside0.mk (ho)
        clear BK253
        clear HB
        clear HO_8
        clear HO256
        clear HO259
        have BK253 := n0_
        have HB := n1_
        have HO262 := n2_
        clear n0_ n1_ n2_
        clear ho hb hg hat
        refine hK.out _ _ ⟨(blk_cell BK253.out 0).trans rfl, (blk_cell BK253.out 1).trans rfl, (blk_cell BK253.out 2).trans rfl⟩ (fun hHeld => ?_)
        clear hK K
        refine norm_ (a' := ?_) ?_ ?_
        rotate_left
        ·show Act.put _ (some 40) _ = _
         simp only [Act.put, List.setIfInBounds_toArray, List.set_cons_zero, List.set_cons_succ, i64_w, i32_w]
         rfl
        refine pu_ (i := 14) (N := some 8) (v := ?_) (a' := ?_) near_Turn.D15 (any_of HT_.out (by kernel_rfl)) ?_ ?_ ?_; rotate_left 2
        ·intro w'; go_simp; with_reducible rfl
        ·simp only [Act.put, s_t, s_z, s_s, i64_w, i32_w]; rfl
        refine done_ (done_of HT_.out (by kernel_rfl)) ?_
        have hcz21_0 : w20.cell? ⟨gb253, 0, none⟩ = some (.int .i64 ((rd_T72 l1 x23_1).f0)) := (blk_cell BK253.out 0).trans rfl
        have hcz21_1 : w20.cell? ⟨gb253, 1, none⟩ = some (.slice A252_1 ((rd_T72 l1 x23_1).f1).length c252_1) := (blk_cell BK253.out 1).trans rfl
        have hcz21_2 : w20.cell? ⟨gb253, 2, none⟩ = some (.slice A252_2 ((rd_T72 l1 x23_1).f2).length c252_2) := (blk_cell BK253.out 2).trans rfl
        have hfz21_0 := blk_frozen BK253.out 0
        have hfz21_1 := blk_frozen BK253.out 1
        have hfz21_2 := blk_frozen BK253.out 2
        try go_wp2
        go_roundg k1
        case measure => have := HK1.out; omega
        case rel => exact ⟨(y260), (wrap64 (x9_1 + (wrap64 ((((rd_T72 l1 x23_1).f2).length : Int) - (((rd_T72 l1 x23_1).f1).length : Int))))), (wrap64 (x23_1 + 1)), (by first | rfl | (simp; done) | (simp [*]; done)), (by first | rfl | (simp; done) | (simp [*]; done)), H', ⟨by have := HK1.out; omega⟩, ⟨by (with_reducible repeat (first | apply Kd.S_alloc | apply Kd.S_drewN | apply Kd.S_drew)); exact Kd.S_mono HO262.out (fun _ hk => trivial)⟩, ⟨by repeat (first | (with_reducible first | exact HB.out | apply below_alloc | apply pw_below_drewN | apply below_drew1 | refine below_set ?_ GE253.out) | exact HB.out)⟩⟩
       ·rw [if_neg c11] at H
        exact absurd H (by simp)
      ·rw [if_neg c8] at H
       exact absurd H (by simp)
     ·rw [if_neg c7] at H
      exact absurd H (by simp)
    ·rw [if_neg c6] at H
     have c6b0 : decide (x23_1 < (l1.length : Int)) = false := decide_eq_false c6
     clear c6
     simp only [Option.some.injEq, Prod.mk.injEq] at H
     obtain ⟨rfl, rfl⟩ := H
     go_wp2
     go_ret2
     exact ⟨_, by first | rfl | (simp [errW_none, errW_some] <;> rfl) | (simp [*, errW_none, errW_some] <;> rfl), by (with_reducible repeat (first | apply Kd.S_alloc | apply Kd.S_drewN | apply Kd.S_drew)); exact HO_8.out, by repeat (first | (with_reducible first | exact HB.out | apply below_alloc | apply pw_below_drewN | apply below_drew1) | exact HB.out)⟩
 ·rw [if_neg c4] at H
  have c4b0 : (t249 == 0) = false := beq_eq_false_iff_ne.mpr c4
  have c4b1 : (t249 != 0) = true := bne_iff_ne.mpr c4
  simp only [Option.some.injEq, Prod.mk.injEq] at H
  obtain ⟨rfl, rfl⟩ := H
  go_enter Tryd.func46, Tryd.ntmps46
  go_wp2_with (first | ((with_reducible refine gate_callee (f := 100) rfl ?_); refine goesL_ (some 15) rfl rfl Tryd.func100 (by kernel_rfl) rfl #[.string a0, .slice A1 l1.length c1] rfl (by (try simp only [List.map_toArray, List.map_cons, List.map_nil]); first | done | rfl | (simp only [List.length_drop, List.length_take]; rfl)) ?_; (with_reducible refine (near_patched.calls k a0 _ _ l1 t248 t249 _ ?side1 ?side2 ?side3 A3.out).mono ?_); (case side1 => repeat (first | exact HR1.out | (with_reducible refine Kd.C_alloc ?_ _) | (with_reducible refine Kd.C_drewN ?_ _) | (with_reducible refine Kd.C_drew ?_))); (case side2 => exact HC1.out); (case side3 => exact Wd.below HGl.out (by repeat (first | (with_reducible first | exact HB.out | apply below_alloc | apply pw_below_drewN | apply below_drew1) | exact HB.out))); rintro e w22 ⟨v250, rfl, ho0, hb⟩; refine ⟨_, rfl, ?_⟩; have n0_ := Aside0.mk (Kd.R_lower ho0 (below_size (by repeat (first | (with_reducible first | exact HB.out | apply below_alloc | apply pw_below_drewN | apply below_drew1) | exact HB.out)))); have n1_ := Aside0.mk (below_step (by repeat (first | (with_reducible first | exact HB.out | apply below_alloc | apply pw_below_drewN | apply below_drew1) | exact HB.out)) hb); clear HB; have HO251 := n0_; have HB := n1_; clear n0_ n1_; (try clear hb); (try clear hb2); (try clear hk); (try clear hi); (try clear ho0)))
  go_ret2
  exact ⟨_, by first | rfl | (simp [errW_none, errW_some] <;> rfl) | (simp [*, errW_none, errW_some] <;> rfl), by first | exact Kd.S_nil _ _ _ _ _ | exact Kd.N_nil _ _ _ _ _ | exact Kd.V_nil _ _ _ _ _ | exact Kd.Q_nil _ _ _ _ _ | exact Kd.R_nil _ _ _ _ _, by repeat (first | (with_reducible first | exact HB.out | apply below_alloc | apply pw_below_drewN | apply below_drew1) | exact HB.out)⟩
def near_Distance.f (k : Nat) (a0 : ByteArray) (a1 : ByteArray) : Option (Int × Int) := (near_both.f k a0 a1).bind fun bt263 => (if bt263.2.2 = 0 then ((near_kept.f k bt263.1 bt263.2.1).bind fun t270 => (some (wrap64 ((wrap64 ((bt263.1.length : Int) + (bt263.2.1.length : Int))) - (wrap64 (2 * (t270.length : Int)))), 0))) else (some (0, bt263.2.2)))
theorem near_Distance.mono : ∀ a0 a1 k, LeO (near_Distance.f k a0 a1) (near_Distance.f (k + 1) a0 a1) := by
  intro a0 a1 k
  unfold near_Distance.f
  repeat' first
      | (with_reducible exact near_both.mono _ _ _)
      | (with_reducible exact near_kept.mono _ _ _)
      | (with_reducible exact LeO.refl _)
      | (with_reducible exact LeO.none _)
      | (with_reducible refine LeO.ite ?_ ?_)
      | (with_reducible refine LeO.bind ?_ (fun _ => ?_))
      | exact near_both.mono _ _ _
      | exact near_kept.mono _ _ _
      | exact LeO.none _
      | refine LeO.ite ?_ ?_
      | refine LeO.bind ?_ (fun _ => ?_)
set_option maxHeartbeats 8000000 in
set_option maxRecDepth 100000 in
theorem near_Distance.calls (k : Nat) (a0 : ByteArray) (a1 : ByteArray) (r1 : Int) (r2 : Int) (w : World) (hGl : Wd w) (h : near_Distance.f k a0 a1 = some (r1, r2)) :
  Calls Tryd.prog 47 #[.string a0, .string a1] w fun e w' => e = .returned (.tuple #[.int .i64 r1, .int .i64 r2]) ∧ Below w.heap.size w w' := by
 have HGl := Aside0.mk hGl
 clear hGl
 have HB := Aside0.mk (Below.refl w.heap.size w)
 have H : ((near_both.f k a0 a1).bind fun bt263 => (if bt263.2.2 = 0 then ((near_kept.f k bt263.1 bt263.2.1).bind fun t270 => (some (wrap64 ((wrap64 ((bt263.1.length : Int) + (bt263.2.1.length : Int))) - (wrap64 (2 * (t270.length : Int)))), 0))) else (some (0, bt263.2.2)))) = some (r1, r2) := h
 clear h
 replace H := Option.bind_eq_some_iff.mp H
 obtain ⟨⟨t263, t264, t265⟩, A30, H⟩ := H
 replace H : (if t265 = 0 then ((near_kept.f k t263 t264).bind fun t270 => (some (wrap64 ((wrap64 ((t263.length : Int) + (t264.length : Int))) - (wrap64 (2 * (t270.length : Int)))), 0))) else (some (0, t265))) = some (r1, r2) := H
 have A3 := Aside0.mk A30
 clear A30
 by_cases c4 : t265 = 0
 ·rw [if_pos c4] at H
  have c4b0 : (t265 == 0) = true := beq_iff_eq.mpr c4
  have c4b1 : (t265 != 0) = false := bne_eq_false_iff_eq.mpr c4
  clear c4
  replace H := Option.bind_eq_some_iff.mp H
  obtain ⟨t270, A50, H⟩ := H
  replace H : (some (wrap64 ((wrap64 ((t263.length : Int) + (t264.length : Int))) - (wrap64 (2 * (t270.length : Int)))), 0)) = some (r1, r2) := H
  have A5 := Aside0.mk A50
  clear A50
  simp only [Option.some.injEq, Prod.mk.injEq] at H
  obtain ⟨rfl, rfl⟩ := H
  go_enter Tryd.func47, Tryd.ntmps47
  go_wp2_with (first | ((with_reducible refine gate_callee (f := 98) rfl ?_); refine goesL_ (some 12) rfl rfl Tryd.func98 (by kernel_rfl) rfl #[.string a0, .string a1] rfl (by (try simp only [List.map_toArray, List.map_cons, List.map_nil]); first | done | rfl | (simp only [List.length_drop, List.length_take]; rfl)) ?_; (with_reducible refine (near_both.calls k a0 a1 t263 t264 t265 _ ?side1 A3.out).mono ?_); (case side1 => exact Wd.below HGl.out (by repeat (first | (with_reducible first | exact HB.out | apply below_alloc | apply pw_below_drewN | apply below_drew1) | exact HB.out))); rintro e w6 ⟨v266, v268, rfl, ho0, ho1, hb⟩; refine ⟨_, rfl, ?_⟩; have n0_ := Aside0.mk (Kd.R_lower ho0 (below_size (by repeat (first | (with_reducible first | exact HB.out | apply below_alloc | apply pw_below_drewN | apply below_drew1) | exact HB.out)))); have n1_ := Aside0.mk (Kd.R_lower ho1 (below_size (by repeat (first | (with_reducible first | exact HB.out | apply below_alloc | apply pw_below_drewN | apply below_drew1) | exact HB.out)))); have n2_ := Aside0.mk (below_step (by repeat (first | (with_reducible first | exact HB.out | apply below_alloc | apply pw_below_drewN | apply below_drew1) | exact HB.out)) hb); clear HB; have HO267 := n0_; have HO269 := n1_; have HB := n2_; clear n0_ n1_ n2_; (try clear hb); (try clear hb2); (try clear hk); (try clear hi); (try clear ho0); (try clear ho1); obtain ⟨Ao7, co7, eo7⟩ := Kd.R_slice HO267.out; subst eo7; obtain ⟨Ao8, co8, eo8⟩ := Kd.R_slice HO269.out; subst eo8) | ((with_reducible refine gate_callee (f := 101) rfl ?_); refine goesL_ (some 26) rfl rfl Tryd.func101 (by kernel_rfl) rfl #[.slice Ao7 t263.length co7, .slice Ao8 t264.length co8] rfl (by (try simp only [List.map_toArray, List.map_cons, List.map_nil]); first | done | rfl | (simp only [List.length_drop, List.length_take]; rfl)) ?_; (with_reducible refine (near_kept.calls k _ _ t263 _ _ t264 t270 _ ?side1 ?side2 ?side3 ?side4 A5.out).mono ?_); (case side1 => repeat (first | exact (Kd.R_reads' HO267.out).2.2 | (with_reducible refine Kd.C_alloc ?_ _) | (with_reducible refine Kd.C_drewN ?_ _) | (with_reducible refine Kd.C_drew ?_))); (case side2 => exact (Kd.R_reads' HO267.out).2.1); (case side3 => repeat (first | exact (Kd.R_reads' HO269.out).2.2 | (with_reducible refine Kd.C_alloc ?_ _) | (with_reducible refine Kd.C_drewN ?_ _) | (with_reducible refine Kd.C_drew ?_))); (case side4 => exact (Kd.R_reads' HO269.out).2.1); rintro e w9 ⟨v271, rfl, ho0, hb⟩; refine ⟨_, rfl, ?_⟩; have n0_ := Aside0.mk (Kd.R_below (by (with_reducible repeat (first | apply Kd.R_alloc | apply Kd.R_drewN | apply Kd.R_drew)); exact HO267.out) hb); have n1_ := Aside0.mk (Kd.R_below (by (with_reducible repeat (first | apply Kd.R_alloc | apply Kd.R_drewN | apply Kd.R_drew)); exact HO269.out) hb); have n2_ := Aside0.mk (Kd.R_lower ho0 (below_size (by repeat (first | (with_reducible first | exact HB.out | apply below_alloc | apply pw_below_drewN | apply below_drew1) | exact HB.out)))); have n3_ := Aside0.mk (below_step (by repeat (first | (with_reducible first | exact HB.out | apply below_alloc | apply pw_below_drewN | apply below_drew1) | exact HB.out)) hb); clear HO267; clear HO269; clear HB; have HO267 := n0_; have HO269 := n1_; have HO272 := n2_; have HB := n3_; clear n0_ n1_ n2_ n3_; (try clear hb); (try clear hb2); (try clear hk); (try clear hi); (try clear ho0); obtain ⟨Ao10, co10, eo10⟩ := Kd.R_slice HO272.out; subst eo10))
  go_ret2
  exact ⟨by first | rfl | (simp [errW_none, errW_some] <;> rfl) | (simp [*, errW_none, errW_some] <;> rfl), by repeat (first | (with_reducible first | exact HB.out | apply below_alloc | apply pw_below_drewN | apply below_drew1) | exact HB.out)⟩
 ·rw [if_neg c4] at H
  have c4b0 : (t265 == 0) = false := beq_eq_false_iff_ne.mpr c4
  have c4b1 : (t265 != 0) = true := bne_iff_ne.mpr c4
  simp only [Option.some.injEq, Prod.mk.injEq] at H
  obtain ⟨rfl, rfl⟩ := H
  go_enter Tryd.func47, Tryd.ntmps47
  go_wp2_with (first | ((with_reducible refine gate_callee (f := 98) rfl ?_); refine goesL_ (some 12) rfl rfl Tryd.func98 (by kernel_rfl) rfl #[.string a0, .string a1] rfl (by (try simp only [List.map_toArray, List.map_cons, List.map_nil]); first | done | rfl | (simp only [List.length_drop, List.length_take]; rfl)) ?_; (with_reducible refine (near_both.calls k a0 a1 t263 t264 t265 _ ?side1 A3.out).mono ?_); (case side1 => exact Wd.below HGl.out (by repeat (first | (with_reducible first | exact HB.out | apply below_alloc | apply pw_below_drewN | apply below_drew1) | exact HB.out))); rintro e w11 ⟨v266, v268, rfl, ho0, ho1, hb⟩; refine ⟨_, rfl, ?_⟩; have n0_ := Aside0.mk (Kd.R_lower ho0 (below_size (by repeat (first | (with_reducible first | exact HB.out | apply below_alloc | apply pw_below_drewN | apply below_drew1) | exact HB.out)))); have n1_ := Aside0.mk (Kd.R_lower ho1 (below_size (by repeat (first | (with_reducible first | exact HB.out | apply below_alloc | apply pw_below_drewN | apply below_drew1) | exact HB.out)))); have n2_ := Aside0.mk (below_step (by repeat (first | (with_reducible first | exact HB.out | apply below_alloc | apply pw_below_drewN | apply below_drew1) | exact HB.out)) hb); clear HB; have HO267 := n0_; have HO269 := n1_; have HB := n2_; clear n0_ n1_ n2_; (try clear hb); (try clear hb2); (try clear hk); (try clear hi); (try clear ho0); (try clear ho1)))
  go_ret2
  exact ⟨by first | rfl | (simp [errW_none, errW_some] <;> rfl) | (simp [*, errW_none, errW_some] <;> rfl), by repeat (first | (with_reducible first | exact HB.out | apply below_alloc | apply pw_below_drewN | apply below_drew1) | exact HB.out)⟩
def base_First.l0 : Nat → List Int → Int → Int → Option (Int)
  | 0, _, _, _ => none
  | k + 1, x5, x6, x7 => if x7 < x6 then (if 0 ≤ x7 then (if x7 < (x5.length : Int) then (if (rd x5 x7) = 0 then (base_First.l0 k x5 x6 (wrap64 (x7 + 1))) else (some (rd x5 x7))) else (none)) else (none)) else (some 0)
def base_First.f (k : Nat) (l0 : List Int) : Option (Int) := base_First.l0 k l0 (l0.length : Int) 0
theorem base_First.mono_l : ∀ k, (∀ y0 y1 y2, LeO (base_First.l0 k y0 y1 y2) (base_First.l0 (k + 1) y0 y1 y2))
  | 0 => fun _ _ _ r h => by simp [base_First.l0] at h
  | k + 1 => by
    have ih0 := base_First.mono_l k
    · intro y0 y1 y2
      unfold base_First.l0
      repeat' first
      | (with_reducible exact ih0 _ _ _)
      | (with_reducible exact LeO.refl _)
      | (with_reducible exact LeO.none _)
      | (with_reducible refine LeO.ite ?_ ?_)
      | (with_reducible refine LeO.bind ?_ (fun _ => ?_))
      | exact ih0 _ _ _
      | exact LeO.none _
      | refine LeO.ite ?_ ?_
      | refine LeO.bind ?_ (fun _ => ?_)
theorem base_First.mono : ∀ a0 k, LeO (base_First.f k a0) (base_First.f (k + 1) a0) := by
  intro a0 k
  have ih0 := base_First.mono_l k
  unfold base_First.f
  repeat' first
      | (with_reducible exact ih0 _ _ _)
      | (with_reducible exact LeO.refl _)
      | (with_reducible exact LeO.none _)
      | (with_reducible refine LeO.ite ?_ ?_)
      | (with_reducible refine LeO.bind ?_ (fun _ => ?_))
      | exact ih0 _ _ _
      | exact LeO.none _
      | refine LeO.ite ?_ ?_
      | refine LeO.bind ?_ (fun _ => ?_)
set_option maxHeartbeats 8000000 in
set_option maxRecDepth 100000 in
theorem base_First.calls (k : Nat) (A0 : Option Addr) (c0 : Nat) (l0 : List Int) (r : Int) (w : World) (hr0 : Kd.C (Kd.int .i64) w A0 l0.length l0) (hc0 : l0.length ≤ c0) (h : base_First.f k l0 = some r) :
  Calls Tryd.prog 62 #[.slice A0 l0.length c0] w fun e w' => e = .returned (.int .i64 r) ∧ Drawn0 w w' := by
 have HR0 := Aside0.mk hr0
 have HC0 := Aside0.mk hc0
 clear hr0 hc0
 have H : (base_First.l0 k l0 (l0.length : Int) 0) = some r := h
 clear h
 have H' := Aside0.mk H
 clear H
 go_enter Tryd.func62, Tryd.ntmps62
 go_wp2
 go_loopg [7] k (fun kq v7 w' => ∃ (x7_1 : Int), v7 = .int .i64 x7_1 ∧ Aside0 (base_First.l0 kq l0 (l0.length : Int) x7_1 = some r) ∧ Aside0 (kq ≤ k) ∧ Drawn0 w w')
 case atStart => exact ⟨(0), (by first | rfl | (simp; done) | (simp [*]; done)), H', ⟨Nat.le_refl _⟩, by repeat (first | exact Drawn0.refl _ | apply Drawn0.step)⟩
 case round =>
  clear H'
  obtain ⟨x7_1, rfl, HA, HK1, ⟨m1, rfl⟩⟩ := hrel
  cases gk with
  | zero => exact absurd HA.out (by simp [base_First.l0])
  | succ k1 =>
   have H := HA.out
   clear HA
   simp only [base_First.l0] at H
   by_cases c2 : x7_1 < (l0.length : Int)
   ·rw [if_pos c2] at H
    have c2b0 : decide (x7_1 < (l0.length : Int)) = true := decide_eq_true c2
    clear c2
    by_cases c3 : 0 ≤ x7_1
    ·rw [if_pos c3] at H
     have c3b0 : decide (0 ≤ x7_1) = true := decide_eq_true c3
     clear c3
     by_cases c4 : x7_1 < (l0.length : Int)
     ·rw [if_pos c4] at H
      have c4b0 : decide (x7_1 < (l0.length : Int)) = true := decide_eq_true c4
      clear c4
      by_cases c5 : (rd l0 x7_1) = 0
      ·rw [if_pos c5] at H
       have c5b0 : ((rd l0 x7_1) == 0) = true := beq_iff_eq.mpr c5
       have c5b1 : ((rd l0 x7_1) != 0) = false := bne_eq_false_iff_eq.mpr c5
       clear c5
       have H' := Aside0.mk H
       clear H
       have p273 : 0 ≤ (x7_1 : Int) := of_decide_eq_true (by first | (with_reducible assumption) | assumption)
       have q273 : x7_1 < (l0.length : Int) := of_decide_eq_true (by first | (with_reducible assumption) | assumption)
       obtain ⟨ad273, e273, hx273_0⟩ := Kd.at_int HR0.out x7_1 p273 q273
       cases e273
       replace p273 := eq_true p273
       replace q273 := eq_true q273
       go_wp2
       go_roundg k1
       case measure => have := HK1.out; omega
       case rel => exact ⟨(wrap64 (x7_1 + 1)), (by first | rfl | (simp; done) | (simp [*]; done)), H', ⟨by have := HK1.out; omega⟩, by repeat (first | exact Drawn0.refl _ | apply Drawn0.step)⟩
      ·rw [if_neg c5] at H
       have c5b0 : ((rd l0 x7_1) == 0) = false := beq_eq_false_iff_ne.mpr c5
       have c5b1 : ((rd l0 x7_1) != 0) = true := bne_iff_ne.mpr c5
       obtain rfl := Option.some.inj H
       have p273 : 0 ≤ (x7_1 : Int) := of_decide_eq_true (by first | (with_reducible assumption) | assumption)
       have q273 : x7_1 < (l0.length : Int) := of_decide_eq_true (by first | (with_reducible assumption) | assumption)
       obtain ⟨ad273, e273, hx273_0⟩ := Kd.at_int HR0.out x7_1 p273 q273
       cases e273
       replace p273 := eq_true p273
       replace q273 := eq_true q273
       go_wp2
       go_ret
       exact ⟨by first | rfl | (simp; done) | (simp [*]; done), by repeat (first | exact Drawn0.refl _ | apply Drawn0.step)⟩
     ·rw [if_neg c4] at H
      exact absurd H (by simp)
    ·rw [if_neg c3] at H
     exact absurd H (by simp)
   ·rw [if_neg c2] at H
    have c2b0 : decide (x7_1 < (l0.length : Int)) = false := decide_eq_false c2
    clear c2
    obtain rfl := Option.some.inj H
    go_wp2
    go_ret
    exact ⟨by first | rfl | (simp; done) | (simp [*]; done), by repeat (first | exact Drawn0.refl _ | apply Drawn0.step)⟩
def near_kError.f (a0 : Int) : Option (Int) := (base_In.f a0 1 10).bind fun t274 => ((base_When.f (!t274) 1).bind fun t275 => (some t275))
set_option maxHeartbeats 8000000 in
set_option maxRecDepth 100000 in
theorem near_kError.calls (a0 : Int) (r : Int) (w : World) (h : near_kError.f a0 = some r) :
    Calls Tryd.prog 144 #[.int .i64 a0] w fun e w' => e = .returned (.int .i64 r) ∧ Drawn0 w w' := by
  have H : ((base_In.f a0 1 10).bind fun t274 => ((base_When.f (!t274) 1).bind fun t275 => (some t275))) = some r := h
  clear h
  replace H := Option.bind_eq_some_iff.mp H
  obtain ⟨t274, A20, H⟩ := H
  replace H : ((base_When.f (!t274) 1).bind fun t275 => (some t275)) = some r := H
  have A2 := Aside0.mk A20
  clear A20
  replace H := Option.bind_eq_some_iff.mp H
  obtain ⟨t275, A30, H⟩ := H
  replace H : (some t275) = some r := H
  have A3 := Aside0.mk A30
  clear A30
  obtain rfl := Option.some.inj H
  go_enter Tryd.func144, Tryd.ntmps144
  go_wp2_with (first | ((with_reducible refine gate_callee (f := 61) rfl ?_); refine goesL_ (some 4) rfl rfl Tryd.func61 (by kernel_rfl) rfl #[.int .i64 a0, .int .i64 1, .int .i64 10] rfl (by (try simp only [List.map_toArray, List.map_cons, List.map_nil]); first | done | rfl | (simp only [List.length_drop, List.length_take]; rfl)) ?_; (with_reducible refine (base_In.calls a0 1 10 t274 _ A2.out).mono ?_); rintro e w' ⟨rfl, ⟨nd, rfl⟩⟩; refine ⟨_, rfl, ?_⟩) | ((with_reducible refine gate_callee (f := 63) rfl ?_); refine goesL_ (some 6) rfl rfl Tryd.func63 (by kernel_rfl) rfl #[.bool (!t274), .int .i64 1] rfl (by (try simp only [List.map_toArray, List.map_cons, List.map_nil]); first | done | rfl | (simp only [List.length_drop, List.length_take]; rfl)) ?_; (with_reducible refine (base_When.calls (!t274) 1 t275 _ A3.out).mono ?_); rintro e w' ⟨rfl, ⟨nd, rfl⟩⟩; refine ⟨_, rfl, ?_⟩))
  go_ret
  exact ⟨by first | rfl | (simp; done) | (simp [*]; done), by repeat (first | exact Drawn0.refl _ | apply Drawn0.step)⟩
def strings_Join.f (l0 : List ByteArray) (a1 : ByteArray) : Option (ByteArray) := if l0.length ≤ 140737488355328 ∧ (joinS l0 a1).size ≤ 140737488355328 then (some (joinS l0 a1)) else (none)
set_option maxHeartbeats 8000000 in
set_option maxRecDepth 100000 in
theorem strings_Join.calls (A0 : Option Addr) (c0 : Nat) (l0 : List ByteArray) (a1 : ByteArray) (r : ByteArray) (w : World) (hr0 : Kd.C Kd.string w A0 l0.length l0) (hc0 : l0.length ≤ c0) (h : strings_Join.f l0 a1 = some r) :
    Calls Tryd.prog 58 #[.slice A0 l0.length c0, .string a1] w fun e w' => e = .returned (.string r) ∧ Below w.heap.size w w' := by
  unfold strings_Join.f at h
  by_cases hc : l0.length ≤ 140737488355328 ∧ (joinS l0 a1).size ≤ 140737488355328
  · rw [if_pos hc] at h
    obtain rfl := Option.some.inj h
    rcases Nat.eq_zero_or_pos l0.length with h0 | h0
    · obtain rfl := List.eq_nil_of_length_eq_zero h0
      refine (Tryd.strings_Join_none A0 c0 a1 w).mono ?_
      rintro e w' ⟨rfl, rfl⟩
      exact ⟨rfl, Below.refl _ _⟩
    · obtain ⟨b, o, rfl, hb, hcell⟩ := C_cells hr0 h0
      refine (Tryd.strings_Join b o c0 l0 a1 w hcell hb hc.1 hc0 ?_).mono ?_
      · have := hc.2
        simpa [joinS, toL, ByteArray.size] using this
      · rintro e w' ⟨rfl, hB⟩
        exact ⟨rfl, hB⟩
  · rw [if_neg hc] at h
    exact absurd h (by simp)
def base_Lower.f (a0 : ByteArray) : Option (ByteArray) := if a0.size ≤ 140737488355328 then (some (lowA a0)) else (none)
set_option maxHeartbeats 8000000 in
set_option maxRecDepth 100000 in
theorem base_Lower.calls (a0 : ByteArray) (r : ByteArray) (w : World) (h : base_Lower.f a0 = some r) :
    Calls Tryd.prog 80 #[.string a0] w fun e w' => e = .returned (.string r) ∧ Below w.heap.size w w' := by
  unfold base_Lower.f at h
  by_cases hs : a0.size ≤ 140737488355328
  · rw [if_pos hs] at h
    obtain rfl := Option.some.inj h
    have hconv := fun (w : World) => Lib.run_convert_string_bytes (P := Tryd.prog) w 9 91 5 a0 Tryd.underlying9 Tryd.underlying91 Tryd.underlying5
    clear h
    go_enter Tryd.func80, Tryd.ntmps80
    go_wp2
    have hst := LowAt.start 5 w a0
    have Hst : Hid (LowAt 5 w (Lib.bytesWorld w 5 a0) a0 0) := hst
    have hs2 : a0.size ≤ 9223372036854775807 := by omega
    clear hst hconv
    go_loopw [10] (fun i wr => ∃ k : Nat, k ≤ a0.size ∧ i = .int .i64 k ∧ Hid (LowAt 5 w wr a0 k)) (fun i _ => a0.size - (intOf i).toNat)
    case atStart => exact ⟨0, Nat.zero_le _, rfl, Hst⟩
    case round =>
      obtain ⟨k, hk, rfl, HL⟩ := hrel
      by_cases hlt : k < a0.size
      · have hcell := HL.out.cell hlt
        have hfree := HL.out.free hlt
        by_cases hc : 65 ≤ (a0[k].toNat : Int) ∧ (a0[k].toNat : Int) ≤ 90
        · have h1 := hc.1
          have h2 := hc.2
          have HP : Hid (LowAt 5 w (wr.setCell ⟨w.heap.size, k, none⟩ (.int .u8 ((a0[k].toNat : Int) + 32))) a0 (k + 1)) := HL.out.put hlt h1 h2
          clear hc HL
          go_wp2
          go_roundw
          case rel => exact ⟨k + 1, by omega, by go_num, HP⟩
          case measure => simp [intOf]; omega
        · have HP : Hid (LowAt 5 w wr a0 (k + 1)) := HL.out.keep hlt hc
          clear HL
          by_cases h1 : 65 ≤ (a0[k].toNat : Int)
          · have h2 : ¬ (a0[k].toNat : Int) ≤ 90 := fun h => hc ⟨h1, h⟩
            clear hc
            go_wp2
            go_roundw
            case rel => exact ⟨k + 1, by omega, by go_num, HP⟩
            case measure => simp [intOf]; omega
          · clear hc
            go_wp2
            go_roundw
            case rel => exact ⟨k + 1, by omega, by go_num, HP⟩
            case measure => simp [intOf]; omega
      · obtain rfl : k = a0.size := by omega
        have hB := HL.out.1
        have hd := HL.out.done Tryd.prog 91 9 (grownCap w a0.size 0 5) Tryd.underlying91 Tryd.underlying5 Tryd.underlying9
        clear HL
        go_wp2
        go_ret
        exact ⟨rfl, hB⟩
  · rw [if_neg hs] at h
    exact absurd h (by simp)
def base_Digit.f (a0 : Int) : Option (Bool) := if a0 ≥ 48 then (some (decide (a0 ≤ 57))) else (some false)
set_option maxHeartbeats 8000000 in
set_option maxRecDepth 100000 in
theorem base_Digit.calls (a0 : Int) (r : Bool) (w : World) (h : base_Digit.f a0 = some r) :
    Calls Tryd.prog 125 #[.int .u8 a0] w fun e w' => e = .returned (.bool r) ∧ Drawn0 w w' := by
  have H : (if a0 ≥ 48 then (some (decide (a0 ≤ 57))) else (some false)) = some r := h
  clear h
  by_cases c2 : a0 ≥ 48
  · rw [if_pos c2] at H
    have c2b0 : decide (48 ≤ a0) = true := decide_eq_true c2
    clear c2
    obtain rfl := Option.some.inj H
    go_enter Tryd.func125, Tryd.ntmps125
    go_wp2
    go_ret
    exact ⟨by first | rfl | (simp; done) | (simp [*]; done), by repeat (first | exact Drawn0.refl _ | apply Drawn0.step)⟩
  · rw [if_neg c2] at H
    have c2b0 : decide (48 ≤ a0) = false := decide_eq_false c2
    clear c2
    obtain rfl := Option.some.inj H
    go_enter Tryd.func125, Tryd.ntmps125
    go_wp2
    go_ret
    exact ⟨by first | rfl | (simp; done) | (simp [*]; done), by repeat (first | exact Drawn0.refl _ | apply Drawn0.step)⟩
def near_letter.f (a0 : Int) : Option (Bool) := if a0 ≥ 97 then (if a0 ≤ 122 then (some true) else (if a0 ≥ 65 then (if a0 ≤ 90 then (some true) else ((base_Digit.f a0).bind fun t276 => (if t276 = true then (some true) else (some (decide (a0 ≥ 128)))))) else ((base_Digit.f a0).bind fun t277 => (if t277 = true then (some true) else (some (decide (a0 ≥ 128))))))) else (if a0 ≥ 65 then (if a0 ≤ 90 then (some true) else ((base_Digit.f a0).bind fun t278 => (if t278 = true then (some true) else (some (decide (a0 ≥ 128)))))) else ((base_Digit.f a0).bind fun t279 => (if t279 = true then (some true) else (some (decide (a0 ≥ 128))))))
set_option maxHeartbeats 8000000 in
set_option maxRecDepth 100000 in
theorem near_letter.calls (a0 : Int) (r : Bool) (w : World) (h : near_letter.f a0 = some r) :
  Calls Tryd.prog 117 #[.int .u8 a0] w fun e w' => e = .returned (.bool r) ∧ Drawn0 w w' := by
 have H : (if a0 ≥ 97 then (if a0 ≤ 122 then (some true) else (if a0 ≥ 65 then (if a0 ≤ 90 then (some true) else ((base_Digit.f a0).bind fun t276 => (if t276 = true then (some true) else (some (decide (a0 ≥ 128)))))) else ((base_Digit.f a0).bind fun t277 => (if t277 = true then (some true) else (some (decide (a0 ≥ 128))))))) else (if a0 ≥ 65 then (if a0 ≤ 90 then (some true) else ((base_Digit.f a0).bind fun t278 => (if t278 = true then (some true) else (some (decide (a0 ≥ 128)))))) else ((base_Digit.f a0).bind fun t279 => (if t279 = true then (some true) else (some (decide (a0 ≥ 128))))))) = some r := h
 clear h
 by_cases c2 : a0 ≥ 97
 ·rw [if_pos c2] at H
  have c2b0 : decide (97 ≤ a0) = true := decide_eq_true c2
  clear c2
  by_cases c3 : a0 ≤ 122
  ·rw [if_pos c3] at H
   have c3b0 : decide (a0 ≤ 122) = true := decide_eq_true c3
   clear c3
   obtain rfl := Option.some.inj H
   go_enter Tryd.func117, Tryd.ntmps117
   go_wp2
   go_ret
   exact ⟨by first | rfl | (simp; done) | (simp [*]; done), by repeat (first | exact Drawn0.refl _ | apply Drawn0.step)⟩
  ·rw [if_neg c3] at H
   have c3b0 : decide (a0 ≤ 122) = false := decide_eq_false c3
   clear c3
   by_cases c4 : a0 ≥ 65
   ·rw [if_pos c4] at H
    have c4b0 : decide (65 ≤ a0) = true := decide_eq_true c4
    clear c4
    by_cases c5 : a0 ≤ 90
    ·rw [if_pos c5] at H
     have c5b0 : decide (a0 ≤ 90) = true := decide_eq_true c5
     clear c5
     obtain rfl := Option.some.inj H
     go_enter Tryd.func117, Tryd.ntmps117
     go_wp2
     go_ret
     exact ⟨by first | rfl | (simp; done) | (simp [*]; done), by repeat (first | exact Drawn0.refl _ | apply Drawn0.step)⟩
    ·rw [if_neg c5] at H
     have c5b0 : decide (a0 ≤ 90) = false := decide_eq_false c5
     clear c5
     replace H := Option.bind_eq_some_iff.mp H
     obtain ⟨t276, A60, H⟩ := H
     replace H : (if t276 = true then (some true) else (some (decide (a0 ≥ 128)))) = some r := H
     have A6 := Aside0.mk A60
     clear A60
     by_cases c7 : t276 = true
     ·subst c7
      have H1 : (some true) = some r := by rw [if_pos rfl] at H; exact H
      clear H
      have H := H1
      clear H1
      obtain rfl := Option.some.inj H
      go_enter Tryd.func117, Tryd.ntmps117
      go_wp2_with (first | (go_at_call 125; (with_reducible refine (base_Digit.calls a0 true _ A6.out).mono ?_); rintro e w' ⟨rfl, ⟨nd, rfl⟩⟩))
      go_ret
      exact ⟨by first | rfl | (simp; done) | (simp [*]; done), by repeat (first | exact Drawn0.refl _ | apply Drawn0.step)⟩
     ·replace c7 := Bool.eq_false_iff.mpr c7
      subst c7
      have H1 : (some (decide (a0 ≥ 128))) = some r := by rw [if_neg (show ¬ (false = true) by decide)] at H; exact H
      clear H
      have H := H1
      clear H1
      obtain rfl := Option.some.inj H
      go_enter Tryd.func117, Tryd.ntmps117
      go_wp2_with (first | (go_at_call 125; (with_reducible refine (base_Digit.calls a0 false _ A6.out).mono ?_); rintro e w' ⟨rfl, ⟨nd, rfl⟩⟩))
      go_ret
      exact ⟨by first | rfl | (simp; done) | (simp [*]; done), by repeat (first | exact Drawn0.refl _ | apply Drawn0.step)⟩
   ·rw [if_neg c4] at H
    have c4b0 : decide (65 ≤ a0) = false := decide_eq_false c4
    clear c4
    replace H := Option.bind_eq_some_iff.mp H
    obtain ⟨t277, A80, H⟩ := H
    replace H : (if t277 = true then (some true) else (some (decide (a0 ≥ 128)))) = some r := H
    have A8 := Aside0.mk A80
    clear A80
    by_cases c9 : t277 = true
    ·subst c9
     have H1 : (some true) = some r := by rw [if_pos rfl] at H; exact H
     clear H
     have H := H1
     clear H1
     obtain rfl := Option.some.inj H
     go_enter Tryd.func117, Tryd.ntmps117
     go_wp2_with (first | (go_at_call 125; (with_reducible refine (base_Digit.calls a0 true _ A8.out).mono ?_); rintro e w' ⟨rfl, ⟨nd, rfl⟩⟩))
     go_ret
     exact ⟨by first | rfl | (simp; done) | (simp [*]; done), by repeat (first | exact Drawn0.refl _ | apply Drawn0.step)⟩
    ·replace c9 := Bool.eq_false_iff.mpr c9
     subst c9
     have H1 : (some (decide (a0 ≥ 128))) = some r := by rw [if_neg (show ¬ (false = true) by decide)] at H; exact H
     clear H
     have H := H1
     clear H1
     obtain rfl := Option.some.inj H
     go_enter Tryd.func117, Tryd.ntmps117
     go_wp2_with (first | (go_at_call 125; (with_reducible refine (base_Digit.calls a0 false _ A8.out).mono ?_); rintro e w' ⟨rfl, ⟨nd, rfl⟩⟩))
     go_ret
     exact ⟨by first | rfl | (simp; done) | (simp [*]; done), by repeat (first | exact Drawn0.refl _ | apply Drawn0.step)⟩
 ·rw [if_neg c2] at H
  have c2b0 : decide (97 ≤ a0) = false := decide_eq_false c2
  clear c2
  by_cases c10 : a0 ≥ 65
  ·rw [if_pos c10] at H
   have c10b0 : decide (65 ≤ a0) = true := decide_eq_true c10
   clear c10
   by_cases c11 : a0 ≤ 90
   ·rw [if_pos c11] at H
    have c11b0 : decide (a0 ≤ 90) = true := decide_eq_true c11
    clear c11
    obtain rfl := Option.some.inj H
    go_enter Tryd.func117, Tryd.ntmps117
    go_wp2
    go_ret
    exact ⟨by first | rfl | (simp; done) | (simp [*]; done), by repeat (first | exact Drawn0.refl _ | apply Drawn0.step)⟩
   ·rw [if_neg c11] at H
    have c11b0 : decide (a0 ≤ 90) = false := decide_eq_false c11
    clear c11
    replace H := Option.bind_eq_some_iff.mp H
    obtain ⟨t278, A120, H⟩ := H
    replace H : (if t278 = true then (some true) else (some (decide (a0 ≥ 128)))) = some r := H
    have A12 := Aside0.mk A120
    clear A120
    by_cases c13 : t278 = true
    ·subst c13
     have H1 : (some true) = some r := by rw [if_pos rfl] at H; exact H
     clear H
     have H := H1
     clear H1
     obtain rfl := Option.some.inj H
     go_enter Tryd.func117, Tryd.ntmps117
     go_wp2_with (first | (go_at_call 125; (with_reducible refine (base_Digit.calls a0 true _ A12.out).mono ?_); rintro e w' ⟨rfl, ⟨nd, rfl⟩⟩))
     go_ret
     exact ⟨by first | rfl | (simp; done) | (simp [*]; done), by repeat (first | exact Drawn0.refl _ | apply Drawn0.step)⟩
    ·replace c13 := Bool.eq_false_iff.mpr c13
     subst c13
     have H1 : (some (decide (a0 ≥ 128))) = some r := by rw [if_neg (show ¬ (false = true) by decide)] at H; exact H
     clear H
     have H := H1
     clear H1
     obtain rfl := Option.some.inj H
     go_enter Tryd.func117, Tryd.ntmps117
     go_wp2_with (first | (go_at_call 125; (with_reducible refine (base_Digit.calls a0 false _ A12.out).mono ?_); rintro e w' ⟨rfl, ⟨nd, rfl⟩⟩))
     go_ret
     exact ⟨by first | rfl | (simp; done) | (simp [*]; done), by repeat (first | exact Drawn0.refl _ | apply Drawn0.step)⟩
  ·rw [if_neg c10] at H
   have c10b0 : decide (65 ≤ a0) = false := decide_eq_false c10
   clear c10
   replace H := Option.bind_eq_some_iff.mp H
   obtain ⟨t279, A140, H⟩ := H
   replace H : (if t279 = true then (some true) else (some (decide (a0 ≥ 128)))) = some r := H
   have A14 := Aside0.mk A140
   clear A140
   by_cases c15 : t279 = true
   ·subst c15
    have H1 : (some true) = some r := by rw [if_pos rfl] at H; exact H
    clear H
    have H := H1
    clear H1
    obtain rfl := Option.some.inj H
    go_enter Tryd.func117, Tryd.ntmps117
    go_wp2_with (first | (go_at_call 125; (with_reducible refine (base_Digit.calls a0 true _ A14.out).mono ?_); rintro e w' ⟨rfl, ⟨nd, rfl⟩⟩))
    go_ret
    exact ⟨by first | rfl | (simp; done) | (simp [*]; done), by repeat (first | exact Drawn0.refl _ | apply Drawn0.step)⟩
   ·replace c15 := Bool.eq_false_iff.mpr c15
    subst c15
    have H1 : (some (decide (a0 ≥ 128))) = some r := by rw [if_neg (show ¬ (false = true) by decide)] at H; exact H
    clear H
    have H := H1
    clear H1
    obtain rfl := Option.some.inj H
    go_enter Tryd.func117, Tryd.ntmps117
    go_wp2_with (first | (go_at_call 125; (with_reducible refine (base_Digit.calls a0 false _ A14.out).mono ?_); rintro e w' ⟨rfl, ⟨nd, rfl⟩⟩))
    go_ret
    exact ⟨by first | rfl | (simp; done) | (simp [*]; done), by repeat (first | exact Drawn0.refl _ | apply Drawn0.step)⟩
mutual
def near_Words.l0 : Nat → ByteArray → List ByteArray → Int → Int → Option (List ByteArray)
  | 0, _, _, _, _ => none
  | k + 1, x0, x3, x4, x5 => if x5 ≤ (x0.size : Int) then (if x5 < (x0.size : Int) then (if 0 ≤ x5 then ((near_letter.f (bt x0 x5)).bind fun t280 => (near_Words.j1 k x0 x3 x4 x5 t280)) else (none)) else (near_Words.j1 k x0 x3 x4 x5 false)) else (some x3)
def near_Words.j1 : Nat → ByteArray → List ByteArray → Int → Int → Bool → Option (List ByteArray)
  | 0, _, _, _, _, _ => none
  | k + 1, x0, x3, x4, x5, x6 => if x6 = true then (near_Words.j2 k x0 x3 x4 x5 x6 (decide (x4 < 0))) else (near_Words.j2 k x0 x3 x4 x5 x6 false)
def near_Words.j2 : Nat → ByteArray → List ByteArray → Int → Int → Bool → Bool → Option (List ByteArray)
  | 0, _, _, _, _, _, _ => none
  | k + 1, x0, x3, x4, x5, x6, x27 => if x27 = true then (if x6 = true then (near_Words.l0 k x0 x3 x5 (wrap64 (x5 + 1))) else (if x5 ≥ 0 then (if 0 ≤ x5 then (if x5 ≤ x5 then (if x5 ≤ (x0.size : Int) then ((base_Lower.f ByteArray.empty).bind fun t281 => (if x3.length < 8796093022208 then (near_Words.l0 k x0 (x3 ++ [t281]) (-1) (wrap64 (x5 + 1))) else (none))) else (none)) else (none)) else (none)) else (near_Words.l0 k x0 x3 x5 (wrap64 (x5 + 1))))) else (if x6 = true then (near_Words.l0 k x0 x3 x4 (wrap64 (x5 + 1))) else (if x4 ≥ 0 then (if 0 ≤ x4 then (if x4 ≤ x5 then (if x5 ≤ (x0.size : Int) then ((base_Lower.f (x0.extract (x4 : Int).toNat (x5 : Int).toNat)).bind fun t285 => (if x3.length < 8796093022208 then (near_Words.l0 k x0 (x3 ++ [t285]) (-1) (wrap64 (x5 + 1))) else (none))) else (none)) else (none)) else (none)) else (near_Words.l0 k x0 x3 x4 (wrap64 (x5 + 1)))))
end
def near_Words.f (k : Nat) (a0 : ByteArray) : Option (List ByteArray) := near_Words.l0 k a0 ([] : List ByteArray) (-1) 0
theorem near_Words.mono_l : ∀ k, (∀ y0 y1 y2 y3, LeO (near_Words.l0 k y0 y1 y2 y3) (near_Words.l0 (k + 1) y0 y1 y2 y3)) ∧ (∀ y0 y1 y2 y3 y4, LeO (near_Words.j1 k y0 y1 y2 y3 y4) (near_Words.j1 (k + 1) y0 y1 y2 y3 y4)) ∧ (∀ y0 y1 y2 y3 y4 y5, LeO (near_Words.j2 k y0 y1 y2 y3 y4 y5) (near_Words.j2 (k + 1) y0 y1 y2 y3 y4 y5))
  | 0 => ⟨fun _ _ _ _ r h => by simp [near_Words.l0] at h, fun _ _ _ _ _ r h => by simp [near_Words.j1] at h, fun _ _ _ _ _ _ r h => by simp [near_Words.j2] at h⟩
  | k + 1 => by
    obtain ⟨ih0, ih1, ih2⟩ := near_Words.mono_l k
    refine ⟨?_, ?_, ?_⟩
    · intro y0 y1 y2 y3
      unfold near_Words.l0
      repeat' first
      | (with_reducible exact ih0 _ _ _ _)
      | (with_reducible exact ih1 _ _ _ _ _)
      | (with_reducible exact ih2 _ _ _ _ _ _)
      | (with_reducible exact LeO.refl _)
      | (with_reducible exact LeO.none _)
      | (with_reducible refine LeO.ite ?_ ?_)
      | (with_reducible refine LeO.bind ?_ (fun _ => ?_))
      | exact ih0 _ _ _ _
      | exact ih1 _ _ _ _ _
      | exact ih2 _ _ _ _ _ _
      | exact LeO.none _
      | refine LeO.ite ?_ ?_
      | refine LeO.bind ?_ (fun _ => ?_)
    · intro y0 y1 y2 y3 y4
      unfold near_Words.j1
      repeat' first
      | (with_reducible exact ih0 _ _ _ _)
      | (with_reducible exact ih1 _ _ _ _ _)
      | (with_reducible exact ih2 _ _ _ _ _ _)
      | (with_reducible exact LeO.refl _)
      | (with_reducible exact LeO.none _)
      | (with_reducible refine LeO.ite ?_ ?_)
      | (with_reducible refine LeO.bind ?_ (fun _ => ?_))
      | exact ih0 _ _ _ _
      | exact ih1 _ _ _ _ _
      | exact ih2 _ _ _ _ _ _
      | exact LeO.none _
      | refine LeO.ite ?_ ?_
      | refine LeO.bind ?_ (fun _ => ?_)
    · intro y0 y1 y2 y3 y4 y5
      unfold near_Words.j2
      repeat' first
      | (with_reducible exact ih0 _ _ _ _)
      | (with_reducible exact ih1 _ _ _ _ _)
      | (with_reducible exact ih2 _ _ _ _ _ _)
      | (with_reducible exact LeO.refl _)
      | (with_reducible exact LeO.none _)
      | (with_reducible refine LeO.ite ?_ ?_)
      | (with_reducible refine LeO.bind ?_ (fun _ => ?_))
      | exact ih0 _ _ _ _
      | exact ih1 _ _ _ _ _
      | exact ih2 _ _ _ _ _ _
      | exact LeO.none _
      | refine LeO.ite ?_ ?_
      | refine LeO.bind ?_ (fun _ => ?_)
theorem near_Words.mono : ∀ a0 k, LeO (near_Words.f k a0) (near_Words.f (k + 1) a0) := by
  intro a0 k
  obtain ⟨ih0, ih1, ih2⟩ := near_Words.mono_l k
  unfold near_Words.f
  repeat' first
      | (with_reducible exact ih0 _ _ _ _)
      | (with_reducible exact ih1 _ _ _ _ _)
      | (with_reducible exact ih2 _ _ _ _ _ _)
      | (with_reducible exact LeO.refl _)
      | (with_reducible exact LeO.none _)
      | (with_reducible refine LeO.ite ?_ ?_)
      | (with_reducible refine LeO.bind ?_ (fun _ => ?_))
      | exact ih0 _ _ _ _
      | exact ih1 _ _ _ _ _
      | exact ih2 _ _ _ _ _ _
      | exact LeO.none _
      | refine LeO.ite ?_ ?_
      | refine LeO.bind ?_ (fun _ => ?_)
end Go.Proofs.YtomamgapdeggjaaDoor.Pl
