/- A part of the proof of wordsStay. No conditions. Laid by program over the kit's print and words. -/
import Derived.Test.YtenphgclongphaaGreatDoorZyPkx0
import Derived.Test.YtenphgclongphaaGreatDoorZyPkx1
import Derived.Test.YtenphgclongphaaGreatDoorZyPkx6
import Derived.Test.YtenphgclongphaaGreatDoorZyPkx7
namespace Go.Proofs.YtenphgclongphaaGreatDoor.Pk
open Go.RowKit Go.Proofs.YtenphgclongphaaGreatDoor.GBase Go.Proofs.YtenphgclongphaaGreatDoorW.PrintWords Go.Proofs.YtenphgclongphaaGreatDoorW.PrintLast Go.Proofs.YtenphgclongphaaGreatDoorW.PrintMore
attribute [local go_sem] str_leq max2_int min2_int max_two min_two max_three min_three max_four min_four
set_option linter.unusedVariables false
set_option linter.unusedSimpArgs false
set_option maxHeartbeats 8000000 in
set_option maxRecDepth 100000 in
theorem near_Turn.calls (k : Nat) (a0 : ByteArray) (A1 : Option Addr) (c1 : Nat) (l1 : List (S34)) (r1 : List (S34)) (r2 : Int) (w : World) (hr1 : Kd.C k34 w A1 l1.length l1) (hc1 : l1.length ≤ c1) (hGl : Wd w) (h : near_Turn.f k a0 l1 = some (r1, r2)) :
  Calls Tryz.prog 6 #[.string a0, .slice A1 l1.length c1] w fun e w' => ∃ v0_ : Value, e = .returned (.tuple #[v0_, .int .i64 r2]) ∧ Kd.S k34 34 w' w.heap.size (fun _ => True) v0_ r1 ∧ Below w.heap.size w w' := by
 have hu34 := Tryz.underlying34
 have HGl := am_ hGl; clear hGl; have HR1 := am_ hr1; have HC1 := am_ hc1; clear hr1 hc1
 have HB := am_ (Below.refl w.heap.size w)
 have H : ((near_patched.f k a0 l1).bind fun bt320 => (if bt320.2 = 0 then (near_Turn.l0 k ([] : List (S34)) 0 l1 (l1.length : Int) 0) else (some (([] : List (S34)), bt320.2)))) = some (r1, r2) := h
 clear h; replace H := Option.bind_eq_some_iff.mp H
 obtain ⟨⟨t320, t321⟩, A30, H⟩ := H
 replace H : (if t321 = 0 then (near_Turn.l0 k ([] : List (S34)) 0 l1 (l1.length : Int) 0) else (some (([] : List (S34)), t321))) = some (r1, r2) := H
 have A3 := am_ A30; clear A30
 by_cases c4 : t321 = 0
 ·rw [if_pos c4] at H
  have c4b0 : (t321 == 0) = true := beq_iff_eq.mpr c4
  have c4b1 : (t321 != 0) = false := bne_eq_false_iff_eq.mpr c4
  clear c4
  have H' := am_ H
  clear H
  go_enter Tryz.func6, Tryz.ntmps6
  go_wp2_with (first | ((with_reducible refine gate_callee (f := 21) rfl ?_); refine goesL_ (some 15) rfl rfl Tryz.func21 (by kernel_rfl) rfl #[.string a0, .slice A1 l1.length c1] rfl (by (try simp only [m1_, m2_, m3_]); first | done | rfl | (simp only [List.length_drop, List.length_take]; rfl)) ?_; (with_reducible refine (near_patched.calls k a0 _ _ l1 t320 t321 _ ?side1 ?side2 ?side3 A3.out).mono ?_); (case side1 => repeat (first | exact HR1.out | (with_reducible refine Kd.C_alloc ?_ _) | (with_reducible refine Kd.C_drewN ?_ _) | (with_reducible refine Kd.C_drew ?_))); (case side2 => exact HC1.out); (case side3 => exact Wd.below HGl.out (by repeat (first | (with_reducible first | exact HB.out | apply b3_ | apply b1_ | apply b2_) | exact HB.out))); rintro e w5 ⟨v322, rfl, ho0, hb⟩; refine ⟨_, rfl, ?_⟩; have n0_ := am_ (Kd.R_lower ho0 (below_size (by repeat (first | (with_reducible first | exact HB.out | apply b3_ | apply b1_ | apply b2_) | exact HB.out)))); have n1_ := am_ (below_step (by repeat (first | (with_reducible first | exact HB.out | apply b3_ | apply b1_ | apply b2_) | exact HB.out)) hb); clear HB; have HO323 := n0_; have HB := n1_; clear n0_ n1_; (try clear hb); (try clear hb2); (try clear hk); (try clear hi); (try clear ho0)))
  go_loopg [8, 9, 23] k (fun kq v8 v9 v23 w' => ∃ (x8_1 : List (S34)) (x9_1 : Int) (x23_1 : Int), v9 = .int .i64 x9_1 ∧ v23 = .int .i64 x23_1 ∧ Aside0 (near_Turn.l0 kq x8_1 x9_1 l1 (l1.length : Int) x23_1 = some (r1, r2)) ∧ Aside0 (kq ≤ k) ∧ Aside0 (Kd.S k34 34 w' w.heap.size (fun _ => True) v8 x8_1) ∧ Aside0 (Below w.heap.size w w'))
  case atStart => exact ⟨(([] : List (S34))), (0), (0), (by first | rfl | (simp; done) | (simp [*]; done)), (by first | rfl | (simp; done) | (simp [*]; done)), H', ⟨Nat.le_refl _⟩, ⟨by first | exact Kd.S_nil _ _ _ _ _ | exact Kd.N_nil _ _ _ _ _ | exact Kd.V_nil _ _ _ _ _ | exact Kd.Q_nil _ _ _ _ _ | exact Kd.R_nil _ _ _ _ _⟩, ⟨by repeat (first | (with_reducible first | exact HB.out | apply b3_ | apply b1_ | apply b2_) | exact HB.out)⟩⟩
  case round =>
   clear H'; (try clear c1); (try clear c2); (try clear p2); (try clear c4); (try clear c4b0); (try clear c4b1); obtain ⟨x8_1, x9_1, x23_1, rfl, rfl, HA, HK1, HO_8, HB⟩ := hrel
   cases gk with
   | zero => exact absurd HA.out (by simp [near_Turn.l0])
   | succ k1 =>
    have H := HA.out
    clear HA
    simp only [near_Turn.l0] at H
    by_cases c6 : x23_1 < (l1.length : Int)
    ·rw [if_pos c6] at H
     have c6b0 := decide_eq_true c6; clear c6
     by_cases c7 : 0 ≤ x23_1
     case neg => exact (nn_ c7 H).elim
     rw [if_pos c7] at H; have c7b0 := decide_eq_true c7; clear c7
     by_cases c8 : x23_1 < (l1.length : Int)
     case neg => exact (nn_ c8 H).elim
     rw [if_pos c8] at H; have c8b0 := decide_eq_true c8; clear c8; replace H := Option.bind_eq_some_iff.mp H; obtain ⟨t326, A90, H⟩ := H; have A9 := am_ A90; clear A90; replace H := Option.bind_eq_some_iff.mp H; obtain ⟨t329, A100, H⟩ := H; have A10 := am_ A100; clear A100
     by_cases c11 : x8_1.length < 2513169434916
     case neg => exact (nn_ c11 H).elim
     rw [if_pos c11] at H; have LMc11 := am_ c11; clear c11
     obtain ⟨y332, hy332⟩ : ∃ y_ : List (S34), y_ = (x8_1 ++ [(⟨wrap64 (((rd_T34 l1 x23_1).f0) + x9_1), t326, t329⟩ : S34)]) := ⟨_, rfl⟩
     replace H : (near_Turn.l0 k1 y332 (wrap64 (x9_1 + (wrap64 ((((rd_T34 l1 x23_1).f2).length : Int) - (((rd_T34 l1 x23_1).f1).length : Int))))) l1 (l1.length : Int) (wrap64 (x23_1 + 1))) = some (r1, r2) := by first | (rw [hy332]; with_reducible exact H) | (have H2_ := (Option.bind_some _ _).symm.trans H; rw [hy332]; with_reducible exact H2_) | (have H2_ := (Option.bind_some _ _).symm.trans H; with_reducible exact H2_) | with_reducible exact H | (rw [hy332]; exact H) | exact H
     have Ny332 := am_ hy332; clear hy332
     have H' := am_ H
     clear H; have p324 : 0 ≤ (x23_1 : Int) := ode_; have q324 : x23_1 < (l1.length : Int) := ode_
     obtain ⟨ad324, A324_1, c324_1, A324_2, c324_2, e324, hx324_0, hx324_1, hx324_2, hl324_1, hi324_1, hl324_2, hi324_2⟩ := at_T34 HR1.out x23_1 p324 q324
     cases e324
     first | replace hx324_0 := (HB.out.cell (World.block_lt_of_cell? w _ hx324_0)).trans hx324_0 | skip
     first | replace hx324_1 := (HB.out.cell (World.block_lt_of_cell? w _ hx324_1)).trans hx324_1 | skip
     first | replace hx324_2 := (HB.out.cell (World.block_lt_of_cell? w _ hx324_2)).trans hx324_2 | skip
     have HR324_1 := am_ hi324_1; have HC324_1 := am_ hl324_1; clear hi324_1 hl324_1; have HR324_2 := am_ hi324_2; have HC324_2 := am_ hl324_2; clear hi324_2 hl324_2; replace p324 := eq_true p324; replace q324 := eq_true q324
     try go_wp2_with (first | ((with_reducible refine gate_dst (N := 11) rfl ?_); refine box_event ?hg (N := 11) ?hd (cs := #[.int .i64 0, .slice none 0 0, .slice none 0 0]) (t := 34) ?hr ?_; (case hd => rfl); (case hg => rfl); (case hr => first | (go_simp; done) | (go_simp; rfl)); intro gb325 hg w12 hbox hb; have n0_ := am_ (Kd.S_below (Kd.S_elderB (by (with_reducible repeat (first | apply q1_ | apply q2_ | apply q3_)); exact HO_8.out) gb325 (Nat.le_of_eq hg.symm)) hb); have n1_ := am_ (below_step (by repeat (first | (with_reducible first | exact HB.out | apply b3_ | apply b1_ | apply b2_) | exact HB.out)) hb); have n2_ := am_ (hbox); have n3_ := am_ ((by rw [hg]; exact (below_size (by repeat (first | (with_reducible first | exact HB.out | apply b3_ | apply b1_ | apply b2_) | exact HB.out))) : w.heap.size ≤ gb325)); have n4_ := am_ ((by rw [hg]; exact (below_size (by repeat (first | (with_reducible first | exact HB.out | apply b3_ | apply b1_ | apply b2_) | exact HB.out))) : w.heap.size ≤ gb325)); clear HO_8; clear HB; have HO_8 := n0_; have HB := n1_; have BK325 := n2_; have GW325 := n3_; have GE325 := n4_; clear n0_ n1_ n2_ n3_ n4_; clear hb hbox hg; have hcz13_0 : w12.cell? ⟨gb325, 0, none⟩ = some (.int .i64 0) := (blk_cell BK325.out 0).trans rfl; have hcz13_1 : w12.cell? ⟨gb325, 1, none⟩ = some (.slice none 0 0) := (blk_cell BK325.out 1).trans rfl; have hcz13_2 : w12.cell? ⟨gb325, 2, none⟩ = some (.slice none 0 0) := (blk_cell BK325.out 2).trans rfl; have hfz13_0 := blk_frozen BK325.out 0; have hfz13_1 := blk_frozen BK325.out 1; have hfz13_2 := blk_frozen BK325.out 2))
     have n0_ : Aside0 (Kd.S k34 34 (((w12.setCell ⟨gb325, 0, none⟩ (.int .i64 ((rd_T34 l1 x23_1).f0))).setCell ⟨gb325, 1, none⟩ (.slice A324_1 ((rd_T34 l1 x23_1).f1).length c324_1)).setCell ⟨gb325, 2, none⟩ (.slice A324_2 ((rd_T34 l1 x23_1).f2).length c324_2)) w.heap.size (fun k_ => k_ ≠ gb325) u8 x8_1) := ⟨by (with_reducible repeat (first | apply q1_ | apply q2_ | apply q3_)); exact Kd.S_mono (Kd.S_far (p := ⟨gb325, 2, none⟩) (Kd.S_far (p := ⟨gb325, 1, none⟩) (Kd.S_far (p := ⟨gb325, 0, none⟩) (Kd.S_mono HO_8.out (fun k_ hk => (⟨hk, hk.2⟩ : _ ∧ k_ ≠ gb325))) (fun _ hk => hk.2) (.int .i64 ((rd_T34 l1 x23_1).f0))) (fun _ hk => hk.2) (.slice A324_1 ((rd_T34 l1 x23_1).f1).length c324_1)) (fun _ hk => hk.2) (.slice A324_2 ((rd_T34 l1 x23_1).f2).length c324_2)) (fun _ hk => hk.1.2)⟩
     have n1_ : Aside0 ((((w12.setCell ⟨gb325, 0, none⟩ (.int .i64 ((rd_T34 l1 x23_1).f0))).setCell ⟨gb325, 1, none⟩ (.slice A324_1 ((rd_T34 l1 x23_1).f1).length c324_1)).setCell ⟨gb325, 2, none⟩ (.slice A324_2 ((rd_T34 l1 x23_1).f2).length c324_2)).heap[gb325]? = some (.cells #[.int .i64 ((rd_T34 l1 x23_1).f0), .slice A324_1 ((rd_T34 l1 x23_1).f1).length c324_1, .slice A324_2 ((rd_T34 l1 x23_1).f2).length c324_2] 34 (0, 0))) := ⟨by (with_reducible repeat (first | refine blk_drewN ?_ _ | refine blk_drew ?_ | refine blk_alloc ?_ _)); refine blk_put (cs := #[.int .i64 ((rd_T34 l1 x23_1).f0), .slice A324_1 ((rd_T34 l1 x23_1).f1).length c324_1, .slice none 0 0]) ?_ 2 _ rfl; (with_reducible repeat (first | refine blk_drewN ?_ _ | refine blk_drew ?_ | refine blk_alloc ?_ _)); refine blk_put (cs := #[.int .i64 ((rd_T34 l1 x23_1).f0), .slice none 0 0, .slice none 0 0]) ?_ 1 _ rfl; (with_reducible repeat (first | refine blk_drewN ?_ _ | refine blk_drew ?_ | refine blk_alloc ?_ _)); refine blk_put (cs := #[.int .i64 0, .slice none 0 0, .slice none 0 0]) ?_ 0 _ rfl; (with_reducible repeat (first | refine blk_drewN ?_ _ | refine blk_drew ?_ | refine blk_alloc ?_ _)); exact BK325.out⟩
     have n2_ : Aside0 (Below w.heap.size w (((w12.setCell ⟨gb325, 0, none⟩ (.int .i64 ((rd_T34 l1 x23_1).f0))).setCell ⟨gb325, 1, none⟩ (.slice A324_1 ((rd_T34 l1 x23_1).f1).length c324_1)).setCell ⟨gb325, 2, none⟩ (.slice A324_2 ((rd_T34 l1 x23_1).f2).length c324_2))) := ⟨by repeat (first | (with_reducible first | exact HB.out | apply b3_ | apply b1_ | apply b2_ | refine below_set ?_ GE325.out) | exact HB.out)⟩
     (try clear HO_8)
     (try clear BK325)
     (try clear HB)
     generalize (((w12.setCell ⟨gb325, 0, none⟩ (.int .i64 ((rd_T34 l1 x23_1).f0))).setCell ⟨gb325, 1, none⟩ (.slice A324_1 ((rd_T34 l1 x23_1).f1).length c324_1)).setCell ⟨gb325, 2, none⟩ (.slice A324_2 ((rd_T34 l1 x23_1).f2).length c324_2)) = w14 at n0_ n1_ n2_ ⊢
     have HO_8 := n0_; have BK325 := n1_; have HB := n2_; clear n0_ n1_ n2_
     have n0_ := am_ (q3_ HO_8.out)
     have n1_ := am_ (blk_drew BK325.out)
     have n2_ := am_ (b2_ HB.out)
     clear HO_8; clear BK325; clear HB; have HO_8 := n0_; have BK325 := n1_; have HB := n2_; clear n0_ n1_ n2_
     refine start_ (n := 15) (S := fun w' => w'.cell? ⟨gb325, 0, none⟩ = some (.int .i64 ((rd_T34 l1 x23_1).f0)) ∧ w'.cell? ⟨gb325, 1, none⟩ = some (.slice A324_1 ((rd_T34 l1 x23_1).f1).length c324_1) ∧ w'.cell? ⟨gb325, 2, none⟩ = some (.slice A324_2 ((rd_T34 l1 x23_1).f2).length c324_2)) (ds := []) near_Turn.D0 (by kernel_rfl) rfl rfl ⟨(blk_cell BK325.out 0).trans rfl, (blk_cell BK325.out 1).trans rfl, (blk_cell BK325.out 2).trans rfl⟩ (fun hHeld => ?_); refine with_tabW near_Turn.tab9 near_Turn.bits9 (fun HT_ HW_ => ?_)
     generalize w14.drew = w15 at HO_8 BK325 HB hHeld ⊢
     refine px_ 0 27 ?_ ?_ near_Turn.D1 HT_.out ?_ ?_ ?_; rotate_left 2; intro w'; go_simp; with_reducible rfl; simp only [Act.put, s_t, s_z, s_s, i64_w, i32_w]; rfl
     refine px_ 1 28 ?_ ?_ near_Turn.D2 HT_.out ?_ ?_ ?_; rotate_left 2; intro w'; go_simp; with_reducible rfl; simp only [Act.put, s_t, s_z, s_s, i64_w, i32_w]; rfl
     refine px_ 3 30 ?_ ?_ near_Turn.D3 HT_.out ?_ ?_ ?_; rotate_left 2; intro w'; go_simp; with_reducible rfl; simp only [Act.put, s_t, s_z, s_s, i64_w, i32_w]; rfl
     refine px_ 5 32 ?_ ?_ near_Turn.D4 HT_.out ?_ ?_ ?_; rotate_left 2; intro w'; go_simp; with_reducible rfl; simp only [Act.put, s_t, s_z, s_s, i64_w, i32_w]; rfl
     refine px_ 8 35 ?_ ?_ near_Turn.D5 HT_.out ?_ ?_ ?_; rotate_left 2; intro w'; go_simp; with_reducible rfl; simp only [Act.put, s_t, s_z, s_s, i64_w, i32_w]; rfl
     refine take_ (i := 2) (N := some 29) (v := ?_) (a' := ?_) near_Turn.D6 rfl rfl (take_ofW HT_.out HW_.out (by kernel_rfl)) (fun _ _ _ h => h) (Or.inl ⟨by rfl, ?_⟩) hHeld ?_ ?_
     rotate_left
     ·rintro w' ⟨s0, s1, s2⟩
      go_simp
      with_reducible rfl
     rotate_left
     ·simp only [Act.put, s_t, s_z, s_s, i64_w, i32_w]
      rfl
     refine px_ 4 31 ?_ ?_ near_Turn.D7 HT_.out ?_ ?_ ?_; rotate_left 2; intro w'; go_simp; with_reducible rfl; simp only [Act.put, s_t, s_z, s_s, i64_w, i32_w]; rfl
     refine take_ (i := 6) (N := some 33) (v := ?_) (a' := ?_) near_Turn.D8 rfl rfl (take_ofW HT_.out HW_.out (by kernel_rfl)) (fun _ _ _ h => h) (Or.inl ⟨by rfl, ?_⟩) hHeld ?_ ?_
     rotate_left
     ·rintro w' ⟨s0, s1, s2⟩
      go_simp
      with_reducible rfl
     rotate_left
     ·simp only [Act.put, s_t, s_z, s_s, i64_w, i32_w]
      rfl
     refine take_ (i := 9) (N := some 36) (v := ?_) (a' := ?_) near_Turn.D9 rfl rfl (take_ofW HT_.out HW_.out (by kernel_rfl)) (fun _ _ _ h => h) (Or.inl ⟨by rfl, ?_⟩) hHeld ?_ ?_
     rotate_left
     ·rintro w' ⟨s0, s1, s2⟩
      go_simp
      with_reducible rfl
     rotate_left
     ·simp only [Act.put, s_t, s_z, s_s, i64_w, i32_w]
      rfl
     refine one_ (i := 7) (N := some 34) near_Turn.D10 rfl rfl (one_of HT_.out (by kernel_rfl)) (by decide) (fun K hK => ?_)
     refine goes_ Tryz.func19 (by kernel_rfl) rfl #[.slice A324_2 ((rd_T34 l1 x23_1).f2).length c324_2] (by rfl) rfl rfl (by (try simp only [m1_, m2_, m3_]); first | done | rfl | (simp only [List.length_drop, List.length_take]; rfl)) ?_
     with_reducible refine (slices_Clone_string_string.calls _ _ ((rd_T34 l1 x23_1).f2) t326 _ ?side1 ?side2 A9.out).mono ?_
     (case side1 => repeat (first | exact (Kd.C_below HR324_2.out HB.out) | (with_reducible refine Kd.C_alloc ?_ _) | (with_reducible refine Kd.C_drewN ?_ _) | (with_reducible refine Kd.C_drew ?_)))
     (case side2 => exact HC324_2.out)
     rintro e w16 ⟨v327, rfl, ho0, hb⟩
     refine ⟨_, rfl, ?_⟩
     have n0_ := am_ (Kd.S_elder' (by (with_reducible repeat (first | apply q1_ | apply q2_ | apply q3_)); exact HO_8.out) (Kd.R_base ho0) hb)
     have n1_ := am_ (Kd.R_lower ho0 (below_size (by repeat (first | (with_reducible first | exact HB.out | apply b3_ | apply b1_ | apply b2_ | refine below_set ?_ GE325.out) | exact HB.out))))
     have n2_ := am_ (blk_below (g := gb325) (o := .cells #[.int .i64 ((rd_T34 l1 x23_1).f0), .slice A324_1 ((rd_T34 l1 x23_1).f1).length c324_1, .slice A324_2 ((rd_T34 l1 x23_1).f2).length c324_2] 34 (0, 0)) (by (with_reducible repeat (first | refine blk_drewN ?_ _ | refine blk_drew ?_ | refine blk_alloc ?_ _)); exact BK325.out) hb)
     have n3_ := am_ (below_step (by repeat (first | (with_reducible first | exact HB.out | apply b3_ | apply b1_ | apply b2_ | refine below_set ?_ GE325.out) | exact HB.out)) hb)
     clear HO_8; clear BK325; clear HB; have HO_8 := n0_; have HO328 := n1_; have BK325 := n2_; have HB := n3_; clear n0_ n1_ n2_ n3_
     (try clear hb)
     (try clear hb2)
     (try clear hk)
     (try clear hi)
     (try clear ho0)
     refine hK.out _ _ ⟨(blk_cell BK325.out 0).trans rfl, (blk_cell BK325.out 1).trans rfl, (blk_cell BK325.out 2).trans rfl⟩ (fun hHeld => ?_)
     clear hK K
     refine norm_ (a' := ?_) ?_ ?_
     rotate_left
     ·show Act.put _ (some 34) _ = _
      simp only [Act.put, s_t, s_z, s_s, i64_w, i32_w]
      rfl
     refine one_ (i := 10) (N := some 37) near_Turn.D11 rfl rfl (one_of HT_.out (by kernel_rfl)) (by decide) (fun K hK => ?_)
     refine goes_ Tryz.func19 (by kernel_rfl) rfl #[.slice A324_1 ((rd_T34 l1 x23_1).f1).length c324_1] (by rfl) rfl rfl (by (try simp only [m1_, m2_, m3_]); first | done | rfl | (simp only [List.length_drop, List.length_take]; rfl)) ?_
     with_reducible refine (slices_Clone_string_string.calls _ _ ((rd_T34 l1 x23_1).f1) t329 _ ?side1 ?side2 A10.out).mono ?_
     (case side1 => repeat (first | exact (Kd.C_below HR324_1.out HB.out) | (with_reducible refine Kd.C_alloc ?_ _) | (with_reducible refine Kd.C_drewN ?_ _) | (with_reducible refine Kd.C_drew ?_)))
     (case side2 => exact HC324_1.out)
     rintro e w17 ⟨v330, rfl, ho0, hb⟩
     refine ⟨_, rfl, ?_⟩
     have n0_ := am_ (Kd.S_elder' (by (with_reducible repeat (first | apply q1_ | apply q2_ | apply q3_)); exact HO_8.out) (Kd.R_base ho0) hb)
     have n1_ := am_ (Kd.R_elder' (by (with_reducible repeat (first | apply r1_ | apply r2_ | apply r3_)); exact HO328.out) (Kd.R_base ho0) hb)
     have n2_ := am_ (Kd.R_lower (Kd.R_new' ho0 (Kd.R_lt (by (with_reducible repeat (first | apply r1_ | apply r2_ | apply r3_)); exact HO328.out))) (below_size (by repeat (first | (with_reducible first | exact HB.out | apply b3_ | apply b1_ | apply b2_ | refine below_set ?_ GE325.out) | exact HB.out))))
     have n3_ := am_ (blk_below (g := gb325) (o := .cells #[.int .i64 ((rd_T34 l1 x23_1).f0), .slice A324_1 ((rd_T34 l1 x23_1).f1).length c324_1, .slice A324_2 ((rd_T34 l1 x23_1).f2).length c324_2] 34 (0, 0)) (by (with_reducible repeat (first | refine blk_drewN ?_ _ | refine blk_drew ?_ | refine blk_alloc ?_ _)); exact BK325.out) hb)
     have n4_ := am_ (below_step (by repeat (first | (with_reducible first | exact HB.out | apply b3_ | apply b1_ | apply b2_ | refine below_set ?_ GE325.out) | exact HB.out)) hb)
     clear HO_8; clear HO328; clear BK325; clear HB; have HO_8 := n0_; have HO328 := n1_; have HO331 := n2_; have BK325 := n3_; have HB := n4_; clear n0_ n1_ n2_ n3_ n4_
     (try clear hb)
     (try clear hb2)
     (try clear hk)
     (try clear hi)
     (try clear ho0)
     obtain ⟨Ao18, co18, eo18⟩ := Kd.R_slice HO331.out
     (first | subst eo18 | (injection eo18 with f1_ f2_ f3_; have f4_ := f1_.symm; have f5_ := f3_.symm; clear f1_ f2_ f3_; subst f4_; subst f5_))
     obtain ⟨Ao19, co19, eo19⟩ := Kd.R_slice HO328.out
     (first | subst eo19 | (injection eo19 with f1_ f2_ f3_; have f4_ := f1_.symm; have f5_ := f3_.symm; clear f1_ f2_ f3_; subst f4_; subst f5_))
     refine hK.out _ _ ⟨(blk_cell BK325.out 0).trans rfl, (blk_cell BK325.out 1).trans rfl, (blk_cell BK325.out 2).trans rfl⟩ (fun hHeld => ?_)
     clear hK K
     refine norm_ (a' := ?_) ?_ ?_
     rotate_left
     ·show Act.put _ (some 37) _ = _
      simp only [Act.put, s_t, s_z, s_s, i64_w, i32_w]
      rfl
     refine px_ 11 38 ?_ ?_ near_Turn.D12 HT_.out ?_ ?_ ?_; rotate_left 2; intro w'; go_simp; with_reducible rfl; simp only [Act.put, s_t, s_z, s_s, i64_w, i32_w]; rfl
     refine one_ (i := 12) (N := some 39) near_Turn.D13 rfl rfl (one_of HT_.out (by kernel_rfl)) (by decide) (fun K hK => ?_)
     refine value_ (w1 := ?_) (v := ?_) (by rfl) rfl ?_ ?_
     rotate_left 2
     ·go_simp
      constructor
      ·rfl
      ·rfl
     refine hK.out _ _ ⟨(blk_cell (blk_alloc BK325.out _) 0).trans rfl, (blk_cell (blk_alloc BK325.out _) 1).trans rfl, (blk_cell (blk_alloc BK325.out _) 2).trans rfl⟩ (fun hHeld => ?_)
     clear hK K
     refine norm_ (a' := ?_) ?_ ?_
     rotate_left
     ·show Act.put _ (some 39) _ = _
      simp only [Act.put, s_t, s_z, s_s, i64_w, i32_w]
      rfl
     refine one_ (i := 13) (N := some 40) near_Turn.D14 rfl rfl (one_of HT_.out (by kernel_rfl)) (by decide) (fun K hK => ?_)
     refine Kd.S_append_step k34 (w0 := w) w.heap.size (by rfl) (.tmp 27) (.tmp 39) 27 34 (.agg #[(.int .i64 0), (.slice none 0 0), (.slice none 0 0)]) 56 rfl Tryz.underlying27 info34 rfl (by decide) (by omega) u8 x8_1 (⟨wrap64 (((rd_T34 l1 x23_1).f0) + x9_1), t326, t329⟩ : S34) [.int .i64 (wrap64 (((rd_T34 l1 x23_1).f0) + x9_1)), .slice Ao19 t326.length co19, .slice Ao18 t329.length co18] (fun k_ => k_ ≠ gb325) (fun k_ => some k_ = (.slice Ao19 t326.length co19 : Value).ownBlock ∨ some k_ = (.slice Ao18 t329.length co18 : Value).ownBlock) rfl rfl ?aP (fun k_ hk_ => hk_.elim (fun h_ => ((Kd.R_mono (ok' := fun k_ => ((fun k_ => k_ ≠ gb325)) k_ ∧ some k_ ≠ (u8 : Value).ownBlock) (Kd.R_types (Kd.R_apart' (HO328.out) (Kd.S_typed HO_8.out) (by decide)) BK325.out (by decide)) (fun k_ hk => ⟨hk.2, hk.1.2⟩))).1 k_ h_.symm) (fun h_ => ((Kd.R_mono (ok' := fun k_ => ((fun k_ => k_ ≠ gb325)) k_ ∧ some k_ ≠ (u8 : Value).ownBlock) (Kd.R_types (Kd.R_apart' (HO331.out) (Kd.S_typed HO_8.out) (by decide)) BK325.out (by decide)) (fun k_ hk => ⟨hk.2, hk.1.2⟩))).1 k_ h_.symm)) ?aF ?aO ?aB ?aS ?aL ?_
     (case aP => exact k34_mkM _ _ _ (⟨wrap64 (((rd_T34 l1 x23_1).f0) + x9_1), t326, t329⟩ : S34) (Kd.R_mono (Kd.R_tight rfl (Kd.R_mono (ok' := fun k_ => ((fun k_ => k_ ≠ gb325)) k_ ∧ some k_ ≠ (u8 : Value).ownBlock) (Kd.R_types (Kd.R_apart' (HO328.out) (Kd.S_typed HO_8.out) (by decide)) BK325.out (by decide)) (fun k_ hk => ⟨hk.2, hk.1.2⟩))) (fun _ h_ => Or.inl h_)) (Kd.R_mono (Kd.R_tight rfl (Kd.R_mono (ok' := fun k_ => ((fun k_ => k_ ≠ gb325)) k_ ∧ some k_ ≠ (u8 : Value).ownBlock) (Kd.R_types (Kd.R_apart' (HO331.out) (Kd.S_typed HO_8.out) (by decide)) BK325.out (by decide)) (fun k_ hk => ⟨hk.2, hk.1.2⟩))) (fun _ h_ => Or.inr (h_))))
     (case aB => exact (by repeat (first | (with_reducible first | exact HB.out | apply b3_ | apply b1_ | apply b2_ | refine below_set ?_ GE325.out) | exact HB.out)))
     (case aF => exact (fun k_ hk => Kd.freshB (g := gb325) (o := .cells #[.int .i64 ((rd_T34 l1 x23_1).f0), .slice A324_1 ((rd_T34 l1 x23_1).f1).length c324_1, .slice A324_2 ((rd_T34 l1 x23_1).f2).length c324_2] 34 (0, 0)) (by (with_reducible repeat (first | refine blk_drewN ?_ _ | refine blk_drew ?_ | refine blk_alloc ?_ _)); exact BK325.out) k_ hk))
     (case aO => exact (by (with_reducible repeat (first | apply q1_ | apply q2_ | apply q3_)); exact Kd.S_mono HO_8.out (fun k_ hk => ⟨hk.1.1, fun e_ => e_.elim (fun h_ => hk.1.2 h_) (fun h_ => hk.2 h_)⟩)))
     (case aS => exact (below_size (by repeat (first | (with_reducible first | exact HB.out | apply b3_ | apply b1_ | apply b2_ | refine below_set ?_ GE325.out) | exact HB.out))))
     (case aL => have := LMc11.out; omega)
     intro v333 w20 ho hb hg hat
     rw [← Ny332.out] at ho
     have n0_ := am_ (blk_grown (g := gb325) (o := .cells #[.int .i64 ((rd_T34 l1 x23_1).f0), .slice A324_1 ((rd_T34 l1 x23_1).f1).length c324_1, .slice A324_2 ((rd_T34 l1 x23_1).f2).length c324_2] 34 (0, 0)) (by (with_reducible repeat (first | refine blk_drewN ?_ _ | refine blk_drew ?_ | refine blk_alloc ?_ _)); exact BK325.out) hg (Kd.S_away HO_8.out (fun _ hk => hk.1.1)))
     have n1_ := am_ (hb)
     have n2_ := am_ (ho)
     clear BK325; clear HB; clear HO_8; clear HO328; clear HO331; have BK325 := n0_; have HB := n1_; have HO334 := n2_; clear n0_ n1_ n2_; clear ho hb hg hat
     refine hK.out _ _ ⟨(blk_cell BK325.out 0).trans rfl, (blk_cell BK325.out 1).trans rfl, (blk_cell BK325.out 2).trans rfl⟩ (fun hHeld => ?_)
     clear hK K
     refine norm_ (a' := ?_) ?_ ?_
     rotate_left
     ·show Act.put _ (some 40) _ = _
      simp only [Act.put, s_t, s_z, s_s, i64_w, i32_w]
      rfl
     refine px_ 14 8 ?_ ?_ near_Turn.D15 HT_.out ?_ ?_ ?_; rotate_left 2; intro w'; go_simp; with_reducible rfl; simp only [Act.put, s_t, s_z, s_s, i64_w, i32_w]; rfl
     refine done_ (done_of HT_.out (by kernel_rfl)) ?_
     have hcz21_0 : w20.cell? ⟨gb325, 0, none⟩ = some (.int .i64 ((rd_T34 l1 x23_1).f0)) := (blk_cell BK325.out 0).trans rfl
     have hcz21_1 : w20.cell? ⟨gb325, 1, none⟩ = some (.slice A324_1 ((rd_T34 l1 x23_1).f1).length c324_1) := (blk_cell BK325.out 1).trans rfl
     have hcz21_2 : w20.cell? ⟨gb325, 2, none⟩ = some (.slice A324_2 ((rd_T34 l1 x23_1).f2).length c324_2) := (blk_cell BK325.out 2).trans rfl
     have hfz21_0 := blk_frozen BK325.out 0
     have hfz21_1 := blk_frozen BK325.out 1
     have hfz21_2 := blk_frozen BK325.out 2
     try go_wp2
     go_roundg k1
     case measure => have := HK1.out; omega
     case rel => exact ⟨(y332), (wrap64 (x9_1 + (wrap64 ((((rd_T34 l1 x23_1).f2).length : Int) - (((rd_T34 l1 x23_1).f1).length : Int))))), (wrap64 (x23_1 + 1)), (by first | rfl | (simp; done) | (simp [*]; done)), (by first | rfl | (simp; done) | (simp [*]; done)), H', ⟨by have := HK1.out; omega⟩, ⟨by (with_reducible repeat (first | apply q1_ | apply q2_ | apply q3_)); exact Kd.S_mono HO334.out (fun _ hk => trivial)⟩, ⟨by repeat (first | (with_reducible first | exact HB.out | apply b3_ | apply b1_ | apply b2_ | refine below_set ?_ GE325.out) | exact HB.out)⟩⟩
    ·rw [if_neg c6] at H
     have c6b0 : decide (x23_1 < (l1.length : Int)) = false := decide_eq_false c6
     clear c6
     simp only [Option.some.injEq, Prod.mk.injEq] at H
     obtain ⟨rfl, rfl⟩ := H
     go_wp2
     go_ret2
     exact ⟨_, by first | rfl | (simp [errW_none, errW_some] <;> rfl) | (simp [*, errW_none, errW_some] <;> rfl), by (with_reducible repeat (first | apply q1_ | apply q2_ | apply q3_)); exact HO_8.out, by repeat (first | (with_reducible first | exact HB.out | apply b3_ | apply b1_ | apply b2_) | exact HB.out)⟩
 ·rw [if_neg c4] at H
  have c4b0 : (t321 == 0) = false := beq_eq_false_iff_ne.mpr c4
  have c4b1 : (t321 != 0) = true := bne_iff_ne.mpr c4
  simp only [Option.some.injEq, Prod.mk.injEq] at H
  obtain ⟨rfl, rfl⟩ := H
  go_enter Tryz.func6, Tryz.ntmps6
  go_wp2_with (first | ((with_reducible refine gate_callee (f := 21) rfl ?_); refine goesL_ (some 15) rfl rfl Tryz.func21 (by kernel_rfl) rfl #[.string a0, .slice A1 l1.length c1] rfl (by (try simp only [m1_, m2_, m3_]); first | done | rfl | (simp only [List.length_drop, List.length_take]; rfl)) ?_; (with_reducible refine (near_patched.calls k a0 _ _ l1 t320 t321 _ ?side1 ?side2 ?side3 A3.out).mono ?_); (case side1 => repeat (first | exact HR1.out | (with_reducible refine Kd.C_alloc ?_ _) | (with_reducible refine Kd.C_drewN ?_ _) | (with_reducible refine Kd.C_drew ?_))); (case side2 => exact HC1.out); (case side3 => exact Wd.below HGl.out (by repeat (first | (with_reducible first | exact HB.out | apply b3_ | apply b1_ | apply b2_) | exact HB.out))); rintro e w22 ⟨v322, rfl, ho0, hb⟩; refine ⟨_, rfl, ?_⟩; have n0_ := am_ (Kd.R_lower ho0 (below_size (by repeat (first | (with_reducible first | exact HB.out | apply b3_ | apply b1_ | apply b2_) | exact HB.out)))); have n1_ := am_ (below_step (by repeat (first | (with_reducible first | exact HB.out | apply b3_ | apply b1_ | apply b2_) | exact HB.out)) hb); clear HB; have HO323 := n0_; have HB := n1_; clear n0_ n1_; (try clear hb); (try clear hb2); (try clear hk); (try clear hi); (try clear ho0)))
  go_ret2
  exact ⟨_, by first | rfl | (simp [errW_none, errW_some] <;> rfl) | (simp [*, errW_none, errW_some] <;> rfl), by first | exact Kd.S_nil _ _ _ _ _ | exact Kd.N_nil _ _ _ _ _ | exact Kd.V_nil _ _ _ _ _ | exact Kd.Q_nil _ _ _ _ _ | exact Kd.R_nil _ _ _ _ _, by repeat (first | (with_reducible first | exact HB.out | apply b3_ | apply b1_ | apply b2_) | exact HB.out)⟩
def near_kError.f (a0 : Int) : Option (Int) := (base_In.f a0 1 10).bind fun t335 => ((base_When.f (!t335) 1).bind fun t336 => (some t336))
set_option maxHeartbeats 8000000 in
set_option maxRecDepth 100000 in
theorem near_kError.calls (a0 : Int) (r : Int) (w : World) (h : near_kError.f a0 = some r) :
    Calls Tryz.prog 22 #[.int .i64 a0] w fun e w' => e = .returned (.int .i64 r) ∧ Drawn0 w w' := by
  have H : ((base_In.f a0 1 10).bind fun t335 => ((base_When.f (!t335) 1).bind fun t336 => (some t336))) = some r := h
  clear h; replace H := Option.bind_eq_some_iff.mp H; obtain ⟨t335, A20, H⟩ := H; have A2 := am_ A20; clear A20; replace H := Option.bind_eq_some_iff.mp H; obtain ⟨t336, A30, H⟩ := H
  replace H : (some t336) = some r := H
  have A3 := am_ A30; clear A30
  obtain rfl := Option.some.inj H
  go_enter Tryz.func22, Tryz.ntmps22
  go_wp2_with (first | ((with_reducible refine gate_callee (f := 44) rfl ?_); refine goesL_ (some 4) rfl rfl Tryz.func44 (by kernel_rfl) rfl #[.int .i64 a0, .int .i64 1, .int .i64 10] rfl (by (try simp only [m1_, m2_, m3_]); first | done | rfl | (simp only [List.length_drop, List.length_take]; rfl)) ?_; (with_reducible refine (base_In.calls a0 1 10 t335 _ A2.out).mono ?_); rintro e w' ⟨rfl, ⟨nd, rfl⟩⟩; refine ⟨_, rfl, ?_⟩) | ((with_reducible refine gate_callee (f := 24) rfl ?_); refine goesL_ (some 6) rfl rfl Tryz.func24 (by kernel_rfl) rfl #[.bool (!t335), .int .i64 1] rfl (by (try simp only [m1_, m2_, m3_]); first | done | rfl | (simp only [List.length_drop, List.length_take]; rfl)) ?_; (with_reducible refine (base_When.calls (!t335) 1 t336 _ A3.out).mono ?_); rintro e w' ⟨rfl, ⟨nd, rfl⟩⟩; refine ⟨_, rfl, ?_⟩))
  go_ret
  exact ⟨by first | rfl | (simp; done) | (simp [*]; done), by repeat (first | exact Drawn0.refl _ | apply Drawn0.step)⟩
def base_First.l0 : Nat → List Int → Int → Int → Option (Int)
  | 0, _, _, _ => none
  | k + 1, x5, x6, x7 => if x7 < x6 then (if 0 ≤ x7 then (if x7 < (x5.length : Int) then (if (rd x5 x7) = 0 then (base_First.l0 k x5 x6 (wrap64 (x7 + 1))) else (some (rd x5 x7))) else (none)) else (none)) else (some 0)
def base_First.f (k : Nat) (l0 : List Int) : Option (Int) := base_First.l0 k l0 (l0.length : Int) 0
theorem base_First.mono_l : ∀ k, (∀ y0 y1 y2, LeO (base_First.l0 k y0 y1 y2) (base_First.l0 (k + 1) y0 y1 y2))
  | 0 => fun _ _ _ r h => by simp [base_First.l0] at h
  | k + 1 => by
    have ih0 := base_First.mono_l k
    · intro y0 y1 y2
      unfold base_First.l0
      repeat' first
      | (with_reducible exact ih0 _ _ _)
      | (with_reducible exact LeO.refl _)
      | (with_reducible exact LeO.none _)
      | (with_reducible refine LeO.ite ?_ ?_)
      | (with_reducible refine LeO.bind ?_ (fun _ => ?_))
      | exact ih0 _ _ _
      | exact LeO.none _
      | refine LeO.ite ?_ ?_
      | refine LeO.bind ?_ (fun _ => ?_)
theorem base_First.mono : ∀ a0 k, LeO (base_First.f k a0) (base_First.f (k + 1) a0) := by
  intro a0 k
  have ih0 := base_First.mono_l k
  unfold base_First.f
  repeat' first
      | (with_reducible exact ih0 _ _ _)
      | (with_reducible exact LeO.refl _)
      | (with_reducible exact LeO.none _)
      | (with_reducible refine LeO.ite ?_ ?_)
      | (with_reducible refine LeO.bind ?_ (fun _ => ?_))
      | exact ih0 _ _ _
      | exact LeO.none _
      | refine LeO.ite ?_ ?_
      | refine LeO.bind ?_ (fun _ => ?_)
set_option maxHeartbeats 8000000 in
set_option maxRecDepth 100000 in
theorem base_First.calls (k : Nat) (A0 : Option Addr) (c0 : Nat) (l0 : List Int) (r : Int) (w : World) (hr0 : Kd.C (Kd.int .i64) w A0 l0.length l0) (hc0 : l0.length ≤ c0) (h : base_First.f k l0 = some r) :
  Calls Tryz.prog 23 #[.slice A0 l0.length c0] w fun e w' => e = .returned (.int .i64 r) ∧ Drawn0 w w' := by
 have HR0 := am_ hr0; have HC0 := am_ hc0; clear hr0 hc0
 have H : (base_First.l0 k l0 (l0.length : Int) 0) = some r := h
 clear h
 have H' := am_ H
 clear H
 go_enter Tryz.func23, Tryz.ntmps23
 go_wp2
 go_loopg [7] k (fun kq v7 w' => ∃ (x7_1 : Int), v7 = .int .i64 x7_1 ∧ Aside0 (base_First.l0 kq l0 (l0.length : Int) x7_1 = some r) ∧ Aside0 (kq ≤ k) ∧ Drawn0 w w')
 case atStart => exact ⟨(0), (by first | rfl | (simp; done) | (simp [*]; done)), H', ⟨Nat.le_refl _⟩, by repeat (first | exact Drawn0.refl _ | apply Drawn0.step)⟩
 case round =>
  clear H'
  obtain ⟨x7_1, rfl, HA, HK1, ⟨m1, rfl⟩⟩ := hrel
  cases gk with
  | zero => exact absurd HA.out (by simp [base_First.l0])
  | succ k1 =>
   have H := HA.out
   clear HA
   simp only [base_First.l0] at H
   by_cases c2 : x7_1 < (l0.length : Int)
   ·rw [if_pos c2] at H
    have c2b0 := decide_eq_true c2; clear c2
    by_cases c3 : 0 ≤ x7_1
    case neg => exact (nn_ c3 H).elim
    rw [if_pos c3] at H; have c3b0 := decide_eq_true c3; clear c3
    by_cases c4 : x7_1 < (l0.length : Int)
    case neg => exact (nn_ c4 H).elim
    rw [if_pos c4] at H; have c4b0 := decide_eq_true c4; clear c4
    by_cases c5 : (rd l0 x7_1) = 0
    ·rw [if_pos c5] at H
     have c5b0 : ((rd l0 x7_1) == 0) = true := beq_iff_eq.mpr c5
     have c5b1 : ((rd l0 x7_1) != 0) = false := bne_eq_false_iff_eq.mpr c5
     clear c5
     have H' := am_ H
     clear H; have p337 : 0 ≤ (x7_1 : Int) := ode_; have q337 : x7_1 < (l0.length : Int) := ode_
     obtain ⟨ad337, e337, hx337_0⟩ := Kd.at_int HR0.out x7_1 p337 q337
     cases e337; replace p337 := eq_true p337; replace q337 := eq_true q337
     go_wp2
     go_roundg k1
     case measure => have := HK1.out; omega
     case rel => exact ⟨(wrap64 (x7_1 + 1)), (by first | rfl | (simp; done) | (simp [*]; done)), H', ⟨by have := HK1.out; omega⟩, by repeat (first | exact Drawn0.refl _ | apply Drawn0.step)⟩
    ·rw [if_neg c5] at H
     have c5b0 : ((rd l0 x7_1) == 0) = false := beq_eq_false_iff_ne.mpr c5
     have c5b1 : ((rd l0 x7_1) != 0) = true := bne_iff_ne.mpr c5
     obtain rfl := Option.some.inj H
     have p337 : 0 ≤ (x7_1 : Int) := ode_; have q337 : x7_1 < (l0.length : Int) := ode_
     obtain ⟨ad337, e337, hx337_0⟩ := Kd.at_int HR0.out x7_1 p337 q337
     cases e337; replace p337 := eq_true p337; replace q337 := eq_true q337
     go_wp2
     go_ret
     exact ⟨by first | rfl | (simp; done) | (simp [*]; done), by repeat (first | exact Drawn0.refl _ | apply Drawn0.step)⟩
   ·rw [if_neg c2] at H
    have c2b0 : decide (x7_1 < (l0.length : Int)) = false := decide_eq_false c2
    clear c2
    obtain rfl := Option.some.inj H
    go_wp2
    go_ret
    exact ⟨by first | rfl | (simp; done) | (simp [*]; done), by repeat (first | exact Drawn0.refl _ | apply Drawn0.step)⟩
def base_small.f (a0 : Int) : Option (Bool) := if a0 ≥ 97 then (some (decide (a0 ≤ 122))) else (some false)
set_option maxHeartbeats 8000000 in
set_option maxRecDepth 100000 in
theorem base_small.calls (a0 : Int) (r : Bool) (w : World) (h : base_small.f a0 = some r) :
    Calls Tryz.prog 47 #[.int .u8 a0] w fun e w' => e = .returned (.bool r) ∧ Drawn0 w w' := by
  have H : (if a0 ≥ 97 then (some (decide (a0 ≤ 122))) else (some false)) = some r := h
  clear h
  by_cases c2 : a0 ≥ 97
  · rw [if_pos c2] at H
    have c2b0 : decide (97 ≤ a0) = true := decide_eq_true c2
    clear c2
    obtain rfl := Option.some.inj H
    go_enter Tryz.func47, Tryz.ntmps47
    go_wp2
    go_ret
    exact ⟨by first | rfl | (simp; done) | (simp [*]; done), by repeat (first | exact Drawn0.refl _ | apply Drawn0.step)⟩
  · rw [if_neg c2] at H
    have c2b0 : decide (97 ≤ a0) = false := decide_eq_false c2
    clear c2
    obtain rfl := Option.some.inj H
    go_enter Tryz.func47, Tryz.ntmps47
    go_wp2
    go_ret
    exact ⟨by first | rfl | (simp; done) | (simp [*]; done), by repeat (first | exact Drawn0.refl _ | apply Drawn0.step)⟩
def base_Digit.f (a0 : Int) : Option (Bool) := if a0 ≥ 48 then (some (decide (a0 ≤ 57))) else (some false)
set_option maxHeartbeats 8000000 in
set_option maxRecDepth 100000 in
theorem base_Digit.calls (a0 : Int) (r : Bool) (w : World) (h : base_Digit.f a0 = some r) :
    Calls Tryz.prog 48 #[.int .u8 a0] w fun e w' => e = .returned (.bool r) ∧ Drawn0 w w' := by
  have H : (if a0 ≥ 48 then (some (decide (a0 ≤ 57))) else (some false)) = some r := h
  clear h
  by_cases c2 : a0 ≥ 48
  · rw [if_pos c2] at H
    have c2b0 : decide (48 ≤ a0) = true := decide_eq_true c2
    clear c2
    obtain rfl := Option.some.inj H
    go_enter Tryz.func48, Tryz.ntmps48
    go_wp2
    go_ret
    exact ⟨by first | rfl | (simp; done) | (simp [*]; done), by repeat (first | exact Drawn0.refl _ | apply Drawn0.step)⟩
  · rw [if_neg c2] at H
    have c2b0 : decide (48 ≤ a0) = false := decide_eq_false c2
    clear c2
    obtain rfl := Option.some.inj H
    go_enter Tryz.func48, Tryz.ntmps48
    go_wp2
    go_ret
    exact ⟨by first | rfl | (simp; done) | (simp [*]; done), by repeat (first | exact Drawn0.refl _ | apply Drawn0.step)⟩
mutual
def base_Key.j0 : Nat → ByteArray → Bool → Option (Bool)
  | 0, _, _ => none
  | k + 1, x0, x14 => if x14 = true then (some false) else (base_Key.l0 k x0 (x0.size : Int) 0)
def base_Key.l0 : Nat → ByteArray → Int → Int → Option (Bool)
  | 0, _, _, _ => none
  | k + 1, x0, x16, x17 => if x17 < x16 then (if 0 ≤ x17 then (if x17 < (x0.size : Int) then ((base_small.f (bt x0 x17)).bind fun t340 => (if t340 = true then (base_Key.l0 k x0 x16 (wrap64 (x17 + 1))) else ((base_Digit.f (bt x0 x17)).bind fun t341 => (if t341 = true then (base_Key.l0 k x0 x16 (wrap64 (x17 + 1))) else (if (bt x0 x17) = 45 then (base_Key.l0 k x0 x16 (wrap64 (x17 + 1))) else (if (bt x0 x17) = 95 then (base_Key.l0 k x0 x16 (wrap64 (x17 + 1))) else (some false))))))) else (none)) else (none)) else (some true)
end
def base_Key.f (k : Nat) (a0 : ByteArray) : Option (Bool) := (base_In.f (a0.size : Int) 1 40).bind fun t338 => (if t338 = true then (if 0 < (a0.size : Int) then ((base_small.f (bt a0 0)).bind fun t339 => (base_Key.j0 k a0 (!t339))) else (none)) else (base_Key.j0 k a0 true))
theorem base_Key.mono_l : ∀ k, (∀ y0 y1, LeO (base_Key.j0 k y0 y1) (base_Key.j0 (k + 1) y0 y1)) ∧ (∀ y0 y1 y2, LeO (base_Key.l0 k y0 y1 y2) (base_Key.l0 (k + 1) y0 y1 y2))
  | 0 => ⟨fun _ _ r h => by simp [base_Key.j0] at h, fun _ _ _ r h => by simp [base_Key.l0] at h⟩
  | k + 1 => by
    obtain ⟨ih0, ih1⟩ := base_Key.mono_l k
    refine ⟨?_, ?_⟩
    · intro y0 y1
      unfold base_Key.j0
      repeat' first
      | (with_reducible exact ih0 _ _)
      | (with_reducible exact ih1 _ _ _)
      | (with_reducible exact LeO.refl _)
      | (with_reducible exact LeO.none _)
      | (with_reducible refine LeO.ite ?_ ?_)
      | (with_reducible refine LeO.bind ?_ (fun _ => ?_))
      | exact ih0 _ _
      | exact ih1 _ _ _
      | exact LeO.none _
      | refine LeO.ite ?_ ?_
      | refine LeO.bind ?_ (fun _ => ?_)
    · intro y0 y1 y2
      unfold base_Key.l0
      repeat' first
      | (with_reducible exact ih0 _ _)
      | (with_reducible exact ih1 _ _ _)
      | (with_reducible exact LeO.refl _)
      | (with_reducible exact LeO.none _)
      | (with_reducible refine LeO.ite ?_ ?_)
      | (with_reducible refine LeO.bind ?_ (fun _ => ?_))
      | exact ih0 _ _
      | exact ih1 _ _ _
      | exact LeO.none _
      | refine LeO.ite ?_ ?_
      | refine LeO.bind ?_ (fun _ => ?_)
theorem base_Key.mono : ∀ a0 k, LeO (base_Key.f k a0) (base_Key.f (k + 1) a0) := by
  intro a0 k
  obtain ⟨ih0, ih1⟩ := base_Key.mono_l k
  unfold base_Key.f
  repeat' first
      | (with_reducible exact ih0 _ _)
      | (with_reducible exact ih1 _ _ _)
      | (with_reducible exact LeO.refl _)
      | (with_reducible exact LeO.none _)
      | (with_reducible refine LeO.ite ?_ ?_)
      | (with_reducible refine LeO.bind ?_ (fun _ => ?_))
      | exact ih0 _ _
      | exact ih1 _ _ _
      | exact LeO.none _
      | refine LeO.ite ?_ ?_
      | refine LeO.bind ?_ (fun _ => ?_)
set_option maxHeartbeats 8000000 in
set_option maxRecDepth 100000 in
theorem base_Key.calls (k : Nat) (a0 : ByteArray) (r : Bool) (w : World) (h : base_Key.f k a0 = some r) :
  Calls Tryz.prog 25 #[.string a0] w fun e w' => e = .returned (.bool r) ∧ Drawn0 w w' := by
 have H : ((base_In.f (a0.size : Int) 1 40).bind fun t338 => (if t338 = true then (if 0 < (a0.size : Int) then ((base_small.f (bt a0 0)).bind fun t339 => (base_Key.j0 k a0 (!t339))) else (none)) else (base_Key.j0 k a0 true))) = some r := h
 clear h; have HC2 := am_ H; clear H
 go_enter Tryz.func25, Tryz.ntmps25
 go_upto_region 1 with (fail)
 go_cut [14] (fun v14 wc => ∃ (kq : Nat) (x14_1 : Bool), v14 = .bool x14_1 ∧ Aside0 (base_Key.j0 kq a0 x14_1 = some r) ∧ Aside0 (kq ≤ k) ∧ Drawn0 w wc)
 case first =>
  have H := HC2.out
  clear HC2; replace H := Option.bind_eq_some_iff.mp H; obtain ⟨t338, A30, H⟩ := H; have A3 := am_ A30; clear A30
  by_cases c4 : t338 = true
  ·subst c4
   have H1 : (if 0 < (a0.size : Int) then ((base_small.f (bt a0 0)).bind fun t339 => (base_Key.j0 k a0 (!t339))) else (none)) = some r := by rw [if_pos rfl] at H; exact H
   clear H
   have H := H1
   clear H1
   by_cases c5 : 0 < (a0.size : Int)
   case neg => exact (nn_ c5 H).elim
   rw [if_pos c5] at H; have c5b0 := decide_eq_true c5
   have c5b1 : decide (0 < a0.size) = true := decide_eq_true (by omega)
   clear c5
   (first | rw [c5b0] | (simp only [i64_w, i32_w]; rw [c5b0]) | skip)
   replace H := Option.bind_eq_some_iff.mp H; obtain ⟨t339, A70, H⟩ := H
   replace H : (base_Key.j0 k a0 (!t339)) = some r := H
   have A7 := am_ A70; clear A70
   have H' := am_ H
   clear H
   go_wp2_with (first | ((with_reducible refine gate_callee (f := 44) rfl ?_); refine goesL_ (some 7) rfl rfl Tryz.func44 (by kernel_rfl) rfl #[.int .i64 (a0.size : Int), .int .i64 1, .int .i64 40] rfl (by (try simp only [m1_, m2_, m3_]); first | done | rfl | (simp only [List.length_drop, List.length_take]; rfl)) ?_; (with_reducible refine (base_In.calls (a0.size : Int) 1 40 true _ A3.out).mono ?_); rintro e w' ⟨rfl, ⟨nd, rfl⟩⟩; refine ⟨_, rfl, ?_⟩; have p6 : 0 ≤ (0 : Int) := (by omega); have q6 : 0 < a0.size := (by have : (0 : Int) < (a0.size : Int) := ode_; omega); have hx6 : ∀ h : 0 < a0.size, ((a0[0]'h).toNat : Int) = bt a0 0 := bt_at a0 0; clear p6; have qi6 : (0 < (a0.size : Int)) = True := eq_true (ode_); replace q6 := eq_true q6) | (go_at_call 47; (with_reducible refine (base_small.calls (bt a0 0) t339 _ A7.out).mono ?_); rintro e w' ⟨rfl, ⟨nd, rfl⟩⟩))
   go_meet
   case rel => exact ⟨_, (!t339), (by first | rfl | (simp; done) | (simp [*]; done)), H', ⟨by first | omega | exact Nat.le_refl _⟩, by repeat (first | exact Drawn0.refl _ | apply Drawn0.step)⟩
  ·replace c4 := Bool.eq_false_iff.mpr c4
   subst c4
   have H1 : (base_Key.j0 k a0 true) = some r := by rw [if_neg (show ¬ (false = true) by decide)] at H; exact H
   clear H
   have H := H1
   clear H1
   have H' := am_ H
   clear H
   go_wp2_with (first | ((with_reducible refine gate_callee (f := 44) rfl ?_); refine goesL_ (some 7) rfl rfl Tryz.func44 (by kernel_rfl) rfl #[.int .i64 (a0.size : Int), .int .i64 1, .int .i64 40] rfl (by (try simp only [m1_, m2_, m3_]); first | done | rfl | (simp only [List.length_drop, List.length_take]; rfl)) ?_; (with_reducible refine (base_In.calls (a0.size : Int) 1 40 false _ A3.out).mono ?_); rintro e w' ⟨rfl, ⟨nd, rfl⟩⟩; refine ⟨_, rfl, ?_⟩))
   go_meet
   case rel => exact ⟨_, (true), (by first | rfl | (simp; done) | (simp [*]; done)), H', ⟨by first | omega | exact Nat.le_refl _⟩, by repeat (first | exact Drawn0.refl _ | apply Drawn0.step)⟩
 case rest =>
  clear HC2; (try clear c2); (try clear p2); (try clear c4); (try clear c5); (try clear c5b0); (try clear c5b1); (try clear p6); (try clear q6); (try clear hx6); (try clear qi6); (try clear p6); (try clear q6)
  obtain ⟨kq, x14_1, rfl, HA, HJ1, ⟨mc1, rfl⟩⟩ := hcut
  cases kq with
  | zero => exact absurd HA.out (by simp [base_Key.j0])
  | succ kj1 =>
   have H := HA.out
   clear HA
   simp only [base_Key.j0] at H
   by_cases c8 : x14_1 = true
   ·subst c8
    have H1 : (some false) = some r := by rw [if_pos rfl] at H; exact H
    clear H
    have H := H1
    clear H1
    obtain rfl := Option.some.inj H
    go_wp2
    go_ret
    exact ⟨by first | rfl | (simp; done) | (simp [*]; done), by repeat (first | exact Drawn0.refl _ | apply Drawn0.step)⟩
   ·replace c8 := Bool.eq_false_iff.mpr c8
    subst c8
    have H1 : (base_Key.l0 kj1 a0 (a0.size : Int) 0) = some r := by rw [if_neg (show ¬ (false = true) by decide)] at H; exact H
    clear H
    have H := H1
    clear H1
    have H' := am_ H
    clear H
    go_wp2
    go_loopg [17] kj1 (fun kq v17 w' => ∃ (x17_2 : Int), v17 = .int .i64 x17_2 ∧ Aside0 (base_Key.l0 kq a0 (a0.size : Int) x17_2 = some r) ∧ Aside0 (kq ≤ kj1) ∧ Drawn0 w w')
    case atStart => exact ⟨(0), (by first | rfl | (simp; done) | (simp [*]; done)), H', ⟨Nat.le_refl _⟩, by repeat (first | exact Drawn0.refl _ | apply Drawn0.step)⟩
    case round =>
     clear H'; (try clear c1); (try clear c2); (try clear p2); (try clear c4); (try clear c5); (try clear c5b0); (try clear c5b1); (try clear p6); (try clear q6); (try clear hx6); (try clear qi6); (try clear c8); (try clear p2); (try clear p6); (try clear q6)
     obtain ⟨x17_2, rfl, HA, HK2, ⟨m2, rfl⟩⟩ := hrel
     cases gk with
     | zero => exact absurd HA.out (by simp [base_Key.l0])
     | succ k2 =>
      have H := HA.out
      clear HA
      simp only [base_Key.l0] at H
      by_cases c9 : x17_2 < (a0.size : Int)
      ·rw [if_pos c9] at H
       have c9b0 := decide_eq_true c9; clear c9
       by_cases c10 : 0 ≤ x17_2
       case neg => exact (nn_ c10 H).elim
       rw [if_pos c10] at H; have c10b0 := decide_eq_true c10; clear c10
       by_cases c11 : x17_2 < (a0.size : Int)
       case neg => exact (nn_ c11 H).elim
       rw [if_pos c11] at H; have c11b0 := decide_eq_true c11; clear c11; replace H := Option.bind_eq_some_iff.mp H; obtain ⟨t340, A130, H⟩ := H; have A13 := am_ A130; clear A130
       by_cases c14 : t340 = true
       ·subst c14
        have H1 : (base_Key.l0 k2 a0 (a0.size : Int) (wrap64 (x17_2 + 1))) = some r := by rw [if_pos rfl] at H; exact H
        clear H
        have H := H1
        clear H1
        have H' := am_ H
        clear H; have p12 : 0 ≤ (x17_2 : Int) := ode_; have q12 : x17_2 < (a0.size : Int) := ode_
        have hx12 := bt_at a0 x17_2
        replace p12 := eq_true p12; replace q12 := eq_true q12
        go_wp2_with (first | ((with_reducible refine gate_callee (f := 47) rfl ?_); refine goesL_ (some 24) rfl rfl Tryz.func47 (by kernel_rfl) rfl #[.int .u8 (bt a0 x17_2)] rfl (by (try simp only [m1_, m2_, m3_]); first | done | rfl | (simp only [List.length_drop, List.length_take]; rfl)) ?_; (with_reducible refine (base_small.calls (bt a0 x17_2) true _ A13.out).mono ?_); rintro e w' ⟨rfl, ⟨nd, rfl⟩⟩; refine ⟨_, rfl, ?_⟩))
        go_roundg k2
        case measure => have := HJ1.out; have := HK2.out; omega
        case rel => exact ⟨(wrap64 (x17_2 + 1)), (by first | rfl | (simp; done) | (simp [*]; done)), H', ⟨by have := HJ1.out; have := HK2.out; omega⟩, by repeat (first | exact Drawn0.refl _ | apply Drawn0.step)⟩
       ·replace c14 := Bool.eq_false_iff.mpr c14
        subst c14
        have H1 : ((base_Digit.f (bt a0 x17_2)).bind fun t341 => (if t341 = true then (base_Key.l0 k2 a0 (a0.size : Int) (wrap64 (x17_2 + 1))) else (if (bt a0 x17_2) = 45 then (base_Key.l0 k2 a0 (a0.size : Int) (wrap64 (x17_2 + 1))) else (if (bt a0 x17_2) = 95 then (base_Key.l0 k2 a0 (a0.size : Int) (wrap64 (x17_2 + 1))) else (some false))))) = some r := by rw [if_neg (show ¬ (false = true) by decide)] at H; exact H
        clear H
        have H := H1
        clear H1; replace H := Option.bind_eq_some_iff.mp H; obtain ⟨t341, A150, H⟩ := H; have A15 := am_ A150; clear A150
        by_cases c16 : t341 = true
        ·subst c16
         have H1 : (base_Key.l0 k2 a0 (a0.size : Int) (wrap64 (x17_2 + 1))) = some r := by rw [if_pos rfl] at H; exact H
         clear H
         have H := H1
         clear H1
         have H' := am_ H
         clear H; have p12 : 0 ≤ (x17_2 : Int) := ode_; have q12 : x17_2 < (a0.size : Int) := ode_
         have hx12 := bt_at a0 x17_2
         replace p12 := eq_true p12; replace q12 := eq_true q12
         go_wp2_with (first | ((with_reducible refine gate_callee (f := 47) rfl ?_); refine goesL_ (some 24) rfl rfl Tryz.func47 (by kernel_rfl) rfl #[.int .u8 (bt a0 x17_2)] rfl (by (try simp only [m1_, m2_, m3_]); first | done | rfl | (simp only [List.length_drop, List.length_take]; rfl)) ?_; (with_reducible refine (base_small.calls (bt a0 x17_2) false _ A13.out).mono ?_); rintro e w' ⟨rfl, ⟨nd, rfl⟩⟩; refine ⟨_, rfl, ?_⟩) | (go_at_call 48; (with_reducible refine (base_Digit.calls (bt a0 x17_2) true _ A15.out).mono ?_); rintro e w' ⟨rfl, ⟨nd, rfl⟩⟩))
         go_roundg k2
         case measure => have := HJ1.out; have := HK2.out; omega
         case rel => exact ⟨(wrap64 (x17_2 + 1)), (by first | rfl | (simp; done) | (simp [*]; done)), H', ⟨by have := HJ1.out; have := HK2.out; omega⟩, by repeat (first | exact Drawn0.refl _ | apply Drawn0.step)⟩
        ·replace c16 := Bool.eq_false_iff.mpr c16
         subst c16
         have H1 : (if (bt a0 x17_2) = 45 then (base_Key.l0 k2 a0 (a0.size : Int) (wrap64 (x17_2 + 1))) else (if (bt a0 x17_2) = 95 then (base_Key.l0 k2 a0 (a0.size : Int) (wrap64 (x17_2 + 1))) else (some false))) = some r := by rw [if_neg (show ¬ (false = true) by decide)] at H; exact H
         clear H
         have H := H1
         clear H1
         by_cases c17 : (bt a0 x17_2) = 45
         ·rw [if_pos c17] at H
          have c17b0 : ((bt a0 x17_2) == 45) = true := beq_iff_eq.mpr c17
          have c17b1 : ((bt a0 x17_2) != 45) = false := bne_eq_false_iff_eq.mpr c17
          clear c17
          have H' := am_ H
          clear H; have p12 : 0 ≤ (x17_2 : Int) := ode_; have q12 : x17_2 < (a0.size : Int) := ode_
          have hx12 := bt_at a0 x17_2
          replace p12 := eq_true p12; replace q12 := eq_true q12
          go_wp2_with (first | ((with_reducible refine gate_callee (f := 47) rfl ?_); refine goesL_ (some 24) rfl rfl Tryz.func47 (by kernel_rfl) rfl #[.int .u8 (bt a0 x17_2)] rfl (by (try simp only [m1_, m2_, m3_]); first | done | rfl | (simp only [List.length_drop, List.length_take]; rfl)) ?_; (with_reducible refine (base_small.calls (bt a0 x17_2) false _ A13.out).mono ?_); rintro e w' ⟨rfl, ⟨nd, rfl⟩⟩; refine ⟨_, rfl, ?_⟩) | (go_at_call 48; (with_reducible refine (base_Digit.calls (bt a0 x17_2) false _ A15.out).mono ?_); rintro e w' ⟨rfl, ⟨nd, rfl⟩⟩))
          go_roundg k2
          case measure => have := HJ1.out; have := HK2.out; omega
          case rel => exact ⟨(wrap64 (x17_2 + 1)), (by first | rfl | (simp; done) | (simp [*]; done)), H', ⟨by have := HJ1.out; have := HK2.out; omega⟩, by repeat (first | exact Drawn0.refl _ | apply Drawn0.step)⟩
         ·rw [if_neg c17] at H
          have c17b0 : ((bt a0 x17_2) == 45) = false := beq_eq_false_iff_ne.mpr c17
          have c17b1 : ((bt a0 x17_2) != 45) = true := bne_iff_ne.mpr c17
          by_cases c18 : (bt a0 x17_2) = 95
          ·rw [if_pos c18] at H
           have c18b0 : ((bt a0 x17_2) == 95) = true := beq_iff_eq.mpr c18
           have c18b1 : ((bt a0 x17_2) != 95) = false := bne_eq_false_iff_eq.mpr c18
           clear c18
           have H' := am_ H
           clear H; have p12 : 0 ≤ (x17_2 : Int) := ode_; have q12 : x17_2 < (a0.size : Int) := ode_
           have hx12 := bt_at a0 x17_2
           replace p12 := eq_true p12; replace q12 := eq_true q12
           go_wp2_with (first | ((with_reducible refine gate_callee (f := 47) rfl ?_); refine goesL_ (some 24) rfl rfl Tryz.func47 (by kernel_rfl) rfl #[.int .u8 (bt a0 x17_2)] rfl (by (try simp only [m1_, m2_, m3_]); first | done | rfl | (simp only [List.length_drop, List.length_take]; rfl)) ?_; (with_reducible refine (base_small.calls (bt a0 x17_2) false _ A13.out).mono ?_); rintro e w' ⟨rfl, ⟨nd, rfl⟩⟩; refine ⟨_, rfl, ?_⟩) | (go_at_call 48; (with_reducible refine (base_Digit.calls (bt a0 x17_2) false _ A15.out).mono ?_); rintro e w' ⟨rfl, ⟨nd, rfl⟩⟩))
           go_roundg k2
           case measure => have := HJ1.out; have := HK2.out; omega
           case rel => exact ⟨(wrap64 (x17_2 + 1)), (by first | rfl | (simp; done) | (simp [*]; done)), H', ⟨by have := HJ1.out; have := HK2.out; omega⟩, by repeat (first | exact Drawn0.refl _ | apply Drawn0.step)⟩
          ·rw [if_neg c18] at H
           have c18b0 : ((bt a0 x17_2) == 95) = false := beq_eq_false_iff_ne.mpr c18
           have c18b1 : ((bt a0 x17_2) != 95) = true := bne_iff_ne.mpr c18
           obtain rfl := Option.some.inj H
           have p12 : 0 ≤ (x17_2 : Int) := ode_; have q12 : x17_2 < (a0.size : Int) := ode_
           have hx12 := bt_at a0 x17_2
           replace p12 := eq_true p12; replace q12 := eq_true q12
           go_wp2_with (first | ((with_reducible refine gate_callee (f := 47) rfl ?_); refine goesL_ (some 24) rfl rfl Tryz.func47 (by kernel_rfl) rfl #[.int .u8 (bt a0 x17_2)] rfl (by (try simp only [m1_, m2_, m3_]); first | done | rfl | (simp only [List.length_drop, List.length_take]; rfl)) ?_; (with_reducible refine (base_small.calls (bt a0 x17_2) false _ A13.out).mono ?_); rintro e w' ⟨rfl, ⟨nd, rfl⟩⟩; refine ⟨_, rfl, ?_⟩) | (go_at_call 48; (with_reducible refine (base_Digit.calls (bt a0 x17_2) false _ A15.out).mono ?_); rintro e w' ⟨rfl, ⟨nd, rfl⟩⟩))
           go_ret
           exact ⟨by first | rfl | (simp; done) | (simp [*]; done), by repeat (first | exact Drawn0.refl _ | apply Drawn0.step)⟩
      ·rw [if_neg c9] at H
       have c9b0 : decide (x17_2 < (a0.size : Int)) = false := decide_eq_false c9
       clear c9
       obtain rfl := Option.some.inj H
       go_wp2
       go_ret
       exact ⟨by first | rfl | (simp; done) | (simp [*]; done), by repeat (first | exact Drawn0.refl _ | apply Drawn0.step)⟩
end Go.Proofs.YtenphgclongphaaGreatDoor.Pk
