/- A part of the proof of textsCovered. No conditions. Laid by program over the kit's print and words. -/
import Derived.Test.YtolcpmdojlbhcaaDoorZyPxx0
import Derived.Test.YtolcpmdojlbhcaaDoorZyPxx4
import Derived.Test.YtolcpmdojlbhcaaDoorZyPxx6
namespace Go.Proofs.YtolcpmdojlbhcaaDoor.Px
open Go.RowKit Go.Proofs.YtolcpmdojlbhcaaDoor.GBase Go.Proofs.YtolcpmdojlbhcaaDoorW.PrintWords Go.Proofs.YtolcpmdojlbhcaaDoorW.PrintLast Go.Proofs.YtolcpmdojlbhcaaDoorW.PrintMore
attribute [local go_sem] str_leq max2_int min2_int max_two min_two max_three min_three max_four min_four
set_option linter.unusedVariables false
set_option linter.unusedSimpArgs false
set_option maxHeartbeats 8000000 in
set_option maxRecDepth 100000 in
theorem Z4.calls (k : Nat) (P0_ : Nat → Prop) (u9000_ : Value) (l0 : List (S46)) (r : List (S46)) (w0 w : World) (hB : Below w0.heap.size w0 w) (ho0 : Kd.R k46 46 w w0.heap.size P0_ u9000_ l0) (h : Z4.f k l0 = some r) :
  Calls Tryd.prog 57 #[u9000_] w fun e w' => ∃ v0_ : Value, e = .returned (v0_) ∧ Kd.R k46 46 w' w0.heap.size (fun k_ => (P0_ k_ ∨ w.heap.size ≤ k_)) v0_ r ∧ Below w0.heap.size w0 w' ∧ Kept w w' (fun k_ => P0_ k_) := by
 have hu46 := Tryd.underlying46
 have HO0 := am_ (show Kd.R k46 46 w w0.heap.size (fun k_ => (P0_ k_ ∨ w.heap.size ≤ k_)) u9000_ l0 from Kd.R_mono ho0 (fun k_ hk => (.inl hk)))
 have HK := am_ (Kept.refl w (fun k_ => P0_ k_))
 have HW0 := am_ hB.size; have HB := am_ hB; clear hB
 have H : ((Z11.f l0 92).bind fun t207 => (Z4.l0 k ([] : List (S46)) t207 (l0.length : Int) 0)) = some r := h
 clear h; replace H := Option.bind_eq_some_iff.mp H; obtain ⟨t207, A20, H⟩ := H; have A2 := am_ A20; clear A20
 have H' := am_ H
 clear H
 obtain ⟨Ao3, co3, eo3⟩ := Kd.R_slice HO0.out
 subst eo3
 go_enter Tryd.func57, Tryd.ntmps57
 go_wp2_with (first | ((with_reducible refine gate_callee (f := 91) rfl ?_); refine goesL_ (some 8) rfl rfl Tryd.func91 (by kernel_rfl) rfl #[.slice Ao3 l0.length co3, .func (.func 92) #[] #[]] rfl gl_ ?_; (with_reducible refine (Z11.calls (fun k_ => some k_ = (.slice Ao3 l0.length co3 : Value).ownBlock) (.slice Ao3 l0.length co3) l0 92 t207 w0 _ ?side1 ?side2 A2.out).mono ?_); (case side1 => exact bw_ HB.out); (case side2 => exact Kd.R_tight rfl HO0.out); rintro e w4 ⟨rfl, hy0, hb, hkp⟩; refine ⟨_, rfl, ?_⟩; have n0_ := am_ (Kd.R_reok rfl hy0 (fun k_ e_ => HO0.out.1 k_ e_)); have n1_ := am_ (Kept.then_ (S := (fun k_ => P0_ k_)) (by repeat (first | (with_reducible first | exact HK.out | apply Kept.alloc | apply Kept.drewN | apply Kept.drew) | exact HK.out)) hkp (fun k_ hs_ => (fun e_ => (HO0.out.1 k_ e_.symm)) hs_)); have n2_ := am_ (hb); clear HO0; clear HK; clear HB; have HO0 := n0_; have HK := n1_; have HB := n2_; clear n0_ n1_ n2_; (try clear hb); (try clear hkp); (try clear hy0)))
 go_loopg [3, 11] k (fun kq v3 v11 w' => ∃ (x3_1 : List (S46)) (x9_1 : List (S46)) (x11_1 : Int), v11 = .int .i64 x11_1 ∧ Aside0 (Z4.l0 kq x3_1 x9_1 (l0.length : Int) x11_1 = some r) ∧ Aside0 (kq ≤ k) ∧ Aside0 (Kd.R k46 46 w' w0.heap.size (fun k_ => (P0_ k_ ∨ w.heap.size ≤ k_) ∧ some k_ ≠ ((.slice Ao3 l0.length co3) : Value).ownBlock) v3 x3_1) ∧ Aside0 (Kd.R k46 46 w' w0.heap.size (fun k_ => (P0_ k_ ∨ w.heap.size ≤ k_) ∧ some k_ ≠ (v3 : Value).ownBlock) (.slice Ao3 l0.length co3) x9_1) ∧ Aside0 (Kept w w' (fun k_ => P0_ k_)) ∧ Aside0 (Below w0.heap.size w0 w'))
 case atStart => exact ⟨(([] : List (S46))), (t207), (0), tr_, H', ⟨Nat.le_refl _⟩, ⟨by first | exact Kd.R_nil _ _ _ _ _ | exact Kd.N_nil _ _ _ _ _ | exact Kd.V_nil _ _ _ _ _ | exact Kd.Q_nil _ _ _ _ _ | exact Kd.S_nil _ _ _ _ _⟩, ⟨by (with_reducible repeat (first | apply r1_ | apply r2_ | apply r3_)); exact Kd.R_mono HO0.out (fun _ hk => ⟨hk, (by simp [Value.ownBlock])⟩)⟩, ⟨by repeat (first | (with_reducible first | exact HK.out | apply Kept.alloc | apply Kept.drewN | apply Kept.drew) | exact HK.out)⟩, ⟨bw_ HB.out⟩⟩
 case round =>
  clear H'; (try clear p2); obtain ⟨x3_1, x9_1, x11_1, rfl, HA, HK1, HO_3, HO_9, HK, HB⟩ := hrel
  have hl9_1 := (Kd.R_reads' HO_9.out).1
  rw [hl9_1] at HO_9
  (try simp only [hl9_1]); (try simp only [hl9_1] at HO_3)
  cases gk with
  | zero => exact absurd HA.out (by simp [Z4.l0])
  | succ k1 =>
   have H := HA.out
   clear HA
   simp only [Z4.l0] at H
   by_cases c5 : x11_1 < (l0.length : Int)
   ·rw [if_pos c5] at H
    have c5b0 := decide_eq_true c5; clear c5
    by_cases c6 : 0 ≤ x11_1
    case neg => exact (nn_ c6 H).elim
    rw [if_pos c6] at H; have c6b0 := decide_eq_true c6; clear c6
    by_cases c7 : x11_1 < (x9_1.length : Int)
    case neg => exact (nn_ c7 H).elim
    rw [if_pos c7] at H; have c7b0 := decide_eq_true c7; clear c7
    by_cases c8 : (wrap64 ((x3_1.length : Int) - 1)) ≥ 0
    ·rw [if_pos c8] at H
     have c8b0 : decide (0 ≤ (wrap64 ((x3_1.length : Int) - 1))) = true := decide_eq_true c8
     clear c8
     obtain ⟨ji9, hji9⟩ : ∃ j_ : Int, (wrap64 ((x3_1.length : Int) - 1)) = j_ := ⟨_, rfl⟩
     replace H : (if 0 ≤ (ji9) then (if (ji9) < (x3_1.length : Int) then (if ((rd_T46 x9_1 x11_1).f0) ≤ ((rd_T46 x3_1 (ji9)).f1) then (Z4.l0 k1 (x3_1.set ((ji9) : Int).toNat (⟨(rd_T46 x3_1 (ji9)).f0, mx ((rd_T46 x3_1 (ji9)).f1) ((rd_T46 x9_1 x11_1).f1)⟩ : S46)) x9_1 (l0.length : Int) (wrap64 (x11_1 + 1))) else (if x3_1.length < 8796093022208 then (Z4.l0 k1 (x3_1 ++ [(⟨(rd_T46 x9_1 x11_1).f0, (rd_T46 x9_1 x11_1).f1⟩ : S46)]) x9_1 (l0.length : Int) (wrap64 (x11_1 + 1))) else (none))) else (none)) else (none)) = some r := by first | (rw [hji9] at H; exact H) | (simp only [hji9] at H ⊢; exact H)
     (try rw [hji9] at c8b0)
     have hji9w : (IntKind.i64.wrap ((x3_1.length : Int) - 1)) = ji9 := (i64_w _).trans hji9
     by_cases c10 : 0 ≤ (ji9)
     case neg => exact (nn_ c10 H).elim
     rw [if_pos c10] at H; have c10b0 := decide_eq_true c10; clear c10
     by_cases c11 : (ji9) < (x3_1.length : Int)
     case neg => exact (nn_ c11 H).elim
     rw [if_pos c11] at H; have c11b0 := decide_eq_true c11; clear c11
     by_cases c12 : ((rd_T46 x9_1 x11_1).f0) ≤ ((rd_T46 x3_1 (ji9)).f1)
     ·rw [if_pos c12] at H
      have c12b0 := decide_eq_true c12; clear c12
      obtain ⟨ji13, hji13⟩ : ∃ j_ : Int, (mx ((rd_T46 x3_1 (ji9)).f1) ((rd_T46 x9_1 x11_1).f1)) = j_ := ⟨_, rfl⟩
      replace H : (Z4.l0 k1 (x3_1.set ((ji9) : Int).toNat (⟨(rd_T46 x3_1 (ji9)).f0, ji13⟩ : S46)) x9_1 (l0.length : Int) (wrap64 (x11_1 + 1))) = some r := by first | (rw [hji13] at H; exact H) | (simp only [hji13] at H ⊢; exact H)
      have hji13_ : (if ((rd_T46 x3_1 (ji9)).f1) < ((rd_T46 x9_1 x11_1).f1) then ((rd_T46 x9_1 x11_1).f1) else ((rd_T46 x3_1 (ji9)).f1)) = ji13 := hji13
      obtain ⟨y212, hy212⟩ : ∃ y_ : List (S46), y_ = (x3_1.set ((ji9) : Int).toNat (⟨(rd_T46 x3_1 (ji9)).f0, ji13⟩ : S46)) := ⟨_, rfl⟩
      replace H : (Z4.l0 k1 y212 x9_1 (l0.length : Int) (wrap64 (x11_1 + 1))) = some r := by first | (rw [hy212]; with_reducible exact H) | (have H2_ := (Option.bind_some _ _).symm.trans H; rw [hy212]; with_reducible exact H2_) | (have H2_ := (Option.bind_some _ _).symm.trans H; with_reducible exact H2_) | with_reducible exact H | (rw [hy212]; exact H) | exact H
      have Ny212 := am_ hy212; clear hy212
      have H' := am_ H
      clear H; have p208 : 0 ≤ (x11_1 : Int) := ode_; have q208 : x11_1 < (x9_1.length : Int) := ode_
      obtain ⟨ad208, e208, hx208_0, hx208_1⟩ := at_T46 (Kd.R_reads' HO_9.out).2.2 x11_1 p208 q208
      cases e208; replace p208 := eq_true p208; replace q208 := eq_true q208
      try go_wp2_with (first | ((with_reducible refine gate_dst (N := 5) rfl ?_); refine box_event ?hg (N := 5) ?hd (cs := #[.int .i64 0, .int .i64 0]) (t := 46) ?hr ?_; (case hd => rfl); (case hg => rfl); (case hr => first | (go_simp; done) | (go_simp; rfl)); intro gb209 hg w15 hbox hb; have n0_ := am_ (Kd.R_below (Kd.R_elderB (rr_ HO_3.out) gb209 (Nat.le_of_eq hg.symm)) hb); have n1_ := am_ (Kd.R_below (Kd.R_elderB (rr_ HO_9.out) gb209 (Nat.le_of_eq hg.symm)) hb); have n2_ := am_ (Kept.below (S := (fun k_ => P0_ k_)) (by repeat (first | (with_reducible first | exact HK.out | apply Kept.alloc | apply Kept.drewN | apply Kept.drew) | exact HK.out)) hb); have n3_ := am_ (below_step (bw_ HB.out) hb); have n4_ := am_ (hbox); have n5_ := am_ ((by rw [hg]; exact (by first | exact HK.out.1 | exact (show Kept w _ (fun k_ => P0_ k_) from by repeat (first | (with_reducible first | exact HK.out | apply Kept.alloc | apply Kept.drewN | apply Kept.drew) | exact HK.out)).1) : w.heap.size ≤ gb209)); have n6_ := am_ ((by rw [hg]; exact (below_size (bw_ HB.out)) : w0.heap.size ≤ gb209)); clear HO_3; clear HO_9; clear HK; clear HB; have HO_3 := n0_; have HO_9 := n1_; have HK := n2_; have HB := n3_; have BK209 := n4_; have GW209 := n5_; have GE209 := n6_; clear n0_ n1_ n2_ n3_ n4_ n5_ n6_; clear hb hbox hg; have hcz16_0 : w15.cell? ⟨gb209, 0, none⟩ = some (.int .i64 0) := (blk_cell BK209.out 0).trans rfl; have hcz16_1 : w15.cell? ⟨gb209, 1, none⟩ = some (.int .i64 0) := (blk_cell BK209.out 1).trans rfl; have hfz16_0 := blk_frozen BK209.out 0; have hfz16_1 := blk_frozen BK209.out 1; obtain ⟨Ao17, co17, eo17⟩ := Kd.R_slice HO_3.out; subst eo17))
      have n0_ : Aside0 (Kd.R k46 46 ((w15.setCell ⟨gb209, 0, none⟩ (.int .i64 ((rd_T46 x9_1 x11_1).f0))).setCell ⟨gb209, 1, none⟩ (.int .i64 ((rd_T46 x9_1 x11_1).f1))) w0.heap.size (fun k_ => (P0_ k_ ∨ w.heap.size ≤ k_) ∧ some k_ ≠ (.slice (some ad208) x9_1.length co3 : Value).ownBlock ∧ k_ ≠ gb209) (.slice Ao17 x3_1.length co17) x3_1) := ⟨by (with_reducible repeat (first | apply r1_ | apply r2_ | apply r3_)); exact Kd.R_mono (Kd.R_far (p := ⟨gb209, 1, none⟩) (Kd.R_far (p := ⟨gb209, 0, none⟩) (Kd.R_mono HO_3.out (fun k_ hk => (⟨hk, hk.2⟩ : _ ∧ k_ ≠ gb209))) (fun _ hk => hk.2) (.int .i64 ((rd_T46 x9_1 x11_1).f0))) (fun _ hk => hk.2) (.int .i64 ((rd_T46 x9_1 x11_1).f1))) (fun _ hk => ⟨hk.1.1.1, ⟨hk.1.1.2, hk.1.2⟩⟩)⟩
      have n1_ : Aside0 (Kd.R k46 46 ((w15.setCell ⟨gb209, 0, none⟩ (.int .i64 ((rd_T46 x9_1 x11_1).f0))).setCell ⟨gb209, 1, none⟩ (.int .i64 ((rd_T46 x9_1 x11_1).f1))) w0.heap.size (fun k_ => (P0_ k_ ∨ w.heap.size ≤ k_) ∧ some k_ ≠ (.slice Ao17 x3_1.length co17 : Value).ownBlock ∧ k_ ≠ gb209) (.slice (some ad208) x9_1.length co3) x9_1) := ⟨by (with_reducible repeat (first | apply r1_ | apply r2_ | apply r3_)); exact Kd.R_mono (Kd.R_far (p := ⟨gb209, 1, none⟩) (Kd.R_far (p := ⟨gb209, 0, none⟩) (Kd.R_mono HO_9.out (fun k_ hk => (⟨hk, hk.2⟩ : _ ∧ k_ ≠ gb209))) (fun _ hk => hk.2) (.int .i64 ((rd_T46 x9_1 x11_1).f0))) (fun _ hk => hk.2) (.int .i64 ((rd_T46 x9_1 x11_1).f1))) (fun _ hk => ⟨hk.1.1.1, ⟨hk.1.1.2, hk.1.2⟩⟩)⟩
      have n2_ : Aside0 (((w15.setCell ⟨gb209, 0, none⟩ (.int .i64 ((rd_T46 x9_1 x11_1).f0))).setCell ⟨gb209, 1, none⟩ (.int .i64 ((rd_T46 x9_1 x11_1).f1))).heap[gb209]? = some (.cells #[.int .i64 ((rd_T46 x9_1 x11_1).f0), .int .i64 ((rd_T46 x9_1 x11_1).f1)] 46 (0, 0))) := ⟨by (with_reducible repeat (first | refine blk_drewN ?_ _ | refine blk_drew ?_ | refine blk_alloc ?_ _)); refine blk_put (cs := #[.int .i64 ((rd_T46 x9_1 x11_1).f0), .int .i64 0]) ?_ 1 _ rfl; (with_reducible repeat (first | refine blk_drewN ?_ _ | refine blk_drew ?_ | refine blk_alloc ?_ _)); refine blk_put (cs := #[.int .i64 0, .int .i64 0]) ?_ 0 _ rfl; (with_reducible repeat (first | refine blk_drewN ?_ _ | refine blk_drew ?_ | refine blk_alloc ?_ _)); exact BK209.out⟩
      have n3_ : Aside0 (Kept w ((w15.setCell ⟨gb209, 0, none⟩ (.int .i64 ((rd_T46 x9_1 x11_1).f0))).setCell ⟨gb209, 1, none⟩ (.int .i64 ((rd_T46 x9_1 x11_1).f1))) (fun k_ => P0_ k_)) := ⟨by repeat (first | (with_reducible first | exact HK.out | apply Kept.alloc | apply Kept.drewN | apply Kept.drew | refine Kept.setCell ?_ (.inr GW209.out) _) | exact HK.out)⟩
      have n4_ : Aside0 (Below w0.heap.size w0 ((w15.setCell ⟨gb209, 0, none⟩ (.int .i64 ((rd_T46 x9_1 x11_1).f0))).setCell ⟨gb209, 1, none⟩ (.int .i64 ((rd_T46 x9_1 x11_1).f1)))) := ⟨bs_ HB.out GE209.out⟩
      (try clear HO_3)
      (try clear HO_9)
      (try clear BK209)
      (try clear HK)
      (try clear HB)
      generalize ((w15.setCell ⟨gb209, 0, none⟩ (.int .i64 ((rd_T46 x9_1 x11_1).f0))).setCell ⟨gb209, 1, none⟩ (.int .i64 ((rd_T46 x9_1 x11_1).f1))) = w18 at n0_ n1_ n2_ n3_ n4_ ⊢
      have HO_3 := n0_; have HO_9 := n1_; have BK209 := n2_; have HK := n3_; have HB := n4_; clear n0_ n1_ n2_ n3_ n4_
      have n0_ := am_ (r3_ HO_3.out)
      have n1_ := am_ (r3_ HO_9.out)
      have n2_ := am_ (blk_drew BK209.out)
      have n3_ := am_ (Kept.drew HK.out)
      have n4_ := am_ (b2_ HB.out)
      clear HO_3; clear HO_9; clear BK209; clear HK; clear HB; have HO_3 := n0_; have HO_9 := n1_; have BK209 := n2_; have HK := n3_; have HB := n4_; clear n0_ n1_ n2_ n3_ n4_; have p210 : 0 ≤ ((ji9) : Int) := ode_; have q210 : (ji9) < (x3_1.length : Int) := ode_
      obtain ⟨ad210, e210, hx210_0, hx210_1⟩ := at_T46 (Kd.R_reads' HO_3.out).2.2 (ji9) p210 q210
      cases e210; replace p210 := eq_true p210; replace q210 := eq_true q210
      refine start_ (n := 12) (S := fun w' => w'.cell? ⟨gb209, 0, none⟩ = some (.int .i64 ((rd_T46 x9_1 x11_1).f0)) ∧ w'.cell? ⟨gb209, 1, none⟩ = some (.int .i64 ((rd_T46 x9_1 x11_1).f1)) ∧ w'.cell? (ad210.add (((ji9)).toNat * 2)) = some (.int .i64 ((rd_T46 x3_1 (ji9)).f0)) ∧ w'.cell? ⟨(ad210.add (((ji9)).toNat * 2)).block, (ad210.add (((ji9)).toNat * 2)).off + 1, none⟩ = some (.int .i64 ((rd_T46 x3_1 (ji9)).f1))) (ds := []) Z4.D1 (by kernel_rfl) rfl rfl ⟨(blk_cell BK209.out 0).trans rfl, (blk_cell BK209.out 1).trans rfl, hx210_0, hx210_1⟩ (fun hHeld => ?_); refine with_tabW Z4.tab7 Z4.bits7 (fun HT_ HW_ => ?_)
      generalize w18.drew = w19 at HO_3 HO_9 BK209 HK HB hx210_0 hx210_1 hHeld ⊢
      refine px_ 0 18 ?_ ?_ Z4.D3 HT_.out ?_ ?_ ?_; rotate_left 2; intro w'; go_simp; with_reducible rfl; simp only [Act.put, s_t, s_z, s_s, i64_w, i32_w]; rfl
      refine px_ 1 19 ?_ ?_ Z4.D5 HT_.out ?_ ?_ ?_; rotate_left 2; intro w'; go_simp; with_reducible rfl; simp only [Act.put, s_t, s_z, s_s, i64_w, i32_w]; rfl
      refine px_ 2 20 ?_ ?_ Z4.D7 HT_.out ?_ ?_ ?_; rotate_left 2; intro w'; go_simp; with_reducible rfl; simp only [Act.put, s_t, s_z, s_s, i64_w, i32_w]; rfl
      refine px_ 3 21 ?_ ?_ Z4.D9 HT_.out ?_ ?_ ?_; rotate_left 2; intro w'; go_simp; with_reducible rfl; simp only [Act.put, s_t, s_z, s_s, i64_w, i32_w]; rfl
      refine px_ 5 23 ?_ ?_ Z4.D10 HT_.out ?_ ?_ ?_; rotate_left 2; intro w'; go_simp; with_reducible rfl; simp only [Act.put, s_t, s_z, s_s, i64_w, i32_w]; rfl
      refine px_ 6 24 ?_ ?_ Z4.D11 HT_.out ?_ ?_ ?_; rotate_left 2; intro w'; go_simp; with_reducible rfl; simp only [Act.put, s_t, s_z, s_s, i64_w, i32_w]; rfl
      refine px_ 7 25 ?_ ?_ Z4.D12 HT_.out ?_ ?_ ?_; rotate_left 2; intro w'; go_simp; with_reducible rfl; simp only [Act.put, s_t, s_z, s_s, i64_w, i32_w]; rfl
      refine px_ 8 26 ?_ ?_ Z4.D13 HT_.out ?_ ?_ ?_; rotate_left 2; intro w'; go_simp; with_reducible rfl; simp only [Act.put, s_t, s_z, s_s, i64_w, i32_w]; rfl
      refine take_ (i := 4) (N := some 22) (v := ?_) (a' := ?_) Z4.D23 rfl rfl (take_ofW HT_.out HW_.out (by kernel_rfl)) (fun _ _ _ h => h) (Or.inl ⟨by rfl, ?_⟩) hHeld ?_ ?_
      rotate_left
      ·rintro w' ⟨s0, s1, s2, s3⟩
       go_simp
       with_reducible rfl
      rotate_left
      ·simp only [Act.put, s_t, s_z, s_s, i64_w, i32_w]
       rfl
      refine take_ (i := 9) (N := some 27) (v := ?_) (a' := ?_) Z4.D25 rfl rfl (take_ofW HT_.out HW_.out (by kernel_rfl)) (fun _ _ _ h => h) (Or.inl ⟨by rfl, ?_⟩) hHeld ?_ ?_
      rotate_left
      ·rintro w' ⟨s0, s1, s2, s3⟩
       go_simp
       with_reducible rfl
      rotate_left
      ·simp only [Act.put, s_t, s_z, s_s, i64_w, i32_w]
       rfl
      refine px_ 10 28 ?_ ?_ Z4.D27 HT_.out ?_ ?_ ?_; rotate_left 2; intro w'; go_simp; with_reducible rfl; simp only [Act.put, s_t, s_z, s_s, i64_w, i32_w]; rfl
      refine px_ 11 29 ?_ ?_ Z4.D30 HT_.out ?_ ?_ ?_; rotate_left 2; intro w'; go_simp; with_reducible rfl; simp only [Act.put, s_t, s_z, s_s, i64_w, i32_w]; rfl
      refine done_ (done_of HT_.out (by kernel_rfl)) ?_
      try go_wp2
      have n0_ := am_ (r3_ HO_3.out)
      have n1_ := am_ (r3_ HO_9.out)
      have n2_ := am_ (blk_drew BK209.out)
      have n3_ := am_ (Kept.drew HK.out)
      have n4_ := am_ (b2_ HB.out)
      clear HO_3; clear HO_9; clear BK209; clear HK; clear HB; have HO_3 := n0_; have HO_9 := n1_; have BK209 := n2_; have HK := n3_; have HB := n4_; clear n0_ n1_ n2_ n3_ n4_; have p211 : 0 ≤ ((ji9) : Int) := ode_; have q211 : (ji9) < (x3_1.length : Int) := ode_
      obtain ⟨ad211, e211, hx211_0, hx211_1⟩ := at_T46 (Kd.R_reads' HO_3.out).2.2 (ji9) p211 q211
      obtain rfl : ad210 = ad211 := (by injection e211)
      replace p211 := eq_true p211; replace q211 := eq_true q211; have p14 : 0 ≤ ((ji9) : Int) := ode_; have q14 : ((ji9) : Int) < ((x3_1.length : Int) : Int) := ode_
      obtain ⟨go14, co14, eo14, gb14, gl14, cl14, HG14⟩ := Kd.R_form HO_3.out (by omega)
      (first | cases eo14 | (injection eo14 with ea_ en_ ec_; (first | subst ea_ | (injection ea_ with ea_; subst ea_)); subst ec_; clear en_))
      have GB14 := am_ gb14; have GG14 := am_ HG14; clear gb14 gl14 HG14
      have HMgo14 := am_ (show (P0_ go14 ∨ w.heap.size ≤ go14) from (HO_3.out.1 _ rfl).1)
      (first | simp only [add_plain] at hx210_0 | skip); (first | simp only [add_plain] at hx210_1 | skip); (first | simp only [add_plain] at hx211_0 | skip); (first | simp only [add_plain] at hx211_1 | skip)
      obtain ⟨ce14, hcl14, hM14, hcc14, hfr14⟩ := Kd.R_elem HO_3.out z46 ((ji9) : Int) p14 q14
      obtain rfl := k46_openM hM14
      have hx14_0 : World.cell? _ ⟨go14, ((ji9) : Int).toNat * 2, none⟩ = some (.int .i64 ((rd_T46 x3_1 (ji9)).f0)) := hcc14 0 _ rfl
      have hx14_1 : World.cell? _ ⟨go14, ((ji9) : Int).toNat * 2 + 1, none⟩ = some (.int .i64 ((rd_T46 x3_1 (ji9)).f1)) := hcc14 1 _ rfl
      have hf14_0 : World.frozen? _ ⟨go14, ((ji9) : Int).toNat * 2, none⟩ = false := hfr14 0
      have hf14_1 : World.frozen? _ ⟨go14, ((ji9) : Int).toNat * 2 + 1, none⟩ = false := hfr14 1
      (try clear hM14); clear hcl14 hcc14 hfr14
      replace p14 := eq_true p14; replace q14 := eq_true q14
      obtain ⟨ce21, hcl21, hM21, hcc21, hfr21⟩ := Kd.R_elem HO_3.out z46 ((ji9) : Int) (ode_) (by have h_ : ((ji9) : Int) < ((x3_1.length : Int) : Int) := ode_; first | exact h_ | (have e_ := (Kd.R_reads' HO_3.out).1; omega) | simpa using h_)
      obtain rfl := k46_openM hM21
      have HP21 := (Kd.R_seg HO_3.out ((ji9) : Int) (ode_) (by have h_ : ((ji9) : Int) < ((x3_1.length : Int) : Int) := ode_; first | exact h_ | (have e_ := (Kd.R_reads' HO_3.out).1; omega) | simpa using h_) (seg := [.int .i64 ji13]) (j := 1) hcl21 hcc21 (show 2 ≤ 2 from by decide) (x' := (⟨(rd_T46 x3_1 (ji9)).f0, ji13⟩ : S46)) (k46_mkM _ _ _ (⟨(rd_T46 x3_1 (ji9)).f0, ji13⟩ : S46) ) (fun _ hk => hk)).1
      rw [← Ny212.out] at HP21
      have HQ21 := am_ HP21
      (try clear hM21); clear hcl21 hcc21 hfr21 HP21
      refine start_ (n := 13) (S := fun w' => w'.cell? ⟨gb209, 0, none⟩ = some (.int .i64 ((rd_T46 x9_1 x11_1).f0)) ∧ w'.cell? ⟨gb209, 1, none⟩ = some (.int .i64 ((rd_T46 x9_1 x11_1).f1)) ∧ w'.cell? ⟨go14, ((ji9)).toNat * 2, none⟩ = some (.int .i64 ((rd_T46 x3_1 (ji9)).f0)) ∧ w'.cell? ⟨go14, ((ji9)).toNat * 2 + 1, none⟩ = some (.int .i64 ((rd_T46 x3_1 (ji9)).f1))) (ds := [12]) Z4.D0 (by kernel_rfl) rfl rfl ⟨(blk_cell BK209.out 0).trans rfl, (blk_cell BK209.out 1).trans rfl, hx211_0, hx211_1⟩ (fun hHeld => ?_); refine with_tabW Z4.tab8 Z4.bits8 (fun HT_ HW_ => ?_)
      generalize w19.drew = w20 at HO_3 HO_9 BK209 HK HB GG14 HQ21 hf14_0 hf14_1 hx14_0 hx14_1 hx210_0 hx210_1 hx211_0 hx211_1 hHeld ⊢
      refine px_ 0 30 ?_ ?_ Z4.D2 HT_.out ?_ ?_ ?_; rotate_left 2; intro w'; go_simp; with_reducible rfl; simp only [Act.put, s_t, s_z, s_s, i64_w, i32_w]; rfl
      refine px_ 1 31 ?_ ?_ Z4.D4 HT_.out ?_ ?_ ?_; rotate_left 2; intro w'; go_simp; with_reducible rfl; simp only [Act.put, s_t, s_z, s_s, i64_w, i32_w]; rfl
      refine px_ 2 32 ?_ ?_ Z4.D6 HT_.out ?_ ?_ ?_; rotate_left 2; intro w'; go_simp; with_reducible rfl; simp only [Act.put, s_t, s_z, s_s, i64_w, i32_w]; rfl
      refine px_ 3 33 ?_ ?_ Z4.D8 HT_.out ?_ ?_ ?_; rotate_left 2; intro w'; go_simp; with_reducible rfl; simp only [Act.put, s_t, s_z, s_s, i64_w, i32_w]; rfl
      refine px_ 4 34 ?_ ?_ Z4.D14 HT_.out ?_ ?_ ?_; rotate_left 2; intro w'; go_simp; with_reducible rfl; simp only [Act.put, s_t, s_z, s_s, i64_w, i32_w]; rfl
      refine px_ 5 35 ?_ ?_ Z4.D16 HT_.out ?_ ?_ ?_; rotate_left 2; intro w'; go_simp; with_reducible rfl; simp only [Act.put, s_t, s_z, s_s, i64_w, i32_w]; rfl
      refine px_ 7 37 ?_ ?_ Z4.D18 HT_.out ?_ ?_ ?_; rotate_left 2; intro w'; go_simp; with_reducible rfl; simp only [Act.put, s_t, s_z, s_s, i64_w, i32_w]; rfl
      refine take_ (i := 6) (N := some 36) (v := ?_) (a' := ?_) Z4.D20 rfl rfl (take_ofW HT_.out HW_.out (by kernel_rfl)) (fun _ _ _ h => h) (Or.inl ⟨by rfl, ?_⟩) hHeld ?_ ?_
      rotate_left
      ·rintro w' ⟨s0, s1, s2, s3⟩
       go_simp
       with_reducible rfl
      rotate_left
      ·simp only [Act.put, s_t, s_z, s_s, i64_w, i32_w]
       rfl
      refine take_ (i := 8) (N := some 38) (v := ?_) (a' := ?_) Z4.D22 rfl rfl (take_ofW HT_.out HW_.out (by kernel_rfl)) (fun _ _ _ h => h) (Or.inl ⟨by rfl, ?_⟩) hHeld ?_ ?_
      rotate_left
      ·rintro w' ⟨s0, s1, s2, s3⟩
       go_simp
       with_reducible rfl
      rotate_left
      ·simp only [Act.put, s_t, s_z, s_s, i64_w, i32_w]
       rfl
      refine px_ 9 39 ?_ ?_ Z4.D24 HT_.out ?_ ?_ ?_; rotate_left 2; intro w'; go_simp; with_reducible rfl; simp only [Act.put, s_t, s_z, s_s, i64_w, i32_w]; rfl
      refine px_ 10 40 ?_ ?_ Z4.D26 HT_.out ?_ ?_ ?_; rotate_left 2; intro w'; go_simp; with_reducible rfl; simp only [Act.put, s_t, s_z, s_s, i64_w, i32_w]; rfl
      refine px_ 11 41 ?_ ?_ Z4.D28 HT_.out ?_ ?_ ?_; rotate_left 2; intro w'; go_simp; with_reducible rfl; simp only [Act.put, s_t, s_z, s_s, i64_w, i32_w]; rfl
      refine last_ (i := 12) (N := none) Z4.D29 rfl rfl (one_of HT_.out (by kernel_rfl)) (by decide) (fun K hK => ?_)
      refine skip_ (w1 := ?_) (by rfl) rfl ?_ ?_
      rotate_left
      ·go_simp
       rfl
      refine hK.out _ _ ?_
      clear hK K
      refine done_ (done_of HT_.out (by kernel_rfl)) ?_
      try go_wp2
      (try simp only [← hl9_1])
      go_roundg k1
      case measure => have := HK1.out; omega
      case rel => exact ⟨(y212), (x9_1), (wrap64 (x11_1 + 1)), tr_, H', ⟨by have := HK1.out; omega⟩, ⟨by (try simp only [hl9_1]); (with_reducible repeat (first | apply r1_ | apply r2_ | apply r3_)); exact Kd.R_mono HQ21.out (fun _ hk => ⟨hk.1, hk.2.1⟩)⟩, ⟨by (try simp only [hl9_1]); (with_reducible repeat (first | apply r1_ | apply r2_ | apply r3_)); exact Kd.R_mono (Kd.R_far (p := ⟨go14, ((ji9) : Int).toNat * 2 + 1, none⟩) (Kd.R_mono HO_9.out (fun k_ hk => (⟨hk, fun e_ => hk.2.1 (by rw [e_]; rfl)⟩ : _ ∧ k_ ≠ go14))) (fun _ hk => hk.2) (.int .i64 ji13)) (fun _ hk => ⟨hk.1.1, hk.1.2.1⟩)⟩, ⟨by repeat (first | (with_reducible first | exact HK.out | apply Kept.alloc | apply Kept.drewN | apply Kept.drew | refine Kept.setCell ?_ HMgo14.out _ | refine Kept.setCell ?_ (.inr GW209.out) _) | exact HK.out)⟩, ⟨by repeat (first | (with_reducible first | exact HB.out | apply b3_ | apply b1_ | apply b2_ | refine below_set ?_ GB14.out | refine below_set ?_ GE209.out) | exact HB.out)⟩⟩
     ·rw [if_neg c12] at H
      have c12b0 : decide (((rd_T46 x9_1 x11_1).f0) ≤ ((rd_T46 x3_1 (ji9)).f1)) = false := decide_eq_false c12
      clear c12
      by_cases c22 : x3_1.length < 8796093022208
      case neg => exact (nn_ c22 H).elim
      rw [if_pos c22] at H; have LMc22 := am_ c22; clear c22
      obtain ⟨y213, hy213⟩ : ∃ y_ : List (S46), y_ = (x3_1 ++ [(⟨(rd_T46 x9_1 x11_1).f0, (rd_T46 x9_1 x11_1).f1⟩ : S46)]) := ⟨_, rfl⟩
      replace H : (Z4.l0 k1 y213 x9_1 (l0.length : Int) (wrap64 (x11_1 + 1))) = some r := by first | (rw [hy213]; with_reducible exact H) | (have H2_ := (Option.bind_some _ _).symm.trans H; rw [hy213]; with_reducible exact H2_) | (have H2_ := (Option.bind_some _ _).symm.trans H; with_reducible exact H2_) | with_reducible exact H | (rw [hy213]; exact H) | exact H
      have Ny213 := am_ hy213; clear hy213
      have H' := am_ H
      clear H; have p208 : 0 ≤ (x11_1 : Int) := ode_; have q208 : x11_1 < (x9_1.length : Int) := ode_
      obtain ⟨ad208, e208, hx208_0, hx208_1⟩ := at_T46 (Kd.R_reads' HO_9.out).2.2 x11_1 p208 q208
      cases e208; replace p208 := eq_true p208; replace q208 := eq_true q208
      try go_wp2_with (first | ((with_reducible refine gate_dst (N := 5) rfl ?_); refine box_event ?hg (N := 5) ?hd (cs := #[.int .i64 0, .int .i64 0]) (t := 46) ?hr ?_; (case hd => rfl); (case hg => rfl); (case hr => first | (go_simp; done) | (go_simp; rfl)); intro gb209 hg w23 hbox hb; have n0_ := am_ (Kd.R_below (Kd.R_elderB (rr_ HO_3.out) gb209 (Nat.le_of_eq hg.symm)) hb); have n1_ := am_ (Kd.R_below (Kd.R_elderB (rr_ HO_9.out) gb209 (Nat.le_of_eq hg.symm)) hb); have n2_ := am_ (Kept.below (S := (fun k_ => P0_ k_)) (by repeat (first | (with_reducible first | exact HK.out | apply Kept.alloc | apply Kept.drewN | apply Kept.drew) | exact HK.out)) hb); have n3_ := am_ (below_step (bw_ HB.out) hb); have n4_ := am_ (hbox); have n5_ := am_ ((by rw [hg]; exact (by first | exact HK.out.1 | exact (show Kept w _ (fun k_ => P0_ k_) from by repeat (first | (with_reducible first | exact HK.out | apply Kept.alloc | apply Kept.drewN | apply Kept.drew) | exact HK.out)).1) : w.heap.size ≤ gb209)); have n6_ := am_ ((by rw [hg]; exact (below_size (bw_ HB.out)) : w0.heap.size ≤ gb209)); clear HO_3; clear HO_9; clear HK; clear HB; have HO_3 := n0_; have HO_9 := n1_; have HK := n2_; have HB := n3_; have BK209 := n4_; have GW209 := n5_; have GE209 := n6_; clear n0_ n1_ n2_ n3_ n4_ n5_ n6_; clear hb hbox hg; have hcz24_0 : w23.cell? ⟨gb209, 0, none⟩ = some (.int .i64 0) := (blk_cell BK209.out 0).trans rfl; have hcz24_1 : w23.cell? ⟨gb209, 1, none⟩ = some (.int .i64 0) := (blk_cell BK209.out 1).trans rfl; have hfz24_0 := blk_frozen BK209.out 0; have hfz24_1 := blk_frozen BK209.out 1; obtain ⟨Ao25, co25, eo25⟩ := Kd.R_slice HO_3.out; subst eo25))
      have n0_ : Aside0 (Kd.R k46 46 ((w23.setCell ⟨gb209, 0, none⟩ (.int .i64 ((rd_T46 x9_1 x11_1).f0))).setCell ⟨gb209, 1, none⟩ (.int .i64 ((rd_T46 x9_1 x11_1).f1))) w0.heap.size (fun k_ => (P0_ k_ ∨ w.heap.size ≤ k_) ∧ some k_ ≠ (.slice (some ad208) x9_1.length co3 : Value).ownBlock ∧ k_ ≠ gb209) (.slice Ao25 x3_1.length co25) x3_1) := ⟨by (with_reducible repeat (first | apply r1_ | apply r2_ | apply r3_)); exact Kd.R_mono (Kd.R_far (p := ⟨gb209, 1, none⟩) (Kd.R_far (p := ⟨gb209, 0, none⟩) (Kd.R_mono HO_3.out (fun k_ hk => (⟨hk, hk.2⟩ : _ ∧ k_ ≠ gb209))) (fun _ hk => hk.2) (.int .i64 ((rd_T46 x9_1 x11_1).f0))) (fun _ hk => hk.2) (.int .i64 ((rd_T46 x9_1 x11_1).f1))) (fun _ hk => ⟨hk.1.1.1, ⟨hk.1.1.2, hk.1.2⟩⟩)⟩
      have n1_ : Aside0 (Kd.R k46 46 ((w23.setCell ⟨gb209, 0, none⟩ (.int .i64 ((rd_T46 x9_1 x11_1).f0))).setCell ⟨gb209, 1, none⟩ (.int .i64 ((rd_T46 x9_1 x11_1).f1))) w0.heap.size (fun k_ => (P0_ k_ ∨ w.heap.size ≤ k_) ∧ some k_ ≠ (.slice Ao25 x3_1.length co25 : Value).ownBlock ∧ k_ ≠ gb209) (.slice (some ad208) x9_1.length co3) x9_1) := ⟨by (with_reducible repeat (first | apply r1_ | apply r2_ | apply r3_)); exact Kd.R_mono (Kd.R_far (p := ⟨gb209, 1, none⟩) (Kd.R_far (p := ⟨gb209, 0, none⟩) (Kd.R_mono HO_9.out (fun k_ hk => (⟨hk, hk.2⟩ : _ ∧ k_ ≠ gb209))) (fun _ hk => hk.2) (.int .i64 ((rd_T46 x9_1 x11_1).f0))) (fun _ hk => hk.2) (.int .i64 ((rd_T46 x9_1 x11_1).f1))) (fun _ hk => ⟨hk.1.1.1, ⟨hk.1.1.2, hk.1.2⟩⟩)⟩
      have n2_ : Aside0 (((w23.setCell ⟨gb209, 0, none⟩ (.int .i64 ((rd_T46 x9_1 x11_1).f0))).setCell ⟨gb209, 1, none⟩ (.int .i64 ((rd_T46 x9_1 x11_1).f1))).heap[gb209]? = some (.cells #[.int .i64 ((rd_T46 x9_1 x11_1).f0), .int .i64 ((rd_T46 x9_1 x11_1).f1)] 46 (0, 0))) := ⟨by (with_reducible repeat (first | refine blk_drewN ?_ _ | refine blk_drew ?_ | refine blk_alloc ?_ _)); refine blk_put (cs := #[.int .i64 ((rd_T46 x9_1 x11_1).f0), .int .i64 0]) ?_ 1 _ rfl; (with_reducible repeat (first | refine blk_drewN ?_ _ | refine blk_drew ?_ | refine blk_alloc ?_ _)); refine blk_put (cs := #[.int .i64 0, .int .i64 0]) ?_ 0 _ rfl; (with_reducible repeat (first | refine blk_drewN ?_ _ | refine blk_drew ?_ | refine blk_alloc ?_ _)); exact BK209.out⟩
      have n3_ : Aside0 (Kept w ((w23.setCell ⟨gb209, 0, none⟩ (.int .i64 ((rd_T46 x9_1 x11_1).f0))).setCell ⟨gb209, 1, none⟩ (.int .i64 ((rd_T46 x9_1 x11_1).f1))) (fun k_ => P0_ k_)) := ⟨by repeat (first | (with_reducible first | exact HK.out | apply Kept.alloc | apply Kept.drewN | apply Kept.drew | refine Kept.setCell ?_ (.inr GW209.out) _) | exact HK.out)⟩
      have n4_ : Aside0 (Below w0.heap.size w0 ((w23.setCell ⟨gb209, 0, none⟩ (.int .i64 ((rd_T46 x9_1 x11_1).f0))).setCell ⟨gb209, 1, none⟩ (.int .i64 ((rd_T46 x9_1 x11_1).f1)))) := ⟨bs_ HB.out GE209.out⟩
      (try clear HO_3)
      (try clear HO_9)
      (try clear BK209)
      (try clear HK)
      (try clear HB)
      generalize ((w23.setCell ⟨gb209, 0, none⟩ (.int .i64 ((rd_T46 x9_1 x11_1).f0))).setCell ⟨gb209, 1, none⟩ (.int .i64 ((rd_T46 x9_1 x11_1).f1))) = w26 at n0_ n1_ n2_ n3_ n4_ ⊢
      have HO_3 := n0_; have HO_9 := n1_; have BK209 := n2_; have HK := n3_; have HB := n4_; clear n0_ n1_ n2_ n3_ n4_
      have n0_ := am_ (r3_ HO_3.out)
      have n1_ := am_ (r3_ HO_9.out)
      have n2_ := am_ (blk_drew BK209.out)
      have n3_ := am_ (Kept.drew HK.out)
      have n4_ := am_ (b2_ HB.out)
      clear HO_3; clear HO_9; clear BK209; clear HK; clear HB; have HO_3 := n0_; have HO_9 := n1_; have BK209 := n2_; have HK := n3_; have HB := n4_; clear n0_ n1_ n2_ n3_ n4_; have p210 : 0 ≤ ((ji9) : Int) := ode_; have q210 : (ji9) < (x3_1.length : Int) := ode_
      obtain ⟨ad210, e210, hx210_0, hx210_1⟩ := at_T46 (Kd.R_reads' HO_3.out).2.2 (ji9) p210 q210
      cases e210; replace p210 := eq_true p210; replace q210 := eq_true q210
      refine start_ (n := 12) (S := fun w' => w'.cell? ⟨gb209, 0, none⟩ = some (.int .i64 ((rd_T46 x9_1 x11_1).f0)) ∧ w'.cell? ⟨gb209, 1, none⟩ = some (.int .i64 ((rd_T46 x9_1 x11_1).f1)) ∧ w'.cell? (ad210.add (((ji9)).toNat * 2)) = some (.int .i64 ((rd_T46 x3_1 (ji9)).f0)) ∧ w'.cell? ⟨(ad210.add (((ji9)).toNat * 2)).block, (ad210.add (((ji9)).toNat * 2)).off + 1, none⟩ = some (.int .i64 ((rd_T46 x3_1 (ji9)).f1))) (ds := []) Z4.D1 (by kernel_rfl) rfl rfl ⟨(blk_cell BK209.out 0).trans rfl, (blk_cell BK209.out 1).trans rfl, hx210_0, hx210_1⟩ (fun hHeld => ?_); refine with_tabW Z4.tab7 Z4.bits7 (fun HT_ HW_ => ?_)
      generalize w26.drew = w27 at HO_3 HO_9 BK209 HK HB hx210_0 hx210_1 hHeld ⊢
      refine px_ 0 18 ?_ ?_ Z4.D3 HT_.out ?_ ?_ ?_; rotate_left 2; intro w'; go_simp; with_reducible rfl; simp only [Act.put, s_t, s_z, s_s, i64_w, i32_w]; rfl
      refine px_ 1 19 ?_ ?_ Z4.D5 HT_.out ?_ ?_ ?_; rotate_left 2; intro w'; go_simp; with_reducible rfl; simp only [Act.put, s_t, s_z, s_s, i64_w, i32_w]; rfl
      refine px_ 2 20 ?_ ?_ Z4.D7 HT_.out ?_ ?_ ?_; rotate_left 2; intro w'; go_simp; with_reducible rfl; simp only [Act.put, s_t, s_z, s_s, i64_w, i32_w]; rfl
      refine px_ 3 21 ?_ ?_ Z4.D9 HT_.out ?_ ?_ ?_; rotate_left 2; intro w'; go_simp; with_reducible rfl; simp only [Act.put, s_t, s_z, s_s, i64_w, i32_w]; rfl
      refine px_ 5 23 ?_ ?_ Z4.D10 HT_.out ?_ ?_ ?_; rotate_left 2; intro w'; go_simp; with_reducible rfl; simp only [Act.put, s_t, s_z, s_s, i64_w, i32_w]; rfl
      refine px_ 6 24 ?_ ?_ Z4.D11 HT_.out ?_ ?_ ?_; rotate_left 2; intro w'; go_simp; with_reducible rfl; simp only [Act.put, s_t, s_z, s_s, i64_w, i32_w]; rfl
      refine px_ 7 25 ?_ ?_ Z4.D12 HT_.out ?_ ?_ ?_; rotate_left 2; intro w'; go_simp; with_reducible rfl; simp only [Act.put, s_t, s_z, s_s, i64_w, i32_w]; rfl
      refine px_ 8 26 ?_ ?_ Z4.D13 HT_.out ?_ ?_ ?_; rotate_left 2; intro w'; go_simp; with_reducible rfl; simp only [Act.put, s_t, s_z, s_s, i64_w, i32_w]; rfl
      refine take_ (i := 4) (N := some 22) (v := ?_) (a' := ?_) Z4.D23 rfl rfl (take_ofW HT_.out HW_.out (by kernel_rfl)) (fun _ _ _ h => h) (Or.inl ⟨by rfl, ?_⟩) hHeld ?_ ?_
      rotate_left
      ·rintro w' ⟨s0, s1, s2, s3⟩
       go_simp
       with_reducible rfl
      rotate_left
      ·simp only [Act.put, s_t, s_z, s_s, i64_w, i32_w]
       rfl
      refine take_ (i := 9) (N := some 27) (v := ?_) (a' := ?_) Z4.D25 rfl rfl (take_ofW HT_.out HW_.out (by kernel_rfl)) (fun _ _ _ h => h) (Or.inl ⟨by rfl, ?_⟩) hHeld ?_ ?_
      rotate_left
      ·rintro w' ⟨s0, s1, s2, s3⟩
       go_simp
       with_reducible rfl
      rotate_left
      ·simp only [Act.put, s_t, s_z, s_s, i64_w, i32_w]
       rfl
      refine px_ 10 28 ?_ ?_ Z4.D27 HT_.out ?_ ?_ ?_; rotate_left 2; intro w'; go_simp; with_reducible rfl; simp only [Act.put, s_t, s_z, s_s, i64_w, i32_w]; rfl
      refine px_ 11 29 ?_ ?_ Z4.D30 HT_.out ?_ ?_ ?_; rotate_left 2; intro w'; go_simp; with_reducible rfl; simp only [Act.put, s_t, s_z, s_s, i64_w, i32_w]; rfl
      refine done_ (done_of HT_.out (by kernel_rfl)) ?_
      have hcz28_0 : w27.cell? ⟨gb209, 0, none⟩ = some (.int .i64 ((rd_T46 x9_1 x11_1).f0)) := (blk_cell BK209.out 0).trans rfl
      have hcz28_1 : w27.cell? ⟨gb209, 1, none⟩ = some (.int .i64 ((rd_T46 x9_1 x11_1).f1)) := (blk_cell BK209.out 1).trans rfl
      have hfz28_0 := blk_frozen BK209.out 0
      have hfz28_1 := blk_frozen BK209.out 1
      try go_wp2_with (first | ((with_reducible refine gate_builtin (b := .append) (xs := #[.tmp 42, .tmp 44]) rfl ?_); at_builtin; refine Kd.R_append k46 (w0 := w0) w0.heap.size rfl (.tmp 42) (.tmp 44) 38 46 (.agg #[(.int .i64 0), (.int .i64 0)]) 16 rfl Tryd.underlying38 info46 rfl (by decide) (by omega) (.slice (some ad210) x3_1.length co25) x3_1 (⟨(rd_T46 x9_1 x11_1).f0, (rd_T46 x9_1 x11_1).f1⟩ : S46) [.int .i64 ((rd_T46 x9_1 x11_1).f0), .int .i64 ((rd_T46 x9_1 x11_1).f1)] (fun k_ => (P0_ k_ ∨ w.heap.size ≤ k_) ∧ some k_ ≠ (.slice (some ad208) x9_1.length co3 : Value).ownBlock ∧ k_ ≠ gb209) (fun _ => False) rfl rfl ?aP (fun _ hk => hk.elim) ?aF ?aO ?aB ?aS ?aL ?_; (case aP => exact k46_mkM _ _ _ (⟨(rd_T46 x9_1 x11_1).f0, (rd_T46 x9_1 x11_1).f1⟩ : S46)); (case aB => exact (bs_ HB.out GE209.out)); (case aF => exact (fun k_ hk => ⟨(.inr (Nat.le_trans (by first | exact HK.out.1 | exact (show Kept w _ (fun k_ => P0_ k_) from by repeat (first | (with_reducible first | exact HK.out | apply Kept.alloc | apply Kept.drewN | apply Kept.drew | refine Kept.setCell ?_ (.inr GW209.out) _) | exact HK.out)).1) hk)), Kd.fresh' (Kd.R_lt (rr_ HO_9.out)) k_ hk, Kd.freshB (g := gb209) (o := .cells #[.int .i64 ((rd_T46 x9_1 x11_1).f0), .int .i64 ((rd_T46 x9_1 x11_1).f1)] 46 (0, 0)) (bk_ BK209.out) k_ hk⟩)); (case aO => exact (rr_ HO_3.out)); (case aS => exact (below_size (bs_ HB.out GE209.out))); (case aL => have := LMc22.out; omega); intro v214 w29 ho hb hg hat; rw [← Ny213.out] at ho; have n0_ := am_ (Kd.R_after (ok := (fun k_ => (P0_ k_ ∨ w.heap.size ≤ k_) ∧ k_ ≠ gb209)) (by (with_reducible repeat (first | apply r1_ | apply r2_ | apply r3_)); exact Kd.R_mono HO_9.out (fun _ hk => ⟨⟨hk.1, hk.2.2⟩, hk.2.1⟩)) hg hat); have n1_ := am_ (blk_grown (g := gb209) (o := .cells #[.int .i64 ((rd_T46 x9_1 x11_1).f0), .int .i64 ((rd_T46 x9_1 x11_1).f1)] 46 (0, 0)) (bk_ BK209.out) hg (Kd.R_away HO_3.out (fun _ hk => hk.2.2))); have n2_ := am_ (hb); have n3_ := am_ (Kept.of_grown (S := (fun k_ => P0_ k_)) hg (by repeat (first | (with_reducible first | exact HK.out | apply Kept.alloc | apply Kept.drewN | apply Kept.drew | refine Kept.setCell ?_ (.inr GW209.out) _) | exact HK.out)) (fun k_ e_ => (HO_3.out.1 k_ e_).1)); have n4_ := am_ (ho); clear HO_9; clear BK209; clear HB; clear HK; clear HO_3; have HO_9 := n0_; have BK209 := n1_; have HB := n2_; have HK := n3_; have HO215 := n4_; clear n0_ n1_ n2_ n3_ n4_; clear ho hb hg hat))
      (try simp only [← hl9_1])
      go_roundg k1
      case measure => have := HK1.out; omega
      case rel => exact ⟨(y213), (x9_1), (wrap64 (x11_1 + 1)), tr_, H', ⟨by have := HK1.out; omega⟩, ⟨by (try simp only [hl9_1]); (with_reducible repeat (first | apply r1_ | apply r2_ | apply r3_)); exact Kd.R_mono HO215.out (fun _ hk => ⟨hk.1, hk.2.1⟩)⟩, ⟨by (try simp only [hl9_1]); (with_reducible repeat (first | apply r1_ | apply r2_ | apply r3_)); exact Kd.R_mono HO_9.out (fun _ hk => ⟨hk.1.1, hk.2⟩)⟩, ⟨by repeat (first | (with_reducible first | exact HK.out | apply Kept.alloc | apply Kept.drewN | apply Kept.drew | refine Kept.setCell ?_ (.inr GW209.out) _) | exact HK.out)⟩, ⟨bs_ HB.out GE209.out⟩⟩
    ·rw [if_neg c8] at H
     have c8b0 : decide (0 ≤ (wrap64 ((x3_1.length : Int) - 1))) = false := decide_eq_false c8
     clear c8
     by_cases c30 : x3_1.length < 8796093022208
     case neg => exact (nn_ c30 H).elim
     rw [if_pos c30] at H; have LMc30 := am_ c30; clear c30
     obtain ⟨y216, hy216⟩ : ∃ y_ : List (S46), y_ = (x3_1 ++ [(⟨(rd_T46 x9_1 x11_1).f0, (rd_T46 x9_1 x11_1).f1⟩ : S46)]) := ⟨_, rfl⟩
     replace H : (Z4.l0 k1 y216 x9_1 (l0.length : Int) (wrap64 (x11_1 + 1))) = some r := by first | (rw [hy216]; with_reducible exact H) | (have H2_ := (Option.bind_some _ _).symm.trans H; rw [hy216]; with_reducible exact H2_) | (have H2_ := (Option.bind_some _ _).symm.trans H; with_reducible exact H2_) | with_reducible exact H | (rw [hy216]; exact H) | exact H
     have Ny216 := am_ hy216; clear hy216
     have H' := am_ H
     clear H; have p208 : 0 ≤ (x11_1 : Int) := ode_; have q208 : x11_1 < (x9_1.length : Int) := ode_
     obtain ⟨ad208, e208, hx208_0, hx208_1⟩ := at_T46 (Kd.R_reads' HO_9.out).2.2 x11_1 p208 q208
     cases e208; replace p208 := eq_true p208; replace q208 := eq_true q208
     try go_wp2_with (first | ((with_reducible refine gate_dst (N := 5) rfl ?_); refine box_event ?hg (N := 5) ?hd (cs := #[.int .i64 0, .int .i64 0]) (t := 46) ?hr ?_; (case hd => rfl); (case hg => rfl); (case hr => first | (go_simp; done) | (go_simp; rfl)); intro gb209 hg w31 hbox hb; have n0_ := am_ (Kd.R_below (Kd.R_elderB (rr_ HO_3.out) gb209 (Nat.le_of_eq hg.symm)) hb); have n1_ := am_ (Kd.R_below (Kd.R_elderB (rr_ HO_9.out) gb209 (Nat.le_of_eq hg.symm)) hb); have n2_ := am_ (Kept.below (S := (fun k_ => P0_ k_)) (by repeat (first | (with_reducible first | exact HK.out | apply Kept.alloc | apply Kept.drewN | apply Kept.drew) | exact HK.out)) hb); have n3_ := am_ (below_step (bw_ HB.out) hb); have n4_ := am_ (hbox); have n5_ := am_ ((by rw [hg]; exact (by first | exact HK.out.1 | exact (show Kept w _ (fun k_ => P0_ k_) from by repeat (first | (with_reducible first | exact HK.out | apply Kept.alloc | apply Kept.drewN | apply Kept.drew) | exact HK.out)).1) : w.heap.size ≤ gb209)); have n6_ := am_ ((by rw [hg]; exact (below_size (bw_ HB.out)) : w0.heap.size ≤ gb209)); clear HO_3; clear HO_9; clear HK; clear HB; have HO_3 := n0_; have HO_9 := n1_; have HK := n2_; have HB := n3_; have BK209 := n4_; have GW209 := n5_; have GE209 := n6_; clear n0_ n1_ n2_ n3_ n4_ n5_ n6_; clear hb hbox hg; have hcz32_0 : w31.cell? ⟨gb209, 0, none⟩ = some (.int .i64 0) := (blk_cell BK209.out 0).trans rfl; have hcz32_1 : w31.cell? ⟨gb209, 1, none⟩ = some (.int .i64 0) := (blk_cell BK209.out 1).trans rfl; have hfz32_0 := blk_frozen BK209.out 0; have hfz32_1 := blk_frozen BK209.out 1; obtain ⟨Ao33, co33, eo33⟩ := Kd.R_slice HO_3.out; subst eo33))
     have n0_ : Aside0 (Kd.R k46 46 ((w31.setCell ⟨gb209, 0, none⟩ (.int .i64 ((rd_T46 x9_1 x11_1).f0))).setCell ⟨gb209, 1, none⟩ (.int .i64 ((rd_T46 x9_1 x11_1).f1))) w0.heap.size (fun k_ => (P0_ k_ ∨ w.heap.size ≤ k_) ∧ some k_ ≠ (.slice (some ad208) x9_1.length co3 : Value).ownBlock ∧ k_ ≠ gb209) (.slice Ao33 x3_1.length co33) x3_1) := ⟨by (with_reducible repeat (first | apply r1_ | apply r2_ | apply r3_)); exact Kd.R_mono (Kd.R_far (p := ⟨gb209, 1, none⟩) (Kd.R_far (p := ⟨gb209, 0, none⟩) (Kd.R_mono HO_3.out (fun k_ hk => (⟨hk, hk.2⟩ : _ ∧ k_ ≠ gb209))) (fun _ hk => hk.2) (.int .i64 ((rd_T46 x9_1 x11_1).f0))) (fun _ hk => hk.2) (.int .i64 ((rd_T46 x9_1 x11_1).f1))) (fun _ hk => ⟨hk.1.1.1, ⟨hk.1.1.2, hk.1.2⟩⟩)⟩
     have n1_ : Aside0 (Kd.R k46 46 ((w31.setCell ⟨gb209, 0, none⟩ (.int .i64 ((rd_T46 x9_1 x11_1).f0))).setCell ⟨gb209, 1, none⟩ (.int .i64 ((rd_T46 x9_1 x11_1).f1))) w0.heap.size (fun k_ => (P0_ k_ ∨ w.heap.size ≤ k_) ∧ some k_ ≠ (.slice Ao33 x3_1.length co33 : Value).ownBlock ∧ k_ ≠ gb209) (.slice (some ad208) x9_1.length co3) x9_1) := ⟨by (with_reducible repeat (first | apply r1_ | apply r2_ | apply r3_)); exact Kd.R_mono (Kd.R_far (p := ⟨gb209, 1, none⟩) (Kd.R_far (p := ⟨gb209, 0, none⟩) (Kd.R_mono HO_9.out (fun k_ hk => (⟨hk, hk.2⟩ : _ ∧ k_ ≠ gb209))) (fun _ hk => hk.2) (.int .i64 ((rd_T46 x9_1 x11_1).f0))) (fun _ hk => hk.2) (.int .i64 ((rd_T46 x9_1 x11_1).f1))) (fun _ hk => ⟨hk.1.1.1, ⟨hk.1.1.2, hk.1.2⟩⟩)⟩
     have n2_ : Aside0 (((w31.setCell ⟨gb209, 0, none⟩ (.int .i64 ((rd_T46 x9_1 x11_1).f0))).setCell ⟨gb209, 1, none⟩ (.int .i64 ((rd_T46 x9_1 x11_1).f1))).heap[gb209]? = some (.cells #[.int .i64 ((rd_T46 x9_1 x11_1).f0), .int .i64 ((rd_T46 x9_1 x11_1).f1)] 46 (0, 0))) := ⟨by (with_reducible repeat (first | refine blk_drewN ?_ _ | refine blk_drew ?_ | refine blk_alloc ?_ _)); refine blk_put (cs := #[.int .i64 ((rd_T46 x9_1 x11_1).f0), .int .i64 0]) ?_ 1 _ rfl; (with_reducible repeat (first | refine blk_drewN ?_ _ | refine blk_drew ?_ | refine blk_alloc ?_ _)); refine blk_put (cs := #[.int .i64 0, .int .i64 0]) ?_ 0 _ rfl; (with_reducible repeat (first | refine blk_drewN ?_ _ | refine blk_drew ?_ | refine blk_alloc ?_ _)); exact BK209.out⟩
     have n3_ : Aside0 (Kept w ((w31.setCell ⟨gb209, 0, none⟩ (.int .i64 ((rd_T46 x9_1 x11_1).f0))).setCell ⟨gb209, 1, none⟩ (.int .i64 ((rd_T46 x9_1 x11_1).f1))) (fun k_ => P0_ k_)) := ⟨by repeat (first | (with_reducible first | exact HK.out | apply Kept.alloc | apply Kept.drewN | apply Kept.drew | refine Kept.setCell ?_ (.inr GW209.out) _) | exact HK.out)⟩
     have n4_ : Aside0 (Below w0.heap.size w0 ((w31.setCell ⟨gb209, 0, none⟩ (.int .i64 ((rd_T46 x9_1 x11_1).f0))).setCell ⟨gb209, 1, none⟩ (.int .i64 ((rd_T46 x9_1 x11_1).f1)))) := ⟨bs_ HB.out GE209.out⟩
     (try clear HO_3)
     (try clear HO_9)
     (try clear BK209)
     (try clear HK)
     (try clear HB)
     generalize ((w31.setCell ⟨gb209, 0, none⟩ (.int .i64 ((rd_T46 x9_1 x11_1).f0))).setCell ⟨gb209, 1, none⟩ (.int .i64 ((rd_T46 x9_1 x11_1).f1))) = w34 at n0_ n1_ n2_ n3_ n4_ ⊢
     have HO_3 := n0_; have HO_9 := n1_; have BK209 := n2_; have HK := n3_; have HB := n4_; clear n0_ n1_ n2_ n3_ n4_
     have n0_ := am_ (r3_ HO_3.out)
     have n1_ := am_ (r3_ HO_9.out)
     have n2_ := am_ (blk_drew BK209.out)
     have n3_ := am_ (Kept.drew HK.out)
     have n4_ := am_ (b2_ HB.out)
     clear HO_3; clear HO_9; clear BK209; clear HK; clear HB; have HO_3 := n0_; have HO_9 := n1_; have BK209 := n2_; have HK := n3_; have HB := n4_; clear n0_ n1_ n2_ n3_ n4_
     refine start_ (n := 12) (S := fun w' => True) (ds := []) Z4.D1 (by kernel_rfl) rfl rfl trivial (fun hHeld => ?_); refine with_tabW Z4.tab7 Z4.bits7 (fun HT_ HW_ => ?_)
     generalize w34.drew = w35 at HO_3 HO_9 BK209 HK HB hHeld ⊢
     refine px_ 0 18 ?_ ?_ Z4.D3 HT_.out ?_ ?_ ?_; rotate_left 2; intro w'; go_simp; with_reducible rfl; simp only [Act.put, s_t, s_z, s_s, i64_w, i32_w]; rfl
     refine px_ 1 19 ?_ ?_ Z4.D5 HT_.out ?_ ?_ ?_; rotate_left 2; intro w'; go_simp; with_reducible rfl; simp only [Act.put, s_t, s_z, s_s, i64_w, i32_w]; rfl
     refine px_ 2 20 ?_ ?_ Z4.D7 HT_.out ?_ ?_ ?_; rotate_left 2; intro w'; go_simp; with_reducible rfl; simp only [Act.put, s_t, s_z, s_s, i64_w, i32_w]; rfl
     refine pv_ (i := 3) (N := some 21) (a' := ?_) Z4.D9 (any_of HT_.out (by kernel_rfl)) ?_ ?_; rotate_left
     ·simp only [Act.put, s_t, s_z, s_s, i64_w, i32_w]; rfl
     refine pv_ (i := 4) (N := some 22) (a' := ?_) Z4.D15 (any_of HT_.out (by kernel_rfl)) ?_ ?_; rotate_left
     ·simp only [Act.put, s_t, s_z, s_s, i64_w, i32_w]; rfl
     refine pv_ (i := 5) (N := some 23) (a' := ?_) Z4.D17 (any_of HT_.out (by kernel_rfl)) ?_ ?_; rotate_left
     ·simp only [Act.put, s_t, s_z, s_s, i64_w, i32_w]; rfl
     refine pv_ (i := 6) (N := some 24) (a' := ?_) Z4.D19 (any_of HT_.out (by kernel_rfl)) ?_ ?_; rotate_left
     ·simp only [Act.put, s_t, s_z, s_s, i64_w, i32_w]; rfl
     refine pv_ (i := 7) (N := some 25) (a' := ?_) Z4.D21 (any_of HT_.out (by kernel_rfl)) ?_ ?_; rotate_left
     ·simp only [Act.put, s_t, s_z, s_s, i64_w, i32_w]; rfl
     refine pv_ (i := 8) (N := some 26) (a' := ?_) Z4.D23 (any_of HT_.out (by kernel_rfl)) ?_ ?_; rotate_left
     ·simp only [Act.put, s_t, s_z, s_s, i64_w, i32_w]; rfl
     refine pv_ (i := 9) (N := some 27) (a' := ?_) Z4.D25 (any_of HT_.out (by kernel_rfl)) ?_ ?_; rotate_left
     ·simp only [Act.put, s_t, s_z, s_s, i64_w, i32_w]; rfl
     refine pv_ (i := 10) (N := some 28) (a' := ?_) Z4.D27 (any_of HT_.out (by kernel_rfl)) ?_ ?_; rotate_left
     ·simp only [Act.put, s_t, s_z, s_s, i64_w, i32_w]; rfl
     refine px_ 11 29 ?_ ?_ Z4.D30 HT_.out ?_ ?_ ?_; rotate_left 2; intro w'; go_simp; with_reducible rfl; simp only [Act.put, s_t, s_z, s_s, i64_w, i32_w]; rfl
     refine done_ (done_of HT_.out (by kernel_rfl)) ?_
     have hcz36_0 : w35.cell? ⟨gb209, 0, none⟩ = some (.int .i64 ((rd_T46 x9_1 x11_1).f0)) := (blk_cell BK209.out 0).trans rfl
     have hcz36_1 : w35.cell? ⟨gb209, 1, none⟩ = some (.int .i64 ((rd_T46 x9_1 x11_1).f1)) := (blk_cell BK209.out 1).trans rfl
     have hfz36_0 := blk_frozen BK209.out 0
     have hfz36_1 := blk_frozen BK209.out 1
     try go_wp2_with (first | ((with_reducible refine gate_builtin (b := .append) (xs := #[.tmp 42, .tmp 44]) rfl ?_); at_builtin; refine Kd.R_append k46 (w0 := w0) w0.heap.size rfl (.tmp 42) (.tmp 44) 38 46 (.agg #[(.int .i64 0), (.int .i64 0)]) 16 rfl Tryd.underlying38 info46 rfl (by decide) (by omega) (.slice Ao33 x3_1.length co33) x3_1 (⟨(rd_T46 x9_1 x11_1).f0, (rd_T46 x9_1 x11_1).f1⟩ : S46) [.int .i64 ((rd_T46 x9_1 x11_1).f0), .int .i64 ((rd_T46 x9_1 x11_1).f1)] (fun k_ => (P0_ k_ ∨ w.heap.size ≤ k_) ∧ some k_ ≠ (.slice (some ad208) x9_1.length co3 : Value).ownBlock ∧ k_ ≠ gb209) (fun _ => False) rfl rfl ?aP (fun _ hk => hk.elim) ?aF ?aO ?aB ?aS ?aL ?_; (case aP => exact k46_mkM _ _ _ (⟨(rd_T46 x9_1 x11_1).f0, (rd_T46 x9_1 x11_1).f1⟩ : S46)); (case aB => exact (bs_ HB.out GE209.out)); (case aF => exact (fun k_ hk => ⟨(.inr (Nat.le_trans (by first | exact HK.out.1 | exact (show Kept w _ (fun k_ => P0_ k_) from by repeat (first | (with_reducible first | exact HK.out | apply Kept.alloc | apply Kept.drewN | apply Kept.drew | refine Kept.setCell ?_ (.inr GW209.out) _) | exact HK.out)).1) hk)), Kd.fresh' (Kd.R_lt (rr_ HO_9.out)) k_ hk, Kd.freshB (g := gb209) (o := .cells #[.int .i64 ((rd_T46 x9_1 x11_1).f0), .int .i64 ((rd_T46 x9_1 x11_1).f1)] 46 (0, 0)) (bk_ BK209.out) k_ hk⟩)); (case aO => exact (rr_ HO_3.out)); (case aS => exact (below_size (bs_ HB.out GE209.out))); (case aL => have := LMc30.out; omega); intro v217 w37 ho hb hg hat; rw [← Ny216.out] at ho; have n0_ := am_ (Kd.R_after (ok := (fun k_ => (P0_ k_ ∨ w.heap.size ≤ k_) ∧ k_ ≠ gb209)) (by (with_reducible repeat (first | apply r1_ | apply r2_ | apply r3_)); exact Kd.R_mono HO_9.out (fun _ hk => ⟨⟨hk.1, hk.2.2⟩, hk.2.1⟩)) hg hat); have n1_ := am_ (blk_grown (g := gb209) (o := .cells #[.int .i64 ((rd_T46 x9_1 x11_1).f0), .int .i64 ((rd_T46 x9_1 x11_1).f1)] 46 (0, 0)) (bk_ BK209.out) hg (Kd.R_away HO_3.out (fun _ hk => hk.2.2))); have n2_ := am_ (hb); have n3_ := am_ (Kept.of_grown (S := (fun k_ => P0_ k_)) hg (by repeat (first | (with_reducible first | exact HK.out | apply Kept.alloc | apply Kept.drewN | apply Kept.drew | refine Kept.setCell ?_ (.inr GW209.out) _) | exact HK.out)) (fun k_ e_ => (HO_3.out.1 k_ e_).1)); have n4_ := am_ (ho); clear HO_9; clear BK209; clear HB; clear HK; clear HO_3; have HO_9 := n0_; have BK209 := n1_; have HB := n2_; have HK := n3_; have HO218 := n4_; clear n0_ n1_ n2_ n3_ n4_; clear ho hb hg hat))
     (try simp only [← hl9_1])
     go_roundg k1
     case measure => have := HK1.out; omega
     case rel => exact ⟨(y216), (x9_1), (wrap64 (x11_1 + 1)), tr_, H', ⟨by have := HK1.out; omega⟩, ⟨by (try simp only [hl9_1]); (with_reducible repeat (first | apply r1_ | apply r2_ | apply r3_)); exact Kd.R_mono HO218.out (fun _ hk => ⟨hk.1, hk.2.1⟩)⟩, ⟨by (try simp only [hl9_1]); (with_reducible repeat (first | apply r1_ | apply r2_ | apply r3_)); exact Kd.R_mono HO_9.out (fun _ hk => ⟨hk.1.1, hk.2⟩)⟩, ⟨by repeat (first | (with_reducible first | exact HK.out | apply Kept.alloc | apply Kept.drewN | apply Kept.drew | refine Kept.setCell ?_ (.inr GW209.out) _) | exact HK.out)⟩, ⟨bs_ HB.out GE209.out⟩⟩
   ·rw [if_neg c5] at H
    have c5b0 : decide (x11_1 < (l0.length : Int)) = false := decide_eq_false c5
    (try simp only [hl9_1] at c5b0); clear c5
    obtain rfl := Option.some.inj H
    go_wp2
    go_ret
    exact ⟨_, by first | rfl | (simp [errW_none, errW_some] <;> rfl) | (simp [*, errW_none, errW_some] <;> rfl), by (with_reducible repeat (first | apply r1_ | apply r2_ | apply r3_)); exact Kd.R_mono HO_3.out (fun _ hk => hk.1), bw_ HB.out, by repeat (first | (with_reducible first | exact HK.out | apply Kept.alloc | apply Kept.drewN | apply Kept.drew) | exact HK.out)⟩
def Z28.f (a0 : Int) : Option (Bool) := if a0 ≥ 48 then (some (decide (a0 ≤ 57))) else (some false)
set_option maxHeartbeats 8000000 in
set_option maxRecDepth 100000 in
theorem Z28.calls (a0 : Int) (r : Bool) (w : World) (h : Z28.f a0 = some r) :
    Calls Tryd.prog 94 #[.int .u8 a0] w fun e w' => e = .returned (.bool r) ∧ Drawn0 w w' := by
  have H : (if a0 ≥ 48 then (some (decide (a0 ≤ 57))) else (some false)) = some r := h
  clear h
  by_cases c2 : a0 ≥ 48
  · rw [if_pos c2] at H
    have c2b0 : decide (48 ≤ a0) = true := decide_eq_true c2
    clear c2
    obtain rfl := Option.some.inj H
    go_enter Tryd.func94, Tryd.ntmps94
    go_wp2
    go_ret
    exact ⟨by first | rfl | (simp; done) | (simp [*]; done), by repeat (first | exact Drawn0.refl _ | apply Drawn0.step)⟩
  · rw [if_neg c2] at H
    have c2b0 : decide (48 ≤ a0) = false := decide_eq_false c2
    clear c2
    obtain rfl := Option.some.inj H
    go_enter Tryd.func94, Tryd.ntmps94
    go_wp2
    go_ret
    exact ⟨by first | rfl | (simp; done) | (simp [*]; done), by repeat (first | exact Drawn0.refl _ | apply Drawn0.step)⟩
def Z25.f (a0 : Int) : Option (Bool) := if a0 ≥ 97 then (if a0 ≤ 122 then (some true) else (if a0 ≥ 65 then (if a0 ≤ 90 then (some true) else ((Z28.f a0).bind fun t219 => (if t219 = true then (some true) else (some (decide (a0 ≥ 128)))))) else ((Z28.f a0).bind fun t220 => (if t220 = true then (some true) else (some (decide (a0 ≥ 128))))))) else (if a0 ≥ 65 then (if a0 ≤ 90 then (some true) else ((Z28.f a0).bind fun t221 => (if t221 = true then (some true) else (some (decide (a0 ≥ 128)))))) else ((Z28.f a0).bind fun t222 => (if t222 = true then (some true) else (some (decide (a0 ≥ 128))))))
set_option maxHeartbeats 8000000 in
set_option maxRecDepth 100000 in
theorem Z25.calls (a0 : Int) (r : Bool) (w : World) (h : Z25.f a0 = some r) :
  Calls Tryd.prog 60 #[.int .u8 a0] w fun e w' => e = .returned (.bool r) ∧ Drawn0 w w' := by
 have H : (if a0 ≥ 97 then (if a0 ≤ 122 then (some true) else (if a0 ≥ 65 then (if a0 ≤ 90 then (some true) else ((Z28.f a0).bind fun t219 => (if t219 = true then (some true) else (some (decide (a0 ≥ 128)))))) else ((Z28.f a0).bind fun t220 => (if t220 = true then (some true) else (some (decide (a0 ≥ 128))))))) else (if a0 ≥ 65 then (if a0 ≤ 90 then (some true) else ((Z28.f a0).bind fun t221 => (if t221 = true then (some true) else (some (decide (a0 ≥ 128)))))) else ((Z28.f a0).bind fun t222 => (if t222 = true then (some true) else (some (decide (a0 ≥ 128))))))) = some r := h
 clear h
 by_cases c2 : a0 ≥ 97
 ·rw [if_pos c2] at H
  have c2b0 : decide (97 ≤ a0) = true := decide_eq_true c2
  clear c2
  by_cases c3 : a0 ≤ 122
  ·rw [if_pos c3] at H
   have c3b0 := decide_eq_true c3; clear c3
   obtain rfl := Option.some.inj H
   go_enter Tryd.func60, Tryd.ntmps60
   go_wp2
   go_ret
   exact ⟨by first | rfl | (simp; done) | (simp [*]; done), by repeat (first | exact Drawn0.refl _ | apply Drawn0.step)⟩
  ·rw [if_neg c3] at H
   have c3b0 : decide (a0 ≤ 122) = false := decide_eq_false c3
   clear c3
   by_cases c4 : a0 ≥ 65
   ·rw [if_pos c4] at H
    have c4b0 : decide (65 ≤ a0) = true := decide_eq_true c4
    clear c4
    by_cases c5 : a0 ≤ 90
    ·rw [if_pos c5] at H
     have c5b0 := decide_eq_true c5; clear c5
     obtain rfl := Option.some.inj H
     go_enter Tryd.func60, Tryd.ntmps60
     go_wp2
     go_ret
     exact ⟨by first | rfl | (simp; done) | (simp [*]; done), by repeat (first | exact Drawn0.refl _ | apply Drawn0.step)⟩
    ·rw [if_neg c5] at H
     have c5b0 : decide (a0 ≤ 90) = false := decide_eq_false c5
     clear c5; replace H := Option.bind_eq_some_iff.mp H; obtain ⟨t219, A60, H⟩ := H; have A6 := am_ A60; clear A60
     by_cases c7 : t219 = true
     ·subst c7
      have H1 : (some true) = some r := by rw [if_pos rfl] at H; exact H
      clear H
      have H := H1
      clear H1
      obtain rfl := Option.some.inj H
      go_enter Tryd.func60, Tryd.ntmps60
      go_wp2_with (first | (go_at_call 94; (with_reducible refine (Z28.calls a0 true _ A6.out).mono ?_); rintro e w' ⟨rfl, ⟨nd, rfl⟩⟩))
      go_ret
      exact ⟨by first | rfl | (simp; done) | (simp [*]; done), by repeat (first | exact Drawn0.refl _ | apply Drawn0.step)⟩
     ·replace c7 := Bool.eq_false_iff.mpr c7
      subst c7
      have H1 : (some (decide (a0 ≥ 128))) = some r := by rw [if_neg (show ¬ (false = true) by decide)] at H; exact H
      clear H
      have H := H1
      clear H1
      obtain rfl := Option.some.inj H
      go_enter Tryd.func60, Tryd.ntmps60
      go_wp2_with (first | (go_at_call 94; (with_reducible refine (Z28.calls a0 false _ A6.out).mono ?_); rintro e w' ⟨rfl, ⟨nd, rfl⟩⟩))
      go_ret
      exact ⟨by first | rfl | (simp; done) | (simp [*]; done), by repeat (first | exact Drawn0.refl _ | apply Drawn0.step)⟩
   ·rw [if_neg c4] at H
    have c4b0 : decide (65 ≤ a0) = false := decide_eq_false c4
    clear c4; replace H := Option.bind_eq_some_iff.mp H; obtain ⟨t220, A80, H⟩ := H; have A8 := am_ A80; clear A80
    by_cases c9 : t220 = true
    ·subst c9
     have H1 : (some true) = some r := by rw [if_pos rfl] at H; exact H
     clear H
     have H := H1
     clear H1
     obtain rfl := Option.some.inj H
     go_enter Tryd.func60, Tryd.ntmps60
     go_wp2_with (first | (go_at_call 94; (with_reducible refine (Z28.calls a0 true _ A8.out).mono ?_); rintro e w' ⟨rfl, ⟨nd, rfl⟩⟩))
     go_ret
     exact ⟨by first | rfl | (simp; done) | (simp [*]; done), by repeat (first | exact Drawn0.refl _ | apply Drawn0.step)⟩
    ·replace c9 := Bool.eq_false_iff.mpr c9
     subst c9
     have H1 : (some (decide (a0 ≥ 128))) = some r := by rw [if_neg (show ¬ (false = true) by decide)] at H; exact H
     clear H
     have H := H1
     clear H1
     obtain rfl := Option.some.inj H
     go_enter Tryd.func60, Tryd.ntmps60
     go_wp2_with (first | (go_at_call 94; (with_reducible refine (Z28.calls a0 false _ A8.out).mono ?_); rintro e w' ⟨rfl, ⟨nd, rfl⟩⟩))
     go_ret
     exact ⟨by first | rfl | (simp; done) | (simp [*]; done), by repeat (first | exact Drawn0.refl _ | apply Drawn0.step)⟩
 ·rw [if_neg c2] at H
  have c2b0 : decide (97 ≤ a0) = false := decide_eq_false c2
  clear c2
  by_cases c10 : a0 ≥ 65
  ·rw [if_pos c10] at H
   have c10b0 : decide (65 ≤ a0) = true := decide_eq_true c10
   clear c10
   by_cases c11 : a0 ≤ 90
   ·rw [if_pos c11] at H
    have c11b0 := decide_eq_true c11; clear c11
    obtain rfl := Option.some.inj H
    go_enter Tryd.func60, Tryd.ntmps60
    go_wp2
    go_ret
    exact ⟨by first | rfl | (simp; done) | (simp [*]; done), by repeat (first | exact Drawn0.refl _ | apply Drawn0.step)⟩
   ·rw [if_neg c11] at H
    have c11b0 : decide (a0 ≤ 90) = false := decide_eq_false c11
    clear c11; replace H := Option.bind_eq_some_iff.mp H; obtain ⟨t221, A120, H⟩ := H; have A12 := am_ A120; clear A120
    by_cases c13 : t221 = true
    ·subst c13
     have H1 : (some true) = some r := by rw [if_pos rfl] at H; exact H
     clear H
     have H := H1
     clear H1
     obtain rfl := Option.some.inj H
     go_enter Tryd.func60, Tryd.ntmps60
     go_wp2_with (first | (go_at_call 94; (with_reducible refine (Z28.calls a0 true _ A12.out).mono ?_); rintro e w' ⟨rfl, ⟨nd, rfl⟩⟩))
     go_ret
     exact ⟨by first | rfl | (simp; done) | (simp [*]; done), by repeat (first | exact Drawn0.refl _ | apply Drawn0.step)⟩
    ·replace c13 := Bool.eq_false_iff.mpr c13
     subst c13
     have H1 : (some (decide (a0 ≥ 128))) = some r := by rw [if_neg (show ¬ (false = true) by decide)] at H; exact H
     clear H
     have H := H1
     clear H1
     obtain rfl := Option.some.inj H
     go_enter Tryd.func60, Tryd.ntmps60
     go_wp2_with (first | (go_at_call 94; (with_reducible refine (Z28.calls a0 false _ A12.out).mono ?_); rintro e w' ⟨rfl, ⟨nd, rfl⟩⟩))
     go_ret
     exact ⟨by first | rfl | (simp; done) | (simp [*]; done), by repeat (first | exact Drawn0.refl _ | apply Drawn0.step)⟩
  ·rw [if_neg c10] at H
   have c10b0 : decide (65 ≤ a0) = false := decide_eq_false c10
   clear c10; replace H := Option.bind_eq_some_iff.mp H; obtain ⟨t222, A140, H⟩ := H; have A14 := am_ A140; clear A140
   by_cases c15 : t222 = true
   ·subst c15
    have H1 : (some true) = some r := by rw [if_pos rfl] at H; exact H
    clear H
    have H := H1
    clear H1
    obtain rfl := Option.some.inj H
    go_enter Tryd.func60, Tryd.ntmps60
    go_wp2_with (first | (go_at_call 94; (with_reducible refine (Z28.calls a0 true _ A14.out).mono ?_); rintro e w' ⟨rfl, ⟨nd, rfl⟩⟩))
    go_ret
    exact ⟨by first | rfl | (simp; done) | (simp [*]; done), by repeat (first | exact Drawn0.refl _ | apply Drawn0.step)⟩
   ·replace c15 := Bool.eq_false_iff.mpr c15
    subst c15
    have H1 : (some (decide (a0 ≥ 128))) = some r := by rw [if_neg (show ¬ (false = true) by decide)] at H; exact H
    clear H
    have H := H1
    clear H1
    obtain rfl := Option.some.inj H
    go_enter Tryd.func60, Tryd.ntmps60
    go_wp2_with (first | (go_at_call 94; (with_reducible refine (Z28.calls a0 false _ A14.out).mono ?_); rintro e w' ⟨rfl, ⟨nd, rfl⟩⟩))
    go_ret
    exact ⟨by first | rfl | (simp; done) | (simp [*]; done), by repeat (first | exact Drawn0.refl _ | apply Drawn0.step)⟩
mutual
def Z5.l0 : Nat → ByteArray → List (S46) → List (S46) → Int → Int → Option ((List (S46)) × Int)
  | 0, _, _, _, _, _ => none
  | k + 1, x0, x7, x16, x17, x18 => if x18 < x17 then (if 0 ≤ x18 then (if x18 < (x16.length : Int) then (Z5.l1 k x0 x7 x16 x17 x18 ((rd_T46 x16 x18).f0) ((rd_T46 x16 x18).f1)) else (none)) else (none)) else ((Z4.f k x7).bind fun t224 => (some (t224, 0)))
def Z5.j2 : Nat → ByteArray → List (S46) → List (S46) → Int → Int → Int → Int → Option ((List (S46)) × Int)
  | 0, _, _, _, _, _, _, _ => none
  | k + 1, x0, x7, x16, x17, x18, x229000, x229001 => Z5.l2 k x0 x7 x16 x17 x18 x229000 x229001
def Z5.l2 : Nat → ByteArray → List (S46) → List (S46) → Int → Int → Int → Int → Option ((List (S46)) × Int)
  | 0, _, _, _, _, _, _, _ => none
  | k + 1, x0, x7, x16, x17, x18, x229000, x229001 => if x229001 < (x0.size : Int) then (if 0 ≤ x229001 then ((Z25.f (bt x0 x229001)).bind fun t233 => (if t233 = true then (if 0 ≤ (wrap64 (x229001 - 1)) then (if (wrap64 (x229001 - 1)) < (x0.size : Int) then ((Z25.f (bt x0 (wrap64 (x229001 - 1)))).bind fun t234 => (if t234 = true then (Z5.l2 k x0 x7 x16 x17 x18 x229000 (wrap64 (x229001 + 1))) else ((Z34.f x0 x229001).bind fun t235 => (if t235 = true then (Z5.l2 k x0 x7 x16 x17 x18 x229000 (wrap64 (x229001 + 1))) else (if x7.length < 8796093022208 then (Z5.l0 k x0 (x7 ++ [(⟨x229000, x229001⟩ : S46)]) x16 x17 (wrap64 (x18 + 1))) else (none)))))) else (none)) else (none)) else ((Z34.f x0 x229001).bind fun t239 => (if t239 = true then (Z5.l2 k x0 x7 x16 x17 x18 x229000 (wrap64 (x229001 + 1))) else (if x7.length < 8796093022208 then (Z5.l0 k x0 (x7 ++ [(⟨x229000, x229001⟩ : S46)]) x16 x17 (wrap64 (x18 + 1))) else (none)))))) else (none)) else (if x7.length < 8796093022208 then (Z5.l0 k x0 (x7 ++ [(⟨x229000, x229001⟩ : S46)]) x16 x17 (wrap64 (x18 + 1))) else (none))
def Z5.l1 : Nat → ByteArray → List (S46) → List (S46) → Int → Int → Int → Int → Option ((List (S46)) × Int)
  | 0, _, _, _, _, _, _, _ => none
  | k + 1, x0, x7, x16, x17, x18, x229000, x229001 => if x229000 > 0 then (if 0 ≤ (wrap64 (x229000 - 1)) then (if (wrap64 (x229000 - 1)) < (x0.size : Int) then ((Z25.f (bt x0 (wrap64 (x229000 - 1)))).bind fun t229 => (if t229 = true then (if 0 ≤ x229000 then (if x229000 < (x0.size : Int) then ((Z25.f (bt x0 x229000)).bind fun t230 => (if t230 = true then (Z5.l1 k x0 x7 x16 x17 x18 (wrap64 (x229000 - 1)) x229001) else ((Z34.f x0 x229000).bind fun t231 => (if t231 = true then (Z5.l1 k x0 x7 x16 x17 x18 (wrap64 (x229000 - 1)) x229001) else (Z5.j2 k x0 x7 x16 x17 x18 x229000 x229001))))) else (none)) else (none)) else ((Z34.f x0 x229000).bind fun t232 => (if t232 = true then (Z5.l1 k x0 x7 x16 x17 x18 (wrap64 (x229000 - 1)) x229001) else (Z5.j2 k x0 x7 x16 x17 x18 x229000 x229001))))) else (none)) else (none)) else (Z5.j2 k x0 x7 x16 x17 x18 x229000 x229001)
end
def Z5.f (k : Nat) (a0 : ByteArray) (l1 : List (S46)) : Option ((List (S46)) × Int) := (Z29.f k a0 l1).bind fun t223 => (if t223 = 0 then (Z5.l0 k a0 ([] : List (S46)) l1 (l1.length : Int) 0) else (some (([] : List (S46)), t223)))
theorem Z5.mono_l : ∀ k, (∀ y0 y1 y2 y3 y4, LeO (Z5.l0 k y0 y1 y2 y3 y4) (Z5.l0 (k + 1) y0 y1 y2 y3 y4)) ∧ (∀ y0 y1 y2 y3 y4 y5 y6, LeO (Z5.j2 k y0 y1 y2 y3 y4 y5 y6) (Z5.j2 (k + 1) y0 y1 y2 y3 y4 y5 y6)) ∧ (∀ y0 y1 y2 y3 y4 y5 y6, LeO (Z5.l2 k y0 y1 y2 y3 y4 y5 y6) (Z5.l2 (k + 1) y0 y1 y2 y3 y4 y5 y6)) ∧ (∀ y0 y1 y2 y3 y4 y5 y6, LeO (Z5.l1 k y0 y1 y2 y3 y4 y5 y6) (Z5.l1 (k + 1) y0 y1 y2 y3 y4 y5 y6))
  | 0 => ⟨fun _ _ _ _ _ r h => by simp [Z5.l0] at h, fun _ _ _ _ _ _ _ r h => by simp [Z5.j2] at h, fun _ _ _ _ _ _ _ r h => by simp [Z5.l2] at h, fun _ _ _ _ _ _ _ r h => by simp [Z5.l1] at h⟩
  | k + 1 => by
    obtain ⟨ih0, ih1, ih2, ih3⟩ := Z5.mono_l k
    refine ⟨?_, ?_, ?_, ?_⟩
    · intro y0 y1 y2 y3 y4
      unfold Z5.l0
      repeat' first
      | (with_reducible exact ih0 _ _ _ _ _)
      | (with_reducible exact ih1 _ _ _ _ _ _ _)
      | (with_reducible exact ih2 _ _ _ _ _ _ _)
      | (with_reducible exact ih3 _ _ _ _ _ _ _)
      | (with_reducible exact Z4.mono _ _)
      | (with_reducible exact Z29.mono _ _ _)
      | (with_reducible exact LeO.refl _)
      | (with_reducible exact LeO.none _)
      | (with_reducible refine LeO.ite ?_ ?_)
      | (with_reducible refine LeO.bind ?_ (fun _ => ?_))
      | exact ih0 _ _ _ _ _
      | exact ih1 _ _ _ _ _ _ _
      | exact ih2 _ _ _ _ _ _ _
      | exact ih3 _ _ _ _ _ _ _
      | exact LeO.none _
      | refine LeO.ite ?_ ?_
      | refine LeO.bind ?_ (fun _ => ?_)
    · intro y0 y1 y2 y3 y4 y5 y6
      unfold Z5.j2
      repeat' first
      | (with_reducible exact ih0 _ _ _ _ _)
      | (with_reducible exact ih1 _ _ _ _ _ _ _)
      | (with_reducible exact ih2 _ _ _ _ _ _ _)
      | (with_reducible exact ih3 _ _ _ _ _ _ _)
      | (with_reducible exact Z4.mono _ _)
      | (with_reducible exact Z29.mono _ _ _)
      | (with_reducible exact LeO.refl _)
      | (with_reducible exact LeO.none _)
      | (with_reducible refine LeO.ite ?_ ?_)
      | (with_reducible refine LeO.bind ?_ (fun _ => ?_))
      | exact ih0 _ _ _ _ _
      | exact ih1 _ _ _ _ _ _ _
      | exact ih2 _ _ _ _ _ _ _
      | exact ih3 _ _ _ _ _ _ _
      | exact LeO.none _
      | refine LeO.ite ?_ ?_
      | refine LeO.bind ?_ (fun _ => ?_)
    · intro y0 y1 y2 y3 y4 y5 y6
      unfold Z5.l2
      repeat' first
      | (with_reducible exact ih0 _ _ _ _ _)
      | (with_reducible exact ih1 _ _ _ _ _ _ _)
      | (with_reducible exact ih2 _ _ _ _ _ _ _)
      | (with_reducible exact ih3 _ _ _ _ _ _ _)
      | (with_reducible exact Z4.mono _ _)
      | (with_reducible exact Z29.mono _ _ _)
      | (with_reducible exact LeO.refl _)
      | (with_reducible exact LeO.none _)
      | (with_reducible refine LeO.ite ?_ ?_)
      | (with_reducible refine LeO.bind ?_ (fun _ => ?_))
      | exact ih0 _ _ _ _ _
      | exact ih1 _ _ _ _ _ _ _
      | exact ih2 _ _ _ _ _ _ _
      | exact ih3 _ _ _ _ _ _ _
      | exact LeO.none _
      | refine LeO.ite ?_ ?_
      | refine LeO.bind ?_ (fun _ => ?_)
    · intro y0 y1 y2 y3 y4 y5 y6
      unfold Z5.l1
      repeat' first
      | (with_reducible exact ih0 _ _ _ _ _)
      | (with_reducible exact ih1 _ _ _ _ _ _ _)
      | (with_reducible exact ih2 _ _ _ _ _ _ _)
      | (with_reducible exact ih3 _ _ _ _ _ _ _)
      | (with_reducible exact Z4.mono _ _)
      | (with_reducible exact Z29.mono _ _ _)
      | (with_reducible exact LeO.refl _)
      | (with_reducible exact LeO.none _)
      | (with_reducible refine LeO.ite ?_ ?_)
      | (with_reducible refine LeO.bind ?_ (fun _ => ?_))
      | exact ih0 _ _ _ _ _
      | exact ih1 _ _ _ _ _ _ _
      | exact ih2 _ _ _ _ _ _ _
      | exact ih3 _ _ _ _ _ _ _
      | exact LeO.none _
      | refine LeO.ite ?_ ?_
      | refine LeO.bind ?_ (fun _ => ?_)
theorem Z5.mono : ∀ a0 a1 k, LeO (Z5.f k a0 a1) (Z5.f (k + 1) a0 a1) := by
  intro a0 a1 k
  obtain ⟨ih0, ih1, ih2, ih3⟩ := Z5.mono_l k
  unfold Z5.f
  repeat' first
      | (with_reducible exact ih0 _ _ _ _ _)
      | (with_reducible exact ih1 _ _ _ _ _ _ _)
      | (with_reducible exact ih2 _ _ _ _ _ _ _)
      | (with_reducible exact ih3 _ _ _ _ _ _ _)
      | (with_reducible exact Z4.mono _ _)
      | (with_reducible exact Z29.mono _ _ _)
      | (with_reducible exact LeO.refl _)
      | (with_reducible exact LeO.none _)
      | (with_reducible refine LeO.ite ?_ ?_)
      | (with_reducible refine LeO.bind ?_ (fun _ => ?_))
      | exact ih0 _ _ _ _ _
      | exact ih1 _ _ _ _ _ _ _
      | exact ih2 _ _ _ _ _ _ _
      | exact ih3 _ _ _ _ _ _ _
      | exact LeO.none _
      | refine LeO.ite ?_ ?_
      | refine LeO.bind ?_ (fun _ => ?_)
end Go.Proofs.YtolcpmdojlbhcaaDoor.Px
