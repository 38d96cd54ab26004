/- A part of the proof of textsCovered. No conditions. Laid by program over the kit's print and words. -/
import Derived.Test.YtolcpmdojlbhcaaDoorZyPxx0
import Derived.Test.YtolcpmdojlbhcaaDoorZyPxx4
import Derived.Test.YtolcpmdojlbhcaaDoorZyPxx6
import Derived.Test.YtolcpmdojlbhcaaDoorZyPxx7
import Derived.Test.YtolcpmdojlbhcaaDoorZyPxx9
namespace Go.Proofs.YtolcpmdojlbhcaaDoor.Px
open Go.RowKit Go.Proofs.YtolcpmdojlbhcaaDoor.GBase Go.Proofs.YtolcpmdojlbhcaaDoorW.PrintWords Go.Proofs.YtolcpmdojlbhcaaDoorW.PrintLast Go.Proofs.YtolcpmdojlbhcaaDoorW.PrintMore
attribute [local go_sem] str_leq max2_int min2_int max_two min_two max_three min_three max_four min_four
set_option linter.unusedVariables false
set_option linter.unusedSimpArgs false
def Z24.l0 : Nat → ByteArray → List ByteArray → Int → List (S46) → Int → Int → Option (List ByteArray × Int)
  | 0, _, _, _, _, _, _ => none
  | k + 1, x0, x7, x8, x20, x21, x22 => if x22 < x21 then (if 0 ≤ x22 then (if x22 < (x20.length : Int) then (if 0 ≤ x8 then (if x8 ≤ ((rd_T46 x20 x22).f0) then (if ((rd_T46 x20 x22).f0) ≤ (x0.size : Int) then ((Z7.f k (x0.extract (x8 : Int).toNat (((rd_T46 x20 x22).f0) : Int).toNat)).bind fun t307 => (if x7.length + t307.length < 8796093022208 then (Z24.l0 k x0 (x7 ++ t307) ((rd_T46 x20 x22).f1) x20 x21 (wrap64 (x22 + 1))) else (none))) else (none)) else (none)) else (none)) else (none)) else (none)) else (if 0 ≤ x8 then (if x8 ≤ (x0.size : Int) then ((Z7.f k (x0.extract (x8 : Int).toNat x0.size)).bind fun t313 => (if x7.length + t313.length < 8796093022208 then (some ((x7 ++ t313), 0)) else (none))) else (none)) else (none))
def Z24.f (k : Nat) (a0 : ByteArray) (l1 : List (S46)) : Option (List ByteArray × Int) := (Z29.f k a0 l1).bind fun t298 => (if t298 = 0 then ((Z8.f k a0 l1).bind fun t299 => ((Z4.f k t299).bind fun t302 => (Z24.l0 k a0 ([] : List ByteArray) 0 t302 (t302.length : Int) 0))) else (some (([] : List ByteArray), t298)))
theorem Z24.mono_l : ∀ k, (∀ y0 y1 y2 y3 y4 y5, LeO (Z24.l0 k y0 y1 y2 y3 y4 y5) (Z24.l0 (k + 1) y0 y1 y2 y3 y4 y5))
  | 0 => fun _ _ _ _ _ _ r h => by simp [Z24.l0] at h
  | k + 1 => by
    have ih0 := Z24.mono_l k
    · intro y0 y1 y2 y3 y4 y5
      unfold Z24.l0
      repeat' first
      | (with_reducible exact ih0 _ _ _ _ _ _)
      | (with_reducible exact Z7.mono _ _)
      | (with_reducible exact Z8.mono _ _ _)
      | (with_reducible exact Z4.mono _ _)
      | (with_reducible exact Z29.mono _ _ _)
      | (with_reducible exact LeO.refl _)
      | (with_reducible exact LeO.none _)
      | (with_reducible refine LeO.ite ?_ ?_)
      | (with_reducible refine LeO.bind ?_ (fun _ => ?_))
      | exact ih0 _ _ _ _ _ _
      | exact LeO.none _
      | refine LeO.ite ?_ ?_
      | refine LeO.bind ?_ (fun _ => ?_)
theorem Z24.mono : ∀ a0 a1 k, LeO (Z24.f k a0 a1) (Z24.f (k + 1) a0 a1) := by
  intro a0 a1 k
  have ih0 := Z24.mono_l k
  unfold Z24.f
  repeat' first
      | (with_reducible exact ih0 _ _ _ _ _ _)
      | (with_reducible exact Z7.mono _ _)
      | (with_reducible exact Z8.mono _ _ _)
      | (with_reducible exact Z4.mono _ _)
      | (with_reducible exact Z29.mono _ _ _)
      | (with_reducible exact LeO.refl _)
      | (with_reducible exact LeO.none _)
      | (with_reducible refine LeO.ite ?_ ?_)
      | (with_reducible refine LeO.bind ?_ (fun _ => ?_))
      | exact ih0 _ _ _ _ _ _
      | exact LeO.none _
      | refine LeO.ite ?_ ?_
      | refine LeO.bind ?_ (fun _ => ?_)
set_option maxHeartbeats 8000000 in
set_option maxRecDepth 100000 in
theorem Z24.calls (k : Nat) (a0 : ByteArray) (A1 : Option Addr) (c1 : Nat) (l1 : List (S46)) (r1 : List ByteArray) (r2 : Int) (w : World) (hr1 : Kd.C k46 w A1 l1.length l1) (hc1 : l1.length ≤ c1) (hGl : Wd w) (h : Z24.f k a0 l1 = some (r1, r2)) :
  Calls Tryd.prog 28 #[.string a0, .slice A1 l1.length c1] w fun e w' => ∃ v0_ : Value, e = .returned (.tuple #[v0_, .int .i64 r2]) ∧ Kd.R Kd.string 9 w' w.heap.size (fun _ => True) v0_ r1 ∧ Below w.heap.size w w' := by
 have hu46 := Tryd.underlying46
 have HGl := am_ hGl; clear hGl; have HR1 := am_ hr1; have HC1 := am_ hc1; clear hr1 hc1
 have HB := am_ (Below.refl w.heap.size w)
 have H : ((Z29.f k a0 l1).bind fun t298 => (if t298 = 0 then ((Z8.f k a0 l1).bind fun t299 => ((Z4.f k t299).bind fun t302 => (Z24.l0 k a0 ([] : List ByteArray) 0 t302 (t302.length : Int) 0))) else (some (([] : List ByteArray), t298)))) = some (r1, r2) := h
 clear h; replace H := Option.bind_eq_some_iff.mp H; obtain ⟨t298, A30, H⟩ := H; have A3 := am_ A30; clear A30
 by_cases c4 : t298 = 0
 ·rw [if_pos c4] at H
  have c4b0 : (t298 == 0) = true := beq_iff_eq.mpr c4
  have c4b1 : (t298 != 0) = false := bne_eq_false_iff_eq.mpr c4
  clear c4; replace H := Option.bind_eq_some_iff.mp H; obtain ⟨t299, A50, H⟩ := H; have A5 := am_ A50; clear A50; replace H := Option.bind_eq_some_iff.mp H; obtain ⟨t302, A60, H⟩ := H; have A6 := am_ A60; clear A60
  have H' := am_ H
  clear H
  go_enter Tryd.func28, Tryd.ntmps28
  go_wp2_with (first | ((with_reducible refine gate_callee (f := 53) rfl ?_); refine goesL_ (some 13) rfl rfl Tryd.func53 (by kernel_rfl) rfl #[.string a0, .slice A1 l1.length c1] rfl gl_ ?_; (with_reducible refine (Z29.calls k a0 _ _ l1 t298 _ ?side1 ?side2 ?side3 A3.out).mono ?_); (case side1 => exact cc_ HR1.out); (case side2 => exact HC1.out); (case side3 => exact Wd.below HGl.out (bw_ HB.out)); rintro e w7 ⟨rfl, hb⟩; refine ⟨_, rfl, ?_⟩; have n0_ := am_ (below_step (bw_ HB.out) hb); clear HB; have HB := n0_; clear n0_; (try clear hb); (try clear hb2); (try clear hk); (try clear hi)) | ((with_reducible refine gate_callee (f := 54) rfl ?_); refine goesL_ (some 19) rfl rfl Tryd.func54 (by kernel_rfl) rfl #[.string a0, .slice A1 l1.length c1] rfl gl_ ?_; (with_reducible refine (Z8.calls k a0 _ _ l1 t299 _ ?side1 ?side2 A5.out).mono ?_); (case side1 => repeat (first | exact (Kd.C_below HR1.out HB.out) | (with_reducible refine Kd.C_alloc ?_ _) | (with_reducible refine Kd.C_drewN ?_ _) | (with_reducible refine Kd.C_drew ?_))); (case side2 => exact HC1.out); rintro e w8 ⟨v300, rfl, ho0, hb⟩; refine ⟨_, rfl, ?_⟩; have n0_ := am_ (Kd.R_lower ho0 (below_size (bw_ HB.out))); have n1_ := am_ (below_step (bw_ HB.out) hb); clear HB; have HO301 := n0_; have HB := n1_; clear n0_ n1_; (try clear hb); (try clear hb2); (try clear hk); (try clear hi); (try clear ho0); obtain ⟨Ao9, co9, eo9⟩ := Kd.R_slice HO301.out; subst eo9) | ((with_reducible refine gate_callee (f := 57) rfl ?_); refine goesL_ (some 20) rfl rfl Tryd.func57 (by kernel_rfl) rfl #[.slice Ao9 t299.length co9] rfl gl_ ?_; (with_reducible refine (Z4.calls k (fun k_ => some k_ = (.slice Ao9 t299.length co9 : Value).ownBlock) (.slice Ao9 t299.length co9) t299 t302 w _ ?side1 ?side2 A6.out).mono ?_); (case side1 => exact bw_ HB.out); (case side2 => exact Kd.R_tight rfl HO301.out); rintro e w10 ⟨v303, rfl, ho0, hb, hkp⟩; refine ⟨_, rfl, ?_⟩; have n0_ := am_ (Kd.R_mono (ok' := fun k_ => True) ho0 (fun k_ hk_ => trivial)); have n1_ := am_ (hb); clear HB; clear HO301; have HO304 := n0_; have HB := n1_; clear n0_ n1_; (try clear hb); (try clear hkp); (try clear ho0); obtain ⟨Ao11, co11, eo11⟩ := Kd.R_slice HO304.out; subst eo11))
  go_loopg [7, 8, 22] k (fun kq v7 v8 v22 w' => ∃ (x7_1 : List ByteArray) (x8_1 : Int) (x22_1 : Int), v8 = .int .i64 x8_1 ∧ v22 = .int .i64 x22_1 ∧ Aside0 (Z24.l0 kq a0 x7_1 x8_1 t302 (t302.length : Int) x22_1 = some (r1, r2)) ∧ Aside0 (kq ≤ k) ∧ Aside0 (Kd.R Kd.string 9 w' w.heap.size (fun _ => True) v7 x7_1) ∧ Aside0 (Kd.R k46 46 w' w.heap.size (fun _ => True) (.slice Ao11 t302.length co11) t302) ∧ Aside0 (Below w.heap.size w w'))
  case atStart => exact ⟨(([] : List ByteArray)), (0), (0), tr_, tr_, H', ⟨Nat.le_refl _⟩, ⟨by first | exact Kd.R_nil _ _ _ _ _ | exact Kd.N_nil _ _ _ _ _ | exact Kd.V_nil _ _ _ _ _ | exact Kd.Q_nil _ _ _ _ _ | exact Kd.S_nil _ _ _ _ _⟩, ⟨rr_ HO304.out⟩, ⟨bw_ HB.out⟩⟩
  case round =>
   clear H'; (try clear c1); (try clear c2); (try clear p2); (try clear c4); (try clear c4b0); (try clear c4b1); (try clear c5); obtain ⟨x7_1, x8_1, x22_1, rfl, rfl, HA, HK1, HO_7, HO_20, HB⟩ := hrel
   cases gk with
   | zero => exact absurd HA.out (by simp [Z24.l0])
   | succ k1 =>
    have H := HA.out
    clear HA
    simp only [Z24.l0] at H
    by_cases c12 : x22_1 < (t302.length : Int)
    ·rw [if_pos c12] at H
     have c12b0 := decide_eq_true c12; clear c12
     by_cases c13 : 0 ≤ x22_1
     case neg => exact (nn_ c13 H).elim
     rw [if_pos c13] at H; have c13b0 := decide_eq_true c13; clear c13
     by_cases c14 : x22_1 < (t302.length : Int)
     case neg => exact (nn_ c14 H).elim
     rw [if_pos c14] at H; have c14b0 := decide_eq_true c14; clear c14
     by_cases c15 : 0 ≤ x8_1
     case neg => exact (nn_ c15 H).elim
     rw [if_pos c15] at H; have c15b0 := eq_true c15; have c15b1 := decide_eq_true c15; clear c15
     by_cases c16 : x8_1 ≤ ((rd_T46 t302 x22_1).f0)
     case neg => exact (nn_ c16 H).elim
     rw [if_pos c16] at H; have c16b0 := eq_true c16; have c16b1 := decide_eq_true c16; clear c16
     by_cases c17 : ((rd_T46 t302 x22_1).f0) ≤ (a0.size : Int)
     case neg => exact (nn_ c17 H).elim
     rw [if_pos c17] at H; have c17b0 := eq_true c17; have c17b1 := decide_eq_true c17; clear c17; replace H := Option.bind_eq_some_iff.mp H; obtain ⟨t307, A180, H⟩ := H; have A18 := am_ A180; clear A180
     by_cases c19 : x7_1.length + t307.length < 8796093022208
     case neg => exact (nn_ c19 H).elim
     rw [if_pos c19] at H; have LMc19 := am_ c19; clear c19
     obtain ⟨y310, hy310⟩ : ∃ y_ : List ByteArray, y_ = (x7_1 ++ t307) := ⟨_, rfl⟩
     replace H : (Z24.l0 k1 a0 y310 ((rd_T46 t302 x22_1).f1) t302 (t302.length : Int) (wrap64 (x22_1 + 1))) = some (r1, r2) := by first | (rw [hy310]; with_reducible exact H) | (have H2_ := (Option.bind_some _ _).symm.trans H; rw [hy310]; with_reducible exact H2_) | (have H2_ := (Option.bind_some _ _).symm.trans H; with_reducible exact H2_) | with_reducible exact H | (rw [hy310]; exact H) | exact H
     have Ny310 := am_ hy310; clear hy310
     have H' := am_ H
     clear H; have p305 : 0 ≤ (x22_1 : Int) := ode_; have q305 : x22_1 < (t302.length : Int) := ode_
     obtain ⟨ad305, e305, hx305_0, hx305_1⟩ := at_T46 (Kd.R_reads' HO_20.out).2.2 x22_1 p305 q305
     cases e305; replace p305 := eq_true p305; replace q305 := eq_true q305
     go_wp2_with (first | ((with_reducible refine gate_dst (N := 10) rfl ?_); refine box_event ?hg (N := 10) ?hd (cs := #[.int .i64 0, .int .i64 0]) (t := 46) ?hr ?_; (case hd => rfl); (case hg => rfl); (case hr => first | (go_simp; done) | (go_simp; rfl)); intro gb306 hg w20 hbox hb; have n0_ := am_ (Kd.R_below (rr_ HO_7.out) hb); have n1_ := am_ (Kd.R_below (Kd.R_elderB (rr_ HO_20.out) gb306 (Nat.le_of_eq hg.symm)) hb); have n2_ := am_ (below_step (bw_ HB.out) hb); have n3_ := am_ (hbox); have n4_ := am_ ((by rw [hg]; exact (below_size (bw_ HB.out)) : w.heap.size ≤ gb306)); have n5_ := am_ ((by rw [hg]; exact (below_size (bw_ HB.out)) : w.heap.size ≤ gb306)); clear HO_7; clear HO_20; clear HB; have HO_7 := n0_; have HO_20 := n1_; have HB := n2_; have BK306 := n3_; have GW306 := n4_; have GE306 := n5_; clear n0_ n1_ n2_ n3_ n4_ n5_; clear hb hbox hg; have hcz21_0 : w20.cell? ⟨gb306, 0, none⟩ = some (.int .i64 0) := (blk_cell BK306.out 0).trans rfl; have hcz21_1 : w20.cell? ⟨gb306, 1, none⟩ = some (.int .i64 0) := (blk_cell BK306.out 1).trans rfl; have hfz21_0 := blk_frozen BK306.out 0; have hfz21_1 := blk_frozen BK306.out 1) | ((with_reducible refine gate_callee (f := 43) rfl ?_); refine goesL_ (some 32) rfl rfl Tryd.func43 (by kernel_rfl) rfl #[.string (a0.extract (x8_1 : Int).toNat (((rd_T46 t302 x22_1).f0) : Int).toNat)] rfl gl_ ?_; (with_reducible refine (Z7.calls k1 (a0.extract (x8_1 : Int).toNat (((rd_T46 t302 x22_1).f0) : Int).toNat) t307 _ A18.out).mono ?_); rintro e w22 ⟨v308, rfl, ho0, hb⟩; refine ⟨_, rfl, ?_⟩; have n0_ := am_ (Kd.R_elder' (by (with_reducible repeat (first | apply r1_ | apply r2_ | apply r3_)); exact (Kd.R_mono (Kd.R_far (p := ⟨gb306, 1, none⟩) (Kd.R_far (p := ⟨gb306, 0, none⟩) (Kd.R_types HO_7.out BK306.out (by decide)) (fun _ hk => hk.2) (.int .i64 ((rd_T46 t302 x22_1).f0))) (fun _ hk => hk.2) (.int .i64 ((rd_T46 t302 x22_1).f1))) (fun _ h_ => h_.1))) (Kd.R_base ho0) hb); have n1_ := am_ (Kd.R_below (by (with_reducible repeat (first | apply r1_ | apply r2_ | apply r3_)); exact (Kd.R_mono (Kd.R_far (p := ⟨gb306, 1, none⟩) (Kd.R_far (p := ⟨gb306, 0, none⟩) (Kd.R_mono HO_20.out (fun k_ hk => (⟨hk, hk.2⟩ : _ ∧ k_ ≠ gb306))) (fun _ hk => hk.2) (.int .i64 ((rd_T46 t302 x22_1).f0))) (fun _ hk => hk.2) (.int .i64 ((rd_T46 t302 x22_1).f1))) (fun _ h_ => h_.1))) hb); have n2_ := am_ (Kd.R_lower (Kd.R_new' ho0 (Kd.R_lt (by (with_reducible repeat (first | apply r1_ | apply r2_ | apply r3_)); exact (Kd.R_mono (Kd.R_far (p := ⟨gb306, 1, none⟩) (Kd.R_far (p := ⟨gb306, 0, none⟩) (Kd.R_types HO_7.out BK306.out (by decide)) (fun _ hk => hk.2) (.int .i64 ((rd_T46 t302 x22_1).f0))) (fun _ hk => hk.2) (.int .i64 ((rd_T46 t302 x22_1).f1))) (fun _ h_ => h_.1))))) (below_size (bs_ HB.out GE306.out))); have n3_ := am_ (blk_below (g := gb306) (o := .cells #[.int .i64 ((rd_T46 t302 x22_1).f0), .int .i64 ((rd_T46 t302 x22_1).f1)] 46 (0, 0)) (by (with_reducible repeat (first | refine blk_drewN ?_ _ | refine blk_drew ?_ | refine blk_alloc ?_ _)); refine blk_put (cs := #[.int .i64 ((rd_T46 t302 x22_1).f0), .int .i64 0]) ?_ 1 _ rfl; (with_reducible repeat (first | refine blk_drewN ?_ _ | refine blk_drew ?_ | refine blk_alloc ?_ _)); refine blk_put (cs := #[.int .i64 0, .int .i64 0]) ?_ 0 _ rfl; (with_reducible repeat (first | refine blk_drewN ?_ _ | refine blk_drew ?_ | refine blk_alloc ?_ _)); exact BK306.out) hb); have n4_ := am_ (below_step (bs_ HB.out GE306.out) hb); clear HO_7; clear HO_20; clear BK306; clear HB; have HO_7 := n0_; have HO_20 := n1_; have HO309 := n2_; have BK306 := n3_; have HB := n4_; clear n0_ n1_ n2_ n3_ n4_; (try clear hb); (try clear hb2); (try clear hk); (try clear hi); (try clear ho0); obtain ⟨Ao24, co24, eo24⟩ := Kd.R_slice HO309.out; subst eo24) | ((with_reducible refine gate_builtin (b := .append) (xs := #[.tmp 26, .tmp 32]) rfl ?_); at_builtin; refine Kd.R_append_rows Kd.string (w0 := w) w.heap.size rfl (.tmp 26) (.tmp 32) 26 9 (.string ⟨#[]⟩) 16 rfl Tryd.underlying26 info9 rfl (by decide) (by omega) u7 x7_1 t307 _ _ _ (fun k_ => some k_ ≠ (.slice Ao24 t307.length co24 : Value).ownBlock) (fun _ => False) rfl rfl ?aO ?aR (fun _ _ h => h) (fun _ h => h.elim) ?aF ?aB ?aS ?aL ?_; (case aR => repeat (first | exact (Kd.R_reads' HO309.out).2.2 | (with_reducible refine Kd.C_alloc ?_ _) | (with_reducible refine Kd.C_drewN ?_ _) | (with_reducible refine Kd.C_drew ?_))); (case aB => exact (bs_ HB.out GE306.out)); (case aF => exact (fun k_ hk => Kd.fresh' (Kd.R_lt (rr_ HO309.out)) k_ hk)); (case aO => exact (by (with_reducible repeat (first | apply r1_ | apply r2_ | apply r3_)); exact Kd.R_mono HO_7.out (fun _ hk => hk.2))); (case aS => exact (below_size (bs_ HB.out GE306.out))); (case aL => have := LMc19.out; omega); intro v311 w23 ho hb hg hat; rw [← Ny310.out] at ho; have n0_ := am_ (Kd.R_over' (rr_ HO_20.out) (Kd.R_typed (rr_ HO_7.out)) (by decide) hg); have n1_ := am_ (blk_grown (g := gb306) (o := .cells #[.int .i64 ((rd_T46 t302 x22_1).f0), .int .i64 ((rd_T46 t302 x22_1).f1)] 46 (0, 0)) (bk_ BK306.out) hg (Kd.R_ne HO_7.out BK306.out (by decide))); have n2_ := am_ (Kd.R_after (ok := (fun _ => True)) (rr_ HO309.out) hg hat); have n3_ := am_ (hb); have n4_ := am_ (ho); clear HO_20; clear BK306; clear HO309; clear HB; clear HO_7; have HO_20 := n0_; have BK306 := n1_; have HO309 := n2_; have HB := n3_; have HO312 := n4_; clear n0_ n1_ n2_ n3_ n4_; clear ho hb hg hat; have hcz25_0 : w23.cell? ⟨gb306, 0, none⟩ = some (.int .i64 ((rd_T46 t302 x22_1).f0)) := (blk_cell BK306.out 0).trans rfl; have hcz25_1 : w23.cell? ⟨gb306, 1, none⟩ = some (.int .i64 ((rd_T46 t302 x22_1).f1)) := (blk_cell BK306.out 1).trans rfl; have hfz25_0 := blk_frozen BK306.out 0; have hfz25_1 := blk_frozen BK306.out 1))
     go_roundg k1
     case measure => have := HK1.out; omega
     case rel => exact ⟨(y310), ((rd_T46 t302 x22_1).f1), (wrap64 (x22_1 + 1)), tr_, tr_, H', ⟨by have := HK1.out; omega⟩, ⟨by (with_reducible repeat (first | apply r1_ | apply r2_ | apply r3_)); exact Kd.R_mono HO312.out (fun _ hk => trivial)⟩, ⟨by (with_reducible repeat (first | apply r1_ | apply r2_ | apply r3_)); exact Kd.R_mono HO_20.out (fun _ hk => trivial)⟩, ⟨bs_ HB.out GE306.out⟩⟩
    ·rw [if_neg c12] at H
     have c12b0 : decide (x22_1 < (t302.length : Int)) = false := decide_eq_false c12
     clear c12
     by_cases c26 : 0 ≤ x8_1
     case neg => exact (nn_ c26 H).elim
     rw [if_pos c26] at H; have c26b0 := eq_true c26; have c26b1 := decide_eq_true c26; clear c26
     by_cases c27 : x8_1 ≤ (a0.size : Int)
     case neg => exact (nn_ c27 H).elim
     rw [if_pos c27] at H; have c27b0 := eq_true c27; have c27b1 := decide_eq_true c27; clear c27; replace H := Option.bind_eq_some_iff.mp H; obtain ⟨t313, A280, H⟩ := H; have A28 := am_ A280; clear A280
     by_cases c29 : x7_1.length + t313.length < 8796093022208
     case neg => exact (nn_ c29 H).elim
     rw [if_pos c29] at H; have LMc29 := am_ c29; clear c29
     obtain ⟨y316, hy316⟩ : ∃ y_ : List ByteArray, y_ = (x7_1 ++ t313) := ⟨_, rfl⟩
     replace H : (some (y316, 0)) = some (r1, r2) := by first | (rw [hy316]; with_reducible exact H) | (have H2_ := (Option.bind_some _ _).symm.trans H; rw [hy316]; with_reducible exact H2_) | (have H2_ := (Option.bind_some _ _).symm.trans H; with_reducible exact H2_) | with_reducible exact H | (rw [hy316]; exact H) | exact H
     have Ny316 := am_ hy316; clear hy316
     simp only [Option.some.injEq, Prod.mk.injEq] at H
     obtain ⟨rfl, rfl⟩ := H
     go_wp2_with (first | ((with_reducible refine gate_callee (f := 43) rfl ?_); refine goesL_ (some 41) rfl rfl Tryd.func43 (by kernel_rfl) rfl #[.string (a0.extract (x8_1 : Int).toNat a0.size)] rfl gl_ ?_; (with_reducible refine (Z7.calls k1 (a0.extract (x8_1 : Int).toNat a0.size) t313 _ A28.out).mono ?_); rintro e w30 ⟨v314, rfl, ho0, hb⟩; refine ⟨_, rfl, ?_⟩; have n0_ := am_ (Kd.R_elder' (rr_ HO_7.out) (Kd.R_base ho0) hb); have n1_ := am_ (Kd.R_below (rr_ HO_20.out) hb); have n2_ := am_ (Kd.R_lower (Kd.R_new' ho0 (Kd.R_lt (rr_ HO_7.out))) (below_size (bw_ HB.out))); have n3_ := am_ (below_step (bw_ HB.out) hb); clear HO_7; clear HO_20; clear HB; have HO_7 := n0_; have HO_20 := n1_; have HO315 := n2_; have HB := n3_; clear n0_ n1_ n2_ n3_; (try clear hb); (try clear hb2); (try clear hk); (try clear hi); (try clear ho0); obtain ⟨Ao32, co32, eo32⟩ := Kd.R_slice HO315.out; subst eo32) | ((with_reducible refine gate_builtin (b := .append) (xs := #[.tmp 37, .tmp 41]) rfl ?_); at_builtin; refine Kd.R_append_rows Kd.string (w0 := w) w.heap.size rfl (.tmp 37) (.tmp 41) 26 9 (.string ⟨#[]⟩) 16 rfl Tryd.underlying26 info9 rfl (by decide) (by omega) u7 x7_1 t313 _ _ _ (fun k_ => some k_ ≠ (.slice Ao32 t313.length co32 : Value).ownBlock) (fun _ => False) rfl rfl ?aO ?aR (fun _ _ h => h) (fun _ h => h.elim) ?aF ?aB ?aS ?aL ?_; (case aR => repeat (first | exact (Kd.R_reads' HO315.out).2.2 | (with_reducible refine Kd.C_alloc ?_ _) | (with_reducible refine Kd.C_drewN ?_ _) | (with_reducible refine Kd.C_drew ?_))); (case aB => exact (bw_ HB.out)); (case aF => exact (fun k_ hk => Kd.fresh' (Kd.R_lt (rr_ HO315.out)) k_ hk)); (case aO => exact (by (with_reducible repeat (first | apply r1_ | apply r2_ | apply r3_)); exact Kd.R_mono HO_7.out (fun _ hk => hk.2))); (case aS => exact (below_size (bw_ HB.out))); (case aL => have := LMc29.out; omega); intro v317 w31 ho hb hg hat; rw [← Ny316.out] at ho; have n0_ := am_ (Kd.R_over' (rr_ HO_20.out) (Kd.R_typed (rr_ HO_7.out)) (by decide) hg); have n1_ := am_ (Kd.R_after (ok := (fun _ => True)) (rr_ HO315.out) hg hat); have n2_ := am_ (hb); have n3_ := am_ (ho); clear HO_20; clear HO315; clear HB; clear HO_7; have HO_20 := n0_; have HO315 := n1_; have HB := n2_; have HO318 := n3_; clear n0_ n1_ n2_ n3_; clear ho hb hg hat))
     go_ret2
     exact ⟨_, by first | rfl | (simp [errW_none, errW_some] <;> rfl) | (simp [*, errW_none, errW_some] <;> rfl), by (with_reducible repeat (first | apply r1_ | apply r2_ | apply r3_)); exact Kd.R_mono HO318.out (fun _ hk => trivial), bw_ HB.out⟩
 ·rw [if_neg c4] at H
  have c4b0 : (t298 == 0) = false := beq_eq_false_iff_ne.mpr c4
  have c4b1 : (t298 != 0) = true := bne_iff_ne.mpr c4
  simp only [Option.some.injEq, Prod.mk.injEq] at H
  obtain ⟨rfl, rfl⟩ := H
  go_enter Tryd.func28, Tryd.ntmps28
  go_wp2_with (first | ((with_reducible refine gate_callee (f := 53) rfl ?_); refine goesL_ (some 13) rfl rfl Tryd.func53 (by kernel_rfl) rfl #[.string a0, .slice A1 l1.length c1] rfl gl_ ?_; (with_reducible refine (Z29.calls k a0 _ _ l1 t298 _ ?side1 ?side2 ?side3 A3.out).mono ?_); (case side1 => exact cc_ HR1.out); (case side2 => exact HC1.out); (case side3 => exact Wd.below HGl.out (bw_ HB.out)); rintro e w33 ⟨rfl, hb⟩; refine ⟨_, rfl, ?_⟩; have n0_ := am_ (below_step (bw_ HB.out) hb); clear HB; have HB := n0_; clear n0_; (try clear hb); (try clear hb2); (try clear hk); (try clear hi)))
  go_ret2
  exact ⟨_, by first | rfl | (simp [errW_none, errW_some] <;> rfl) | (simp [*, errW_none, errW_some] <;> rfl), by first | exact Kd.R_nil _ _ _ _ _ | exact Kd.N_nil _ _ _ _ _ | exact Kd.V_nil _ _ _ _ _ | exact Kd.Q_nil _ _ _ _ _ | exact Kd.S_nil _ _ _ _ _, bw_ HB.out⟩
def Z32.okB (feeds : Bool) (c : UInt8) : Bool := !((decide ((c.toNat : Int) < 32) && !(feeds && decide ((c.toNat : Int) = 10))) || decide ((c.toNat : Int) = 127))
def Z32.wfB (s : ByteArray) (feeds : Bool) : Bool := s.data.toList.all (Z32.okB feeds) && Lib.validD s.data.toList
def Z32.f (a0 : ByteArray) (a1 : Bool) : Option (Bool) := if a0.size ≤ 140737488355328 then (some (Z32.wfB a0 a1)) else (none)
set_option maxHeartbeats 8000000 in
set_option maxRecDepth 100000 in
theorem Z32.calls (a0 : ByteArray) (a1 : Bool) (r : Bool) (w : World) (hGl : Wd w) (h : Z32.f a0 a1 = some r) :
    Calls Tryd.prog 88 #[.string a0, .bool a1] w fun e w' => e = .returned (.bool r) ∧ Below w.heap.size w w' := by
  unfold Z32.f at h
  by_cases hs : a0.size ≤ 140737488355328
  · rw [if_pos hs] at h
    obtain rfl := Option.some.inj h
    have hconv := fun (w : World) => Lib.run_convert_string_bytes (P := Tryd.prog) w 9 73 5 a0 Tryd.underlying9 Tryd.underlying73 Tryd.underlying5
    have HG := am_ hGl; clear h hGl
    have hs2 : a0.size ≤ 9223372036854775807 := by omega
    go_enter Tryd.func88, Tryd.ntmps88
    go_wp2
    have HB := am_ (BAt.start (e := 5) (Below.refl w.heap.size w) a0)
    have HW : Aside0 (Wd (Lib.bytesWorld w 5 a0)) := ⟨HG.out.below HB.out.1⟩
    clear hconv HG
    generalize Lib.bytesWorld w 5 a0 = w1 at *
    go_loop [10] (fun i => ∃ k : Nat, i = .int .i64 k ∧ Aside0 (k ≤ a0.size) ∧ Aside0 ((a0.data.toList.take k).all (Z32.okB a1) = true)) (fun i => a0.size - (intOf i).toNat)
    case atStart => exact ⟨0, rfl, ⟨Nat.zero_le _⟩, ⟨rfl⟩⟩
    case round =>
      obtain ⟨k, rfl, HK, HA⟩ := hrel
      by_cases hlt : k < a0.size
      · have hl : k < a0.data.toList.length := by rw [data_length]; exact hlt
        have hcell := HB.out.cell hl
        have htake : a0.data.toList.take (k + 1) = a0.data.toList.take k ++ [a0.data.toList[k]] := List.take_succ_eq_append_getElem hl
        have HT : Aside0 (a0.data.toList[k] ∈ a0.data.toList) := ⟨List.getElem_mem hl⟩
        generalize a0.data.toList[k] = c at *
        have hnext : Z32.okB a1 c = true → (a0.data.toList.take (k + 1)).all (Z32.okB a1) = true := fun hc => by
          rw [htake, List.all_append, HA.out]
          simp [hc]
        have hbad : Z32.okB a1 c = false → Z32.wfB a0 a1 = false := fun hc => by
          unfold Z32.wfB
          have : a0.data.toList.all (Z32.okB a1) = false := by
            rw [List.all_eq_false]
            exact ⟨c, HT.out, by rw [hc]; simp⟩
          rw [this]
          rfl
        have HN := am_ hnext; have HD := am_ hbad; clear hnext hbad htake HA HT
        have hwk : wrap64 ((k : Int) + 1) = ((k + 1 : Nat) : Int) := by unfold wrap64; omega
        have good : Z32.okB a1 c = true → True := fun _ => trivial
        by_cases h1 : (c.toNat : Int) < 32
        · have b1 : decide ((c.toNat : Int) < 32) = true := decide_eq_true h1
          have e127 : ¬ (c.toNat : Int) = 127 := by omega
          by_cases ha : a1 = true
          · subst ha
            by_cases h10 : (c.toNat : Int) = 10
            · have b2 : ((c.toNat : Int) == 10) = true := beq_iff_eq.mpr h10
              have b3 : ((c.toNat : Int) == 127) = false := beq_eq_false_iff_ne.mpr e127
              have hc : Z32.okB true c = true := by simp [Z32.okB, h10]
              have HN2 := am_ (HN.out hc)
              clear h1 e127 h10 hc HN HD good hwk
              go_wp2
              go_round
              case rel => exact ⟨k + 1, by go_num, ⟨by omega⟩, HN2⟩
              case measure => simp [intOf]; omega
            · have b2 : ((c.toNat : Int) == 10) = false := beq_eq_false_iff_ne.mpr h10
              have hc : Z32.okB true c = false := by simp [Z32.okB, h1, h10]
              have HD2 := am_ (HD.out hc)
              clear h1 e127 h10 hc HN HD good hwk
              go_wp2
              go_ret
              exact ⟨by rw [HD2.out]; rfl, HB.out.1⟩
          · have ha2 : a1 = false := by simpa using ha
            subst ha2
            have hc : Z32.okB false c = false := by simp [Z32.okB, h1]
            have HD2 := am_ (HD.out hc)
            clear h1 e127 hc HN HD good hwk ha
            go_wp2
            go_ret
            exact ⟨by rw [HD2.out]; rfl, HB.out.1⟩
        · have b1 : decide ((c.toNat : Int) < 32) = false := decide_eq_false h1
          by_cases h127 : (c.toNat : Int) = 127
          · have b3 : ((c.toNat : Int) == 127) = true := beq_iff_eq.mpr h127
            have hc : Z32.okB a1 c = false := by simp [Z32.okB, h127]
            have HD2 := am_ (HD.out hc)
            clear h1 h127 hc HN HD good hwk
            go_wp2
            go_ret
            exact ⟨by rw [HD2.out]; rfl, HB.out.1⟩
          · have b3 : ((c.toNat : Int) == 127) = false := beq_eq_false_iff_ne.mpr h127
            have hc : Z32.okB a1 c = true := by simp [Z32.okB, h1, h127]
            have HN2 := am_ (HN.out hc)
            clear h1 h127 hc HN HD good hwk
            go_wp2
            go_round
            case rel => exact ⟨k + 1, by go_num, ⟨by omega⟩, HN2⟩
            case measure => simp [intOf]; omega
      · obtain rfl : k = a0.size := by have := HK.out; omega
        have hall := HA.out
        rw [List.take_of_length_le (by rw [data_length]; exact Nat.le_refl _)] at hall
        have HA2 := am_ hall; clear hall HA HK
        go_wp2_with (go_at_call 42; refine (Any.utf8_ValidString Tryd.valid196 a0 _ hs2 HW.out.2).mono ?_; rintro e w' ⟨rfl, hb⟩)
        go_ret
        exact ⟨by unfold Z32.wfB; rw [HA2.out]; rfl, below_step HB.out.1 hb⟩
  · rw [if_neg hs] at h
    exact absurd h (by simp)
def Z52.f (a0 : ByteArray) : Option (Bool) := (Z32.f a0 true).bind fun t319 => (if t319 = true then (if a0.toList = ([] : List UInt8) then (some true) else ((Z46.f a0 (⟨#[10]⟩ : ByteArray)).bind fun t320 => (some t320))) else (some false))
set_option maxHeartbeats 8000000 in
set_option maxRecDepth 100000 in
theorem Z52.calls (a0 : ByteArray) (r : Bool) (w : World) (hGl : Wd w) (h : Z52.f a0 = some r) :
  Calls Tryd.prog 51 #[.string a0] w fun e w' => e = .returned (.bool r) ∧ Below w.heap.size w w' := by
 have HGl := am_ hGl; clear hGl
 have HB := am_ (Below.refl w.heap.size w)
 have H : ((Z32.f a0 true).bind fun t319 => (if t319 = true then (if a0.toList = ([] : List UInt8) then (some true) else ((Z46.f a0 (⟨#[10]⟩ : ByteArray)).bind fun t320 => (some t320))) else (some false))) = some r := h
 clear h; replace H := Option.bind_eq_some_iff.mp H; obtain ⟨t319, A20, H⟩ := H; have A2 := am_ A20; clear A20
 by_cases c3 : t319 = true
 ·subst c3
  have H1 : (if a0.toList = ([] : List UInt8) then (some true) else ((Z46.f a0 (⟨#[10]⟩ : ByteArray)).bind fun t320 => (some t320))) = some r := by rw [if_pos rfl] at H; exact H
  clear H
  have H := H1
  clear H1
  by_cases c4 : a0.toList = ([] : List UInt8)
  ·rw [if_pos c4] at H
   have c4b0 : (a0.toList == ([] : List UInt8)) = true := beq_iff_eq.mpr c4
   have c4b1 : (a0.toList != ([] : List UInt8)) = false := bne_eq_false_iff_eq.mpr c4
   clear c4
   obtain rfl := Option.some.inj H
   go_enter Tryd.func51, Tryd.ntmps51
   go_wp2_with (first | ((with_reducible refine gate_callee (f := 88) rfl ?_); refine goesL_ (some 4) rfl rfl Tryd.func88 (by kernel_rfl) rfl #[.string a0, .bool true] rfl gl_ ?_; (with_reducible refine (Z32.calls a0 true true _ ?side1 A2.out).mono ?_); (case side1 => exact Wd.below HGl.out (bw_ HB.out)); rintro e w5 ⟨rfl, hb⟩; refine ⟨_, rfl, ?_⟩; have n0_ := am_ (below_step (bw_ HB.out) hb); clear HB; have HB := n0_; clear n0_; (try clear hb); (try clear hb2); (try clear hk); (try clear hi)))
   go_ret
   exact ⟨by first | rfl | (simp [errW_none, errW_some] <;> rfl) | (simp [*, errW_none, errW_some] <;> rfl), bw_ HB.out⟩
  ·rw [if_neg c4] at H
   have c4b0 : (a0.toList == ([] : List UInt8)) = false := beq_eq_false_iff_ne.mpr c4
   have c4b1 : (a0.toList != ([] : List UInt8)) = true := bne_iff_ne.mpr c4
   replace H := Option.bind_eq_some_iff.mp H; obtain ⟨t320, A60, H⟩ := H
   replace H : (some t320) = some r := H
   have A6 := am_ A60; clear A60
   obtain rfl := Option.some.inj H
   go_enter Tryd.func51, Tryd.ntmps51
   go_wp2_with (first | ((with_reducible refine gate_callee (f := 88) rfl ?_); refine goesL_ (some 4) rfl rfl Tryd.func88 (by kernel_rfl) rfl #[.string a0, .bool true] rfl gl_ ?_; (with_reducible refine (Z32.calls a0 true true _ ?side1 A2.out).mono ?_); (case side1 => exact Wd.below HGl.out (bw_ HB.out)); rintro e w7 ⟨rfl, hb⟩; refine ⟨_, rfl, ?_⟩; have n0_ := am_ (below_step (bw_ HB.out) hb); clear HB; have HB := n0_; clear n0_; (try clear hb); (try clear hb2); (try clear hk); (try clear hi)) | (go_at_call 89; (with_reducible refine (Z46.calls a0 (⟨#[10]⟩ : ByteArray) t320 _ A6.out).mono ?_); rintro e w' ⟨rfl, ⟨nd, rfl⟩⟩))
   go_ret
   exact ⟨by first | rfl | (simp [errW_none, errW_some] <;> rfl) | (simp [*, errW_none, errW_some] <;> rfl), bw_ HB.out⟩
 ·replace c3 := Bool.eq_false_iff.mpr c3
  subst c3
  have H1 : (some false) = some r := by rw [if_neg (show ¬ (false = true) by decide)] at H; exact H
  clear H
  have H := H1
  clear H1
  obtain rfl := Option.some.inj H
  go_enter Tryd.func51, Tryd.ntmps51
  go_wp2_with (first | ((with_reducible refine gate_callee (f := 88) rfl ?_); refine goesL_ (some 4) rfl rfl Tryd.func88 (by kernel_rfl) rfl #[.string a0, .bool true] rfl gl_ ?_; (with_reducible refine (Z32.calls a0 true false _ ?side1 A2.out).mono ?_); (case side1 => exact Wd.below HGl.out (bw_ HB.out)); rintro e w8 ⟨rfl, hb⟩; refine ⟨_, rfl, ?_⟩; have n0_ := am_ (below_step (bw_ HB.out) hb); clear HB; have HB := n0_; clear n0_; (try clear hb); (try clear hb2); (try clear hk); (try clear hi)))
  go_ret
  exact ⟨by first | rfl | (simp [errW_none, errW_some] <;> rfl) | (simp [*, errW_none, errW_some] <;> rfl), bw_ HB.out⟩
def Z53.f (a0 : ByteArray) : Option (Int) := if (a0.size : Int) > 20000 then (some 2) else ((Z52.f a0).bind fun t321 => (if t321 = true then (some 0) else (some 3)))
set_option maxHeartbeats 8000000 in
set_option maxRecDepth 100000 in
theorem Z53.calls (a0 : ByteArray) (r : Int) (w : World) (hGl : Wd w) (h : Z53.f a0 = some r) :
  Calls Tryd.prog 16 #[.string a0] w fun e w' => e = .returned (.int .i64 r) ∧ Below w.heap.size w w' := by
 have HGl := am_ hGl; clear hGl
 have HB := am_ (Below.refl w.heap.size w)
 have H : (if (a0.size : Int) > 20000 then (some 2) else ((Z52.f a0).bind fun t321 => (if t321 = true then (some 0) else (some 3)))) = some r := h
 clear h
 by_cases c2 : (a0.size : Int) > 20000
 ·rw [if_pos c2] at H
  have c2b0 : decide (20000 < (a0.size : Int)) = true := decide_eq_true c2
  have c2b1 : decide (20000 < a0.size) = true := decide_eq_true (by omega)
  clear c2
  obtain rfl := Option.some.inj H
  go_enter Tryd.func16, Tryd.ntmps16
  go_wp2
  go_ret
  exact ⟨by first | rfl | (simp [errW_none, errW_some] <;> rfl) | (simp [*, errW_none, errW_some] <;> rfl), bw_ HB.out⟩
 ·rw [if_neg c2] at H
  have c2b0 : decide (20000 < (a0.size : Int)) = false := decide_eq_false c2
  have c2b1 : decide (20000 < a0.size) = false := decide_eq_false (by omega)
  clear c2; replace H := Option.bind_eq_some_iff.mp H; obtain ⟨t321, A30, H⟩ := H; have A3 := am_ A30; clear A30
  by_cases c4 : t321 = true
  ·subst c4
   have H1 : (some 0) = some r := by rw [if_pos rfl] at H; exact H
   clear H
   have H := H1
   clear H1
   obtain rfl := Option.some.inj H
   go_enter Tryd.func16, Tryd.ntmps16
   go_wp2_with (first | ((with_reducible refine gate_callee (f := 51) rfl ?_); refine goesL_ (some 7) rfl rfl Tryd.func51 (by kernel_rfl) rfl #[.string a0] rfl gl_ ?_; (with_reducible refine (Z52.calls a0 true _ ?side1 A3.out).mono ?_); (case side1 => exact Wd.below HGl.out (bw_ HB.out)); rintro e w5 ⟨rfl, hb⟩; refine ⟨_, rfl, ?_⟩; have n0_ := am_ (below_step (bw_ HB.out) hb); clear HB; have HB := n0_; clear n0_; (try clear hb); (try clear hb2); (try clear hk); (try clear hi)))
   go_ret
   exact ⟨by first | rfl | (simp [errW_none, errW_some] <;> rfl) | (simp [*, errW_none, errW_some] <;> rfl), bw_ HB.out⟩
  ·replace c4 := Bool.eq_false_iff.mpr c4
   subst c4
   have H1 : (some 3) = some r := by rw [if_neg (show ¬ (false = true) by decide)] at H; exact H
   clear H
   have H := H1
   clear H1
   obtain rfl := Option.some.inj H
   go_enter Tryd.func16, Tryd.ntmps16
   go_wp2_with (first | ((with_reducible refine gate_callee (f := 51) rfl ?_); refine goesL_ (some 7) rfl rfl Tryd.func51 (by kernel_rfl) rfl #[.string a0] rfl gl_ ?_; (with_reducible refine (Z52.calls a0 false _ ?side1 A3.out).mono ?_); (case side1 => exact Wd.below HGl.out (bw_ HB.out)); rintro e w6 ⟨rfl, hb⟩; refine ⟨_, rfl, ?_⟩; have n0_ := am_ (below_step (bw_ HB.out) hb); clear HB; have HB := n0_; clear n0_; (try clear hb); (try clear hb2); (try clear hk); (try clear hi)))
   go_ret
   exact ⟨by first | rfl | (simp [errW_none, errW_some] <;> rfl) | (simp [*, errW_none, errW_some] <;> rfl), bw_ HB.out⟩
mutual
def Z16.j0 : Nat → List (S46) → Int → Bool → Option (Int)
  | 0, _, _, _ => none
  | k + 1, x0, x1, x12 => if x12 = true then (some 1) else (if (x0.length : Int) > 1000 then (some 2) else (Z16.l0 k x0 x1 x0 (x0.length : Int) 0))
def Z16.l0 : Nat → List (S46) → Int → List (S46) → Int → Int → Option (Int)
  | 0, _, _, _, _, _ => none
  | k + 1, x0, x1, x16, x17, x18 => if x18 < x17 then (if 0 ≤ x18 then (if x18 < (x16.length : Int) then (if ((rd_T46 x16 x18).f0) < 0 then (Z16.j2 k x0 x1 x18 x16 x17 x18 true ((rd_T46 x16 x18).f0) ((rd_T46 x16 x18).f1)) else (if ((rd_T46 x16 x18).f0) ≥ ((rd_T46 x16 x18).f1) then (Z16.j2 k x0 x1 x18 x16 x17 x18 true ((rd_T46 x16 x18).f0) ((rd_T46 x16 x18).f1)) else (Z16.j2 k x0 x1 x18 x16 x17 x18 (decide (((rd_T46 x16 x18).f1) > x1)) ((rd_T46 x16 x18).f0) ((rd_T46 x16 x18).f1)))) else (none)) else (none)) else (some 0)
def Z16.j2 : Nat → List (S46) → Int → Int → List (S46) → Int → Int → Bool → Int → Int → Option (Int)
  | 0, _, _, _, _, _, _, _, _, _ => none
  | k + 1, x0, x1, x5, x16, x17, x18, x38, x324000, x324001 => if x38 = true then (some 1) else (if x5 > 0 then (if 0 ≤ (wrap64 (x5 - 1)) then (if (wrap64 (x5 - 1)) < (x0.length : Int) then (if x324000 ≤ ((rd_T46 x0 (wrap64 (x5 - 1))).f1) then (some 7) else (Z16.l0 k x0 x1 x16 x17 (wrap64 (x18 + 1)))) else (none)) else (none)) else (Z16.l0 k x0 x1 x16 x17 (wrap64 (x18 + 1))))
end
def Z16.f (k : Nat) (l0 : List (S46)) (a1 : Int) : Option (Int) := if a1 < 0 then (Z16.j0 k l0 a1 true) else (Z16.j0 k l0 a1 (decide (a1 > 200000)))
theorem Z16.mono_l : ∀ k, (∀ y0 y1 y2, LeO (Z16.j0 k y0 y1 y2) (Z16.j0 (k + 1) y0 y1 y2)) ∧ (∀ y0 y1 y2 y3 y4, LeO (Z16.l0 k y0 y1 y2 y3 y4) (Z16.l0 (k + 1) y0 y1 y2 y3 y4)) ∧ (∀ y0 y1 y2 y3 y4 y5 y6 y7 y8, LeO (Z16.j2 k y0 y1 y2 y3 y4 y5 y6 y7 y8) (Z16.j2 (k + 1) y0 y1 y2 y3 y4 y5 y6 y7 y8))
  | 0 => ⟨fun _ _ _ r h => by simp [Z16.j0] at h, fun _ _ _ _ _ r h => by simp [Z16.l0] at h, fun _ _ _ _ _ _ _ _ _ r h => by simp [Z16.j2] at h⟩
  | k + 1 => by
    obtain ⟨ih0, ih1, ih2⟩ := Z16.mono_l k
    refine ⟨?_, ?_, ?_⟩
    · intro y0 y1 y2
      unfold Z16.j0
      repeat' first
      | (with_reducible exact ih0 _ _ _)
      | (with_reducible exact ih1 _ _ _ _ _)
      | (with_reducible exact ih2 _ _ _ _ _ _ _ _ _)
      | (with_reducible exact LeO.refl _)
      | (with_reducible exact LeO.none _)
      | (with_reducible refine LeO.ite ?_ ?_)
      | (with_reducible refine LeO.bind ?_ (fun _ => ?_))
      | exact ih0 _ _ _
      | exact ih1 _ _ _ _ _
      | exact ih2 _ _ _ _ _ _ _ _ _
      | exact LeO.none _
      | refine LeO.ite ?_ ?_
      | refine LeO.bind ?_ (fun _ => ?_)
    · intro y0 y1 y2 y3 y4
      unfold Z16.l0
      repeat' first
      | (with_reducible exact ih0 _ _ _)
      | (with_reducible exact ih1 _ _ _ _ _)
      | (with_reducible exact ih2 _ _ _ _ _ _ _ _ _)
      | (with_reducible exact LeO.refl _)
      | (with_reducible exact LeO.none _)
      | (with_reducible refine LeO.ite ?_ ?_)
      | (with_reducible refine LeO.bind ?_ (fun _ => ?_))
      | exact ih0 _ _ _
      | exact ih1 _ _ _ _ _
      | exact ih2 _ _ _ _ _ _ _ _ _
      | exact LeO.none _
      | refine LeO.ite ?_ ?_
      | refine LeO.bind ?_ (fun _ => ?_)
    · intro y0 y1 y2 y3 y4 y5 y6 y7 y8
      unfold Z16.j2
      repeat' first
      | (with_reducible exact ih0 _ _ _)
      | (with_reducible exact ih1 _ _ _ _ _)
      | (with_reducible exact ih2 _ _ _ _ _ _ _ _ _)
      | (with_reducible exact LeO.refl _)
      | (with_reducible exact LeO.none _)
      | (with_reducible refine LeO.ite ?_ ?_)
      | (with_reducible refine LeO.bind ?_ (fun _ => ?_))
      | exact ih0 _ _ _
      | exact ih1 _ _ _ _ _
      | exact ih2 _ _ _ _ _ _ _ _ _
      | exact LeO.none _
      | refine LeO.ite ?_ ?_
      | refine LeO.bind ?_ (fun _ => ?_)
theorem Z16.mono : ∀ a0 a1 k, LeO (Z16.f k a0 a1) (Z16.f (k + 1) a0 a1) := by
  intro a0 a1 k
  obtain ⟨ih0, ih1, ih2⟩ := Z16.mono_l k
  unfold Z16.f
  repeat' first
      | (with_reducible exact ih0 _ _ _)
      | (with_reducible exact ih1 _ _ _ _ _)
      | (with_reducible exact ih2 _ _ _ _ _ _ _ _ _)
      | (with_reducible exact LeO.refl _)
      | (with_reducible exact LeO.none _)
      | (with_reducible refine LeO.ite ?_ ?_)
      | (with_reducible refine LeO.bind ?_ (fun _ => ?_))
      | exact ih0 _ _ _
      | exact ih1 _ _ _ _ _
      | exact ih2 _ _ _ _ _ _ _ _ _
      | exact LeO.none _
      | refine LeO.ite ?_ ?_
      | refine LeO.bind ?_ (fun _ => ?_)
set_option maxHeartbeats 8000000 in
set_option maxRecDepth 100000 in
theorem Z16.calls (k : Nat) (A0 : Option Addr) (c0 : Nat) (l0 : List (S46)) (a1 : Int) (r : Int) (w : World) (hr0 : Kd.C k46 w A0 l0.length l0) (hc0 : l0.length ≤ c0) (h : Z16.f k l0 a1 = some r) :
  Calls Tryd.prog 64 #[.slice A0 l0.length c0, .int .i64 a1] w fun e w' => e = .returned (.int .i64 r) ∧ Below w.heap.size w w' := by
 have hu46 := Tryd.underlying46
 have HR0 := am_ hr0; have HC0 := am_ hc0; clear hr0 hc0
 have HB := am_ (Below.refl w.heap.size w)
 have H : (if a1 < 0 then (Z16.j0 k l0 a1 true) else (Z16.j0 k l0 a1 (decide (a1 > 200000)))) = some r := h
 clear h; have HC3 := am_ H; clear H
 go_enter Tryd.func64, Tryd.ntmps64
 go_upto_region 1 with (fail)
 repeat (go_quiet (fail); go_upto_region 1 with (fail))
 go_cut [12] (fun v12 wc => ∃ (kq : Nat) (x12_2 : Bool), v12 = .bool x12_2 ∧ Aside0 (Z16.j0 kq l0 a1 x12_2 = some r) ∧ Aside0 (kq ≤ k) ∧ Aside0 (Below w.heap.size w wc))
 case first =>
  have H := HC3.out
  clear HC3
  by_cases c4 : a1 < 0
  ·rw [if_pos c4] at H
   have c4b0 := decide_eq_true c4; clear c4
   (first | rw [c4b0] | (simp only [i64_w, i32_w]; rw [c4b0]) | skip)
   have H' := am_ H
   clear H
   go_wp2
   repeat (go_quiet (fail); try go_wp2)
   go_meet
   case rel => exact ⟨_, (true), tr_, H', ⟨by first | omega | exact Nat.le_refl _⟩, ⟨bw_ HB.out⟩⟩
  ·rw [if_neg c4] at H
   have c4b0 : decide (a1 < 0) = false := decide_eq_false c4
   clear c4
   (first | rw [c4b0] | (simp only [i64_w, i32_w]; rw [c4b0]) | skip)
   have H' := am_ H
   clear H
   go_wp2
   repeat (go_quiet (fail); try go_wp2)
   go_meet
   case rel => exact ⟨_, (decide (a1 > 200000)), tr_, H', ⟨by first | omega | exact Nat.le_refl _⟩, ⟨bw_ HB.out⟩⟩
 case rest =>
  clear HC3; (try clear p2); (try clear c4); (try clear c4b0); obtain ⟨kq, x12_2, rfl, HA, HJ2, HB⟩ := hcut
  cases kq with
  | zero => exact absurd HA.out (by simp [Z16.j0])
  | succ kj2 =>
   have H := HA.out
   clear HA
   simp only [Z16.j0] at H
   by_cases c5 : x12_2 = true
   ·subst c5
    have H1 : (some 1) = some r := by rw [if_pos rfl] at H; exact H
    clear H
    have H := H1
    clear H1
    obtain rfl := Option.some.inj H
    go_wp2
    repeat (go_quiet (fail); try go_wp2)
    go_ret
    exact ⟨by first | rfl | (simp [errW_none, errW_some] <;> rfl) | (simp [*, errW_none, errW_some] <;> rfl), bw_ HB.out⟩
   ·replace c5 := Bool.eq_false_iff.mpr c5
    subst c5
    have H1 : (if (l0.length : Int) > 1000 then (some 2) else (Z16.l0 kj2 l0 a1 l0 (l0.length : Int) 0)) = some r := by rw [if_neg (show ¬ (false = true) by decide)] at H; exact H
    clear H
    have H := H1
    clear H1
    by_cases c6 : (l0.length : Int) > 1000
    ·rw [if_pos c6] at H
     have c6b0 : decide (1000 < (l0.length : Int)) = true := decide_eq_true c6
     have c6b1 : decide (1000 < l0.length) = true := decide_eq_true (by omega)
     clear c6
     obtain rfl := Option.some.inj H
     go_wp2
     repeat (go_quiet (fail); try go_wp2)
     go_ret
     exact ⟨by first | rfl | (simp [errW_none, errW_some] <;> rfl) | (simp [*, errW_none, errW_some] <;> rfl), bw_ HB.out⟩
    ·rw [if_neg c6] at H
     have c6b0 : decide (1000 < (l0.length : Int)) = false := decide_eq_false c6
     have c6b1 : decide (1000 < l0.length) = false := decide_eq_false (by omega)
     clear c6
     have H' := am_ H
     clear H
     go_wp2
     repeat (go_quiet (fail); try go_wp2)
     go_loopg [18] kj2 (fun kq v18 w' => ∃ (x18_2 : Int), v18 = .int .i64 x18_2 ∧ Aside0 (Z16.l0 kq l0 a1 l0 (l0.length : Int) x18_2 = some r) ∧ Aside0 (kq ≤ kj2) ∧ Aside0 (Below w.heap.size w w'))
     case atStart => exact ⟨(0), tr_, H', ⟨Nat.le_refl _⟩, ⟨bw_ HB.out⟩⟩
     case round =>
      clear H'; (try clear p2); (try clear c4); (try clear c4b0); (try clear c5); (try clear c6); (try clear c6b0); (try clear c6b1); (try clear p2); obtain ⟨x18_2, rfl, HA, HK2, HB⟩ := hrel
      cases gk with
      | zero => exact absurd HA.out (by simp [Z16.l0])
      | succ k2 =>
       have H := HA.out
       clear HA
       simp only [Z16.l0] at H
       by_cases c7 : x18_2 < (l0.length : Int)
       ·rw [if_pos c7] at H
        have c7b0 := decide_eq_true c7; clear c7
        by_cases c8 : 0 ≤ x18_2
        case neg => exact (nn_ c8 H).elim
        rw [if_pos c8] at H; have c8b0 := decide_eq_true c8; clear c8
        by_cases c9 : x18_2 < (l0.length : Int)
        case neg => exact (nn_ c9 H).elim
        rw [if_pos c9] at H; have c9b0 := decide_eq_true c9; clear c9; have HC10 := am_ H; clear H; have p322 : 0 ≤ (x18_2 : Int) := ode_; have q322 : x18_2 < (l0.length : Int) := ode_
        obtain ⟨ad322, e322, hx322_0, hx322_1⟩ := at_T46 HR0.out x18_2 p322 q322
        cases e322
        first | replace hx322_0 := (HB.out.cell (World.block_lt_of_cell? w _ hx322_0)).trans hx322_0 | skip
        first | replace hx322_1 := (HB.out.cell (World.block_lt_of_cell? w _ hx322_1)).trans hx322_1 | skip
        replace p322 := eq_true p322; replace q322 := eq_true q322
        go_upto_region 8 with (first | ((with_reducible refine gate_dst (N := 6) rfl ?_); refine box_event ?hg (N := 6) ?hd (cs := #[.int .i64 0, .int .i64 0]) (t := 46) ?hr ?_; (case hd => rfl); (case hg => rfl); (case hr => first | (go_simp; done) | (go_simp; rfl)); intro gb323 hg w11 hbox hb; have n0_ := am_ (below_step (bw_ HB.out) hb); have n1_ := am_ (hbox); have n2_ := am_ ((by rw [hg]; exact (below_size (bw_ HB.out)) : w.heap.size ≤ gb323)); have n3_ := am_ ((by rw [hg]; exact (below_size (bw_ HB.out)) : w.heap.size ≤ gb323)); clear HB; have HB := n0_; have BK323 := n1_; have GW323 := n2_; have GE323 := n3_; clear n0_ n1_ n2_ n3_; clear hb hbox hg; have hcz12_0 : w11.cell? ⟨gb323, 0, none⟩ = some (.int .i64 0) := (blk_cell BK323.out 0).trans rfl; have hcz12_1 : w11.cell? ⟨gb323, 1, none⟩ = some (.int .i64 0) := (blk_cell BK323.out 1).trans rfl; have hfz12_0 := blk_frozen BK323.out 0; have hfz12_1 := blk_frozen BK323.out 1))
        repeat (go_quiet (first | ((with_reducible refine gate_dst (N := 6) rfl ?_); refine box_event ?hg (N := 6) ?hd (cs := #[.int .i64 0, .int .i64 0]) (t := 46) ?hr ?_; (case hd => rfl); (case hg => rfl); (case hr => first | (go_simp; done) | (go_simp; rfl)); intro gb323 hg w11 hbox hb; have n0_ := am_ (below_step (bw_ HB.out) hb); have n1_ := am_ (hbox); have n2_ := am_ ((by rw [hg]; exact (below_size (bw_ HB.out)) : w.heap.size ≤ gb323)); have n3_ := am_ ((by rw [hg]; exact (below_size (bw_ HB.out)) : w.heap.size ≤ gb323)); clear HB; have HB := n0_; have BK323 := n1_; have GW323 := n2_; have GE323 := n3_; clear n0_ n1_ n2_ n3_; clear hb hbox hg; have hcz12_0 : w11.cell? ⟨gb323, 0, none⟩ = some (.int .i64 0) := (blk_cell BK323.out 0).trans rfl; have hcz12_1 : w11.cell? ⟨gb323, 1, none⟩ = some (.int .i64 0) := (blk_cell BK323.out 1).trans rfl; have hfz12_0 := blk_frozen BK323.out 0; have hfz12_1 := blk_frozen BK323.out 1)); go_upto_region 8 with (first | ((with_reducible refine gate_dst (N := 6) rfl ?_); refine box_event ?hg (N := 6) ?hd (cs := #[.int .i64 0, .int .i64 0]) (t := 46) ?hr ?_; (case hd => rfl); (case hg => rfl); (case hr => first | (go_simp; done) | (go_simp; rfl)); intro gb323 hg w11 hbox hb; have n0_ := am_ (below_step (bw_ HB.out) hb); have n1_ := am_ (hbox); have n2_ := am_ ((by rw [hg]; exact (below_size (bw_ HB.out)) : w.heap.size ≤ gb323)); have n3_ := am_ ((by rw [hg]; exact (below_size (bw_ HB.out)) : w.heap.size ≤ gb323)); clear HB; have HB := n0_; have BK323 := n1_; have GW323 := n2_; have GE323 := n3_; clear n0_ n1_ n2_ n3_; clear hb hbox hg; have hcz12_0 : w11.cell? ⟨gb323, 0, none⟩ = some (.int .i64 0) := (blk_cell BK323.out 0).trans rfl; have hcz12_1 : w11.cell? ⟨gb323, 1, none⟩ = some (.int .i64 0) := (blk_cell BK323.out 1).trans rfl; have hfz12_0 := blk_frozen BK323.out 0; have hfz12_1 := blk_frozen BK323.out 1)))
        (try simp only [Act.put, s_t, s_z, s_s])
        go_cut [38] (fun v38 wc => ∃ (kq : Nat) (x38_9 : Bool), v38 = .bool x38_9 ∧ Aside0 (Z16.j2 kq l0 a1 x18_2 l0 (l0.length : Int) x18_2 x38_9 ((rd_T46 l0 x18_2).f0) ((rd_T46 l0 x18_2).f1) = some r) ∧ Aside0 (kq ≤ k2) ∧ Aside0 (wc.heap[gb323]? = some (.cells #[.int .i64 ((rd_T46 l0 x18_2).f0), .int .i64 ((rd_T46 l0 x18_2).f1)] 46 (0, 0))) ∧ Aside0 (Below w.heap.size w wc))
        case first =>
         have H := HC10.out
         clear HC10
         by_cases c13 : ((rd_T46 l0 x18_2).f0) < 0
         ·rw [if_pos c13] at H
          have c13b0 := decide_eq_true c13; clear c13
          (first | rw [c13b0] | (simp only [i64_w, i32_w]; rw [c13b0]) | skip)
          have H' := am_ H
          clear H
          have hcz14_0 : w11.cell? ⟨gb323, 0, none⟩ = some (.int .i64 0) := (blk_cell BK323.out 0).trans rfl
          have hcz14_1 : w11.cell? ⟨gb323, 1, none⟩ = some (.int .i64 0) := (blk_cell BK323.out 1).trans rfl
          have hfz14_0 := blk_frozen BK323.out 0
          have hfz14_1 := blk_frozen BK323.out 1
          go_wp2
          repeat (go_quiet (fail); try go_wp2)
          go_meet
          case rel => exact ⟨_, (true), tr_, H', ⟨by have := HJ2.out; have := HK2.out; first | omega | exact Nat.le_refl _⟩, ⟨by (with_reducible repeat (first | refine blk_drewN ?_ _ | refine blk_drew ?_ | refine blk_alloc ?_ _)); refine blk_put (cs := #[.int .i64 ((rd_T46 l0 x18_2).f0), .int .i64 0]) ?_ 1 _ rfl; (with_reducible repeat (first | refine blk_drewN ?_ _ | refine blk_drew ?_ | refine blk_alloc ?_ _)); refine blk_put (cs := #[.int .i64 0, .int .i64 0]) ?_ 0 _ rfl; (with_reducible repeat (first | refine blk_drewN ?_ _ | refine blk_drew ?_ | refine blk_alloc ?_ _)); exact BK323.out⟩, ⟨bs_ HB.out GE323.out⟩⟩
         ·rw [if_neg c13] at H
          have c13b0 : decide (((rd_T46 l0 x18_2).f0) < 0) = false := decide_eq_false c13
          clear c13
          (first | rw [c13b0] | (simp only [i64_w, i32_w]; rw [c13b0]) | skip)
          by_cases c15 : ((rd_T46 l0 x18_2).f0) ≥ ((rd_T46 l0 x18_2).f1)
          ·rw [if_pos c15] at H
           have c15b0 : decide (((rd_T46 l0 x18_2).f1) ≤ ((rd_T46 l0 x18_2).f0)) = true := decide_eq_true c15
           clear c15
           have H' := am_ H
           clear H
           have hcz16_0 : w11.cell? ⟨gb323, 0, none⟩ = some (.int .i64 0) := (blk_cell BK323.out 0).trans rfl
           have hcz16_1 : w11.cell? ⟨gb323, 1, none⟩ = some (.int .i64 0) := (blk_cell BK323.out 1).trans rfl
           have hfz16_0 := blk_frozen BK323.out 0
           have hfz16_1 := blk_frozen BK323.out 1
           go_wp2
           repeat (go_quiet (fail); try go_wp2)
           go_meet
           case rel => exact ⟨_, (true), tr_, H', ⟨by have := HJ2.out; have := HK2.out; first | omega | exact Nat.le_refl _⟩, ⟨by (with_reducible repeat (first | refine blk_drewN ?_ _ | refine blk_drew ?_ | refine blk_alloc ?_ _)); refine blk_put (cs := #[.int .i64 ((rd_T46 l0 x18_2).f0), .int .i64 0]) ?_ 1 _ rfl; (with_reducible repeat (first | refine blk_drewN ?_ _ | refine blk_drew ?_ | refine blk_alloc ?_ _)); refine blk_put (cs := #[.int .i64 0, .int .i64 0]) ?_ 0 _ rfl; (with_reducible repeat (first | refine blk_drewN ?_ _ | refine blk_drew ?_ | refine blk_alloc ?_ _)); exact BK323.out⟩, ⟨bs_ HB.out GE323.out⟩⟩
          ·rw [if_neg c15] at H
           have c15b0 : decide (((rd_T46 l0 x18_2).f1) ≤ ((rd_T46 l0 x18_2).f0)) = false := decide_eq_false c15
           clear c15
           have H' := am_ H
           clear H
           have hcz17_0 : w11.cell? ⟨gb323, 0, none⟩ = some (.int .i64 0) := (blk_cell BK323.out 0).trans rfl
           have hcz17_1 : w11.cell? ⟨gb323, 1, none⟩ = some (.int .i64 0) := (blk_cell BK323.out 1).trans rfl
           have hfz17_0 := blk_frozen BK323.out 0
           have hfz17_1 := blk_frozen BK323.out 1
           go_wp2
           repeat (go_quiet (fail); try go_wp2)
           go_meet
           case rel => exact ⟨_, (decide (((rd_T46 l0 x18_2).f1) > a1)), tr_, H', ⟨by have := HJ2.out; have := HK2.out; first | omega | exact Nat.le_refl _⟩, ⟨by (with_reducible repeat (first | refine blk_drewN ?_ _ | refine blk_drew ?_ | refine blk_alloc ?_ _)); refine blk_put (cs := #[.int .i64 ((rd_T46 l0 x18_2).f0), .int .i64 0]) ?_ 1 _ rfl; (with_reducible repeat (first | refine blk_drewN ?_ _ | refine blk_drew ?_ | refine blk_alloc ?_ _)); refine blk_put (cs := #[.int .i64 0, .int .i64 0]) ?_ 0 _ rfl; (with_reducible repeat (first | refine blk_drewN ?_ _ | refine blk_drew ?_ | refine blk_alloc ?_ _)); exact BK323.out⟩, ⟨bs_ HB.out GE323.out⟩⟩
        case rest =>
         clear HC10; (try clear c1); (try clear p2); (try clear p3); (try clear q3); (try clear hx3); (try clear c4); (try clear c4b0); (try clear c5); (try clear c6); (try clear c6b0); (try clear c6b1); (try clear c7); (try clear c7b0); (try clear c8); (try clear c8b0); (try clear c9); (try clear c9b0); (try clear c13); (try clear c13b0); (try clear c15); (try clear c15b0); (try clear hcz12_0); (try clear hcz12_1); (try clear hcz14_0); (try clear hcz14_1); (try clear hcz16_0); (try clear hcz16_1); (try clear hcz17_0); (try clear hcz17_1); (try clear hfz12_0); (try clear hfz12_1); (try clear hfz14_0); (try clear hfz14_1); (try clear hfz16_0); (try clear hfz16_1); (try clear hfz17_0); (try clear hfz17_1); (try clear hx322_0); (try clear hx322_1); (try clear p2); (try clear p322); (try clear q322); obtain ⟨kq, x38_9, rfl, HA, HJ9, BK323, HB⟩ := hcut
         cases kq with
         | zero => exact absurd HA.out (by simp [Z16.j2])
         | succ kj9 =>
          have H := HA.out
          clear HA
          simp only [Z16.j2] at H
          by_cases c18 : x38_9 = true
          ·subst c18
           have H1 : (some 1) = some r := by rw [if_pos rfl] at H; exact H
           clear H
           have H := H1
           clear H1
           obtain rfl := Option.some.inj H
           go_wp2
           repeat (go_quiet (fail); try go_wp2)
           go_ret
           exact ⟨by first | rfl | (simp [errW_none, errW_some] <;> rfl) | (simp [*, errW_none, errW_some] <;> rfl), bs_ HB.out GE323.out⟩
          ·replace c18 := Bool.eq_false_iff.mpr c18
           subst c18
           have H1 : (if x18_2 > 0 then (if 0 ≤ (wrap64 (x18_2 - 1)) then (if (wrap64 (x18_2 - 1)) < (l0.length : Int) then (if ((rd_T46 l0 x18_2).f0) ≤ ((rd_T46 l0 (wrap64 (x18_2 - 1))).f1) then (some 7) else (Z16.l0 kj9 l0 a1 l0 (l0.length : Int) (wrap64 (x18_2 + 1)))) else (none)) else (none)) else (Z16.l0 kj9 l0 a1 l0 (l0.length : Int) (wrap64 (x18_2 + 1)))) = some r := by rw [if_neg (show ¬ (false = true) by decide)] at H; exact H
           clear H
           have H := H1
           clear H1
           by_cases c19 : x18_2 > 0
           ·rw [if_pos c19] at H
            have c19b0 : decide (0 < x18_2) = true := decide_eq_true c19
            clear c19
            obtain ⟨ji20, hji20⟩ : ∃ j_ : Int, (wrap64 (x18_2 - 1)) = j_ := ⟨_, rfl⟩
            replace H : (if 0 ≤ (ji20) then (if (ji20) < (l0.length : Int) then (if ((rd_T46 l0 x18_2).f0) ≤ ((rd_T46 l0 (ji20)).f1) then (some 7) else (Z16.l0 kj9 l0 a1 l0 (l0.length : Int) (wrap64 (x18_2 + 1)))) else (none)) else (none)) = some r := by first | (rw [hji20] at H; exact H) | (simp only [hji20] at H ⊢; exact H)
            have hji20w : (IntKind.i64.wrap (x18_2 - 1)) = ji20 := (i64_w _).trans hji20
            by_cases c21 : 0 ≤ (ji20)
            case neg => exact (nn_ c21 H).elim
            rw [if_pos c21] at H; have c21b0 := decide_eq_true c21; clear c21
            by_cases c22 : (ji20) < (l0.length : Int)
            case neg => exact (nn_ c22 H).elim
            rw [if_pos c22] at H; have c22b0 := decide_eq_true c22; clear c22
            by_cases c23 : ((rd_T46 l0 x18_2).f0) ≤ ((rd_T46 l0 (ji20)).f1)
            ·rw [if_pos c23] at H
             have c23b0 := decide_eq_true c23; clear c23
             obtain rfl := Option.some.inj H
             have hcz24_0 : wc.cell? ⟨gb323, 0, none⟩ = some (.int .i64 ((rd_T46 l0 x18_2).f0)) := (blk_cell BK323.out 0).trans rfl
             have hcz24_1 : wc.cell? ⟨gb323, 1, none⟩ = some (.int .i64 ((rd_T46 l0 x18_2).f1)) := (blk_cell BK323.out 1).trans rfl
             have hfz24_0 := blk_frozen BK323.out 0
             have hfz24_1 := blk_frozen BK323.out 1
             have p324 : 0 ≤ ((ji20) : Int) := ode_; have q324 : (ji20) < (l0.length : Int) := ode_
             obtain ⟨ad324, e324, hx324_0, hx324_1⟩ := at_T46 HR0.out (ji20) p324 q324
             obtain rfl : ad322 = ad324 := (by injection e324)
             first | replace hx324_0 := (HB.out.cell (World.block_lt_of_cell? w _ hx324_0)).trans hx324_0 | skip
             first | replace hx324_1 := (HB.out.cell (World.block_lt_of_cell? w _ hx324_1)).trans hx324_1 | skip
             replace p324 := eq_true p324; replace q324 := eq_true q324
             go_wp2
             repeat (go_quiet (fail); try go_wp2)
             go_ret
             exact ⟨by first | rfl | (simp [errW_none, errW_some] <;> rfl) | (simp only [← hji20]; first | rfl | (simp [errW_none, errW_some] <;> rfl)) | (simp [*, errW_none, errW_some] <;> rfl), bs_ HB.out GE323.out⟩
            ·rw [if_neg c23] at H
             have c23b0 : decide (((rd_T46 l0 x18_2).f0) ≤ ((rd_T46 l0 (ji20)).f1)) = false := decide_eq_false c23
             clear c23
             have H' := am_ H
             clear H
             have hcz25_0 : wc.cell? ⟨gb323, 0, none⟩ = some (.int .i64 ((rd_T46 l0 x18_2).f0)) := (blk_cell BK323.out 0).trans rfl
             have hcz25_1 : wc.cell? ⟨gb323, 1, none⟩ = some (.int .i64 ((rd_T46 l0 x18_2).f1)) := (blk_cell BK323.out 1).trans rfl
             have hfz25_0 := blk_frozen BK323.out 0
             have hfz25_1 := blk_frozen BK323.out 1
             have p324 : 0 ≤ ((ji20) : Int) := ode_; have q324 : (ji20) < (l0.length : Int) := ode_
             obtain ⟨ad324, e324, hx324_0, hx324_1⟩ := at_T46 HR0.out (ji20) p324 q324
             obtain rfl : ad322 = ad324 := (by injection e324)
             first | replace hx324_0 := (HB.out.cell (World.block_lt_of_cell? w _ hx324_0)).trans hx324_0 | skip
             first | replace hx324_1 := (HB.out.cell (World.block_lt_of_cell? w _ hx324_1)).trans hx324_1 | skip
             replace p324 := eq_true p324; replace q324 := eq_true q324
             go_wp2
             repeat (go_quiet (fail); try go_wp2)
             go_roundg kj9
             case measure => have := HJ2.out; have := HK2.out; have := HJ9.out; omega
             case rel => exact ⟨(wrap64 (x18_2 + 1)), tr_, H', ⟨by have := HJ2.out; have := HK2.out; have := HJ9.out; omega⟩, ⟨bs_ HB.out GE323.out⟩⟩
           ·rw [if_neg c19] at H
            have c19b0 : decide (0 < x18_2) = false := decide_eq_false c19
            clear c19
            have H' := am_ H
            clear H
            go_wp2
            repeat (go_quiet (fail); try go_wp2)
            go_roundg kj9
            case measure => have := HJ2.out; have := HK2.out; have := HJ9.out; omega
            case rel => exact ⟨(wrap64 (x18_2 + 1)), tr_, H', ⟨by have := HJ2.out; have := HK2.out; have := HJ9.out; omega⟩, ⟨bs_ HB.out GE323.out⟩⟩
       ·rw [if_neg c7] at H
        have c7b0 : decide (x18_2 < (l0.length : Int)) = false := decide_eq_false c7
        clear c7
        obtain rfl := Option.some.inj H
        go_wp2
        repeat (go_quiet (fail); try go_wp2)
        go_ret
        exact ⟨by first | rfl | (simp [errW_none, errW_some] <;> rfl) | (simp [*, errW_none, errW_some] <;> rfl), bw_ HB.out⟩
def Z39.f (k : Nat) (a0 : ByteArray) (l1 : List (S46)) : Option (Int) := (Z53.f a0).bind fun t325 => (if t325 = 0 then ((Z16.f k l1 (a0.size : Int)).bind fun t326 => (some t326)) else (some t325))
theorem Z39.mono : ∀ a0 a1 k, LeO (Z39.f k a0 a1) (Z39.f (k + 1) a0 a1) := by
  intro a0 a1 k
  unfold Z39.f
  repeat' first
      | (with_reducible exact Z16.mono _ _ _)
      | (with_reducible exact LeO.refl _)
      | (with_reducible exact LeO.none _)
      | (with_reducible refine LeO.ite ?_ ?_)
      | (with_reducible refine LeO.bind ?_ (fun _ => ?_))
      | exact LeO.none _
      | refine LeO.ite ?_ ?_
      | refine LeO.bind ?_ (fun _ => ?_)
end Go.Proofs.YtolcpmdojlbhcaaDoor.Px
