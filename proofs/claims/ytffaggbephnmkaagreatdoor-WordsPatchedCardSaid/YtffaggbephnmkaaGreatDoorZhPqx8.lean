/- A part of the proof of wordsPatched. No conditions. Laid by program over the kit's print and words. -/
import Derived.Test.YtffaggbephnmkaaGreatDoorZhPqx0
import Derived.Test.YtffaggbephnmkaaGreatDoorZhPqx1
import Derived.Test.YtffaggbephnmkaaGreatDoorZhPqx7
namespace Go.Proofs.YtffaggbephnmkaaGreatDoor.Pq
open Go.RowKit Go.Proofs.YtffaggbephnmkaaGreatDoor.GBase Go.Proofs.YtffaggbephnmkaaGreatDoorW.PrintWords Go.Proofs.YtffaggbephnmkaaGreatDoorW.PrintLast Go.Proofs.YtffaggbephnmkaaGreatDoorW.PrintMore
attribute [local go_sem] str_leq max2_int min2_int max_two min_two max_three min_three max_four min_four
set_option linter.unusedVariables false
set_option linter.unusedSimpArgs false
def Z7.l0 : Nat → List (S70) → Int → List (S70) → Int → Int → Option ((List (S70)) × Int)
  | 0, _, _, _, _, _ => none
  | k + 1, x8, x9, x21, x22, x23 => if x23 < x22 then (if 0 ≤ x23 then (if x23 < (x21.length : Int) then ((Z14.f ((rd_T70 x21 x23).f2)).bind fun t331 => ((Z14.f ((rd_T70 x21 x23).f1)).bind fun t334 => (if x8.length < 2513169434916 then (Z7.l0 k (x8 ++ [(⟨wrap64 (((rd_T70 x21 x23).f0) + x9), t331, t334⟩ : S70)]) (wrap64 (x9 + (wrap64 ((((rd_T70 x21 x23).f2).length : Int) - (((rd_T70 x21 x23).f1).length : Int))))) x21 x22 (wrap64 (x23 + 1))) else (none)))) else (none)) else (none)) else (some (x8, 0))
def Z7.f (k : Nat) (a0 : ByteArray) (l1 : List (S70)) : Option ((List (S70)) × Int) := (Z5.f k a0 l1).bind fun bt325 => (if bt325.2 = 0 then (Z7.l0 k ([] : List (S70)) 0 l1 (l1.length : Int) 0) else (some (([] : List (S70)), bt325.2)))
theorem Z7.mono_l : ∀ k, (∀ y0 y1 y2 y3 y4, LeO (Z7.l0 k y0 y1 y2 y3 y4) (Z7.l0 (k + 1) y0 y1 y2 y3 y4))
  | 0 => fun _ _ _ _ _ r h => by simp [Z7.l0] at h
  | k + 1 => by
    have ih0 := Z7.mono_l k
    · intro y0 y1 y2 y3 y4
      unfold Z7.l0
      repeat' first
      | (with_reducible exact ih0 _ _ _ _ _)
      | (with_reducible exact Z5.mono _ _ _)
      | (with_reducible exact LeO.refl _)
      | (with_reducible exact LeO.none _)
      | (with_reducible refine LeO.ite ?_ ?_)
      | (with_reducible refine LeO.bind ?_ (fun _ => ?_))
      | exact ih0 _ _ _ _ _
      | exact LeO.none _
      | refine LeO.ite ?_ ?_
      | refine LeO.bind ?_ (fun _ => ?_)
theorem Z7.mono : ∀ a0 a1 k, LeO (Z7.f k a0 a1) (Z7.f (k + 1) a0 a1) := by
  intro a0 a1 k
  have ih0 := Z7.mono_l k
  unfold Z7.f
  repeat' first
      | (with_reducible exact ih0 _ _ _ _ _)
      | (with_reducible exact Z5.mono _ _ _)
      | (with_reducible exact LeO.refl _)
      | (with_reducible exact LeO.none _)
      | (with_reducible refine LeO.ite ?_ ?_)
      | (with_reducible refine LeO.bind ?_ (fun _ => ?_))
      | exact ih0 _ _ _ _ _
      | exact LeO.none _
      | refine LeO.ite ?_ ?_
      | refine LeO.bind ?_ (fun _ => ?_)
def Z7.T9 : Bool × List (List Nat × List Nat) := (true, [([], []), ([], []), ([1], [1]), ([], []), ([2, 3], [2, 3]), ([], []), ([5], [5]), ([6], [6]), ([], []), ([8], [8]), ([9, 7], [9]), ([4, 7, 10], [4, 7, 10]), ([11], [11]), ([0, 12, 10], [0, 12]), ([13, 13, 0, 1, 2, 3, 4, 5, 6, 7, 8, 9, 10, 11, 12, 13], [0, 13])])
def Z7.B9 : List Nat := [0, 0, 2, 0, 14, 0, 32, 96, 0, 256, 992, 2046, 4094, 8191, 16383]
theorem Z7.tab9 : rtab .any (opsOf Tryz.f17 9) = Z7.T9 := by kernel_rfl
theorem Z7.bits9 : waitsOk Z7.T9.2 Z7.B9 = true := by kernel_rfl
abbrev Z7.D0 : Array Bool := #[false, false, false, false, false, false, false, false, false, false, false, false, false, false, false]
abbrev Z7.D1 : Array Bool := #[true, false, false, false, false, false, false, false, false, false, false, false, false, false, false]
abbrev Z7.D2 : Array Bool := #[true, true, false, false, false, false, false, false, false, false, false, false, false, false, false]
abbrev Z7.D3 : Array Bool := #[true, true, false, true, false, false, false, false, false, false, false, false, false, false, false]
abbrev Z7.D4 : Array Bool := #[true, true, false, true, false, true, false, false, false, false, false, false, false, false, false]
abbrev Z7.D5 : Array Bool := #[true, true, false, true, false, true, false, false, true, false, false, false, false, false, false]
abbrev Z7.D6 : Array Bool := #[true, true, true, true, false, true, false, false, true, false, false, false, false, false, false]
abbrev Z7.D7 : Array Bool := #[true, true, true, true, true, true, false, false, true, false, false, false, false, false, false]
abbrev Z7.D8 : Array Bool := #[true, true, true, true, true, true, true, false, true, false, false, false, false, false, false]
abbrev Z7.D9 : Array Bool := #[true, true, true, true, true, true, true, false, true, true, false, false, false, false, false]
abbrev Z7.D10 : Array Bool := #[true, true, true, true, true, true, true, true, true, true, false, false, false, false, false]
abbrev Z7.D11 : Array Bool := #[true, true, true, true, true, true, true, true, true, true, true, false, false, false, false]
abbrev Z7.D12 : Array Bool := #[true, true, true, true, true, true, true, true, true, true, true, true, false, false, false]
abbrev Z7.D13 : Array Bool := #[true, true, true, true, true, true, true, true, true, true, true, true, true, false, false]
abbrev Z7.D14 : Array Bool := #[true, true, true, true, true, true, true, true, true, true, true, true, true, true, false]
abbrev Z7.D15 : Array Bool := #[true, true, true, true, true, true, true, true, true, true, true, true, true, true, true]
set_option maxHeartbeats 8000000 in
set_option maxRecDepth 100000 in
theorem Z7.calls (k : Nat) (a0 : ByteArray) (A1 : Option Addr) (c1 : Nat) (l1 : List (S70)) (r1 : List (S70)) (r2 : Int) (w : World) (hr1 : Kd.C k70 w A1 l1.length l1) (hc1 : l1.length ≤ c1) (hGl : Wd w) (h : Z7.f k a0 l1 = some (r1, r2)) :
  Calls Tryz.prog 17 #[.string a0, .slice A1 l1.length c1] w fun e w' => ∃ v0_ : Value, e = .returned (.tuple #[v0_, .int .i64 r2]) ∧ Kd.S k70 70 w' w.heap.size (fun _ => True) v0_ r1 ∧ Below w.heap.size w w' := by
 have hu70 := Tryz.underlying70
 have HGl := am_ hGl; clear hGl; have HR1 := am_ hr1; have HC1 := am_ hc1; clear hr1 hc1
 have HB := am_ (Below.refl w.heap.size w)
 have H : ((Z5.f k a0 l1).bind fun bt325 => (if bt325.2 = 0 then (Z7.l0 k ([] : List (S70)) 0 l1 (l1.length : Int) 0) else (some (([] : List (S70)), bt325.2)))) = some (r1, r2) := h
 clear h; replace H := Option.bind_eq_some_iff.mp H
 obtain ⟨⟨t325, t326⟩, A30, H⟩ := H
 replace H : (if t326 = 0 then (Z7.l0 k ([] : List (S70)) 0 l1 (l1.length : Int) 0) else (some (([] : List (S70)), t326))) = some (r1, r2) := H
 have A3 := am_ A30; clear A30
 by_cases c4 : t326 = 0
 ·rw [if_pos c4] at H
  have c4b0 : (t326 == 0) = true := beq_iff_eq.mpr c4
  have c4b1 : (t326 != 0) = false := bne_eq_false_iff_eq.mpr c4
  clear c4
  have H' := am_ H
  clear H
  go_enter Tryz.func17, Tryz.ntmps17
  go_wp2_with (first | ((with_reducible refine gate_callee (f := 41) rfl ?_); refine goesL_ (some 15) rfl rfl Tryz.func41 (by kernel_rfl) rfl #[.string a0, .slice A1 l1.length c1] rfl gl_ ?_; (with_reducible refine (Z5.calls k a0 _ _ l1 t325 t326 _ ?side1 ?side2 ?side3 A3.out).mono ?_); (case side1 => exact cc_ HR1.out); (case side2 => exact HC1.out); (case side3 => exact Wd.below HGl.out (bw_ HB.out)); rintro e w5 ⟨v327, rfl, ho0, hb⟩; refine ⟨_, rfl, ?_⟩; have n0_ := am_ (Kd.R_lower ho0 (below_size (bw_ HB.out))); have n1_ := am_ (below_step (bw_ HB.out) hb); clear HB; have HO328 := n0_; have HB := n1_; clear n0_ n1_; (try clear hb); (try clear hb2); (try clear hk); (try clear hi); (try clear ho0)))
  go_loopg [8, 9, 23] k (fun kq v8 v9 v23 w' => ∃ (x8_1 : List (S70)) (x9_1 : Int) (x23_1 : Int), v9 = .int .i64 x9_1 ∧ v23 = .int .i64 x23_1 ∧ Aside0 (Z7.l0 kq x8_1 x9_1 l1 (l1.length : Int) x23_1 = some (r1, r2)) ∧ Aside0 (kq ≤ k) ∧ Aside0 (Kd.S k70 70 w' w.heap.size (fun _ => True) v8 x8_1) ∧ Aside0 (Below w.heap.size w w'))
  case atStart => exact ⟨(([] : List (S70))), (0), (0), tr_, tr_, H', ⟨Nat.le_refl _⟩, ⟨by first | exact Kd.S_nil _ _ _ _ _ | exact Kd.N_nil _ _ _ _ _ | exact Kd.V_nil _ _ _ _ _ | exact Kd.Q_nil _ _ _ _ _ | exact Kd.R_nil _ _ _ _ _⟩, ⟨bw_ HB.out⟩⟩
  case round =>
   clear H'; (try clear c1); (try clear p2); (try clear c4); (try clear c4b0); (try clear c4b1); obtain ⟨x8_1, x9_1, x23_1, rfl, rfl, HA, HK1, HO_8, HB⟩ := hrel
   cases gk with
   | zero => exact absurd HA.out (by simp [Z7.l0])
   | succ k1 =>
    have H := HA.out
    clear HA
    simp only [Z7.l0] at H
    by_cases c6 : x23_1 < (l1.length : Int)
    ·rw [if_pos c6] at H
     have c6b0 := decide_eq_true c6; clear c6
     by_cases c7 : 0 ≤ x23_1
     case neg => exact (nn_ c7 H).elim
     rw [if_pos c7] at H; have c7b0 := decide_eq_true c7; clear c7
     by_cases c8 : x23_1 < (l1.length : Int)
     case neg => exact (nn_ c8 H).elim
     rw [if_pos c8] at H; have c8b0 := decide_eq_true c8; clear c8; replace H := Option.bind_eq_some_iff.mp H; obtain ⟨t331, A90, H⟩ := H; have A9 := am_ A90; clear A90; replace H := Option.bind_eq_some_iff.mp H; obtain ⟨t334, A100, H⟩ := H; have A10 := am_ A100; clear A100
     by_cases c11 : x8_1.length < 2513169434916
     case neg => exact (nn_ c11 H).elim
     rw [if_pos c11] at H; have LMc11 := am_ c11; clear c11
     obtain ⟨y337, hy337⟩ : ∃ y_ : List (S70), y_ = (x8_1 ++ [(⟨wrap64 (((rd_T70 l1 x23_1).f0) + x9_1), t331, t334⟩ : S70)]) := ⟨_, rfl⟩
     replace H : (Z7.l0 k1 y337 (wrap64 (x9_1 + (wrap64 ((((rd_T70 l1 x23_1).f2).length : Int) - (((rd_T70 l1 x23_1).f1).length : Int))))) l1 (l1.length : Int) (wrap64 (x23_1 + 1))) = some (r1, r2) := by first | (rw [hy337]; with_reducible exact H) | (have H2_ := (Option.bind_some _ _).symm.trans H; rw [hy337]; with_reducible exact H2_) | (have H2_ := (Option.bind_some _ _).symm.trans H; with_reducible exact H2_) | with_reducible exact H | (rw [hy337]; exact H) | exact H
     have Ny337 := am_ hy337; clear hy337
     have H' := am_ H
     clear H; have p329 : 0 ≤ (x23_1 : Int) := ode_; have q329 : x23_1 < (l1.length : Int) := ode_
     obtain ⟨ad329, A329_1, c329_1, A329_2, c329_2, e329, hx329_0, hx329_1, hx329_2, hl329_1, hi329_1, hl329_2, hi329_2⟩ := at_T70 HR1.out x23_1 p329 q329
     cases e329
     first | replace hx329_0 := (HB.out.cell (World.block_lt_of_cell? w _ hx329_0)).trans hx329_0 | skip
     first | replace hx329_1 := (HB.out.cell (World.block_lt_of_cell? w _ hx329_1)).trans hx329_1 | skip
     first | replace hx329_2 := (HB.out.cell (World.block_lt_of_cell? w _ hx329_2)).trans hx329_2 | skip
     have HR329_1 := am_ hi329_1; have HC329_1 := am_ hl329_1; clear hi329_1 hl329_1; have HR329_2 := am_ hi329_2; have HC329_2 := am_ hl329_2; clear hi329_2 hl329_2; replace p329 := eq_true p329; replace q329 := eq_true q329
     try go_wp2_with (first | ((with_reducible refine gate_dst (N := 11) rfl ?_); refine box_event ?hg (N := 11) ?hd (cs := #[.int .i64 0, .slice none 0 0, .slice none 0 0]) (t := 70) ?hr ?_; (case hd => rfl); (case hg => rfl); (case hr => first | (go_simp; done) | (go_simp; rfl)); intro gb330 hg w12 hbox hb; have n0_ := am_ (Kd.S_below (Kd.S_elderB (by (with_reducible repeat (first | apply q1_ | apply q2_ | apply q3_)); exact HO_8.out) gb330 (Nat.le_of_eq hg.symm)) hb); have n1_ := am_ (below_step (bw_ HB.out) hb); have n2_ := am_ (hbox); have n3_ := am_ ((by rw [hg]; exact (below_size (bw_ HB.out)) : w.heap.size ≤ gb330)); have n4_ := am_ ((by rw [hg]; exact (below_size (bw_ HB.out)) : w.heap.size ≤ gb330)); clear HO_8; clear HB; have HO_8 := n0_; have HB := n1_; have BK330 := n2_; have GW330 := n3_; have GE330 := n4_; clear n0_ n1_ n2_ n3_ n4_; clear hb hbox hg; have hcz13_0 : w12.cell? ⟨gb330, 0, none⟩ = some (.int .i64 0) := (blk_cell BK330.out 0).trans rfl; have hcz13_1 : w12.cell? ⟨gb330, 1, none⟩ = some (.slice none 0 0) := (blk_cell BK330.out 1).trans rfl; have hcz13_2 : w12.cell? ⟨gb330, 2, none⟩ = some (.slice none 0 0) := (blk_cell BK330.out 2).trans rfl; have hfz13_0 := blk_frozen BK330.out 0; have hfz13_1 := blk_frozen BK330.out 1; have hfz13_2 := blk_frozen BK330.out 2))
     have n0_ : Aside0 (Kd.S k70 70 (((w12.setCell ⟨gb330, 0, none⟩ (.int .i64 ((rd_T70 l1 x23_1).f0))).setCell ⟨gb330, 1, none⟩ (.slice A329_1 ((rd_T70 l1 x23_1).f1).length c329_1)).setCell ⟨gb330, 2, none⟩ (.slice A329_2 ((rd_T70 l1 x23_1).f2).length c329_2)) w.heap.size (fun k_ => k_ ≠ gb330) u8 x8_1) := ⟨by (with_reducible repeat (first | apply q1_ | apply q2_ | apply q3_)); exact Kd.S_mono (Kd.S_far (p := ⟨gb330, 2, none⟩) (Kd.S_far (p := ⟨gb330, 1, none⟩) (Kd.S_far (p := ⟨gb330, 0, none⟩) (Kd.S_mono HO_8.out (fun k_ hk => (⟨hk, hk.2⟩ : _ ∧ k_ ≠ gb330))) (fun _ hk => hk.2) (.int .i64 ((rd_T70 l1 x23_1).f0))) (fun _ hk => hk.2) (.slice A329_1 ((rd_T70 l1 x23_1).f1).length c329_1)) (fun _ hk => hk.2) (.slice A329_2 ((rd_T70 l1 x23_1).f2).length c329_2)) (fun _ hk => hk.1.2)⟩
     have n1_ : Aside0 ((((w12.setCell ⟨gb330, 0, none⟩ (.int .i64 ((rd_T70 l1 x23_1).f0))).setCell ⟨gb330, 1, none⟩ (.slice A329_1 ((rd_T70 l1 x23_1).f1).length c329_1)).setCell ⟨gb330, 2, none⟩ (.slice A329_2 ((rd_T70 l1 x23_1).f2).length c329_2)).heap[gb330]? = some (.cells #[.int .i64 ((rd_T70 l1 x23_1).f0), .slice A329_1 ((rd_T70 l1 x23_1).f1).length c329_1, .slice A329_2 ((rd_T70 l1 x23_1).f2).length c329_2] 70 (0, 0))) := ⟨by (with_reducible repeat (first | refine blk_drewN ?_ _ | refine blk_drew ?_ | refine blk_alloc ?_ _)); refine blk_put (cs := #[.int .i64 ((rd_T70 l1 x23_1).f0), .slice A329_1 ((rd_T70 l1 x23_1).f1).length c329_1, .slice none 0 0]) ?_ 2 _ rfl; (with_reducible repeat (first | refine blk_drewN ?_ _ | refine blk_drew ?_ | refine blk_alloc ?_ _)); refine blk_put (cs := #[.int .i64 ((rd_T70 l1 x23_1).f0), .slice none 0 0, .slice none 0 0]) ?_ 1 _ rfl; (with_reducible repeat (first | refine blk_drewN ?_ _ | refine blk_drew ?_ | refine blk_alloc ?_ _)); refine blk_put (cs := #[.int .i64 0, .slice none 0 0, .slice none 0 0]) ?_ 0 _ rfl; (with_reducible repeat (first | refine blk_drewN ?_ _ | refine blk_drew ?_ | refine blk_alloc ?_ _)); exact BK330.out⟩
     have n2_ : Aside0 (Below w.heap.size w (((w12.setCell ⟨gb330, 0, none⟩ (.int .i64 ((rd_T70 l1 x23_1).f0))).setCell ⟨gb330, 1, none⟩ (.slice A329_1 ((rd_T70 l1 x23_1).f1).length c329_1)).setCell ⟨gb330, 2, none⟩ (.slice A329_2 ((rd_T70 l1 x23_1).f2).length c329_2))) := ⟨bs_ HB.out GE330.out⟩
     (try clear HO_8)
     (try clear BK330)
     (try clear HB)
     generalize (((w12.setCell ⟨gb330, 0, none⟩ (.int .i64 ((rd_T70 l1 x23_1).f0))).setCell ⟨gb330, 1, none⟩ (.slice A329_1 ((rd_T70 l1 x23_1).f1).length c329_1)).setCell ⟨gb330, 2, none⟩ (.slice A329_2 ((rd_T70 l1 x23_1).f2).length c329_2)) = w14 at n0_ n1_ n2_ ⊢
     have HO_8 := n0_; have BK330 := n1_; have HB := n2_; clear n0_ n1_ n2_
     have n0_ := am_ (q3_ HO_8.out)
     have n1_ := am_ (blk_drew BK330.out)
     have n2_ := am_ (b2_ HB.out)
     clear HO_8; clear BK330; clear HB; have HO_8 := n0_; have BK330 := n1_; have HB := n2_; clear n0_ n1_ n2_
     refine start_ (n := 15) (S := fun w' => w'.cell? ⟨gb330, 0, none⟩ = some (.int .i64 ((rd_T70 l1 x23_1).f0)) ∧ w'.cell? ⟨gb330, 1, none⟩ = some (.slice A329_1 ((rd_T70 l1 x23_1).f1).length c329_1) ∧ w'.cell? ⟨gb330, 2, none⟩ = some (.slice A329_2 ((rd_T70 l1 x23_1).f2).length c329_2)) (ds := []) Z7.D0 (by kernel_rfl) rfl rfl ⟨(blk_cell BK330.out 0).trans rfl, (blk_cell BK330.out 1).trans rfl, (blk_cell BK330.out 2).trans rfl⟩ (fun hHeld => ?_); refine with_tabW Z7.tab9 Z7.bits9 (fun HT_ HW_ => ?_)
     generalize w14.drew = w15 at HO_8 BK330 HB hHeld ⊢
     refine px_ 0 27 ?_ ?_ Z7.D1 HT_.out ?_ ?_ ?_; rotate_left 2; intro w'; go_simp; with_reducible rfl; simp only [Act.put, s_t, s_z, s_s, i64_w, i32_w]; rfl
     refine px_ 1 28 ?_ ?_ Z7.D2 HT_.out ?_ ?_ ?_; rotate_left 2; intro w'; go_simp; with_reducible rfl; simp only [Act.put, s_t, s_z, s_s, i64_w, i32_w]; rfl
     refine px_ 3 30 ?_ ?_ Z7.D3 HT_.out ?_ ?_ ?_; rotate_left 2; intro w'; go_simp; with_reducible rfl; simp only [Act.put, s_t, s_z, s_s, i64_w, i32_w]; rfl
     refine px_ 5 32 ?_ ?_ Z7.D4 HT_.out ?_ ?_ ?_; rotate_left 2; intro w'; go_simp; with_reducible rfl; simp only [Act.put, s_t, s_z, s_s, i64_w, i32_w]; rfl
     refine px_ 8 35 ?_ ?_ Z7.D5 HT_.out ?_ ?_ ?_; rotate_left 2; intro w'; go_simp; with_reducible rfl; simp only [Act.put, s_t, s_z, s_s, i64_w, i32_w]; rfl
     refine take_ (i := 2) (N := some 29) (v := ?_) (a' := ?_) Z7.D6 rfl rfl (take_ofW HT_.out HW_.out (by kernel_rfl)) (fun _ _ _ h => h) (Or.inl ⟨by rfl, ?_⟩) hHeld ?_ ?_
     rotate_left
     ·rintro w' ⟨s0, s1, s2⟩
      go_simp
      with_reducible rfl
     rotate_left
     ·simp only [Act.put, s_t, s_z, s_s, i64_w, i32_w]
      rfl
     refine px_ 4 31 ?_ ?_ Z7.D7 HT_.out ?_ ?_ ?_; rotate_left 2; intro w'; go_simp; with_reducible rfl; simp only [Act.put, s_t, s_z, s_s, i64_w, i32_w]; rfl
     refine take_ (i := 6) (N := some 33) (v := ?_) (a' := ?_) Z7.D8 rfl rfl (take_ofW HT_.out HW_.out (by kernel_rfl)) (fun _ _ _ h => h) (Or.inl ⟨by rfl, ?_⟩) hHeld ?_ ?_
     rotate_left
     ·rintro w' ⟨s0, s1, s2⟩
      go_simp
      with_reducible rfl
     rotate_left
     ·simp only [Act.put, s_t, s_z, s_s, i64_w, i32_w]
      rfl
     refine take_ (i := 9) (N := some 36) (v := ?_) (a' := ?_) Z7.D9 rfl rfl (take_ofW HT_.out HW_.out (by kernel_rfl)) (fun _ _ _ h => h) (Or.inl ⟨by rfl, ?_⟩) hHeld ?_ ?_
     rotate_left
     ·rintro w' ⟨s0, s1, s2⟩
      go_simp
      with_reducible rfl
     rotate_left
     ·simp only [Act.put, s_t, s_z, s_s, i64_w, i32_w]
      rfl
     refine one_ (i := 7) (N := some 34) Z7.D10 rfl rfl (one_of HT_.out (by kernel_rfl)) (by decide) (fun K hK => ?_)
     refine goes_ Tryz.func29 (by kernel_rfl) rfl #[.slice A329_2 ((rd_T70 l1 x23_1).f2).length c329_2] (by rfl) rfl rfl gl_ ?_
     with_reducible refine (Z14.calls _ _ ((rd_T70 l1 x23_1).f2) t331 _ ?side1 ?side2 A9.out).mono ?_
     (case side1 => repeat (first | exact (Kd.C_below HR329_2.out HB.out) | (with_reducible refine Kd.C_alloc ?_ _) | (with_reducible refine Kd.C_drewN ?_ _) | (with_reducible refine Kd.C_drew ?_)))
     (case side2 => exact HC329_2.out)
     rintro e w16 ⟨v332, rfl, ho0, hb⟩
     refine ⟨_, rfl, ?_⟩
     have n0_ := am_ (Kd.S_elder' (by (with_reducible repeat (first | apply q1_ | apply q2_ | apply q3_)); exact HO_8.out) (Kd.R_base ho0) hb)
     have n1_ := am_ (Kd.R_lower ho0 (below_size (bs_ HB.out GE330.out)))
     have n2_ := am_ (blk_below (g := gb330) (o := .cells #[.int .i64 ((rd_T70 l1 x23_1).f0), .slice A329_1 ((rd_T70 l1 x23_1).f1).length c329_1, .slice A329_2 ((rd_T70 l1 x23_1).f2).length c329_2] 70 (0, 0)) (bk_ BK330.out) hb)
     have n3_ := am_ (below_step (bs_ HB.out GE330.out) hb)
     clear HO_8; clear BK330; clear HB; have HO_8 := n0_; have HO333 := n1_; have BK330 := n2_; have HB := n3_; clear n0_ n1_ n2_ n3_
     (try clear hb)
     (try clear hb2)
     (try clear hk)
     (try clear hi)
     (try clear ho0)
     refine hK.out _ _ ⟨(blk_cell BK330.out 0).trans rfl, (blk_cell BK330.out 1).trans rfl, (blk_cell BK330.out 2).trans rfl⟩ (fun hHeld => ?_)
     clear hK K
     refine norm_ (a' := ?_) ?_ ?_
     rotate_left
     ·show Act.put _ (some 34) _ = _
      simp only [Act.put, s_t, s_z, s_s, i64_w, i32_w]
      rfl
     refine one_ (i := 10) (N := some 37) Z7.D11 rfl rfl (one_of HT_.out (by kernel_rfl)) (by decide) (fun K hK => ?_)
     refine goes_ Tryz.func29 (by kernel_rfl) rfl #[.slice A329_1 ((rd_T70 l1 x23_1).f1).length c329_1] (by rfl) rfl rfl gl_ ?_
     with_reducible refine (Z14.calls _ _ ((rd_T70 l1 x23_1).f1) t334 _ ?side1 ?side2 A10.out).mono ?_
     (case side1 => repeat (first | exact (Kd.C_below HR329_1.out HB.out) | (with_reducible refine Kd.C_alloc ?_ _) | (with_reducible refine Kd.C_drewN ?_ _) | (with_reducible refine Kd.C_drew ?_)))
     (case side2 => exact HC329_1.out)
     rintro e w17 ⟨v335, rfl, ho0, hb⟩
     refine ⟨_, rfl, ?_⟩
     have n0_ := am_ (Kd.S_elder' (by (with_reducible repeat (first | apply q1_ | apply q2_ | apply q3_)); exact HO_8.out) (Kd.R_base ho0) hb)
     have n1_ := am_ (Kd.R_elder' (rr_ HO333.out) (Kd.R_base ho0) hb)
     have n2_ := am_ (Kd.R_lower (Kd.R_new' ho0 (Kd.R_lt (rr_ HO333.out))) (below_size (bs_ HB.out GE330.out)))
     have n3_ := am_ (blk_below (g := gb330) (o := .cells #[.int .i64 ((rd_T70 l1 x23_1).f0), .slice A329_1 ((rd_T70 l1 x23_1).f1).length c329_1, .slice A329_2 ((rd_T70 l1 x23_1).f2).length c329_2] 70 (0, 0)) (bk_ BK330.out) hb)
     have n4_ := am_ (below_step (bs_ HB.out GE330.out) hb)
     clear HO_8; clear HO333; clear BK330; clear HB; have HO_8 := n0_; have HO333 := n1_; have HO336 := n2_; have BK330 := n3_; have HB := n4_; clear n0_ n1_ n2_ n3_ n4_
     (try clear hb)
     (try clear hb2)
     (try clear hk)
     (try clear hi)
     (try clear ho0)
     obtain ⟨Ao18, co18, eo18⟩ := Kd.R_slice HO336.out
     (first | subst eo18 | (injection eo18 with f1_ f2_ f3_; have f4_ := f1_.symm; have f5_ := f3_.symm; clear f1_ f2_ f3_; subst f4_; subst f5_))
     obtain ⟨Ao19, co19, eo19⟩ := Kd.R_slice HO333.out
     (first | subst eo19 | (injection eo19 with f1_ f2_ f3_; have f4_ := f1_.symm; have f5_ := f3_.symm; clear f1_ f2_ f3_; subst f4_; subst f5_))
     refine hK.out _ _ ⟨(blk_cell BK330.out 0).trans rfl, (blk_cell BK330.out 1).trans rfl, (blk_cell BK330.out 2).trans rfl⟩ (fun hHeld => ?_)
     clear hK K
     refine norm_ (a' := ?_) ?_ ?_
     rotate_left
     ·show Act.put _ (some 37) _ = _
      simp only [Act.put, s_t, s_z, s_s, i64_w, i32_w]
      rfl
     refine px_ 11 38 ?_ ?_ Z7.D12 HT_.out ?_ ?_ ?_; rotate_left 2; intro w'; go_simp; with_reducible rfl; simp only [Act.put, s_t, s_z, s_s, i64_w, i32_w]; rfl
     refine one_ (i := 12) (N := some 39) Z7.D13 rfl rfl (one_of HT_.out (by kernel_rfl)) (by decide) (fun K hK => ?_)
     refine value_ (w1 := ?_) (v := ?_) (by rfl) rfl ?_ ?_
     rotate_left 2
     ·go_simp
      constructor
      ·rfl
      ·rfl
     refine hK.out _ _ ⟨(blk_cell (blk_alloc BK330.out _) 0).trans rfl, (blk_cell (blk_alloc BK330.out _) 1).trans rfl, (blk_cell (blk_alloc BK330.out _) 2).trans rfl⟩ (fun hHeld => ?_)
     clear hK K
     refine norm_ (a' := ?_) ?_ ?_
     rotate_left
     ·show Act.put _ (some 39) _ = _
      simp only [Act.put, s_t, s_z, s_s, i64_w, i32_w]
      rfl
     refine one_ (i := 13) (N := some 40) Z7.D14 rfl rfl (one_of HT_.out (by kernel_rfl)) (by decide) (fun K hK => ?_)
     refine Kd.S_append_step k70 (w0 := w) w.heap.size (by rfl) (.tmp 27) (.tmp 39) 42 70 (.agg #[(.int .i64 0), (.slice none 0 0), (.slice none 0 0)]) 56 rfl Tryz.underlying42 info70 rfl (by decide) (by omega) u8 x8_1 (⟨wrap64 (((rd_T70 l1 x23_1).f0) + x9_1), t331, t334⟩ : S70) [.int .i64 (wrap64 (((rd_T70 l1 x23_1).f0) + x9_1)), .slice Ao19 t331.length co19, .slice Ao18 t334.length co18] (fun k_ => k_ ≠ gb330) (fun k_ => some k_ = (.slice Ao19 t331.length co19 : Value).ownBlock ∨ some k_ = (.slice Ao18 t334.length co18 : Value).ownBlock) rfl rfl ?aP (fun k_ hk_ => hk_.elim (fun h_ => ((Kd.R_mono (ok' := fun k_ => ((fun k_ => k_ ≠ gb330)) k_ ∧ some k_ ≠ (u8 : Value).ownBlock) (Kd.R_types (Kd.R_apart' (HO333.out) (Kd.S_typed HO_8.out) (by decide)) BK330.out (by decide)) (fun k_ hk => ⟨hk.2, hk.1.2⟩))).1 k_ h_.symm) (fun h_ => ((Kd.R_mono (ok' := fun k_ => ((fun k_ => k_ ≠ gb330)) k_ ∧ some k_ ≠ (u8 : Value).ownBlock) (Kd.R_types (Kd.R_apart' (HO336.out) (Kd.S_typed HO_8.out) (by decide)) BK330.out (by decide)) (fun k_ hk => ⟨hk.2, hk.1.2⟩))).1 k_ h_.symm)) ?aF ?aO ?aB ?aS ?aL ?_
     (case aP => exact k70_mkM _ _ _ (⟨wrap64 (((rd_T70 l1 x23_1).f0) + x9_1), t331, t334⟩ : S70) (Kd.R_mono (Kd.R_tight rfl (Kd.R_mono (ok' := fun k_ => ((fun k_ => k_ ≠ gb330)) k_ ∧ some k_ ≠ (u8 : Value).ownBlock) (Kd.R_types (Kd.R_apart' (HO333.out) (Kd.S_typed HO_8.out) (by decide)) BK330.out (by decide)) (fun k_ hk => ⟨hk.2, hk.1.2⟩))) (fun _ h_ => Or.inl h_)) (Kd.R_mono (Kd.R_tight rfl (Kd.R_mono (ok' := fun k_ => ((fun k_ => k_ ≠ gb330)) k_ ∧ some k_ ≠ (u8 : Value).ownBlock) (Kd.R_types (Kd.R_apart' (HO336.out) (Kd.S_typed HO_8.out) (by decide)) BK330.out (by decide)) (fun k_ hk => ⟨hk.2, hk.1.2⟩))) (fun _ h_ => Or.inr (h_))))
     (case aB => exact (bs_ HB.out GE330.out))
     (case aF => exact (fun k_ hk => Kd.freshB (g := gb330) (o := .cells #[.int .i64 ((rd_T70 l1 x23_1).f0), .slice A329_1 ((rd_T70 l1 x23_1).f1).length c329_1, .slice A329_2 ((rd_T70 l1 x23_1).f2).length c329_2] 70 (0, 0)) (bk_ BK330.out) k_ hk))
     (case aO => exact (by (with_reducible repeat (first | apply q1_ | apply q2_ | apply q3_)); exact Kd.S_mono HO_8.out (fun k_ hk => ⟨hk.1.1, fun e_ => e_.elim (fun h_ => hk.1.2 h_) (fun h_ => hk.2 h_)⟩)))
     (case aS => exact (below_size (bs_ HB.out GE330.out)))
     (case aL => have := LMc11.out; omega)
     intro v338 w20 ho hb hg hat
     rw [← Ny337.out] at ho
     have n0_ := am_ (blk_grown (g := gb330) (o := .cells #[.int .i64 ((rd_T70 l1 x23_1).f0), .slice A329_1 ((rd_T70 l1 x23_1).f1).length c329_1, .slice A329_2 ((rd_T70 l1 x23_1).f2).length c329_2] 70 (0, 0)) (bk_ BK330.out) hg (Kd.S_away HO_8.out (fun _ hk => hk.1.1)))
     have n1_ := am_ (hb)
     have n2_ := am_ (ho)
     clear BK330; clear HB; clear HO_8; clear HO333; clear HO336; have BK330 := n0_; have HB := n1_; have HO339 := n2_; clear n0_ n1_ n2_; clear ho hb hg hat
     refine hK.out _ _ ⟨(blk_cell BK330.out 0).trans rfl, (blk_cell BK330.out 1).trans rfl, (blk_cell BK330.out 2).trans rfl⟩ (fun hHeld => ?_)
     clear hK K
     refine norm_ (a' := ?_) ?_ ?_
     rotate_left
     ·show Act.put _ (some 40) _ = _
      simp only [Act.put, s_t, s_z, s_s, i64_w, i32_w]
      rfl
     refine px_ 14 8 ?_ ?_ Z7.D15 HT_.out ?_ ?_ ?_; rotate_left 2; intro w'; go_simp; with_reducible rfl; simp only [Act.put, s_t, s_z, s_s, i64_w, i32_w]; rfl
     refine done_ (done_of HT_.out (by kernel_rfl)) ?_
     have hcz21_0 : w20.cell? ⟨gb330, 0, none⟩ = some (.int .i64 ((rd_T70 l1 x23_1).f0)) := (blk_cell BK330.out 0).trans rfl
     have hcz21_1 : w20.cell? ⟨gb330, 1, none⟩ = some (.slice A329_1 ((rd_T70 l1 x23_1).f1).length c329_1) := (blk_cell BK330.out 1).trans rfl
     have hcz21_2 : w20.cell? ⟨gb330, 2, none⟩ = some (.slice A329_2 ((rd_T70 l1 x23_1).f2).length c329_2) := (blk_cell BK330.out 2).trans rfl
     have hfz21_0 := blk_frozen BK330.out 0
     have hfz21_1 := blk_frozen BK330.out 1
     have hfz21_2 := blk_frozen BK330.out 2
     try go_wp2
     go_roundg k1
     case measure => have := HK1.out; omega
     case rel => exact ⟨(y337), (wrap64 (x9_1 + (wrap64 ((((rd_T70 l1 x23_1).f2).length : Int) - (((rd_T70 l1 x23_1).f1).length : Int))))), (wrap64 (x23_1 + 1)), tr_, tr_, H', ⟨by have := HK1.out; omega⟩, ⟨by (with_reducible repeat (first | apply q1_ | apply q2_ | apply q3_)); exact Kd.S_mono HO339.out (fun _ hk => trivial)⟩, ⟨bs_ HB.out GE330.out⟩⟩
    ·rw [if_neg c6] at H
     have c6b0 : decide (x23_1 < (l1.length : Int)) = false := decide_eq_false c6
     clear c6
     simp only [Option.some.injEq, Prod.mk.injEq] at H
     obtain ⟨rfl, rfl⟩ := H
     go_wp2
     go_ret2
     exact ⟨_, by first | rfl | (simp [errW_none, errW_some] <;> rfl) | (simp [*, errW_none, errW_some] <;> rfl), by (with_reducible repeat (first | apply q1_ | apply q2_ | apply q3_)); exact HO_8.out, bw_ HB.out⟩
 ·rw [if_neg c4] at H
  have c4b0 : (t326 == 0) = false := beq_eq_false_iff_ne.mpr c4
  have c4b1 : (t326 != 0) = true := bne_iff_ne.mpr c4
  simp only [Option.some.injEq, Prod.mk.injEq] at H
  obtain ⟨rfl, rfl⟩ := H
  go_enter Tryz.func17, Tryz.ntmps17
  go_wp2_with (first | ((with_reducible refine gate_callee (f := 41) rfl ?_); refine goesL_ (some 15) rfl rfl Tryz.func41 (by kernel_rfl) rfl #[.string a0, .slice A1 l1.length c1] rfl gl_ ?_; (with_reducible refine (Z5.calls k a0 _ _ l1 t325 t326 _ ?side1 ?side2 ?side3 A3.out).mono ?_); (case side1 => exact cc_ HR1.out); (case side2 => exact HC1.out); (case side3 => exact Wd.below HGl.out (bw_ HB.out)); rintro e w22 ⟨v327, rfl, ho0, hb⟩; refine ⟨_, rfl, ?_⟩; have n0_ := am_ (Kd.R_lower ho0 (below_size (bw_ HB.out))); have n1_ := am_ (below_step (bw_ HB.out) hb); clear HB; have HO328 := n0_; have HB := n1_; clear n0_ n1_; (try clear hb); (try clear hb2); (try clear hk); (try clear hi); (try clear ho0)))
  go_ret2
  exact ⟨_, by first | rfl | (simp [errW_none, errW_some] <;> rfl) | (simp [*, errW_none, errW_some] <;> rfl), by first | exact Kd.S_nil _ _ _ _ _ | exact Kd.N_nil _ _ _ _ _ | exact Kd.V_nil _ _ _ _ _ | exact Kd.Q_nil _ _ _ _ _ | exact Kd.R_nil _ _ _ _ _, bw_ HB.out⟩
def Z16.l0 : Nat → List ByteArray → Int → Int → Option (Int)
  | 0, _, _, _ => none
  | k + 1, x5, x6, x7 => if x7 < x6 then (if 0 ≤ x7 then (if x7 < (x5.length : Int) then (if ((rdOf ByteArray.empty x5 x7).size : Int) > 20000 then (some 2) else ((Z6.f k (rdOf ByteArray.empty x5 x7)).bind fun t341 => (if (t341.length : Int) > 2000 then (some 2) else (Z16.l0 k x5 x6 (wrap64 (x7 + 1)))))) else (none)) else (none)) else (some 0)
def Z16.f (k : Nat) (l0 : List ByteArray) : Option (Int) := Z16.l0 k l0 (l0.length : Int) 0
theorem Z16.mono_l : ∀ k, (∀ y0 y1 y2, LeO (Z16.l0 k y0 y1 y2) (Z16.l0 (k + 1) y0 y1 y2))
  | 0 => fun _ _ _ r h => by simp [Z16.l0] at h
  | k + 1 => by
    have ih0 := Z16.mono_l k
    · intro y0 y1 y2
      unfold Z16.l0
      repeat' first
      | (with_reducible exact ih0 _ _ _)
      | (with_reducible exact Z6.mono _ _)
      | (with_reducible exact LeO.refl _)
      | (with_reducible exact LeO.none _)
      | (with_reducible refine LeO.ite ?_ ?_)
      | (with_reducible refine LeO.bind ?_ (fun _ => ?_))
      | exact ih0 _ _ _
      | exact LeO.none _
      | refine LeO.ite ?_ ?_
      | refine LeO.bind ?_ (fun _ => ?_)
theorem Z16.mono : ∀ a0 k, LeO (Z16.f k a0) (Z16.f (k + 1) a0) := by
  intro a0 k
  have ih0 := Z16.mono_l k
  unfold Z16.f
  repeat' first
      | (with_reducible exact ih0 _ _ _)
      | (with_reducible exact Z6.mono _ _)
      | (with_reducible exact LeO.refl _)
      | (with_reducible exact LeO.none _)
      | (with_reducible refine LeO.ite ?_ ?_)
      | (with_reducible refine LeO.bind ?_ (fun _ => ?_))
      | exact ih0 _ _ _
      | exact LeO.none _
      | refine LeO.ite ?_ ?_
      | refine LeO.bind ?_ (fun _ => ?_)
set_option maxHeartbeats 8000000 in
set_option maxRecDepth 100000 in
theorem Z16.calls (k : Nat) (A0 : Option Addr) (c0 : Nat) (l0 : List ByteArray) (r : Int) (w : World) (hr0 : Kd.C Kd.string w A0 l0.length l0) (hc0 : l0.length ≤ c0) (hGl : Wd w) (h : Z16.f k l0 = some r) :
  Calls Tryz.prog 85 #[.slice A0 l0.length c0] w fun e w' => e = .returned (.int .i64 r) ∧ Below w.heap.size w w' := by
 have HGl := am_ hGl; clear hGl; have HR0 := am_ hr0; have HC0 := am_ hc0; clear hr0 hc0
 have HB := am_ (Below.refl w.heap.size w)
 have H : (Z16.l0 k l0 (l0.length : Int) 0) = some r := h
 clear h
 have H' := am_ H
 clear H
 go_enter Tryz.func85, Tryz.ntmps85
 go_wp2
 go_loopg [7] k (fun kq v7 w' => ∃ (x7_1 : Int), v7 = .int .i64 x7_1 ∧ Aside0 (Z16.l0 kq l0 (l0.length : Int) x7_1 = some r) ∧ Aside0 (kq ≤ k) ∧ Aside0 (Below w.heap.size w w'))
 case atStart => exact ⟨(0), tr_, H', ⟨Nat.le_refl _⟩, ⟨bw_ HB.out⟩⟩
 case round =>
  clear H'; obtain ⟨x7_1, rfl, HA, HK1, HB⟩ := hrel
  cases gk with
  | zero => exact absurd HA.out (by simp [Z16.l0])
  | succ k1 =>
   have H := HA.out
   clear HA
   simp only [Z16.l0] at H
   by_cases c2 : x7_1 < (l0.length : Int)
   ·rw [if_pos c2] at H
    have c2b0 := decide_eq_true c2; clear c2
    by_cases c3 : 0 ≤ x7_1
    case neg => exact (nn_ c3 H).elim
    rw [if_pos c3] at H; have c3b0 := decide_eq_true c3; clear c3
    by_cases c4 : x7_1 < (l0.length : Int)
    case neg => exact (nn_ c4 H).elim
    rw [if_pos c4] at H; have c4b0 := decide_eq_true c4; clear c4
    by_cases c5 : ((rdOf ByteArray.empty l0 x7_1).size : Int) > 20000
    ·rw [if_pos c5] at H
     have c5b0 : decide (20000 < ((rdOf ByteArray.empty l0 x7_1).size : Int)) = true := decide_eq_true c5
     have c5b1 : decide (20000 < (rdOf ByteArray.empty l0 x7_1).size) = true := decide_eq_true (by omega)
     clear c5
     obtain rfl := Option.some.inj H
     have p340 : 0 ≤ (x7_1 : Int) := ode_; have q340 : x7_1 < (l0.length : Int) := ode_
     obtain ⟨ad340, e340, hx340_0⟩ := Kd.at_string HR0.out x7_1 p340 q340
     cases e340
     first | replace hx340_0 := (HB.out.cell (World.block_lt_of_cell? w _ hx340_0)).trans hx340_0 | skip
     replace p340 := eq_true p340; replace q340 := eq_true q340
     go_wp2
     go_ret
     exact ⟨by first | rfl | (simp [errW_none, errW_some] <;> rfl) | (simp [*, errW_none, errW_some] <;> rfl), bw_ HB.out⟩
    ·rw [if_neg c5] at H
     have c5b0 : decide (20000 < ((rdOf ByteArray.empty l0 x7_1).size : Int)) = false := decide_eq_false c5
     have c5b1 : decide (20000 < (rdOf ByteArray.empty l0 x7_1).size) = false := decide_eq_false (by omega)
     clear c5; replace H := Option.bind_eq_some_iff.mp H; obtain ⟨t341, A60, H⟩ := H; have A6 := am_ A60; clear A60
     by_cases c7 : (t341.length : Int) > 2000
     ·rw [if_pos c7] at H
      have c7b0 : decide (2000 < (t341.length : Int)) = true := decide_eq_true c7
      have c7b1 : decide (2000 < t341.length) = true := decide_eq_true (by omega)
      clear c7
      obtain rfl := Option.some.inj H
      have p340 : 0 ≤ (x7_1 : Int) := ode_; have q340 : x7_1 < (l0.length : Int) := ode_
      obtain ⟨ad340, e340, hx340_0⟩ := Kd.at_string HR0.out x7_1 p340 q340
      cases e340
      first | replace hx340_0 := (HB.out.cell (World.block_lt_of_cell? w _ hx340_0)).trans hx340_0 | skip
      replace p340 := eq_true p340; replace q340 := eq_true q340
      go_wp2_with (first | (go_at_call 77; (with_reducible refine (Z6.calls k1 (rdOf ByteArray.empty l0 x7_1) t341 _ ?side1 A6.out).mono ?_); (case side1 => exact Wd.below HGl.out (bw_ HB.out)); rintro e w8 ⟨v342, rfl, ho0, hb⟩; have n0_ := am_ (Kd.R_lower ho0 (below_size (bw_ HB.out))); have n1_ := am_ (below_step (bw_ HB.out) hb); clear HB; have HO343 := n0_; have HB := n1_; clear n0_ n1_; (try clear hb); (try clear hb2); (try clear hk); (try clear hi); (try clear ho0); obtain ⟨Ao9, co9, eo9⟩ := Kd.R_slice HO343.out; subst eo9))
      go_ret
      exact ⟨by first | rfl | (simp [errW_none, errW_some] <;> rfl) | (simp [*, errW_none, errW_some] <;> rfl), bw_ HB.out⟩
     ·rw [if_neg c7] at H
      have c7b0 : decide (2000 < (t341.length : Int)) = false := decide_eq_false c7
      have c7b1 : decide (2000 < t341.length) = false := decide_eq_false (by omega)
      clear c7
      have H' := am_ H
      clear H; have p340 : 0 ≤ (x7_1 : Int) := ode_; have q340 : x7_1 < (l0.length : Int) := ode_
      obtain ⟨ad340, e340, hx340_0⟩ := Kd.at_string HR0.out x7_1 p340 q340
      cases e340
      first | replace hx340_0 := (HB.out.cell (World.block_lt_of_cell? w _ hx340_0)).trans hx340_0 | skip
      replace p340 := eq_true p340; replace q340 := eq_true q340
      go_wp2_with (first | (go_at_call 77; (with_reducible refine (Z6.calls k1 (rdOf ByteArray.empty l0 x7_1) t341 _ ?side1 A6.out).mono ?_); (case side1 => exact Wd.below HGl.out (bw_ HB.out)); rintro e w10 ⟨v342, rfl, ho0, hb⟩; have n0_ := am_ (Kd.R_lower ho0 (below_size (bw_ HB.out))); have n1_ := am_ (below_step (bw_ HB.out) hb); clear HB; have HO343 := n0_; have HB := n1_; clear n0_ n1_; (try clear hb); (try clear hb2); (try clear hk); (try clear hi); (try clear ho0); obtain ⟨Ao11, co11, eo11⟩ := Kd.R_slice HO343.out; subst eo11))
      go_roundg k1
      case measure => have := HK1.out; omega
      case rel => exact ⟨(wrap64 (x7_1 + 1)), tr_, H', ⟨by have := HK1.out; omega⟩, ⟨bw_ HB.out⟩⟩
   ·rw [if_neg c2] at H
    have c2b0 : decide (x7_1 < (l0.length : Int)) = false := decide_eq_false c2
    clear c2
    obtain rfl := Option.some.inj H
    go_wp2
    go_ret
    exact ⟨by first | rfl | (simp [errW_none, errW_some] <;> rfl) | (simp [*, errW_none, errW_some] <;> rfl), bw_ HB.out⟩
theorem Z43.info : (Tryz.prog.info? 9).map (fun i => (i.zero, i.size, i.bytes)) = some (some (.string ⟨#[]⟩), 1, 16) := by kernel_rfl
def Z43.f (l0 : List ByteArray) (a1 : Int) : Option (List ByteArray) := if 0 ≤ a1 ∧ (l0.length + a1) * 16 ≤ 140737488355328 then (some l0) else (none)
set_option maxHeartbeats 8000000 in
set_option maxRecDepth 100000 in
theorem Z43.calls (P0_ : Nat → Prop) (u9000_ : Value) (l0 : List ByteArray) (a1 : Int) (r : List ByteArray) (w0 w : World) (hB : Below w0.heap.size w0 w) (ho0 : Kd.R Kd.string 9 w w0.heap.size P0_ u9000_ l0) (h : Z43.f l0 a1 = some r) :
    Calls Tryz.prog 111 #[u9000_, .int .i64 a1] w fun e w' => ∃ v0_ : Value, e = .returned (v0_) ∧ Kd.R Kd.string 9 w' w0.heap.size (fun k_ => (P0_ k_ ∨ w.heap.size ≤ k_)) v0_ r ∧ Below w0.heap.size w0 w' ∧ Kept w w' (fun k_ => P0_ k_) := by
  unfold Z43.f at h
  by_cases hc : 0 ≤ a1 ∧ (l0.length + a1) * 16 ≤ 140737488355328
  · rw [if_pos hc] at h
    obtain rfl := Option.some.inj h
    obtain ⟨hc0, hc1⟩ := hc
    obtain ⟨n, rfl⟩ := Int.eq_ofNat_of_zero_le hc0
    obtain ⟨i0, hi, hz0, hz1, hz2⟩ := info_parts Z43.info
    have hm : maxLen = 9223372036854775807 := rfl
    obtain ⟨hP, ho⟩ := R_scalar ho0
    rcases ho.2 with ⟨rfl, hz⟩ | ⟨g, cap, cur, rfl, hg, hb, hn, hcap, hs, ht⟩
    · obtain rfl := List.eq_nil_of_length_eq_zero hz
      rcases Nat.eq_zero_or_pos n with h0 | h0
      · subst h0
        refine (Any8.slices_Grow_room Tryz.grow111 none 0 0 0 w (by omega) (by omega) (by omega) (by omega)).mono ?_
        rintro e w' ⟨rfl, rfl⟩
        exact ⟨_, rfl, Kd.R_nil _ _ _ _ _, hB, Kept.refl _ _⟩
      · simp only [List.length_nil] at hc1
        refine (Any8.slices_Grow_grow Tryz.grow111 i0 _ hi hz0 (by omega) none 0 0 n [] w (by omega) (by omega) (by rw [hz2]; omega) (by omega) (by simp) (fun _ => rfl) (fun a h => by cases h)).mono ?_
        rintro e w' ⟨rfl, rfl⟩
        obtain ⟨o1, o2, o3⟩ := grow_out (enc := Value.string) (h1 := fun _ => rfl) (e := 9) (P := P0_) (xs := []) (cs := []) (c := 0) (n := n) (z := ((.string ⟨#[]⟩) : Value).cells) hB rfl rfl (Nat.le_refl _) rfl (by simp; omega) (by simp; omega)
        simp only [List.length_nil] at o1 o2 o3
        exact ⟨_, rfl, o1, o2, o3⟩
    · by_cases hr : l0.length + n ≤ cap
      · refine (Any8.slices_Grow_room Tryz.grow111 (some ⟨g, 0, none⟩) l0.length cap n w hn (by omega) (by omega) hr).mono ?_
        rintro e w' ⟨rfl, rfl⟩
        exact ⟨_, rfl, Kd.R_mono ho0 (fun k hk => .inl hk), hB, Kept.refl _ _⟩
      · have hcur : cur.toList.length = cap := by simpa using hs
        refine (Any8.slices_Grow_grow Tryz.grow111 i0 _ hi hz0 (by omega) (some ⟨g, 0, none⟩) l0.length cap n cur.toList w hn (by omega) (by rw [hz2]; omega) (by omega) (by rw [hz1]; omega) (fun h => by cases h) (fun a ha j v hv => by
          obtain rfl := Option.some.inj ha
          rw [add_plain]
          simp [World.cell?, hb]
          rw [← Array.getElem?_toList]
          exact hv)).mono ?_
        rintro e w' ⟨rfl, rfl⟩
        obtain ⟨o1, o2, o3⟩ := grow_out (enc := Value.string) (h1 := fun _ => rfl) (e := 9) (P := P0_) (xs := l0) (cs := cur.toList) (c := cap) (n := n) (z := ((.string ⟨#[]⟩) : Value).cells) hB rfl hcur hn (by simpa using ht) (by omega) (by omega)
        exact ⟨_, rfl, o1, o2, o3⟩
  · rw [if_neg hc] at h
    exact absurd h (by simp)
mutual
def Z15.l0 : Nat → List (List ByteArray) → Int → List (List ByteArray) → Int → Int → Option (List ByteArray)
  | 0, _, _, _, _, _ => none
  | k + 1, x0, x3, x9, x10, x11 => if x11 < x10 then (if 0 ≤ x11 then (if x11 < (x9.length : Int) then (if (wrap64 (x3 + ((rd_L4 x9 x11).length : Int))) < 0 then (none) else (Z15.l0 k x0 (wrap64 (x3 + ((rd_L4 x9 x11).length : Int))) x9 x10 (wrap64 (x11 + 1)))) else (none)) else (none)) else ((Z43.f ([] : List ByteArray) x3).bind fun t345 => (Z15.l1 k t345 x0 (x0.length : Int) 0))
def Z15.l1 : Nat → List ByteArray → List (List ByteArray) → Int → Int → Option (List ByteArray)
  | 0, _, _, _, _ => none
  | k + 1, x6, x25, x26, x27 => if x27 < x26 then (if 0 ≤ x27 then (if x27 < (x25.length : Int) then (if x6.length + (rd_L4 x25 x27).length < 8796093022208 then (Z15.l1 k (x6 ++ (rd_L4 x25 x27)) x25 x26 (wrap64 (x27 + 1))) else (none)) else (none)) else (none)) else (some x6)
end
def Z15.f (k : Nat) (l0 : List (List ByteArray)) : Option (List ByteArray) := Z15.l0 k l0 0 l0 (l0.length : Int) 0
theorem Z15.mono_l : ∀ k, (∀ y0 y1 y2 y3 y4, LeO (Z15.l0 k y0 y1 y2 y3 y4) (Z15.l0 (k + 1) y0 y1 y2 y3 y4)) ∧ (∀ y0 y1 y2 y3, LeO (Z15.l1 k y0 y1 y2 y3) (Z15.l1 (k + 1) y0 y1 y2 y3))
  | 0 => ⟨fun _ _ _ _ _ r h => by simp [Z15.l0] at h, fun _ _ _ _ r h => by simp [Z15.l1] at h⟩
  | k + 1 => by
    obtain ⟨ih0, ih1⟩ := Z15.mono_l k
    refine ⟨?_, ?_⟩
    · intro y0 y1 y2 y3 y4
      unfold Z15.l0
      repeat' first
      | (with_reducible exact ih0 _ _ _ _ _)
      | (with_reducible exact ih1 _ _ _ _)
      | (with_reducible exact LeO.refl _)
      | (with_reducible exact LeO.none _)
      | (with_reducible refine LeO.ite ?_ ?_)
      | (with_reducible refine LeO.bind ?_ (fun _ => ?_))
      | exact ih0 _ _ _ _ _
      | exact ih1 _ _ _ _
      | exact LeO.none _
      | refine LeO.ite ?_ ?_
      | refine LeO.bind ?_ (fun _ => ?_)
    · intro y0 y1 y2 y3
      unfold Z15.l1
      repeat' first
      | (with_reducible exact ih0 _ _ _ _ _)
      | (with_reducible exact ih1 _ _ _ _)
      | (with_reducible exact LeO.refl _)
      | (with_reducible exact LeO.none _)
      | (with_reducible refine LeO.ite ?_ ?_)
      | (with_reducible refine LeO.bind ?_ (fun _ => ?_))
      | exact ih0 _ _ _ _ _
      | exact ih1 _ _ _ _
      | exact LeO.none _
      | refine LeO.ite ?_ ?_
      | refine LeO.bind ?_ (fun _ => ?_)
theorem Z15.mono : ∀ a0 k, LeO (Z15.f k a0) (Z15.f (k + 1) a0) := by
  intro a0 k
  obtain ⟨ih0, ih1⟩ := Z15.mono_l k
  unfold Z15.f
  repeat' first
      | (with_reducible exact ih0 _ _ _ _ _)
      | (with_reducible exact ih1 _ _ _ _)
      | (with_reducible exact LeO.refl _)
      | (with_reducible exact LeO.none _)
      | (with_reducible refine LeO.ite ?_ ?_)
      | (with_reducible refine LeO.bind ?_ (fun _ => ?_))
      | exact ih0 _ _ _ _ _
      | exact ih1 _ _ _ _
      | exact LeO.none _
      | refine LeO.ite ?_ ?_
      | refine LeO.bind ?_ (fun _ => ?_)
set_option maxHeartbeats 8000000 in
set_option maxRecDepth 100000 in
theorem Z15.calls (k : Nat) (A0 : Option Addr) (c0 : Nat) (l0 : List (List ByteArray)) (r : List ByteArray) (w : World) (hr0 : Kd.C (Kd.slice 9 Kd.string) w A0 l0.length l0) (hc0 : l0.length ≤ c0) (h : Z15.f k l0 = some r) :
  Calls Tryz.prog 86 #[.slice A0 l0.length c0] w fun e w' => ∃ v0_ : Value, e = .returned (v0_) ∧ Kd.R Kd.string 9 w' w.heap.size (fun _ => True) v0_ r ∧ Below w.heap.size w w' := by
 have HR0 := am_ hr0; have HC0 := am_ hc0; clear hr0 hc0
 have HB := am_ (Below.refl w.heap.size w)
 have H : (Z15.l0 k l0 0 l0 (l0.length : Int) 0) = some r := h
 clear h
 have H' := am_ H
 clear H
 go_enter Tryz.func86, Tryz.ntmps86
 go_wp2
 go_loopg [3, 11] k (fun kq v3 v11 w' => ∃ (x3_1 : Int) (x11_1 : Int), v3 = .int .i64 x3_1 ∧ v11 = .int .i64 x11_1 ∧ Aside0 (Z15.l0 kq l0 x3_1 l0 (l0.length : Int) x11_1 = some r) ∧ Aside0 (kq ≤ k) ∧ Aside0 (Below w.heap.size w w'))
 case atStart => exact ⟨(0), (0), tr_, tr_, H', ⟨Nat.le_refl _⟩, ⟨bw_ HB.out⟩⟩
 case round =>
  clear H'; obtain ⟨x3_1, x11_1, rfl, rfl, HA, HK1, HB⟩ := hrel
  cases gk with
  | zero => exact absurd HA.out (by simp [Z15.l0])
  | succ k1 =>
   have H := HA.out
   clear HA
   simp only [Z15.l0] at H
   by_cases c2 : x11_1 < (l0.length : Int)
   ·rw [if_pos c2] at H
    have c2b0 := decide_eq_true c2; clear c2
    by_cases c3 : 0 ≤ x11_1
    case neg => exact (nn_ c3 H).elim
    rw [if_pos c3] at H; have c3b0 := decide_eq_true c3; clear c3
    by_cases c4 : x11_1 < (l0.length : Int)
    case neg => exact (nn_ c4 H).elim
    rw [if_pos c4] at H; have c4b0 := decide_eq_true c4; clear c4
    by_cases c5 : (wrap64 (x3_1 + ((rd_L4 l0 x11_1).length : Int))) < 0
    ·rw [if_pos c5] at H
     exact absurd H (by simp)
    ·rw [if_neg c5] at H
     have c5b0 : decide ((wrap64 (x3_1 + ((rd_L4 l0 x11_1).length : Int))) < 0) = false := decide_eq_false c5
     clear c5
     have H' := am_ H
     clear H; have p344 : 0 ≤ (x11_1 : Int) := ode_; have q344 : x11_1 < (l0.length : Int) := ode_
     obtain ⟨ad344, A344_0, c344_0, e344, hx344_0, hl344_0, hi344_0⟩ := at_L4 HR0.out x11_1 p344 q344
     cases e344
     first | replace hx344_0 := (HB.out.cell (World.block_lt_of_cell? w _ hx344_0)).trans hx344_0 | skip
     have HR344_0 := am_ hi344_0; have HC344_0 := am_ hl344_0; clear hi344_0 hl344_0; replace p344 := eq_true p344; replace q344 := eq_true q344
     go_wp2
     go_roundg k1
     case measure => have := HK1.out; omega
     case rel => exact ⟨(wrap64 (x3_1 + ((rd_L4 l0 x11_1).length : Int))), (wrap64 (x11_1 + 1)), tr_, tr_, H', ⟨by have := HK1.out; omega⟩, ⟨bw_ HB.out⟩⟩
   ·rw [if_neg c2] at H
    have c2b0 : decide (x11_1 < (l0.length : Int)) = false := decide_eq_false c2
    clear c2; replace H := Option.bind_eq_some_iff.mp H; obtain ⟨t345, A60, H⟩ := H; have A6 := am_ A60; clear A60
    have H' := am_ H
    clear H
    go_wp2_with (first | ((with_reducible refine gate_callee (f := 111) rfl ?_); refine goesL_ (some 24) rfl rfl Tryz.func111 (by kernel_rfl) rfl #[.slice none 0 0, .int .i64 x3_1] rfl gl_ ?_; (refine (Z43.calls (fun k_ => some k_ = (.slice none 0 0 : Value).ownBlock) (.slice none 0 0) ([] : List ByteArray) x3_1 t345 w _ ?side1 ?side2 A6.out).mono ?_); (case side1 => exact bw_ HB.out); (case side2 => exact Kd.R_nil _ _ _ _ _); rintro e w7 ⟨v346, rfl, ho0, hb, hkp⟩; refine ⟨_, rfl, ?_⟩; have n0_ := am_ (Kd.R_mono (ok' := fun k_ => True) ho0 (fun k_ hk_ => trivial)); have n1_ := am_ (hb); clear HB; have HO347 := n0_; have HB := n1_; clear n0_ n1_; (try clear hb); (try clear hkp); (try clear ho0)))
    go_loopg [6, 27] k1 (fun kq v6 v27 w' => ∃ (x6_2 : List ByteArray) (x27_2 : Int), v27 = .int .i64 x27_2 ∧ Aside0 (Z15.l1 kq x6_2 l0 (l0.length : Int) x27_2 = some r) ∧ Aside0 (kq ≤ k1) ∧ Aside0 (Kd.R Kd.string 9 w' w.heap.size (fun _ => True) v6 x6_2) ∧ Aside0 (Below w.heap.size w w'))
    case atStart => exact ⟨(t345), (0), tr_, H', ⟨Nat.le_refl _⟩, ⟨rr_ HO347.out⟩, ⟨bw_ HB.out⟩⟩
    case round =>
     clear H'; (try clear c1); (try clear c2); (try clear c2b0); (try clear p2); (try clear c3); (try clear c3b0); (try clear p3); (try clear q3); (try clear hx3); (try clear c4); (try clear c4b0); (try clear c5); (try clear c5b0); (try clear p6); (try clear hx344_0); (try clear p344); (try clear q344); obtain ⟨x6_2, x27_2, rfl, HA, HK2, HO_6, HB⟩ := hrel
     cases gk with
     | zero => exact absurd HA.out (by simp [Z15.l1])
     | succ k2 =>
      have H := HA.out
      clear HA
      simp only [Z15.l1] at H
      by_cases c8 : x27_2 < (l0.length : Int)
      ·rw [if_pos c8] at H
       have c8b0 := decide_eq_true c8; clear c8
       by_cases c9 : 0 ≤ x27_2
       case neg => exact (nn_ c9 H).elim
       rw [if_pos c9] at H; have c9b0 := decide_eq_true c9; clear c9
       by_cases c10 : x27_2 < (l0.length : Int)
       case neg => exact (nn_ c10 H).elim
       rw [if_pos c10] at H; have c10b0 := decide_eq_true c10; clear c10
       by_cases c11 : x6_2.length + (rd_L4 l0 x27_2).length < 8796093022208
       case neg => exact (nn_ c11 H).elim
       rw [if_pos c11] at H; have LMc11 := am_ c11; clear c11
       obtain ⟨y349, hy349⟩ : ∃ y_ : List ByteArray, y_ = (x6_2 ++ (rd_L4 l0 x27_2)) := ⟨_, rfl⟩
       replace H : (Z15.l1 k2 y349 l0 (l0.length : Int) (wrap64 (x27_2 + 1))) = some r := by first | (rw [hy349]; with_reducible exact H) | (have H2_ := (Option.bind_some _ _).symm.trans H; rw [hy349]; with_reducible exact H2_) | (have H2_ := (Option.bind_some _ _).symm.trans H; with_reducible exact H2_) | with_reducible exact H | (rw [hy349]; exact H) | exact H
       have Ny349 := am_ hy349; clear hy349
       have H' := am_ H
       clear H; have p348 : 0 ≤ (x27_2 : Int) := ode_; have q348 : x27_2 < (l0.length : Int) := ode_
       obtain ⟨ad348, A348_0, c348_0, e348, hx348_0, hl348_0, hi348_0⟩ := at_L4 HR0.out x27_2 p348 q348
       cases e348
       first | replace hx348_0 := (HB.out.cell (World.block_lt_of_cell? w _ hx348_0)).trans hx348_0 | skip
       have HR348_0 := am_ hi348_0; have HC348_0 := am_ hl348_0; clear hi348_0 hl348_0; replace p348 := eq_true p348; replace q348 := eq_true q348
       go_wp2_with (first | ((with_reducible refine gate_builtin (b := .append) (xs := #[.tmp 31, .tmp 32]) rfl ?_); at_builtin; refine Kd.R_append_rows Kd.string (w0 := w) w.heap.size rfl (.tmp 31) (.tmp 32) 27 9 (.string ⟨#[]⟩) 16 rfl Tryz.underlying27 info9 rfl (by decide) (by omega) u6 x6_2 (rd_L4 l0 x27_2) _ _ _ (fun _ => True) (fun _ => False) rfl rfl ?aO ?aR (fun _ _ h => h) (fun _ h => h.elim) ?aF ?aB ?aS ?aL ?_; (case aR => repeat (first | exact (Kd.C_below HR348_0.out HB.out) | (with_reducible refine Kd.C_alloc ?_ _) | (with_reducible refine Kd.C_drewN ?_ _) | (with_reducible refine Kd.C_drew ?_))); (case aB => exact (bw_ HB.out)); (case aF => exact (fun _ _ => trivial)); (case aO => exact (rr_ HO_6.out)); (case aS => exact (below_size (bw_ HB.out))); (case aL => have := LMc11.out; omega); intro v350 w12 ho hb hg hat; rw [← Ny349.out] at ho; have n0_ := am_ (hb); have n1_ := am_ (ho); clear HB; clear HO_6; have HB := n0_; have HO351 := n1_; clear n0_ n1_; clear ho hb hg hat))
       go_roundg k2
       case measure => have := HK1.out; have := HK2.out; omega
       case rel => exact ⟨(y349), (wrap64 (x27_2 + 1)), tr_, H', ⟨by have := HK1.out; have := HK2.out; omega⟩, ⟨rr_ HO351.out⟩, ⟨bw_ HB.out⟩⟩
      ·rw [if_neg c8] at H
       have c8b0 : decide (x27_2 < (l0.length : Int)) = false := decide_eq_false c8
       clear c8
       obtain rfl := Option.some.inj H
       go_wp2
       go_ret
       exact ⟨_, by first | rfl | (simp [errW_none, errW_some] <;> rfl) | (simp [*, errW_none, errW_some] <;> rfl), by (with_reducible repeat (first | apply r1_ | apply r2_ | apply r3_)); exact HO_6.out, bw_ HB.out⟩
def Z39.f (l0 : List ByteArray) : Option (ByteArray) := if l0.length ≤ 140737488355328 ∧ (jt l0 l0.length).length ≤ 140737488355328 then (some (⟨(jt l0 l0.length).toArray⟩ : ByteArray)) else (none)
set_option maxHeartbeats 8000000 in
set_option maxRecDepth 100000 in
theorem Z39.calls (A0 : Option Addr) (c0 : Nat) (l0 : List ByteArray) (r : ByteArray) (w : World) (hr0 : Kd.C Kd.string w A0 l0.length l0) (hc0 : l0.length ≤ c0) (h : Z39.f l0 = some r) :
    Calls Tryz.prog 87 #[.slice A0 l0.length c0] w fun e w' => e = .returned (.string r) ∧ Below w.heap.size w w' := by
  unfold Z39.f at h
  by_cases hs : l0.length ≤ 140737488355328 ∧ (jt l0 l0.length).length ≤ 140737488355328
  · rw [if_pos hs] at h
    obtain rfl := Option.some.inj h
    clear h
    have h0 : Lib.IsBuilderF 87 5 w.heap.size w.heap.size (Lib.byteCells (jt l0 0)) (w.alloc (.cells #[.pointer none, .slice none 0 0] 87)) := Lib.IsBuilderF.of (Lib.fresh_isBuilder 87 5 w)
    have b0 : Below w.heap.size w (w.alloc (.cells #[.pointer none, .slice none 0 0] 87)) := (Below.refl _ w).alloc (Nat.le_refl _) _
    have H0 : Hid (Lib.IsBuilderF 87 5 w.heap.size w.heap.size (Lib.byteCells (jt l0 0)) (w.alloc (.cells #[.pointer none, .slice none 0 0] 87)) ∧ Below w.heap.size w (w.alloc (.cells #[.pointer none, .slice none 0 0] 87))) := ⟨h0, b0⟩
    clear h0 b0
    have hs1 := hs.1
    have HS : Hid ((jt l0 l0.length).length ≤ 140737488355328) := hs.2
    clear hs
    have HR : Hid (Kd.C Kd.string w A0 l0.length l0) := hr0
    clear hr0
    go_enter Tryz.func87, Tryz.ntmps87
    go_wp2
    go_loopw [8] (fun i wr => ∃ k : Nat, k ≤ l0.length ∧ i = .int .i64 k ∧ Hid (Lib.IsBuilderF 87 5 w.heap.size w.heap.size (Lib.byteCells (jt l0 k)) wr ∧ Below w.heap.size w wr)) (fun i _ => l0.length - (intOf i).toNat)
    case atStart => exact ⟨0, Nat.zero_le _, rfl, H0⟩
    case round =>
        obtain ⟨k, hk, rfl, HL⟩ := hrel; clear H0
        by_cases hlt : k < l0.length
        · obtain ⟨b, o, rfl, hbk, hcell⟩ := C_cells HR.out (Nat.lt_of_le_of_lt (Nat.zero_le _) hlt)
          obtain ⟨x, ex⟩ : ∃ x, l0.getD k ByteArray.empty = x := ⟨_, rfl⟩
          obtain ⟨y, ey⟩ : ∃ y, l0.getD (k - 1) ByteArray.empty = y := ⟨_, rfl⟩
          have hx : wr.cell? ⟨b, o + k, none⟩ = some (.string x) := (HL.out.2.cell hbk).trans (by rw [hcell k _ (List.getElem?_eq_getElem hlt), ← ex]; simp [List.getD, hlt])
          have hz1 : (k : Int) < (l0.length : Int) := by omega
          have HN : Hid ((jt l0 (k + 1)).length ≤ 140737488355328) := Nat.le_trans (jt_le l0 (by omega)) HS.out
          by_cases c0 : 0 < k
          · have hz2 : (0 : Int) < (k : Int) := by omega
            have hy : wr.cell? ⟨b, o + (k - 1), none⟩ = some (.string y) := (HL.out.2.cell hbk).trans (by rw [hcell (k - 1) _ (List.getElem?_eq_getElem (by omega)), ← ey]; simp [List.getD, show k - 1 < l0.length by omega])
            clear hcell HR
            by_cases c1 : x.toList = [10]
            · clear hy
              have c1b : (x.toList == [10]) = true := by rw [c1]; rfl
              have e_ : jt l0 (k + 1) = jt l0 k ++ x.data.toList := jt_no ex ey (by intro h_; exact h_.2.1 c1)
              go_wp2_with (go_at_call 51; refine (Tryz.WriteString w.heap.size w.heap.size _ x _ HL.out.1 (by have z_ := HN.out; rw [e_, List.length_append, ← Lib.size_eq] at z_; rw [Lib.byteCells_length]; exact z_) HL.out.2.size).mono ?_; rintro e W1 ⟨rfl, h1, hb, _⟩; have HP : Hid (Lib.IsBuilderF 87 5 w.heap.size w.heap.size (Lib.byteCells (jt l0 (k + 1))) W1 ∧ Below w.heap.size w W1) := ⟨Or.inr (by rw [e_, Lib.byteCells_append, ← Lib.strCells_eq]; exact h1), HL.out.2.trans hb⟩; clear HL HN h1 hb)
              go_roundw
              case rel => exact ⟨k + 1, by omega, by go_num, HP⟩
              case measure => simp [intOf]; omega
            · have c1b : (x.toList == [10]) = false := by simpa using c1
              by_cases c2 : y.toList = [10]
              · have c2b : (y.toList == [10]) = true := by rw [c2]; rfl
                have e_ : jt l0 (k + 1) = jt l0 k ++ x.data.toList := jt_no ex ey (by intro h_; exact h_.2.2 c2)
                go_wp2_with (go_at_call 51; refine (Tryz.WriteString w.heap.size w.heap.size _ x _ HL.out.1 (by have z_ := HN.out; rw [e_, List.length_append, ← Lib.size_eq] at z_; rw [Lib.byteCells_length]; exact z_) HL.out.2.size).mono ?_; rintro e W1 ⟨rfl, h1, hb, _⟩; have HP : Hid (Lib.IsBuilderF 87 5 w.heap.size w.heap.size (Lib.byteCells (jt l0 (k + 1))) W1 ∧ Below w.heap.size w W1) := ⟨Or.inr (by rw [e_, Lib.byteCells_append, ← Lib.strCells_eq]; exact h1), HL.out.2.trans hb⟩; clear HL HN h1 hb)
                go_roundw
                case rel => exact ⟨k + 1, by omega, by go_num, HP⟩
                case measure => simp [intOf]; omega
              · have e_ : jt l0 (k + 1) = jt l0 k ++ [32] ++ x.data.toList := jt_sp ex ey c0 c1 c2
                have c2b : (y.toList == [10]) = false := by simpa using c2
                go_wp2_with (first | (go_at_call 51; refine (Tryz.WriteString w.heap.size w.heap.size _ x _ HQ.out.1 (by have z_ := HN.out; rw [e_, List.length_append, ← Lib.size_eq] at z_; rw [Lib.byteCells_length]; exact z_) HQ.out.2.size).mono ?_; rintro e W1 ⟨rfl, h1, hb, _⟩; have HP : Hid (Lib.IsBuilderF 87 5 w.heap.size w.heap.size (Lib.byteCells (jt l0 (k + 1))) W1 ∧ Below w.heap.size w W1) := ⟨Or.inr (by rw [e_, Lib.byteCells_append, ← Lib.strCells_eq]; exact h1), HQ.out.2.trans hb⟩; clear HQ HN h1 hb) | (go_at_call 51; refine (Tryz.WriteString w.heap.size w.heap.size _ ⟨#[32]⟩ _ HL.out.1 (by have z_ := HN.out; rw [e_, List.length_append, List.length_append] at z_; rw [Lib.byteCells_length]; have z1 : (⟨#[32]⟩ : ByteArray).size = 1 := rfl; have z2 : ([32] : List UInt8).length = 1 := rfl; omega) HL.out.2.size).mono ?_; rintro e W0 ⟨rfl, h3, hb0, _⟩; have HQ : Hid (Lib.IsBuilderF 87 5 w.heap.size w.heap.size (Lib.byteCells (jt l0 k ++ [32])) W0 ∧ Below w.heap.size w W0) := ⟨Or.inr (by rw [Lib.byteCells_append]; first | exact h3 | (rw [show Lib.byteCells [32] = Lib.strCells ⟨#[32]⟩ from rfl]; exact h3)), HL.out.2.trans hb0⟩; clear h3 hb0 HL))
                go_roundw
                case rel => exact ⟨k + 1, by omega, by go_num, HP⟩
                case measure => simp [intOf]; omega
          · have hz2 : ¬ (0 : Int) < (k : Int) := by omega
            have e_ : jt l0 (k + 1) = jt l0 k ++ x.data.toList := jt_no ex ey (by intro h_; exact c0 h_.1)
            go_wp2_with (go_at_call 51; refine (Tryz.WriteString w.heap.size w.heap.size _ x _ HL.out.1 (by have z_ := HN.out; rw [e_, List.length_append, ← Lib.size_eq] at z_; rw [Lib.byteCells_length]; exact z_) HL.out.2.size).mono ?_; rintro e W1 ⟨rfl, h1, hb, _⟩; have HP : Hid (Lib.IsBuilderF 87 5 w.heap.size w.heap.size (Lib.byteCells (jt l0 (k + 1))) W1 ∧ Below w.heap.size w W1) := ⟨Or.inr (by rw [e_, Lib.byteCells_append, ← Lib.strCells_eq]; exact h1), HL.out.2.trans hb⟩; clear HL HN h1 hb)
            go_roundw
            case rel => exact ⟨k + 1, by omega, by go_num, HP⟩
            case measure => simp [intOf]; omega
        · obtain rfl : k = l0.length := by omega
          have hz1 : ¬ (l0.length : Int) < (l0.length : Int) := by omega
          go_wp2_with (go_at_call 53; refine (Tryz.BString w.heap.size w.heap.size _ _ HL.out.1 HL.out.2.size).mono ?_; rintro e w' ⟨rfl, _, hb, _⟩; have hB := HL.out.2.trans hb; clear HL hb)
          go_ret
          exact ⟨rfl, hB⟩
  · rw [if_neg hs] at h
    exact absurd h (by simp)
end Go.Proofs.YtffaggbephnmkaaGreatDoor.Pq
